/- The machine's side: each Go function as a plain Lean function and the proof that the machine's call does what that function says; written by this session's own program over the kit's print. -/
import Derived.Test.YtmjbnghhfadapaaZP1
import Derived.Test.YtmjbnghhfadapaaZP4
import Derived.Test.YtmjbnghhfadapaaZP5
import Derived.Test.YtmjbnghhfadapaaZP6
namespace Go.Proofs.Ytmjbnghhfadapaa.P
open Go.RowKit Go.Proofs.YtmjbnghhfadapaaW.PrintWords Go.Proofs.YtmjbnghhfadapaaW.PrintLast Go.Proofs.YtmjbnghhfadapaaW.PrintMore
attribute [local go_sem] max2_int min2_int max_two min_two max_three min_three max_four min_four   -- for this text's walks alone
set_option linter.unusedVariables false
set_option linter.unusedSimpArgs false
def impl_copyPuzzle.l0 : Nat → List (S73) → Int → Int → Int → List Int → List (S73) → Option (Int × List Int × (List (S73)))
 | 0, _, _, _, _, _, _ => none
 | k + 1, x13, x14, x15, x488000, x488001, x488002 => if x15 < x14 then (if 0 ≤ x15 then (if x15 < (x13.length : Int) then ((slices_Clone_int_int.f ((rd_T73 x13 x15).f1)).bind fun t490 => (if x488002.length < 3518437208883 then (impl_copyPuzzle.l0 k x13 x14 (wrap64 (x15 + 1)) x488000 x488001 (x488002 ++ [(⟨(rd_T73 x13 x15).f0, t490, (rd_T73 x13 x15).f2⟩ : S73)])) else (none))) else (none)) else (none)) else (some (x488000, x488001, x488002))
def impl_copyPuzzle.f (k : Nat) (a0_0 : Int) (l0_1 : List Int) (l0_2 : List (S73)) : Option (Int × List Int × (List (S73))) := (slices_Clone_int_int.f l0_1).bind fun t484 => (impl_copyPuzzle.l0 k l0_2 (l0_2.length : Int) 0 a0_0 t484 ([] : List (S73)))
def impl_copyPuzzle.T1 : Bool × List (List Nat × List Nat) := (true, [([], []), ([0], [0]), ([], []), ([2], [2]), ([3], [3]), ([1, 4], [1, 4]), ([], []), ([6, 5, 4, 0, 1, 2, 3, 4, 5, 6], [5, 6])])
def impl_copyPuzzle.B1 : List Nat := [0, 1, 0, 4, 12, 31, 0, 127]
theorem impl_copyPuzzle.tab1 : rtab .any (opsOf Try.f58 1) = impl_copyPuzzle.T1 := by kernel_rfl
theorem impl_copyPuzzle.bits1 : waitsOk impl_copyPuzzle.T1.2 impl_copyPuzzle.B1 = true := by kernel_rfl
set_option maxHeartbeats 8000000 in
set_option maxRecDepth 100000 in
theorem impl_copyPuzzle.calls (k : Nat) (a0_0 : Int) (A0_1 : Option Addr) (c0_1 : Nat) (l0_1 : List Int) (A0_2 : Option Addr) (c0_2 : Nat) (l0_2 : List (S73)) (r1 : Int) (r2 : List Int) (r3 : List (S73)) (w : World) (hr0_1 : Kd.C (Kd.int .i64) w A0_1 l0_1.length l0_1) (hc0_1 : l0_1.length ≤ c0_1) (hr0_2 : Kd.C k73 w A0_2 l0_2.length l0_2) (hc0_2 : l0_2.length ≤ c0_2) (h : impl_copyPuzzle.f k a0_0 l0_1 l0_2 = some (r1, r2, r3)) :
  Calls Try.prog 58 #[.agg #[.int .i64 a0_0, .slice A0_1 l0_1.length c0_1, .slice A0_2 l0_2.length c0_2]] w fun e w' => ∃ v1_ v2_ : Value, e = .returned (.agg #[.int .i64 r1, v1_, v2_]) ∧ Kd.R (Kd.int .i64) 3 w' w.heap.size (fun _ => True) v1_ r2 ∧ Kd.S k73 73 w' w.heap.size (fun k_ => some k_ ≠ (v1_ : Value).ownBlock) v2_ r3 ∧ Below w.heap.size w w' := by
 have hu37 := Try.underlying37
 have hu73 := Try.underlying73
 have HR0_1 := yam hr0_1
 have HC0_1 := yam hc0_1
 clear hr0_1 hc0_1
 have HR0_2 := yam hr0_2
 have HC0_2 := yam hc0_2
 clear hr0_2 hc0_2
 have HB := yam (Below.refl w.heap.size w)
 have H : ((slices_Clone_int_int.f l0_1).bind fun t484 => (impl_copyPuzzle.l0 k l0_2 (l0_2.length : Int) 0 a0_0 t484 ([] : List (S73)))) = some (r1, r2, r3) := h
 clear h
 replace H := Option.bind_eq_some_iff.mp H
 obtain ⟨t484, A20, H⟩ := H
 replace H : (impl_copyPuzzle.l0 k l0_2 (l0_2.length : Int) 0 a0_0 t484 ([] : List (S73))) = some (r1, r2, r3) := H
 have A2 := yam A20
 clear A20
 have H' := yam H
 clear H
 go_enter Try.func58, Try.ntmps58
 try go_wp2_with (first | (refine ybe 1 #[.int .i64 a0_0, .slice A0_1 l0_1.length c0_1, .slice A0_2 l0_2.length c0_2] 37 ?_; intro gb482 hg w3 hbox hb; have n0_ := yam (below_step (yez HB.out) hb); have n1_ := yam (hbox); have n2_ := yam ((by rw [hg]; exact (below_size (yez HB.out)) : w.heap.size ≤ gb482)); have n3_ := n2_; clear HB; have HB := n0_; have BK482 := n1_; have GW482 := n2_; have GE482 := n3_; clear n0_ n1_ n2_ n3_; clear hb hbox hg) | (refine ybe 2 #[.int .i64 0, .slice none 0 0, .slice none 0 0] 37 ?_; intro gb483 hg w4 hbox hb; have n0_ := yam (blk_below (g := gb482) (o := .cells #[.int .i64 a0_0, .slice A0_1 l0_1.length c0_1, .slice A0_2 l0_2.length c0_2] 37 (0, 0)) (ybz BK482.out) hb); have n1_ := yam (below_step yhb hb); have n2_ := yam (hbox); have n3_ := yam ((by rw [hg]; exact (below_size yhb) : w.heap.size ≤ gb483)); have n4_ := n3_; have n5_ := yam ((by rw [hg]; exact Nat.ne_of_lt (blk_lt (g := gb482) (o := .cells #[.int .i64 a0_0, .slice A0_1 l0_1.length c0_1, .slice A0_2 l0_2.length c0_2] 37 (0, 0)) (ybz BK482.out)) : gb482 ≠ gb483)); have n6_ := yam ((by rw [hg]; exact Nat.ne_of_gt (blk_lt (g := gb482) (o := .cells #[.int .i64 a0_0, .slice A0_1 l0_1.length c0_1, .slice A0_2 l0_2.length c0_2] 37 (0, 0)) (ybz BK482.out)) : gb483 ≠ gb482)); clear BK482; clear HB; have BK482 := n0_; have HB := n1_; have BK483 := n2_; have GW483 := n3_; have GE483 := n4_; have NB482_483 := n5_; have NB483_482 := n6_; clear n0_ n1_ n2_ n3_ n4_ n5_ n6_; clear hb hbox hg))
 have n0_ := yam (ybd BK482.out)
 have n1_ := yam (ybd BK483.out)
 have n2_ := yam (yed HB.out)
 clear BK482
 clear BK483
 clear HB
 have BK482 := n0_
 have BK483 := n1_
 have HB := n2_
 clear n0_ n1_ n2_
 refine start_ (n := 8) (S := fun w' => w'.cell? ⟨gb482, 0, none⟩ = some (.int .i64 a0_0) ∧ w'.cell? ⟨gb482, 1, none⟩ = some (.slice A0_1 l0_1.length c0_1) ∧ w'.cell? ⟨gb482, 2, none⟩ = some (.slice A0_2 l0_2.length c0_2)) (ds := []) #[false, false, false, false, false, false, false, false] (by kernel_rfl) rfl rfl ⟨(blk_cell BK482.out 0).trans rfl, (blk_cell BK482.out 1).trans rfl, (blk_cell BK482.out 2).trans rfl⟩ (fun hHeld => ?_); refine with_tabW impl_copyPuzzle.tab1 impl_copyPuzzle.bits1 (fun HT_ HW_ => ?_)
 generalize w4.drew = w5 at BK482 BK483 HB hHeld ⊢
 refine yvp 0 6 (yvb 8 1) HT_.out ?_
 refine yvp 2 8 (yvb 8 5) HT_.out ?_
 refine yvt 1 7 (yvb 8 7) HT_.out HW_.out hHeld ?_
 refine yvt 3 9 (yvb 8 15) HT_.out HW_.out hHeld ?_
 refine join_ (σ := Value × Nat) 1 #[true, true, true, true, true, true, true, false] (fun s_ => [(10, s_.1), (3, .pointer (some ⟨s_.2, 0, none⟩)), (11, .agg #[.int .i64 a0_0, s_.1, .slice none 0 0])]) (fun s_ w' => (w'.cell? ⟨gb482, 0, none⟩ = some (.int .i64 a0_0) ∧ w'.cell? ⟨gb482, 1, none⟩ = some (.slice A0_1 l0_1.length c0_1) ∧ w'.cell? ⟨gb482, 2, none⟩ = some (.slice A0_2 l0_2.length c0_2)) ∧ (Kd.R (Kd.int .i64) 3 w' w.heap.size (fun _ => True) s_.1 t484) ∧ (w'.heap[gb482]? = some (.cells #[.int .i64 a0_0, .slice A0_1 l0_1.length c0_1, .slice A0_2 l0_2.length c0_2] 37 (0, 0))) ∧ (w'.heap[gb483]? = some (.cells #[.int .i64 0, .slice none 0 0, .slice none 0 0] 37 (0, 0))) ∧ (w'.heap[s_.2]? = some (.cells #[.int .i64 0, .slice none 0 0, .slice none 0 0] 37 (0, 0))) ∧ (w.heap.size ≤ s_.2) ∧ (w.heap.size ≤ s_.2) ∧ (gb482 ≠ s_.2) ∧ (s_.2 ≠ gb482) ∧ (gb483 ≠ s_.2) ∧ (s_.2 ≠ gb483) ∧ (Below w.heap.size w w')) ?_ ?_
 rotate_left
 ·intro hCont
  refine two_ (i := 4) (j := 6) (Ni := some 10) (Nj := some 3) #[true, true, true, true, true, false, false, false] #[true, true, true, true, false, false, true, false] rfl rfl rfl rfl (two_of HT_.out (by kernel_rfl)) (by decide) (by decide) (fun K hK => ?_) (fun K hK => ?_)
  ·skip
   refine goes_ Try.func47 (by kernel_rfl) rfl #[.slice A0_1 l0_1.length c0_1] (by rfl) rfl rfl ymd ?_
   with_reducible refine (slices_Clone_int_int.calls _ _ l0_1 t484 _ ?side1 ?side2 A2.out).mono ?_
   (case side1 => exact Kd.Cz ((Kd.C_below HR0_1.out HB.out)))
   (case side2 => exact HC0_1.out)
   rintro e w6 ⟨v485, rfl, ho0, hb⟩
   refine ⟨_, rfl, ?_⟩
   have n0_ := yam (Kd.R_lower ho0 (below_size yhb))
   have n1_ := yam (blk_below (g := gb482) (o := .cells #[.int .i64 a0_0, .slice A0_1 l0_1.length c0_1, .slice A0_2 l0_2.length c0_2] 37 (0, 0)) (ybz BK482.out) hb)
   have n2_ := yam (blk_below (g := gb483) (o := .cells #[.int .i64 0, .slice none 0 0, .slice none 0 0] 37 (0, 0)) (ybz BK483.out) hb)
   have n3_ := yam (below_step yhb hb)
   clear BK482
   clear BK483
   clear HB
   have HO486 := n0_
   have BK482 := n1_
   have BK483 := n2_
   have HB := n3_
   clear n0_ n1_ n2_ n3_
   (try clear hb)
   (try clear hb2)
   (try clear hk)
   (try clear hi)
   (try clear ho0)
   obtain ⟨Ao7, co7, eo7⟩ := Kd.R_slice HO486.out
   (first | subst eo7 | (injection eo7 with f1_ f2_ f3_; have f4_ := f1_.symm; have f5_ := f3_.symm; clear f1_ f2_ f3_; subst f4_; subst f5_))
   refine hK.out _ _ ⟨(blk_cell BK482.out 0).trans rfl, (blk_cell BK482.out 1).trans rfl, (blk_cell BK482.out 2).trans rfl⟩ (fun hHeld => ?_)
   clear hK K
   refine norm_ (a' := ?_) ?_ ?_
   rotate_left
   ·show Act.put _ (some 10) _ = _
    simp only [Act.put, yps, i64_w, i32_w]
    rfl
   refine yvp 5 11 (yvb 8 63) HT_.out ?_
   refine one_ (i := 6) (N := some 3) #[true, true, true, true, true, true, true, false] rfl rfl (one_of HT_.out (by kernel_rfl)) (by decide) (fun K hK => ?_)
   refine box_step ?hg (N := 3) ?hd (cs := #[.int .i64 0, .slice none 0 0, .slice none 0 0]) (t := 37) ?hr ?_; (case hd => rfl); (case hg => rfl); (case hr => first | (go_simp; done) | (go_simp; rfl))
   intro gb487 hg w8 hbox hb
   have n0_ := yam (Kd.R_below (Kd.Yz HO486.out) hb)
   have n1_ := yam (blk_below (g := gb482) (o := .cells #[.int .i64 a0_0, .slice A0_1 l0_1.length c0_1, .slice A0_2 l0_2.length c0_2] 37 (0, 0)) (ybz BK482.out) hb)
   have n2_ := yam (blk_below (g := gb483) (o := .cells #[.int .i64 0, .slice none 0 0, .slice none 0 0] 37 (0, 0)) (ybz BK483.out) hb)
   have n3_ := yam (below_step yhb hb)
   have n4_ := yam (hbox)
   have n5_ := yam ((by rw [hg]; exact (below_size yhb) : w.heap.size ≤ gb487))
   have n6_ := yam ((by rw [hg]; exact (below_size yhb) : w.heap.size ≤ gb487))
   have n7_ := yam ((by rw [hg]; exact Nat.ne_of_lt (blk_lt (g := gb482) (o := .cells #[.int .i64 a0_0, .slice A0_1 l0_1.length c0_1, .slice A0_2 l0_2.length c0_2] 37 (0, 0)) (ybz BK482.out)) : gb482 ≠ gb487))
   have n8_ := yam ((by rw [hg]; exact Nat.ne_of_gt (blk_lt (g := gb482) (o := .cells #[.int .i64 a0_0, .slice A0_1 l0_1.length c0_1, .slice A0_2 l0_2.length c0_2] 37 (0, 0)) (ybz BK482.out)) : gb487 ≠ gb482))
   have n9_ := yam ((by rw [hg]; exact Nat.ne_of_lt (blk_lt (g := gb483) (o := .cells #[.int .i64 0, .slice none 0 0, .slice none 0 0] 37 (0, 0)) (ybz BK483.out)) : gb483 ≠ gb487))
   have n10_ := yam ((by rw [hg]; exact Nat.ne_of_gt (blk_lt (g := gb483) (o := .cells #[.int .i64 0, .slice none 0 0, .slice none 0 0] 37 (0, 0)) (ybz BK483.out)) : gb487 ≠ gb483))
   clear HO486
   clear BK482
   clear BK483
   clear HB
   have HO486 := n0_
   have BK482 := n1_
   have BK483 := n2_
   have HB := n3_
   have BK487 := n4_
   have GW487 := n5_
   have GE487 := n6_
   have NB482_487 := n7_
   have NB487_482 := n8_
   have NB483_487 := n9_
   have NB487_483 := n10_
   clear n0_ n1_ n2_ n3_ n4_ n5_ n6_ n7_ n8_ n9_ n10_
   clear hb hbox hg
   refine hK.out _ _ ⟨(blk_cell BK482.out 0).trans rfl, (blk_cell BK482.out 1).trans rfl, (blk_cell BK482.out 2).trans rfl⟩ (fun hHeld => ?_)
   clear hK K
   refine norm_ (a' := ?_) ?_ ?_
   rotate_left
   ·show Act.put _ (some 3) _ = _
    simp only [Act.put, yps, i64_w, i32_w]
    rfl
   exact norm_ (by simp only [putAll, Act.put, yps]) (hCont (.slice Ao7 t484.length co7, gb487) _ ⟨hHeld, (Kd.Yz HO486.out), (ybz BK482.out), (ybz BK483.out), (ybz BK487.out), GW487.out, GE487.out, NB482_487.out, NB487_482.out, NB483_487.out, NB487_483.out, yhb⟩)
  ·skip
   refine box_step ?hg (N := 3) ?hd (cs := #[.int .i64 0, .slice none 0 0, .slice none 0 0]) (t := 37) ?hr ?_; (case hd => rfl); (case hg => rfl); (case hr => first | (go_simp; done) | (go_simp; rfl))
   intro gb487 hg w6 hbox hb
   have n0_ := yam (blk_below (g := gb482) (o := .cells #[.int .i64 a0_0, .slice A0_1 l0_1.length c0_1, .slice A0_2 l0_2.length c0_2] 37 (0, 0)) (ybz BK482.out) hb)
   have n1_ := yam (blk_below (g := gb483) (o := .cells #[.int .i64 0, .slice none 0 0, .slice none 0 0] 37 (0, 0)) (ybz BK483.out) hb)
   have n2_ := yam (below_step yhb hb)
   have n3_ := yam (hbox)
   have n4_ := yam ((by rw [hg]; exact (below_size yhb) : w.heap.size ≤ gb487))
   have n5_ := yam ((by rw [hg]; exact (below_size yhb) : w.heap.size ≤ gb487))
   have n6_ := yam ((by rw [hg]; exact Nat.ne_of_lt (blk_lt (g := gb482) (o := .cells #[.int .i64 a0_0, .slice A0_1 l0_1.length c0_1, .slice A0_2 l0_2.length c0_2] 37 (0, 0)) (ybz BK482.out)) : gb482 ≠ gb487))
   have n7_ := yam ((by rw [hg]; exact Nat.ne_of_gt (blk_lt (g := gb482) (o := .cells #[.int .i64 a0_0, .slice A0_1 l0_1.length c0_1, .slice A0_2 l0_2.length c0_2] 37 (0, 0)) (ybz BK482.out)) : gb487 ≠ gb482))
   have n8_ := yam ((by rw [hg]; exact Nat.ne_of_lt (blk_lt (g := gb483) (o := .cells #[.int .i64 0, .slice none 0 0, .slice none 0 0] 37 (0, 0)) (ybz BK483.out)) : gb483 ≠ gb487))
   have n9_ := yam ((by rw [hg]; exact Nat.ne_of_gt (blk_lt (g := gb483) (o := .cells #[.int .i64 0, .slice none 0 0, .slice none 0 0] 37 (0, 0)) (ybz BK483.out)) : gb487 ≠ gb483))
   clear BK482
   clear BK483
   clear HB
   have BK482 := n0_
   have BK483 := n1_
   have HB := n2_
   have BK487 := n3_
   have GW487 := n4_
   have GE487 := n5_
   have NB482_487 := n6_
   have NB487_482 := n7_
   have NB483_487 := n8_
   have NB487_483 := n9_
   clear n0_ n1_ n2_ n3_ n4_ n5_ n6_ n7_ n8_ n9_
   clear hb hbox hg
   refine hK.out _ _ ⟨(blk_cell BK482.out 0).trans rfl, (blk_cell BK482.out 1).trans rfl, (blk_cell BK482.out 2).trans rfl⟩ (fun hHeld => ?_)
   clear hK K
   refine norm_ (a' := ?_) ?_ ?_
   rotate_left
   ·show Act.put _ (some 3) _ = _
    simp only [Act.put, yps, i64_w, i32_w]
    rfl
   refine one_ (i := 4) (N := some 10) #[true, true, true, true, true, false, true, false] rfl rfl (one_of HT_.out (by kernel_rfl)) (by decide) (fun K hK => ?_)
   refine goes_ Try.func47 (by kernel_rfl) rfl #[.slice A0_1 l0_1.length c0_1] (by rfl) rfl rfl ymd ?_
   with_reducible refine (slices_Clone_int_int.calls _ _ l0_1 t484 _ ?side1 ?side2 A2.out).mono ?_
   (case side1 => exact Kd.Cz ((Kd.C_below HR0_1.out HB.out)))
   (case side2 => exact HC0_1.out)
   rintro e w7 ⟨v485, rfl, ho0, hb⟩
   refine ⟨_, rfl, ?_⟩
   have n0_ := yam (Kd.R_lower ho0 (below_size yhb))
   have n1_ := yam (blk_below (g := gb482) (o := .cells #[.int .i64 a0_0, .slice A0_1 l0_1.length c0_1, .slice A0_2 l0_2.length c0_2] 37 (0, 0)) (ybz BK482.out) hb)
   have n2_ := yam (blk_below (g := gb483) (o := .cells #[.int .i64 0, .slice none 0 0, .slice none 0 0] 37 (0, 0)) (ybz BK483.out) hb)
   have n3_ := yam (blk_below (g := gb487) (o := .cells #[.int .i64 0, .slice none 0 0, .slice none 0 0] 37 (0, 0)) (ybz BK487.out) hb)
   have n4_ := yam (below_step yhb hb)
   clear BK482
   clear BK483
   clear BK487
   clear HB
   have HO486 := n0_
   have BK482 := n1_
   have BK483 := n2_
   have BK487 := n3_
   have HB := n4_
   clear n0_ n1_ n2_ n3_ n4_
   (try clear hb)
   (try clear hb2)
   (try clear hk)
   (try clear hi)
   (try clear ho0)
   obtain ⟨Ao8, co8, eo8⟩ := Kd.R_slice HO486.out
   (first | subst eo8 | (injection eo8 with f1_ f2_ f3_; have f4_ := f1_.symm; have f5_ := f3_.symm; clear f1_ f2_ f3_; subst f4_; subst f5_))
   refine hK.out _ _ ⟨(blk_cell BK482.out 0).trans rfl, (blk_cell BK482.out 1).trans rfl, (blk_cell BK482.out 2).trans rfl⟩ (fun hHeld => ?_)
   clear hK K
   refine norm_ (a' := ?_) ?_ ?_
   rotate_left
   ·show Act.put _ (some 10) _ = _
    simp only [Act.put, yps, i64_w, i32_w]
    rfl
   refine yvp 5 11 (yvb 8 127) HT_.out ?_
   exact norm_ (by simp only [putAll, Act.put, yps]) (hCont (.slice Ao8 t484.length co8, gb487) _ ⟨hHeld, (Kd.Yz HO486.out), (ybz BK482.out), (ybz BK483.out), (ybz BK487.out), GW487.out, GE487.out, NB482_487.out, NB487_482.out, NB483_487.out, NB487_483.out, yhb⟩)
 rintro ⟨v485, gb487⟩ w9 ⟨hS_, h0_, h1_, h2_, h3_, h4_, h5_, h6_, h7_, h8_, h9_, h10_⟩
 have n0_ : Aside0 (Kd.R (Kd.int .i64) 3 w9 w.heap.size (fun _ => True) v485 t484) := ⟨h0_⟩
 have n1_ : Aside0 (w9.heap[gb482]? = some (.cells #[.int .i64 a0_0, .slice A0_1 l0_1.length c0_1, .slice A0_2 l0_2.length c0_2] 37 (0, 0))) := ⟨h1_⟩
 have n2_ : Aside0 (w9.heap[gb483]? = some (.cells #[.int .i64 0, .slice none 0 0, .slice none 0 0] 37 (0, 0))) := ⟨h2_⟩
 have n3_ : Aside0 (w9.heap[gb487]? = some (.cells #[.int .i64 0, .slice none 0 0, .slice none 0 0] 37 (0, 0))) := ⟨h3_⟩
 have n4_ : Aside0 (w.heap.size ≤ gb487) := ⟨h4_⟩
 have n5_ : Aside0 (w.heap.size ≤ gb487) := ⟨h5_⟩
 have n6_ : Aside0 (gb482 ≠ gb487) := ⟨h6_⟩
 have n7_ : Aside0 (gb487 ≠ gb482) := ⟨h7_⟩
 have n8_ : Aside0 (gb483 ≠ gb487) := ⟨h8_⟩
 have n9_ : Aside0 (gb487 ≠ gb483) := ⟨h9_⟩
 have n10_ : Aside0 (Below w.heap.size w w9) := ⟨h10_⟩
 clear BK482
 clear BK483
 clear HB
 clear h0_ h1_ h2_ h3_ h4_ h5_ h6_ h7_ h8_ h9_ h10_
 have HO486 := n0_
 have BK482 := n1_
 have BK483 := n2_
 have BK487 := n3_
 have GW487 := n4_
 have GE487 := n5_
 have NB482_487 := n6_
 have NB487_482 := n7_
 have NB483_487 := n8_
 have NB487_483 := n9_
 have HB := n10_
 clear n0_ n1_ n2_ n3_ n4_ n5_ n6_ n7_ n8_ n9_ n10_
 have hHeld : w9.cell? ⟨gb482, 0, none⟩ = some (.int .i64 a0_0) ∧ w9.cell? ⟨gb482, 1, none⟩ = some (.slice A0_1 l0_1.length c0_1) ∧ w9.cell? ⟨gb482, 2, none⟩ = some (.slice A0_2 l0_2.length c0_2) := hS_
 obtain ⟨Ao10, co10, eo10⟩ := Kd.R_slice HO486.out
 (first | subst eo10 | (injection eo10 with f1_ f2_ f3_; have f4_ := f1_.symm; have f5_ := f3_.symm; clear f1_ f2_ f3_; subst f4_; subst f5_))
 refine norm_ (a' := ?_) ?_ ?_
 rotate_left
 ·simp only [putAll, Act.put, yps]
  rfl
 refine one_ (i := 7) (N := none) #[true, true, true, true, true, true, true, true] rfl rfl (one_of HT_.out (by kernel_rfl)) (by decide) (fun K hK => ?_)
 have hs11 : w9.cell? ⟨gb487, 0, none⟩ = some (.int .i64 0) := (blk_cell BK487.out 0).trans rfl
 have hfs11 := blk_frozen BK487.out 0
 have hns11_0 := NB482_487.out
 have hns11_1 := NB483_487.out
 have hms11_0 := NB487_482.out
 have hms11_1 := NB487_483.out
 have hs12 : w9.cell? ⟨gb487, 1, none⟩ = some (.slice none 0 0) := (blk_cell BK487.out 1).trans rfl
 have hfs12 := blk_frozen BK487.out 1
 have hns12_0 := NB482_487.out
 have hns12_1 := NB483_487.out
 have hms12_0 := NB487_482.out
 have hms12_1 := NB487_483.out
 have hs13 : w9.cell? ⟨gb487, 2, none⟩ = some (.slice none 0 0) := (blk_cell BK487.out 2).trans rfl
 have hfs13 := blk_frozen BK487.out 2
 have hns13_0 := NB482_487.out
 have hns13_1 := NB483_487.out
 have hms13_0 := NB487_482.out
 have hms13_1 := NB487_483.out
 refine skip_ (w1 := ?_) (by rfl) rfl ?_ ?_
 rotate_left
 ·go_simp
  rfl
 refine hK.out _ _ ⟨((cell_far (p := ⟨gb487, _, none⟩) NB482_487.out _).trans (((cell_far (p := ⟨gb487, _, none⟩) NB482_487.out _).trans (((cell_far (p := ⟨gb487, _, none⟩) NB482_487.out _).trans (hHeld.1)))))), ((cell_far (p := ⟨gb487, _, none⟩) NB482_487.out _).trans (((cell_far (p := ⟨gb487, _, none⟩) NB482_487.out _).trans (((cell_far (p := ⟨gb487, _, none⟩) NB482_487.out _).trans (hHeld.2.1)))))), ((cell_far (p := ⟨gb487, _, none⟩) NB482_487.out _).trans (((cell_far (p := ⟨gb487, _, none⟩) NB482_487.out _).trans (((cell_far (p := ⟨gb487, _, none⟩) NB482_487.out _).trans (hHeld.2.2))))))⟩ (fun hHeld => ?_)
 clear hK K
 refine done_ (done_of HT_.out (by kernel_rfl)) ?_
 have hnb14 := NB482_483.out
 have hnc14 := NB483_482.out
 have hnb15 := NB482_487.out
 have hnc15 := NB487_482.out
 obtain ⟨hcz16_0, hcz16_1, hcz16_2, hfz16_0, hfz16_1, hfz16_2⟩ := ybc BK482.out
 try go_wp2
 go_loopg [15] k (fun kq v15 w' => ∃ (x15_1 : Int) (x488002_1 : List (S73)) (u488002 : Value), v15 = .int .i64 x15_1 ∧ Aside0 (impl_copyPuzzle.l0 kq l0_2 (l0_2.length : Int) x15_1 a0_0 t484 x488002_1 = some (r1, r2, r3)) ∧ Aside0 (kq ≤ k) ∧ Aside0 (Kd.R (Kd.int .i64) 3 w' w.heap.size (fun _ => True) (.slice Ao10 t484.length co10) t484) ∧ Aside0 (Kd.S k73 73 w' w.heap.size (fun k_ => some k_ ≠ ((.slice Ao10 t484.length co10) : Value).ownBlock) u488002 x488002_1) ∧ Aside0 (w'.heap[gb482]? = some (.cells #[.int .i64 a0_0, (.slice A0_1 l0_1.length c0_1), (.slice A0_2 l0_2.length c0_2)] 37 (0, 0))) ∧ Aside0 (w'.heap[gb483]? = some (.cells #[.int .i64 0, (.slice none 0 0), (.slice none 0 0)] 37 (0, 0))) ∧ Aside0 (w'.heap[gb487]? = some (.cells #[.int .i64 a0_0, (.slice Ao10 t484.length co10), u488002] 37 (0, 0))) ∧ Aside0 (Below w.heap.size w w'))
 case atStart => exact ⟨(0), (([] : List (S73))), (.slice none 0 0), yeq, H', ⟨Nat.le_refl _⟩, ⟨by (with_reducible repeat (first | apply Kd.Ya | apply Kd.Yn | apply Kd.Yd)); exact Kd.R_mono (Kd.R_far (p := ⟨gb487, 2, none⟩) (Kd.R_far (p := ⟨gb487, 1, none⟩) (Kd.R_far (p := ⟨gb487, 0, none⟩) (Kd.R_types HO486.out BK487.out (by decide)) (fun _ hk => hk.2) (.int .i64 a0_0)) (fun _ hk => hk.2) (.slice Ao10 t484.length co10)) (fun _ hk => hk.2) (.slice none 0 0)) (fun _ hk => trivial)⟩, ⟨by first | exact Kd.S_nil _ _ _ _ _ | exact Kd.N_nil _ _ _ _ _ | exact Kd.V_nil _ _ _ _ _ | exact Kd.Q_nil _ _ _ _ _ | exact Kd.R_nil _ _ _ _ _⟩, ⟨by (with_reducible repeat (first | refine ybn ?_ _ | refine ybd ?_ | refine yba ?_ _)); refine blk_far ?_ NB482_487.out _; (with_reducible repeat (first | refine ybn ?_ _ | refine ybd ?_ | refine yba ?_ _)); refine blk_far ?_ NB482_487.out _; (with_reducible repeat (first | refine ybn ?_ _ | refine ybd ?_ | refine yba ?_ _)); refine blk_far ?_ NB482_487.out _; (with_reducible repeat (first | refine ybn ?_ _ | refine ybd ?_ | refine yba ?_ _)); exact BK482.out⟩, ⟨by (with_reducible repeat (first | refine ybn ?_ _ | refine ybd ?_ | refine yba ?_ _)); refine blk_far ?_ NB483_487.out _; (with_reducible repeat (first | refine ybn ?_ _ | refine ybd ?_ | refine yba ?_ _)); refine blk_far ?_ NB483_487.out _; (with_reducible repeat (first | refine ybn ?_ _ | refine ybd ?_ | refine yba ?_ _)); refine blk_far ?_ NB483_487.out _; (with_reducible repeat (first | refine ybn ?_ _ | refine ybd ?_ | refine yba ?_ _)); exact BK483.out⟩, ⟨by (with_reducible repeat (first | refine ybn ?_ _ | refine ybd ?_ | refine yba ?_ _)); refine blk_put (cs := #[.int .i64 a0_0, .slice Ao10 t484.length co10, .slice none 0 0]) ?_ 2 _ rfl; (with_reducible repeat (first | refine ybn ?_ _ | refine ybd ?_ | refine yba ?_ _)); refine blk_put (cs := #[.int .i64 a0_0, .slice none 0 0, .slice none 0 0]) ?_ 1 _ rfl; (with_reducible repeat (first | refine ybn ?_ _ | refine ybd ?_ | refine yba ?_ _)); refine blk_put (cs := #[.int .i64 0, .slice none 0 0, .slice none 0 0]) ?_ 0 _ rfl; (with_reducible repeat (first | refine ybn ?_ _ | refine ybd ?_ | refine yba ?_ _)); exact BK487.out⟩, ⟨yhb⟩⟩
 case round =>
  clear H'
  try clear c1
  try clear p2
  try clear c4
  try clear c5
  try clear c14
  try clear c15
  try clear hcz16_0
  try clear hcz16_1
  try clear hcz16_2
  try clear hfz16_0
  try clear hfz16_1
  try clear hfz16_2
  obtain ⟨x15_1, x488002_1, u488002, rfl, HA, HK1, HO_488001, HO_488002, BK482, BK483, BK487, HB⟩ := hrel
  cases gk with
  | zero => exact absurd HA.out (by simp [impl_copyPuzzle.l0])
  | succ k1 =>
   have H := HA.out
   clear HA
   simp only [impl_copyPuzzle.l0] at H
   by_cases c17 : x15_1 < (l0_2.length : Int)
   rotate_left
   ·rw [if_neg c17] at H
    have c17b0 : decide (x15_1 < (l0_2.length : Int)) = false := decide_eq_false c17
    clear c17
    simp only [Option.some.injEq, Prod.mk.injEq] at H
    obtain ⟨rfl, rfl, rfl⟩ := H
    have hnb38 := NB487_482.out
    have hnc38 := NB482_487.out
    have hnb39 := NB487_483.out
    have hnc39 := NB483_487.out
    obtain ⟨hcz40_0, hcz40_1, hcz40_2, hfz40_0, hfz40_1, hfz40_2⟩ := ybc BK487.out
    have hnb41 := NB483_482.out
    have hnc41 := NB482_483.out
    obtain ⟨hcz42_0, hcz42_1, hcz42_2, hfz42_0, hfz42_1, hfz42_2⟩ := ybc BK483.out
    obtain ⟨Ao43, co43, eo43⟩ := Kd.S_slice HO_488002.out
    subst eo43
    go_wp2
    refine bodyPost_ret (results_cell_row rfl _ _ gb483 37 #[.int .i64 a0_0, .slice Ao10 t484.length co10, .slice Ao43 x488002_1.length co43] (0, 0) _ rfl (by (with_reducible repeat (first | refine ybn ?_ _ | refine ybd ?_ | refine yba ?_ _)); refine blk_put (cs := #[.int .i64 a0_0, .slice Ao10 t484.length co10, .slice none 0 0]) ?_ 2 _ rfl; (with_reducible repeat (first | refine ybn ?_ _ | refine ybd ?_ | refine yba ?_ _)); refine blk_put (cs := #[.int .i64 a0_0, .slice none 0 0, .slice none 0 0]) ?_ 1 _ rfl; (with_reducible repeat (first | refine ybn ?_ _ | refine ybd ?_ | refine yba ?_ _)); refine blk_put (cs := #[.int .i64 0, .slice none 0 0, .slice none 0 0]) ?_ 0 _ rfl; (with_reducible repeat (first | refine ybn ?_ _ | refine ybd ?_ | refine yba ?_ _)); exact BK483.out) Try.underlying37 rfl (by kernel_rfl)) rfl ?_
    exact ⟨_, _, yer, by (with_reducible repeat (first | apply Kd.Ya | apply Kd.Yn | apply Kd.Yd)); exact Kd.R_mono (Kd.R_far (p := ⟨gb483, 2, none⟩) (Kd.R_far (p := ⟨gb483, 1, none⟩) (Kd.R_far (p := ⟨gb483, 0, none⟩) (Kd.R_types HO_488001.out BK483.out (by decide)) (fun _ hk => hk.2) (.int .i64 a0_0)) (fun _ hk => hk.2) (.slice Ao10 t484.length co10)) (fun _ hk => hk.2) (.slice Ao43 x488002_1.length co43)) (fun _ hk => trivial), by (with_reducible repeat (first | apply Kd.S_alloc | apply Kd.S_drewN | apply Kd.S_drew)); exact Kd.S_mono (Kd.S_far (p := ⟨gb483, 2, none⟩) (Kd.S_far (p := ⟨gb483, 1, none⟩) (Kd.S_far (p := ⟨gb483, 0, none⟩) (Kd.S_types HO_488002.out BK483.out (by decide)) (fun _ hk => hk.2) (.int .i64 a0_0)) (fun _ hk => hk.2) (.slice Ao10 t484.length co10)) (fun _ hk => hk.2) (.slice Ao43 x488002_1.length co43)) (fun _ hk => hk.1), yhb⟩

   rw [if_pos c17] at H
   have c17b0 : decide (x15_1 < (l0_2.length : Int)) = true := decide_eq_true c17
   clear c17
   replace H := yif H
   obtain ⟨c18b0, H⟩ := H
   replace H := yif H
   obtain ⟨c19b0, H⟩ := H
   replace H := Option.bind_eq_some_iff.mp H
   obtain ⟨t490, A200, H⟩ := H
   replace H : (if x488002_1.length < 3518437208883 then (impl_copyPuzzle.l0 k1 l0_2 (l0_2.length : Int) (wrap64 (x15_1 + 1)) a0_0 t484 (x488002_1 ++ [(⟨(rd_T73 l0_2 x15_1).f0, t490, (rd_T73 l0_2 x15_1).f2⟩ : S73)])) else (none)) = some (r1, r2, r3) := H
   have A20 := yam A200
   clear A200
   replace H := yig H
   obtain ⟨c21, H⟩ := H
   have LMc21 := yam c21
   clear c21
   obtain ⟨y493, hy493⟩ : ∃ y_ : List (S73), y_ = (x488002_1 ++ [(⟨(rd_T73 l0_2 x15_1).f0, t490, (rd_T73 l0_2 x15_1).f2⟩ : S73)]) := ⟨_, rfl⟩
   replace H : (impl_copyPuzzle.l0 k1 l0_2 (l0_2.length : Int) (wrap64 (x15_1 + 1)) a0_0 t484 y493) = some (r1, r2, r3) := by first | (rw [hy493]; with_reducible exact H) | (have H2_ := (Option.bind_some _ _).symm.trans H; rw [hy493]; with_reducible exact H2_) | (have H2_ := (Option.bind_some _ _).symm.trans H; with_reducible exact H2_) | with_reducible exact H | (rw [hy493]; exact H) | exact H
   have Ny493 := yam hy493
   clear hy493
   have H' := yam H
   clear H
   have p488 : 0 ≤ (x15_1 : Int) := ydt
   have q488 : x15_1 < (l0_2.length : Int) := ydt
   obtain ⟨ad488, A488_1, c488_1, e488, hx488_0, hx488_1, hx488_2, hl488_1, hi488_1⟩ := at_T73 HR0_2.out x15_1 p488 q488
   cases e488
   replace hx488_0 := ybx HB.out hx488_0
   replace hx488_1 := ybx HB.out hx488_1
   replace hx488_2 := ybx HB.out hx488_2
   have HR488_1 := yam hi488_1
   have HC488_1 := yam hl488_1
   clear hi488_1 hl488_1
   replace p488 := eq_true p488
   replace q488 := eq_true q488
   go_wp2_with (first | (refine ybe 5 #[.int .i64 0, .slice none 0 0, .int .i64 0] 73 ?_; intro gb489 hg w22 hbox hb; have n0_ := yam (Kd.R_below (Kd.Yz HO_488001.out) hb); have n1_ := yam (Kd.S_below (Kd.S_elderB (by (with_reducible repeat (first | apply Kd.S_alloc | apply Kd.S_drewN | apply Kd.S_drew)); exact HO_488002.out) gb489 (Nat.le_of_eq hg.symm)) hb); have n2_ := yam (blk_below (g := gb482) (o := .cells #[.int .i64 a0_0, .slice A0_1 l0_1.length c0_1, .slice (some ad488) l0_2.length c0_2] 37 (0, 0)) (ybz BK482.out) hb); have n3_ := yam (blk_below (g := gb483) (o := .cells #[.int .i64 0, .slice none 0 0, .slice none 0 0] 37 (0, 0)) (ybz BK483.out) hb); have n4_ := yam (blk_below (g := gb487) (o := .cells #[.int .i64 a0_0, .slice Ao10 t484.length co10, u488002] 37 (0, 0)) (ybz BK487.out) hb); have n5_ := yam (below_step yhb hb); have n6_ := yam (hbox); have n7_ := yam ((by rw [hg]; exact (below_size yhb) : w.heap.size ≤ gb489)); have n8_ := n7_; have n9_ := yam ((by rw [hg]; exact Nat.ne_of_lt (blk_lt (g := gb482) (o := .cells #[.int .i64 a0_0, .slice A0_1 l0_1.length c0_1, .slice (some ad488) l0_2.length c0_2] 37 (0, 0)) (ybz BK482.out)) : gb482 ≠ gb489)); have n10_ := yam ((by rw [hg]; exact Nat.ne_of_gt (blk_lt (g := gb482) (o := .cells #[.int .i64 a0_0, .slice A0_1 l0_1.length c0_1, .slice (some ad488) l0_2.length c0_2] 37 (0, 0)) (ybz BK482.out)) : gb489 ≠ gb482)); have n11_ := yam ((by rw [hg]; exact Nat.ne_of_lt (blk_lt (g := gb483) (o := .cells #[.int .i64 0, .slice none 0 0, .slice none 0 0] 37 (0, 0)) (ybz BK483.out)) : gb483 ≠ gb489)); have n12_ := yam ((by rw [hg]; exact Nat.ne_of_gt (blk_lt (g := gb483) (o := .cells #[.int .i64 0, .slice none 0 0, .slice none 0 0] 37 (0, 0)) (ybz BK483.out)) : gb489 ≠ gb483)); have n13_ := yam ((by rw [hg]; exact Nat.ne_of_lt (blk_lt (g := gb487) (o := .cells #[.int .i64 a0_0, .slice Ao10 t484.length co10, u488002] 37 (0, 0)) (ybz BK487.out)) : gb487 ≠ gb489)); have n14_ := yam ((by rw [hg]; exact Nat.ne_of_gt (blk_lt (g := gb487) (o := .cells #[.int .i64 a0_0, .slice Ao10 t484.length co10, u488002] 37 (0, 0)) (ybz BK487.out)) : gb489 ≠ gb487)); clear HO_488001; clear HO_488002; clear BK482; clear BK483; clear BK487; clear HB; have HO_488001 := n0_; have HO_488002 := n1_; have BK482 := n2_; have BK483 := n3_; have BK487 := n4_; have HB := n5_; have BK489 := n6_; have GW489 := n7_; have GE489 := n8_; have NB482_489 := n9_; have NB489_482 := n10_; have NB483_489 := n11_; have NB489_483 := n12_; have NB487_489 := n13_; have NB489_487 := n14_; clear n0_ n1_ n2_ n3_ n4_ n5_ n6_ n7_ n8_ n9_ n10_ n11_ n12_ n13_ n14_; clear hb hbox hg; have hnb23 := NB489_482.out; have hnc23 := NB482_489.out; have hnb24 := NB489_483.out; have hnc24 := NB483_489.out; have hnb25 := NB489_487.out; have hnc25 := NB487_489.out; obtain ⟨hcz26_0, hcz26_1, hcz26_2, hfz26_0, hfz26_1, hfz26_2⟩ := ybc BK489.out) | (refine goesL_ (some 21) rfl rfl Try.func47 (by kernel_rfl) rfl #[.slice A488_1 ((rd_T73 l0_2 x15_1).f1).length c488_1] rfl ymd ?_; (with_reducible refine (slices_Clone_int_int.calls _ _ ((rd_T73 l0_2 x15_1).f1) t490 _ ?side1 ?side2 A20.out).mono ?_); (case side1 => exact Kd.C_below HR488_1.out yhb); (case side2 => exact HC488_1.out); rintro e w27 ⟨v491, rfl, ho0, hb⟩; refine ⟨_, rfl, ?_⟩; have n0_ := yam (Kd.Ye (by (with_reducible repeat (first | apply Kd.Ya | apply Kd.Yn | apply Kd.Yd)); exact (Kd.R_mono (Kd.R_far (p := ⟨gb489, 2, none⟩) (Kd.R_far (p := ⟨gb489, 1, none⟩) (Kd.R_far (p := ⟨gb489, 0, none⟩) (Kd.R_types HO_488001.out BK489.out (by decide)) (fun _ hk => hk.2) (.int .i64 ((rd_T73 l0_2 x15_1).f0))) (fun _ hk => hk.2) (.slice A488_1 ((rd_T73 l0_2 x15_1).f1).length c488_1)) (fun _ hk => hk.2) (.int .i64 ((rd_T73 l0_2 x15_1).f2))) (fun _ h_ => h_.1))) (Kd.Yb ho0) hb); have n1_ := yam (Kd.S_elder' (by (with_reducible repeat (first | apply Kd.S_alloc | apply Kd.S_drewN | apply Kd.S_drew)); exact (Kd.S_mono (Kd.S_far (p := ⟨gb489, 2, none⟩) (Kd.S_far (p := ⟨gb489, 1, none⟩) (Kd.S_far (p := ⟨gb489, 0, none⟩) (Kd.S_mono HO_488002.out (fun k_ hk => (⟨hk, hk.2⟩ : _ ∧ k_ ≠ gb489))) (fun _ hk => hk.2) (.int .i64 ((rd_T73 l0_2 x15_1).f0))) (fun _ hk => hk.2) (.slice A488_1 ((rd_T73 l0_2 x15_1).f1).length c488_1)) (fun _ hk => hk.2) (.int .i64 ((rd_T73 l0_2 x15_1).f2))) (fun _ h_ => h_.1))) (Kd.Yb ho0) hb); have n2_ := yam (Kd.R_lower (Kd.Yw ho0 (Kd.R_lt (by (with_reducible repeat (first | apply Kd.Ya | apply Kd.Yn | apply Kd.Yd)); exact (Kd.R_mono (Kd.R_far (p := ⟨gb489, 2, none⟩) (Kd.R_far (p := ⟨gb489, 1, none⟩) (Kd.R_far (p := ⟨gb489, 0, none⟩) (Kd.R_types HO_488001.out BK489.out (by decide)) (fun _ hk => hk.2) (.int .i64 ((rd_T73 l0_2 x15_1).f0))) (fun _ hk => hk.2) (.slice A488_1 ((rd_T73 l0_2 x15_1).f1).length c488_1)) (fun _ hk => hk.2) (.int .i64 ((rd_T73 l0_2 x15_1).f2))) (fun _ h_ => h_.1))))) (below_size yhb)); have n3_ := yam (blk_below (g := gb482) (o := .cells #[.int .i64 a0_0, .slice A0_1 l0_1.length c0_1, .slice (some ad488) l0_2.length c0_2] 37 (0, 0)) (by (with_reducible repeat (first | refine ybn ?_ _ | refine ybd ?_ | refine yba ?_ _)); refine blk_far ?_ NB482_489.out _; (with_reducible repeat (first | refine ybn ?_ _ | refine ybd ?_ | refine yba ?_ _)); refine blk_far ?_ NB482_489.out _; (with_reducible repeat (first | refine ybn ?_ _ | refine ybd ?_ | refine yba ?_ _)); refine blk_far ?_ NB482_489.out _; (with_reducible repeat (first | refine ybn ?_ _ | refine ybd ?_ | refine yba ?_ _)); exact BK482.out) hb); have n4_ := yam (blk_below (g := gb483) (o := .cells #[.int .i64 0, .slice none 0 0, .slice none 0 0] 37 (0, 0)) (by (with_reducible repeat (first | refine ybn ?_ _ | refine ybd ?_ | refine yba ?_ _)); refine blk_far ?_ NB483_489.out _; (with_reducible repeat (first | refine ybn ?_ _ | refine ybd ?_ | refine yba ?_ _)); refine blk_far ?_ NB483_489.out _; (with_reducible repeat (first | refine ybn ?_ _ | refine ybd ?_ | refine yba ?_ _)); refine blk_far ?_ NB483_489.out _; (with_reducible repeat (first | refine ybn ?_ _ | refine ybd ?_ | refine yba ?_ _)); exact BK483.out) hb); have n5_ := yam (blk_below (g := gb487) (o := .cells #[.int .i64 a0_0, .slice Ao10 t484.length co10, u488002] 37 (0, 0)) (by (with_reducible repeat (first | refine ybn ?_ _ | refine ybd ?_ | refine yba ?_ _)); refine blk_far ?_ NB487_489.out _; (with_reducible repeat (first | refine ybn ?_ _ | refine ybd ?_ | refine yba ?_ _)); refine blk_far ?_ NB487_489.out _; (with_reducible repeat (first | refine ybn ?_ _ | refine ybd ?_ | refine yba ?_ _)); refine blk_far ?_ NB487_489.out _; (with_reducible repeat (first | refine ybn ?_ _ | refine ybd ?_ | refine yba ?_ _)); exact BK487.out) hb); have n6_ := yam (blk_below (g := gb489) (o := .cells #[.int .i64 ((rd_T73 l0_2 x15_1).f0), .slice A488_1 ((rd_T73 l0_2 x15_1).f1).length c488_1, .int .i64 ((rd_T73 l0_2 x15_1).f2)] 73 (0, 0)) (by (with_reducible repeat (first | refine ybn ?_ _ | refine ybd ?_ | refine yba ?_ _)); refine blk_put (cs := #[.int .i64 ((rd_T73 l0_2 x15_1).f0), .slice A488_1 ((rd_T73 l0_2 x15_1).f1).length c488_1, .int .i64 0]) ?_ 2 _ rfl; (with_reducible repeat (first | refine ybn ?_ _ | refine ybd ?_ | refine yba ?_ _)); refine blk_put (cs := #[.int .i64 ((rd_T73 l0_2 x15_1).f0), .slice none 0 0, .int .i64 0]) ?_ 1 _ rfl; (with_reducible repeat (first | refine ybn ?_ _ | refine ybd ?_ | refine yba ?_ _)); refine blk_put (cs := #[.int .i64 0, .slice none 0 0, .int .i64 0]) ?_ 0 _ rfl; (with_reducible repeat (first | refine ybn ?_ _ | refine ybd ?_ | refine yba ?_ _)); exact BK489.out) hb); have n7_ := yam (below_step yhb hb); clear HO_488001; clear HO_488002; clear BK482; clear BK483; clear BK487; clear BK489; clear HB; have HO_488001 := n0_; have HO_488002 := n1_; have HO492 := n2_; have BK482 := n3_; have BK483 := n4_; have BK487 := n5_; have BK489 := n6_; have HB := n7_; clear n0_ n1_ n2_ n3_ n4_ n5_ n6_ n7_; (try clear hb); (try clear hb2); (try clear hk); (try clear hi); (try clear ho0); obtain ⟨Ao28, co28, eo28⟩ := Kd.R_slice HO492.out; subst eo28; obtain ⟨hcz29_0, hcz29_1, hcz29_2, hfz29_0, hfz29_1, hfz29_2⟩ := ybc BK489.out) | ((with_reducible refine gate_store (t := 22) (p := 22) rfl ?_); refine store_event (t := 22) (p := 22) (v := ?vo_w30) (w1 := (w27.setCell ⟨gb489, 1, none⟩ (.slice Ao28 t490.length co28))) ?hg ?ho ?hn ?hr ?_; (case ho => rfl); (case hg => rfl); (case hn => rfl); (case hr => first | (go_simp; done) | (go_simp; rfl)); intro w30 hw; have n0_ : Aside0 (Kd.R (Kd.int .i64) 3 w30 w.heap.size (fun k_ => some k_ ≠ (.slice Ao28 t490.length co28 : Value).ownBlock) (.slice Ao10 t484.length co10) t484) := ⟨(by rw [hw]; exact (by (with_reducible repeat (first | apply Kd.Ya | apply Kd.Yn | apply Kd.Yd)); exact Kd.R_mono (Kd.R_far (p := ⟨gb489, 1, none⟩) (Kd.R_types HO_488001.out BK489.out (by decide)) (fun _ hk => hk.2) (.slice Ao28 t490.length co28)) (fun _ hk => hk.1.2)))⟩; have n1_ : Aside0 (Kd.S k73 73 w30 w.heap.size (fun k_ => some k_ ≠ (.slice Ao10 t484.length co10 : Value).ownBlock ∧ some k_ ≠ (.slice Ao28 t490.length co28 : Value).ownBlock ∧ k_ ≠ gb489) u488002 x488002_1) := ⟨(by rw [hw]; exact (by (with_reducible repeat (first | apply Kd.S_alloc | apply Kd.S_drewN | apply Kd.S_drew)); exact Kd.S_mono (Kd.S_far (p := ⟨gb489, 1, none⟩) (Kd.S_mono HO_488002.out (fun k_ hk => (⟨hk, hk.1.2⟩ : _ ∧ k_ ≠ gb489))) (fun _ hk => hk.2) (.slice Ao28 t490.length co28)) (fun _ hk => ⟨hk.1.1.1, ⟨hk.1.2, hk.1.1.2⟩⟩)))⟩; have n2_ : Aside0 (Kd.R (Kd.int .i64) 3 w30 w.heap.size (fun k_ => some k_ ≠ (.slice Ao10 t484.length co10 : Value).ownBlock) (.slice Ao28 t490.length co28) t490) := ⟨(by rw [hw]; exact (by (with_reducible repeat (first | apply Kd.Ya | apply Kd.Yn | apply Kd.Yd)); exact Kd.R_mono (Kd.R_far (p := ⟨gb489, 1, none⟩) (Kd.R_types HO492.out BK489.out (by decide)) (fun _ hk => hk.2) (.slice Ao28 t490.length co28)) (fun _ hk => hk.1.2)))⟩; have n3_ : Aside0 (w30.heap[gb482]? = some (.cells #[.int .i64 a0_0, .slice A0_1 l0_1.length c0_1, .slice (some ad488) l0_2.length c0_2] 37 (0, 0))) := ⟨(by rw [hw]; exact (by (with_reducible repeat (first | refine ybn ?_ _ | refine ybd ?_ | refine yba ?_ _)); refine blk_far ?_ NB482_489.out _; (with_reducible repeat (first | refine ybn ?_ _ | refine ybd ?_ | refine yba ?_ _)); exact BK482.out))⟩; have n4_ : Aside0 (w30.heap[gb483]? = some (.cells #[.int .i64 0, .slice none 0 0, .slice none 0 0] 37 (0, 0))) := ⟨(by rw [hw]; exact (by (with_reducible repeat (first | refine ybn ?_ _ | refine ybd ?_ | refine yba ?_ _)); refine blk_far ?_ NB483_489.out _; (with_reducible repeat (first | refine ybn ?_ _ | refine ybd ?_ | refine yba ?_ _)); exact BK483.out))⟩; have n5_ : Aside0 (w30.heap[gb487]? = some (.cells #[.int .i64 a0_0, .slice Ao10 t484.length co10, u488002] 37 (0, 0))) := ⟨(by rw [hw]; exact (by (with_reducible repeat (first | refine ybn ?_ _ | refine ybd ?_ | refine yba ?_ _)); refine blk_far ?_ NB487_489.out _; (with_reducible repeat (first | refine ybn ?_ _ | refine ybd ?_ | refine yba ?_ _)); exact BK487.out))⟩; have n6_ : Aside0 (w30.heap[gb489]? = some (.cells #[.int .i64 ((rd_T73 l0_2 x15_1).f0), .slice Ao28 t490.length co28, .int .i64 ((rd_T73 l0_2 x15_1).f2)] 73 (0, 0))) := ⟨(by rw [hw]; exact (by (with_reducible repeat (first | refine ybn ?_ _ | refine ybd ?_ | refine yba ?_ _)); refine blk_put (cs := #[.int .i64 ((rd_T73 l0_2 x15_1).f0), .slice A488_1 ((rd_T73 l0_2 x15_1).f1).length c488_1, .int .i64 ((rd_T73 l0_2 x15_1).f2)]) ?_ 1 _ rfl; (with_reducible repeat (first | refine ybn ?_ _ | refine ybd ?_ | refine yba ?_ _)); exact BK489.out))⟩; have n7_ : Aside0 (Below w.heap.size w w30) := ⟨(by rw [hw]; exact yhb)⟩; clear hw; clear HO_488001; clear HO_488002; clear HO492; clear BK482; clear BK483; clear BK487; clear BK489; clear HB; have HO_488001 := n0_; have HO_488002 := n1_; have HO492 := n2_; have BK482 := n3_; have BK483 := n4_; have BK487 := n5_; have BK489 := n6_; have HB := n7_; clear n0_ n1_ n2_ n3_ n4_ n5_ n6_ n7_; have hnb31 := NB487_482.out; have hnc31 := NB482_487.out; have hnb32 := NB487_483.out; have hnc32 := NB483_487.out; obtain ⟨hcz33_0, hcz33_1, hcz33_2, hfz33_0, hfz33_1, hfz33_2⟩ := ybc BK487.out; obtain ⟨hcz34_0, hcz34_1, hcz34_2, hfz34_0, hfz34_1, hfz34_2⟩ := ybc BK489.out) | ((with_reducible refine gate_builtin (b := .append) (xs := #[.tmp 24, .tmp 26]) rfl ?_); at_builtin; refine Kd.S_append k73 (w0 := w) w.heap.size rfl (.tmp 24) (.tmp 26) 35 73 (.agg #[(.int .i64 0), (.slice none 0 0), (.int .i64 0)]) 40 rfl Try.underlying35 info73 rfl (by decide) (by omega) u488002 x488002_1 (⟨(rd_T73 l0_2 x15_1).f0, t490, (rd_T73 l0_2 x15_1).f2⟩ : S73) [.int .i64 ((rd_T73 l0_2 x15_1).f0), .slice Ao28 t490.length co28, .int .i64 ((rd_T73 l0_2 x15_1).f2)] (fun k_ => some k_ ≠ (.slice Ao10 t484.length co10 : Value).ownBlock ∧ k_ ≠ gb489) (fun k_ => some k_ = (.slice Ao28 t490.length co28 : Value).ownBlock) rfl rfl ?aP (fun k_ hk_ => ((Kd.R_mono (ok' := fun k_ => ((fun k_ => some k_ ≠ (.slice Ao10 t484.length co10 : Value).ownBlock ∧ k_ ≠ gb489)) k_ ∧ some k_ ≠ (u488002 : Value).ownBlock) (Kd.R_types (Kd.R_apart' (HO492.out) (Kd.S_typed HO_488002.out) (by decide)) BK489.out (by decide)) (fun k_ hk => ⟨⟨hk.1.1, hk.2⟩, hk.1.2⟩))).1 k_ hk_.symm) ?aF ?aO ?aB ?aS ?aL ?_; (case aP => exact k73_mkM _ _ _ (⟨(rd_T73 l0_2 x15_1).f0, t490, (rd_T73 l0_2 x15_1).f2⟩ : S73) (Kd.R_mono (Kd.R_tight rfl (Kd.R_mono (ok' := fun k_ => ((fun k_ => some k_ ≠ (.slice Ao10 t484.length co10 : Value).ownBlock ∧ k_ ≠ gb489)) k_ ∧ some k_ ≠ (u488002 : Value).ownBlock) (Kd.R_types (Kd.R_apart' (HO492.out) (Kd.S_typed HO_488002.out) (by decide)) BK489.out (by decide)) (fun k_ hk => ⟨⟨hk.1.1, hk.2⟩, hk.1.2⟩))) (fun _ h_ => h_))); (case aB => exact yhb); (case aF => exact (fun k_ hk => ⟨Kd.fresh' (Kd.R_lt (Kd.Yz HO_488001.out)) k_ hk, Kd.freshB (g := gb489) (o := .cells #[.int .i64 ((rd_T73 l0_2 x15_1).f0), .slice Ao28 t490.length co28, .int .i64 ((rd_T73 l0_2 x15_1).f2)] 73 (0, 0)) (ybz BK489.out) k_ hk⟩)); (case aO => exact (by (with_reducible repeat (first | apply Kd.S_alloc | apply Kd.S_drewN | apply Kd.S_drew)); exact Kd.S_mono HO_488002.out (fun k_ hk => ⟨⟨hk.1, hk.2.2⟩, fun e_ => hk.2.1 e_⟩))); (case aS => exact (below_size yhb)); (case aL => have := LMc21.out; omega); intro v494 w35 ho hb hg hat; rw [← Ny493.out] at ho; have n0_ := yam (Kd.R_over' (Kd.Yz HO_488001.out) (Kd.S_typed (by (with_reducible repeat (first | apply Kd.S_alloc | apply Kd.S_drewN | apply Kd.S_drew)); exact HO_488002.out)) (by decide) hg); have n1_ := yam (blk_grown (g := gb482) (o := .cells #[.int .i64 a0_0, .slice A0_1 l0_1.length c0_1, .slice (some ad488) l0_2.length c0_2] 37 (0, 0)) (ybz BK482.out) hg (Kd.S_ne HO_488002.out BK482.out (by decide))); have n2_ := yam (blk_grown (g := gb483) (o := .cells #[.int .i64 0, .slice none 0 0, .slice none 0 0] 37 (0, 0)) (ybz BK483.out) hg (Kd.S_ne HO_488002.out BK483.out (by decide))); have n3_ := yam (blk_grown (g := gb487) (o := .cells #[.int .i64 a0_0, .slice Ao10 t484.length co10, u488002] 37 (0, 0)) (ybz BK487.out) hg (Kd.S_ne HO_488002.out BK487.out (by decide))); have n4_ := yam (blk_grown (g := gb489) (o := .cells #[.int .i64 ((rd_T73 l0_2 x15_1).f0), .slice Ao28 t490.length co28, .int .i64 ((rd_T73 l0_2 x15_1).f2)] 73 (0, 0)) (ybz BK489.out) hg (Kd.S_away HO_488002.out (fun _ hk => hk.2.2))); have n5_ := yam (hb); have n6_ := yam (ho); clear HO_488001; clear BK482; clear BK483; clear BK487; clear BK489; clear HB; clear HO_488002; clear HO492; have HO_488001 := n0_; have BK482 := n1_; have BK483 := n2_; have BK487 := n3_; have BK489 := n4_; have HB := n5_; have HO495 := n6_; clear n0_ n1_ n2_ n3_ n4_ n5_ n6_; clear ho hb hg hat; obtain ⟨Ao36, co36, eo36⟩ := Kd.S_slice HO495.out; subst eo36; obtain ⟨hcz37_0, hcz37_1, hcz37_2, hfz37_0, hfz37_1, hfz37_2⟩ := ybc BK487.out))
   go_roundg k1
   case measure => have := HK1.out; omega
   case rel => exact ⟨(wrap64 (x15_1 + 1)), (y493), (.slice Ao36 y493.length co36), yeq, H', ⟨by have := HK1.out; omega⟩, ⟨by (with_reducible repeat (first | apply Kd.Ya | apply Kd.Yn | apply Kd.Yd)); exact Kd.R_mono (Kd.R_far (p := ⟨gb487, 2, none⟩) (Kd.R_types HO_488001.out BK487.out (by decide)) (fun _ hk => hk.2) (.slice Ao36 y493.length co36)) (fun _ hk => trivial)⟩, ⟨by (with_reducible repeat (first | apply Kd.S_alloc | apply Kd.S_drewN | apply Kd.S_drew)); exact Kd.S_mono (Kd.S_far (p := ⟨gb487, 2, none⟩) (Kd.S_types HO495.out BK487.out (by decide)) (fun _ hk => hk.2) (.slice Ao36 y493.length co36)) (fun _ hk => hk.1.1)⟩, ⟨by (with_reducible repeat (first | refine ybn ?_ _ | refine ybd ?_ | refine yba ?_ _)); refine blk_far ?_ NB482_487.out _; (with_reducible repeat (first | refine ybn ?_ _ | refine ybd ?_ | refine yba ?_ _)); exact BK482.out⟩, ⟨by (with_reducible repeat (first | refine ybn ?_ _ | refine ybd ?_ | refine yba ?_ _)); refine blk_far ?_ NB483_487.out _; (with_reducible repeat (first | refine ybn ?_ _ | refine ybd ?_ | refine yba ?_ _)); exact BK483.out⟩, ⟨by (with_reducible repeat (first | refine ybn ?_ _ | refine ybd ?_ | refine yba ?_ _)); refine blk_put (cs := #[.int .i64 a0_0, .slice Ao10 t484.length co10, u488002]) ?_ 2 _ rfl; (with_reducible repeat (first | refine ybn ?_ _ | refine ybd ?_ | refine yba ?_ _)); exact BK487.out⟩, ⟨yhb⟩⟩
def impl_without.l0 : Nat → List Int → Int → Int → Int → List Int → List (S73) → Option (Int × List Int × (List (S73)))
 | 0, _, _, _, _, _, _ => none
 | k + 1, x10, x11, x12, x676000, x676001, x676002 => if x12 < x11 then (if 0 ≤ x12 then (if x12 < (x10.length : Int) then (if 0 ≤ (rd x10 x12) then (if (rd x10 x12) < (x676001.length : Int) then (impl_without.l0 k x10 x11 (wrap64 (x12 + 1)) x676000 (x676001.set ((rd x10 x12) : Int).toNat 0) x676002) else (none)) else (none)) else (none)) else (none)) else (some (x676000, x676001, x676002))
def impl_without.f (k : Nat) (a0_0 : Int) (l0_1 : List Int) (l0_2 : List (S73)) (l1 : List Int) : Option (Int × List Int × (List (S73))) := (impl_copyPuzzle.f k a0_0 l0_1 l0_2).bind fun bt668 => (impl_without.l0 k l1 (l1.length : Int) 0 bt668.1 bt668.2.1 bt668.2.2)
set_option maxHeartbeats 8000000 in
set_option maxRecDepth 100000 in
theorem impl_without.calls (k : Nat) (a0_0 : Int) (A0_1 : Option Addr) (c0_1 : Nat) (l0_1 : List Int) (A0_2 : Option Addr) (c0_2 : Nat) (l0_2 : List (S73)) (A1 : Option Addr) (c1 : Nat) (l1 : List Int) (r1 : Int) (r2 : List Int) (r3 : List (S73)) (w : World) (hr0_1 : Kd.C (Kd.int .i64) w A0_1 l0_1.length l0_1) (hc0_1 : l0_1.length ≤ c0_1) (hr0_2 : Kd.C k73 w A0_2 l0_2.length l0_2) (hc0_2 : l0_2.length ≤ c0_2) (hr1 : Kd.C (Kd.int .i64) w A1 l1.length l1) (hc1 : l1.length ≤ c1) (h : impl_without.f k a0_0 l0_1 l0_2 l1 = some (r1, r2, r3)) :
  Calls Try.prog 69 #[.agg #[.int .i64 a0_0, .slice A0_1 l0_1.length c0_1, .slice A0_2 l0_2.length c0_2], .slice A1 l1.length c1] w fun e w' => ∃ v1_ v2_ : Value, e = .returned (.agg #[.int .i64 r1, v1_, v2_]) ∧ Kd.R (Kd.int .i64) 3 w' w.heap.size (fun _ => True) v1_ r2 ∧ Kd.S k73 73 w' w.heap.size (fun k_ => some k_ ≠ (v1_ : Value).ownBlock) v2_ r3 ∧ Below w.heap.size w w' := by
 have hu37 := Try.underlying37
 have HR0_1 := yam hr0_1
 have HC0_1 := yam hc0_1
 clear hr0_1 hc0_1
 have HR0_2 := yam hr0_2
 have HC0_2 := yam hc0_2
 clear hr0_2 hc0_2
 have HR1 := yam hr1
 have HC1 := yam hc1
 clear hr1 hc1
 have HB := yam (Below.refl w.heap.size w)
 have H : ((impl_copyPuzzle.f k a0_0 l0_1 l0_2).bind fun bt668 => (impl_without.l0 k l1 (l1.length : Int) 0 bt668.1 bt668.2.1 bt668.2.2)) = some (r1, r2, r3) := h
 clear h
 replace H := Option.bind_eq_some_iff.mp H
 obtain ⟨⟨t668, t669, t672⟩, A30, H⟩ := H
 replace H : (impl_without.l0 k l1 (l1.length : Int) 0 t668 t669 t672) = some (r1, r2, r3) := H
 have A3 := yam A30
 clear A30
 have H' := yam H
 clear H
 go_enter Try.func69, Try.ntmps69
 go_wp2_with (first | (refine ybe 2 #[.int .i64 a0_0, .slice A0_1 l0_1.length c0_1, .slice A0_2 l0_2.length c0_2] 37 ?_; intro gb666 hg w4 hbox hb; have n0_ := yam (below_step (yez HB.out) hb); have n1_ := yam (hbox); have n2_ := yam ((by rw [hg]; exact (below_size (yez HB.out)) : w.heap.size ≤ gb666)); have n3_ := n2_; clear HB; have HB := n0_; have BK666 := n1_; have GW666 := n2_; have GE666 := n3_; clear n0_ n1_ n2_ n3_; clear hb hbox hg) | (refine ybe 4 #[.int .i64 0, .slice none 0 0, .slice none 0 0] 37 ?_; intro gb667 hg w5 hbox hb; have n0_ := yam (blk_below (g := gb666) (o := .cells #[.int .i64 a0_0, .slice A0_1 l0_1.length c0_1, .slice A0_2 l0_2.length c0_2] 37 (0, 0)) (ybz BK666.out) hb); have n1_ := yam (below_step yhb hb); have n2_ := yam (hbox); have n3_ := yam ((by rw [hg]; exact (below_size yhb) : w.heap.size ≤ gb667)); have n4_ := n3_; have n5_ := yam ((by rw [hg]; exact Nat.ne_of_lt (blk_lt (g := gb666) (o := .cells #[.int .i64 a0_0, .slice A0_1 l0_1.length c0_1, .slice A0_2 l0_2.length c0_2] 37 (0, 0)) (ybz BK666.out)) : gb666 ≠ gb667)); have n6_ := yam ((by rw [hg]; exact Nat.ne_of_gt (blk_lt (g := gb666) (o := .cells #[.int .i64 a0_0, .slice A0_1 l0_1.length c0_1, .slice A0_2 l0_2.length c0_2] 37 (0, 0)) (ybz BK666.out)) : gb667 ≠ gb666)); clear BK666; clear HB; have BK666 := n0_; have HB := n1_; have BK667 := n2_; have GW667 := n3_; have GE667 := n4_; have NB666_667 := n5_; have NB667_666 := n6_; clear n0_ n1_ n2_ n3_ n4_ n5_ n6_; clear hb hbox hg; have hnb6 := NB666_667.out; have hnc6 := NB667_666.out; obtain ⟨hcz7_0, hcz7_1, hcz7_2, hfz7_0, hfz7_1, hfz7_2⟩ := ybc BK666.out) | (refine goesL_ (some 9) rfl rfl Try.func58 (by kernel_rfl) rfl #[.agg #[.int .i64 a0_0, .slice A0_1 l0_1.length c0_1, .slice A0_2 l0_2.length c0_2]] rfl ymd ?_; (with_reducible refine (impl_copyPuzzle.calls k a0_0 _ _ l0_1 _ _ l0_2 t668 t669 t672 _ ?side1 ?side2 ?side3 ?side4 A3.out).mono ?_); (case side1 => exact Kd.Cz ((Kd.C_below HR0_1.out HB.out))); (case side2 => exact HC0_1.out); (case side3 => exact Kd.Cz ((Kd.C_below HR0_2.out HB.out))); (case side4 => exact HC0_2.out); rintro e w8 ⟨v670, v673, rfl, ho0, ho1, hb⟩; refine ⟨_, rfl, ?_⟩; have n0_ := yam (Kd.R_lower ho0 (below_size yhb)); have n1_ := yam (Kd.S_lower ho1 (below_size yhb)); have n2_ := yam (blk_below (g := gb666) (o := .cells #[.int .i64 a0_0, .slice A0_1 l0_1.length c0_1, .slice A0_2 l0_2.length c0_2] 37 (0, 0)) (ybz BK666.out) hb); have n3_ := yam (blk_below (g := gb667) (o := .cells #[.int .i64 0, .slice none 0 0, .slice none 0 0] 37 (0, 0)) (ybz BK667.out) hb); have n4_ := yam (below_step yhb hb); clear BK666; clear BK667; clear HB; have HO671 := n0_; have HO674 := n1_; have BK666 := n2_; have BK667 := n3_; have HB := n4_; clear n0_ n1_ n2_ n3_ n4_; (try clear hb); (try clear hb2); (try clear hk); (try clear hi); (try clear ho0); (try clear ho1)) | (refine ybe 5 #[.int .i64 0, .slice none 0 0, .slice none 0 0] 37 ?_; intro gb675 hg w9 hbox hb; have n0_ := yam (Kd.R_below (Kd.Yz HO671.out) hb); have n1_ := yam (Kd.S_below (by (with_reducible repeat (first | apply Kd.S_alloc | apply Kd.S_drewN | apply Kd.S_drew)); exact HO674.out) hb); have n2_ := yam (blk_below (g := gb666) (o := .cells #[.int .i64 a0_0, .slice A0_1 l0_1.length c0_1, .slice A0_2 l0_2.length c0_2] 37 (0, 0)) (ybz BK666.out) hb); have n3_ := yam (blk_below (g := gb667) (o := .cells #[.int .i64 0, .slice none 0 0, .slice none 0 0] 37 (0, 0)) (ybz BK667.out) hb); have n4_ := yam (below_step yhb hb); have n5_ := yam (hbox); have n6_ := yam ((by rw [hg]; exact (below_size yhb) : w.heap.size ≤ gb675)); have n7_ := n6_; have n8_ := yam ((by rw [hg]; exact Nat.ne_of_lt (blk_lt (g := gb666) (o := .cells #[.int .i64 a0_0, .slice A0_1 l0_1.length c0_1, .slice A0_2 l0_2.length c0_2] 37 (0, 0)) (ybz BK666.out)) : gb666 ≠ gb675)); have n9_ := yam ((by rw [hg]; exact Nat.ne_of_gt (blk_lt (g := gb666) (o := .cells #[.int .i64 a0_0, .slice A0_1 l0_1.length c0_1, .slice A0_2 l0_2.length c0_2] 37 (0, 0)) (ybz BK666.out)) : gb675 ≠ gb666)); have n10_ := yam ((by rw [hg]; exact Nat.ne_of_lt (blk_lt (g := gb667) (o := .cells #[.int .i64 0, .slice none 0 0, .slice none 0 0] 37 (0, 0)) (ybz BK667.out)) : gb667 ≠ gb675)); have n11_ := yam ((by rw [hg]; exact Nat.ne_of_gt (blk_lt (g := gb667) (o := .cells #[.int .i64 0, .slice none 0 0, .slice none 0 0] 37 (0, 0)) (ybz BK667.out)) : gb675 ≠ gb667)); clear HO671; clear HO674; clear BK666; clear BK667; clear HB; have HO671 := n0_; have HO674 := n1_; have BK666 := n2_; have BK667 := n3_; have HB := n4_; have BK675 := n5_; have GW675 := n6_; have GE675 := n7_; have NB666_675 := n8_; have NB675_666 := n9_; have NB667_675 := n10_; have NB675_667 := n11_; clear n0_ n1_ n2_ n3_ n4_ n5_ n6_ n7_ n8_ n9_ n10_ n11_; clear hb hbox hg; have hnb10 := NB675_666.out; have hnc10 := NB666_675.out; have hnb11 := NB675_667.out; have hnc11 := NB667_675.out; obtain ⟨hcz12_0, hcz12_1, hcz12_2, hfz12_0, hfz12_1, hfz12_2⟩ := ybc BK675.out; obtain ⟨Ao13, co13, eo13⟩ := Kd.R_slice HO671.out; subst eo13; obtain ⟨Ao14, co14, eo14⟩ := Kd.S_slice HO674.out; subst eo14))
 go_loopg [12] k (fun kq v12 w' => ∃ (x12_1 : Int) (x676001_1 : List Int) (u676001 : Value), v12 = .int .i64 x12_1 ∧ Aside0 (impl_without.l0 kq l1 (l1.length : Int) x12_1 t668 x676001_1 t672 = some (r1, r2, r3)) ∧ Aside0 (kq ≤ k) ∧ Aside0 (Kd.R (Kd.int .i64) 3 w' w.heap.size (fun _ => True) u676001 x676001_1) ∧ Aside0 (Kd.S k73 73 w' w.heap.size (fun k_ => some k_ ≠ (u676001 : Value).ownBlock) (.slice Ao14 t672.length co14) t672) ∧ Aside0 (w'.heap[gb666]? = some (.cells #[.int .i64 a0_0, (.slice A0_1 l0_1.length c0_1), (.slice A0_2 l0_2.length c0_2)] 37 (0, 0))) ∧ Aside0 (w'.heap[gb667]? = some (.cells #[.int .i64 0, (.slice none 0 0), (.slice none 0 0)] 37 (0, 0))) ∧ Aside0 (w'.heap[gb675]? = some (.cells #[.int .i64 t668, u676001, (.slice Ao14 t672.length co14)] 37 (0, 0))) ∧ Aside0 (Below w.heap.size w w'))
 case atStart => exact ⟨(0), (t669), (.slice Ao13 t669.length co13), yeq, H', ⟨Nat.le_refl _⟩, ⟨by (with_reducible repeat (first | apply Kd.Ya | apply Kd.Yn | apply Kd.Yd)); exact Kd.R_mono (Kd.R_far (p := ⟨gb675, 2, none⟩) (Kd.R_far (p := ⟨gb675, 1, none⟩) (Kd.R_far (p := ⟨gb675, 0, none⟩) (Kd.R_types HO671.out BK675.out (by decide)) (fun _ hk => hk.2) (.int .i64 t668)) (fun _ hk => hk.2) (.slice Ao13 t669.length co13)) (fun _ hk => hk.2) (.slice Ao14 t672.length co14)) (fun _ hk => trivial)⟩, ⟨by (with_reducible repeat (first | apply Kd.S_alloc | apply Kd.S_drewN | apply Kd.S_drew)); exact Kd.S_mono (Kd.S_far (p := ⟨gb675, 2, none⟩) (Kd.S_far (p := ⟨gb675, 1, none⟩) (Kd.S_far (p := ⟨gb675, 0, none⟩) (Kd.S_types HO674.out BK675.out (by decide)) (fun _ hk => hk.2) (.int .i64 t668)) (fun _ hk => hk.2) (.slice Ao13 t669.length co13)) (fun _ hk => hk.2) (.slice Ao14 t672.length co14)) (fun _ hk => hk.1)⟩, ⟨by (with_reducible repeat (first | refine ybn ?_ _ | refine ybd ?_ | refine yba ?_ _)); refine blk_far ?_ NB666_675.out _; (with_reducible repeat (first | refine ybn ?_ _ | refine ybd ?_ | refine yba ?_ _)); refine blk_far ?_ NB666_675.out _; (with_reducible repeat (first | refine ybn ?_ _ | refine ybd ?_ | refine yba ?_ _)); refine blk_far ?_ NB666_675.out _; (with_reducible repeat (first | refine ybn ?_ _ | refine ybd ?_ | refine yba ?_ _)); exact BK666.out⟩, ⟨by (with_reducible repeat (first | refine ybn ?_ _ | refine ybd ?_ | refine yba ?_ _)); refine blk_far ?_ NB667_675.out _; (with_reducible repeat (first | refine ybn ?_ _ | refine ybd ?_ | refine yba ?_ _)); refine blk_far ?_ NB667_675.out _; (with_reducible repeat (first | refine ybn ?_ _ | refine ybd ?_ | refine yba ?_ _)); refine blk_far ?_ NB667_675.out _; (with_reducible repeat (first | refine ybn ?_ _ | refine ybd ?_ | refine yba ?_ _)); exact BK667.out⟩, ⟨by (with_reducible repeat (first | refine ybn ?_ _ | refine ybd ?_ | refine yba ?_ _)); refine blk_put (cs := #[.int .i64 t668, .slice Ao13 t669.length co13, .slice none 0 0]) ?_ 2 _ rfl; (with_reducible repeat (first | refine ybn ?_ _ | refine ybd ?_ | refine yba ?_ _)); refine blk_put (cs := #[.int .i64 t668, .slice none 0 0, .slice none 0 0]) ?_ 1 _ rfl; (with_reducible repeat (first | refine ybn ?_ _ | refine ybd ?_ | refine yba ?_ _)); refine blk_put (cs := #[.int .i64 0, .slice none 0 0, .slice none 0 0]) ?_ 0 _ rfl; (with_reducible repeat (first | refine ybn ?_ _ | refine ybd ?_ | refine yba ?_ _)); exact BK675.out⟩, ⟨yhb⟩⟩
 case round =>
  clear H'
  try clear c1
  try clear p2
  try clear c5
  try clear c6
  try clear c10
  try clear c11
  try clear hcz12_0
  try clear hcz12_1
  try clear hcz12_2
  try clear hcz7_0
  try clear hcz7_1
  try clear hcz7_2
  try clear hfz12_0
  try clear hfz12_1
  try clear hfz12_2
  try clear hfz7_0
  try clear hfz7_1
  try clear hfz7_2
  obtain ⟨x12_1, x676001_1, u676001, rfl, HA, HK1, HO_676001, HO_676002, BK666, BK667, BK675, HB⟩ := hrel
  cases gk with
  | zero => exact absurd HA.out (by simp [impl_without.l0])
  | succ k1 =>
   have H := HA.out
   clear HA
   simp only [impl_without.l0] at H
   by_cases c15 : x12_1 < (l1.length : Int)
   rotate_left
   ·rw [if_neg c15] at H
    have c15b0 : decide (x12_1 < (l1.length : Int)) = false := decide_eq_false c15
    clear c15
    simp only [Option.some.injEq, Prod.mk.injEq] at H
    obtain ⟨rfl, rfl, rfl⟩ := H
    have hnb26 := NB675_666.out
    have hnc26 := NB666_675.out
    have hnb27 := NB675_667.out
    have hnc27 := NB667_675.out
    obtain ⟨hcz28_0, hcz28_1, hcz28_2, hfz28_0, hfz28_1, hfz28_2⟩ := ybc BK675.out
    have hnb29 := NB667_666.out
    have hnc29 := NB666_667.out
    obtain ⟨hcz30_0, hcz30_1, hcz30_2, hfz30_0, hfz30_1, hfz30_2⟩ := ybc BK667.out
    obtain ⟨Ao31, co31, eo31⟩ := Kd.R_slice HO_676001.out
    subst eo31
    go_wp2
    refine bodyPost_ret (results_cell_row rfl _ _ gb667 37 #[.int .i64 t668, .slice Ao31 x676001_1.length co31, .slice Ao14 t672.length co14] (0, 0) _ rfl (by (with_reducible repeat (first | refine ybn ?_ _ | refine ybd ?_ | refine yba ?_ _)); refine blk_put (cs := #[.int .i64 t668, .slice Ao31 x676001_1.length co31, .slice none 0 0]) ?_ 2 _ rfl; (with_reducible repeat (first | refine ybn ?_ _ | refine ybd ?_ | refine yba ?_ _)); refine blk_put (cs := #[.int .i64 t668, .slice none 0 0, .slice none 0 0]) ?_ 1 _ rfl; (with_reducible repeat (first | refine ybn ?_ _ | refine ybd ?_ | refine yba ?_ _)); refine blk_put (cs := #[.int .i64 0, .slice none 0 0, .slice none 0 0]) ?_ 0 _ rfl; (with_reducible repeat (first | refine ybn ?_ _ | refine ybd ?_ | refine yba ?_ _)); exact BK667.out) Try.underlying37 rfl (by kernel_rfl)) rfl ?_
    exact ⟨_, _, yer, by (with_reducible repeat (first | apply Kd.Ya | apply Kd.Yn | apply Kd.Yd)); exact Kd.R_mono (Kd.R_far (p := ⟨gb667, 2, none⟩) (Kd.R_far (p := ⟨gb667, 1, none⟩) (Kd.R_far (p := ⟨gb667, 0, none⟩) (Kd.R_types HO_676001.out BK667.out (by decide)) (fun _ hk => hk.2) (.int .i64 t668)) (fun _ hk => hk.2) (.slice Ao31 x676001_1.length co31)) (fun _ hk => hk.2) (.slice Ao14 t672.length co14)) (fun _ hk => trivial), by (with_reducible repeat (first | apply Kd.S_alloc | apply Kd.S_drewN | apply Kd.S_drew)); exact Kd.S_mono (Kd.S_far (p := ⟨gb667, 2, none⟩) (Kd.S_far (p := ⟨gb667, 1, none⟩) (Kd.S_far (p := ⟨gb667, 0, none⟩) (Kd.S_types HO_676002.out BK667.out (by decide)) (fun _ hk => hk.2) (.int .i64 t668)) (fun _ hk => hk.2) (.slice Ao31 x676001_1.length co31)) (fun _ hk => hk.2) (.slice Ao14 t672.length co14)) (fun _ hk => hk.1), yhb⟩

   rw [if_pos c15] at H
   have c15b0 : decide (x12_1 < (l1.length : Int)) = true := decide_eq_true c15
   clear c15
   replace H := yif H
   obtain ⟨c16b0, H⟩ := H
   replace H := yif H
   obtain ⟨c17b0, H⟩ := H
   replace H := yif H
   obtain ⟨c18b0, H⟩ := H
   replace H := yif H
   obtain ⟨c19b0, H⟩ := H
   obtain ⟨y677, hy677⟩ : ∃ y_ : List Int, y_ = (x676001_1.set ((rd l1 x12_1) : Int).toNat 0) := ⟨_, rfl⟩
   replace H : (impl_without.l0 k1 l1 (l1.length : Int) (wrap64 (x12_1 + 1)) t668 y677 t672) = some (r1, r2, r3) := by first | (rw [hy677]; with_reducible exact H) | (have H2_ := (Option.bind_some _ _).symm.trans H; rw [hy677]; with_reducible exact H2_) | (have H2_ := (Option.bind_some _ _).symm.trans H; with_reducible exact H2_) | with_reducible exact H | (rw [hy677]; exact H) | exact H
   have Ny677 := yam hy677
   clear hy677
   have H' := yam H
   clear H
   have p676 : 0 ≤ (x12_1 : Int) := ydt
   have q676 : x12_1 < (l1.length : Int) := ydt
   obtain ⟨ad676, e676, hx676_0⟩ := Kd.at_int HR1.out x12_1 p676 q676
   cases e676
   replace hx676_0 := ybx HB.out hx676_0
   replace p676 := eq_true p676
   replace q676 := eq_true q676
   have hnb21 := NB675_666.out
   have hnc21 := NB666_675.out
   have hnb22 := NB675_667.out
   have hnc22 := NB667_675.out
   obtain ⟨hcz23_0, hcz23_1, hcz23_2, hfz23_0, hfz23_1, hfz23_2⟩ := ybc BK675.out
   have p20 : 0 ≤ ((rd l1 x12_1) : Int) := ydt
   have q20 : ((rd l1 x12_1) : Int) < ((x676001_1.length : Int) : Int) := ydt
   obtain ⟨go20, co20, eo20, gb20, gl20, cl20, HG20⟩ := Kd.R_form HO_676001.out (by omega)
   (first | cases eo20 | (injection eo20 with ea_ en_ ec_; (first | subst ea_ | (injection ea_ with ea_; subst ea_)); subst ec_; clear en_))
   have GB20 := yam gb20
   have GG20 := yam HG20
   clear gb20 gl20 HG20
   obtain ⟨hx20_0, hf20_0⟩ := Kd.R_celln 0 HO_676001.out ((rd l1 x12_1) : Int) p20 q20
   replace p20 := eq_true p20
   replace q20 := eq_true q20
   have HP24 := Kd.R_putg HO_676001.out ((rd l1 x12_1) : Int) 0
   go_wp2_with (first | ((with_reducible refine gate_store (t := 3) (p := 19) rfl ?_); refine store_event (t := 3) (p := 19) (v := ?vo_w25) (w1 := (wr.setCell ⟨go20, ((rd l1 x12_1) : Int).toNat, none⟩ (.int .i64 0))) ?hg ?ho ?hn ?hr ?_; (case ho => rfl); (case hg => rfl); (case hn => rfl); (case hr => first | (go_simp; done) | (go_simp; rfl)); intro w25 hw; have hg : wr.grownBy w25 (some go20) := (by rw [hw]; exact HP24.2); have hp_ : Kd.R (Kd.int .i64) 3 w25 w.heap.size (fun _ => True) (.slice (some ⟨go20, 0, none⟩) x676001_1.length co20) y677 := (by rw [hw, Ny677.out]; exact HP24.1); clear HP24; have n0_ := yam (hp_); have n1_ := yam (Kd.S_after (v := (.slice (some ⟨go20, 0, none⟩) x676001_1.length co20)) (v1 := (.slice (some ⟨go20, 0, none⟩) x676001_1.length co20)) (ok := (fun _ => True)) (by (with_reducible repeat (first | apply Kd.S_alloc | apply Kd.S_drewN | apply Kd.S_drew)); exact Kd.S_mono HO_676002.out (fun _ hk => ⟨trivial, hk⟩)) hg (.inl rfl)); have n2_ := yam (blk_grown (g := gb666) (o := .cells #[.int .i64 a0_0, .slice A0_1 l0_1.length c0_1, .slice A0_2 l0_2.length c0_2] 37 (0, 0)) (ybz BK666.out) hg (Kd.R_ne HO_676001.out BK666.out (by decide))); have n3_ := yam (blk_grown (g := gb667) (o := .cells #[.int .i64 0, .slice none 0 0, .slice none 0 0] 37 (0, 0)) (ybz BK667.out) hg (Kd.R_ne HO_676001.out BK667.out (by decide))); have n4_ := yam (blk_grown (g := gb675) (o := .cells #[.int .i64 t668, .slice (some ⟨go20, 0, none⟩) x676001_1.length co20, .slice Ao14 t672.length co14] 37 (0, 0)) (ybz BK675.out) hg (Kd.R_ne HO_676001.out BK675.out (by decide))); have n5_ := yam ((by rw [hw]; exact below_set (HB.out) GB20.out : Below w.heap.size w w25)); clear HO_676001; clear HO_676002; clear BK666; clear BK667; clear BK675; clear HB; have HO_676001 := n0_; have HO_676002 := n1_; have BK666 := n2_; have BK667 := n3_; have BK675 := n4_; have HB := n5_; clear n0_ n1_ n2_ n3_ n4_ n5_; clear hg hw hp_))
   go_roundg k1
   case measure => have := HK1.out; omega
   case rel => exact ⟨(wrap64 (x12_1 + 1)), (y677), (.slice (some ⟨go20, 0, none⟩) x676001_1.length co20), yeq, H', ⟨by have := HK1.out; omega⟩, ⟨yka HO_676001.out⟩, ⟨by (with_reducible repeat (first | apply Kd.S_alloc | apply Kd.S_drewN | apply Kd.S_drew)); exact Kd.S_mono HO_676002.out (fun _ hk => hk.2)⟩, ⟨by (with_reducible repeat (first | refine ybn ?_ _ | refine ybd ?_ | refine yba ?_ _)); exact BK666.out⟩, ⟨by (with_reducible repeat (first | refine ybn ?_ _ | refine ybd ?_ | refine yba ?_ _)); exact BK667.out⟩, ⟨by (with_reducible repeat (first | refine ybn ?_ _ | refine ybd ?_ | refine yba ?_ _)); exact BK675.out⟩, ⟨yhb⟩⟩
def impl_IsRedundant.j0 : Nat → Int → Bool → Int → List Int → List (S73) → Option (Bool)
 | 0, _, _, _, _, _ => none
 | k + 1, x1, x26, x679000, x679001, x679002 => if x26 = true then (some false) else ((impl_without.f k x679000 x679001 x679002 (([x1] : List Int))).bind fun bt684 => ((impl_onlyOne.f k bt684.1 bt684.2.1 bt684.2.2).bind fun t691 => (some t691)))
def impl_IsRedundant.f (k : Nat) (a0_0 : Int) (l0_1 : List Int) (l0_2 : List (S73)) (a1 : Int) : Option (Bool) := (impl_onlyOne.f k a0_0 l0_1 l0_2).bind fun t679 => (if t679 = true then (if a1 < 0 then (impl_IsRedundant.j0 k a1 true a0_0 l0_1 l0_2) else (if a1 ≥ (l0_1.length : Int) then (impl_IsRedundant.j0 k a1 true a0_0 l0_1 l0_2) else (if 0 ≤ a1 then (if a1 < (l0_1.length : Int) then (impl_IsRedundant.j0 k a1 ((rd l0_1 a1) == 0) a0_0 l0_1 l0_2) else (none)) else (none)))) else (impl_IsRedundant.j0 k a1 true a0_0 l0_1 l0_2))
set_option maxHeartbeats 8000000 in
set_option maxRecDepth 100000 in
theorem impl_IsRedundant.calls (k : Nat) (a0_0 : Int) (A0_1 : Option Addr) (c0_1 : Nat) (l0_1 : List Int) (A0_2 : Option Addr) (c0_2 : Nat) (l0_2 : List (S73)) (a1 : Int) (r : Bool) (w : World) (hr0_1 : Kd.C (Kd.int .i64) w A0_1 l0_1.length l0_1) (hc0_1 : l0_1.length ≤ c0_1) (hr0_2 : Kd.C k73 w A0_2 l0_2.length l0_2) (hc0_2 : l0_2.length ≤ c0_2) (h : impl_IsRedundant.f k a0_0 l0_1 l0_2 a1 = some r) :
  Calls Try.prog 35 #[.agg #[.int .i64 a0_0, .slice A0_1 l0_1.length c0_1, .slice A0_2 l0_2.length c0_2], .int .i64 a1] w fun e w' => e = .returned (.bool r) ∧ Below w.heap.size w w' := by
 have hu37 := Try.underlying37
 have HR0_1 := yam hr0_1
 have HC0_1 := yam hc0_1
 clear hr0_1 hc0_1
 have HR0_2 := yam hr0_2
 have HC0_2 := yam hc0_2
 clear hr0_2 hc0_2
 have HB := yam (Below.refl w.heap.size w)
 have H : ((impl_onlyOne.f k a0_0 l0_1 l0_2).bind fun t679 => (if t679 = true then (if a1 < 0 then (impl_IsRedundant.j0 k a1 true a0_0 l0_1 l0_2) else (if a1 ≥ (l0_1.length : Int) then (impl_IsRedundant.j0 k a1 true a0_0 l0_1 l0_2) else (if 0 ≤ a1 then (if a1 < (l0_1.length : Int) then (impl_IsRedundant.j0 k a1 ((rd l0_1 a1) == 0) a0_0 l0_1 l0_2) else (none)) else (none)))) else (impl_IsRedundant.j0 k a1 true a0_0 l0_1 l0_2))) = some r := h
 clear h
 have HC3 := yam H
 clear H
 go_enter Try.func35, Try.ntmps35
 go_upto_region 1 with (first | ((with_reducible refine gate_dst (N := 2) rfl ?_); (try (refine gate_guard (by rfl) ?_; dsimp only)); refine ybe 2 #[.int .i64 a0_0, .slice A0_1 l0_1.length c0_1, .slice A0_2 l0_2.length c0_2] 37 ?_; intro gb678 hg w4 hbox hb; have n0_ := yam (below_step (yez HB.out) hb); have n1_ := yam (hbox); have n2_ := yam ((by rw [hg]; exact (below_size (yez HB.out)) : w.heap.size ≤ gb678)); have n3_ := n2_; clear HB; have HB := n0_; have BK678 := n1_; have GW678 := n2_; have GE678 := n3_; clear n0_ n1_ n2_ n3_; clear hb hbox hg))
 (try simp only [Act.put, yps])
 go_cut [26] (fun v26 wc => ∃ (kq : Nat) (x26_2 : Bool), v26 = .bool x26_2 ∧ Aside0 (impl_IsRedundant.j0 kq a1 x26_2 a0_0 l0_1 l0_2 = some r) ∧ Aside0 (kq ≤ k) ∧ Aside0 (wc.heap[gb678]? = some (.cells #[.int .i64 a0_0, (.slice A0_1 l0_1.length c0_1), (.slice A0_2 l0_2.length c0_2)] 37 (0, 0))) ∧ Aside0 (Below w.heap.size w wc))
 case first =>
  have H := HC3.out
  clear HC3
  replace H := Option.bind_eq_some_iff.mp H
  obtain ⟨t679, A50, H⟩ := H
  try dsimp only at H
  have A5 := yam A50
  clear A50
  by_cases c6 : t679 = true
  rotate_left
  ·replace c6 := Bool.eq_false_iff.mpr c6
   subst c6
   have H1 : (impl_IsRedundant.j0 k a1 true a0_0 l0_1 l0_2) = some r := by rw [if_neg (show ¬ (false = true) by decide)] at H; exact H
   clear H
   have H := H1
   clear H1
   have H' := yam H
   clear H
   obtain ⟨hcz19_0, hcz19_1, hcz19_2, hfz19_0, hfz19_1, hfz19_2⟩ := ybc BK678.out
   go_wp2_with (first | (refine goesL_ (some 6) rfl rfl Try.func68 (by kernel_rfl) rfl #[.agg #[.int .i64 a0_0, .slice A0_1 l0_1.length c0_1, .slice A0_2 l0_2.length c0_2]] rfl ymd ?_; (with_reducible refine (impl_onlyOne.calls k a0_0 _ _ l0_1 _ _ l0_2 false _ ?side1 ?side2 ?side3 ?side4 A5.out).mono ?_); (case side1 => exact Kd.Cz ((Kd.C_below HR0_1.out HB.out))); (case side2 => exact HC0_1.out); (case side3 => exact Kd.Cz ((Kd.C_below HR0_2.out HB.out))); (case side4 => exact HC0_2.out); rintro e w20 ⟨rfl, hb⟩; refine ⟨_, rfl, ?_⟩; have n0_ := yam (blk_below (g := gb678) (o := .cells #[.int .i64 a0_0, .slice A0_1 l0_1.length c0_1, .slice A0_2 l0_2.length c0_2] 37 (0, 0)) (ybz BK678.out) hb); have n1_ := yam (below_step yhb hb); clear BK678; clear HB; have BK678 := n0_; have HB := n1_; clear n0_ n1_; (try clear hb); (try clear hb2); (try clear hk); (try clear hi)))
   go_meet
   case rel => exact ⟨_, (true), yeq, H', ⟨by first | omega | exact Nat.le_refl _⟩, ⟨by (with_reducible repeat (first | refine ybn ?_ _ | refine ybd ?_ | refine yba ?_ _)); exact BK678.out⟩, ⟨yhb⟩⟩
  subst c6
  have H1 : (if a1 < 0 then (impl_IsRedundant.j0 k a1 true a0_0 l0_1 l0_2) else (if a1 ≥ (l0_1.length : Int) then (impl_IsRedundant.j0 k a1 true a0_0 l0_1 l0_2) else (if 0 ≤ a1 then (if a1 < (l0_1.length : Int) then (impl_IsRedundant.j0 k a1 ((rd l0_1 a1) == 0) a0_0 l0_1 l0_2) else (none)) else (none)))) = some r := by rw [if_pos rfl] at H; exact H
  clear H
  have H := H1
  clear H1
  by_cases c7 : a1 < 0
  ·rw [if_pos c7] at H
   have c7b0 : decide (a1 < 0) = true := decide_eq_true c7
   clear c7
   (first | rw [c7b0] | (simp only [i64_w, i32_w]; rw [c7b0]) | skip)
   have H' := yam H
   clear H
   obtain ⟨hcz8_0, hcz8_1, hcz8_2, hfz8_0, hfz8_1, hfz8_2⟩ := ybc BK678.out
   go_wp2_with (first | (refine goesL_ (some 6) rfl rfl Try.func68 (by kernel_rfl) rfl #[.agg #[.int .i64 a0_0, .slice A0_1 l0_1.length c0_1, .slice A0_2 l0_2.length c0_2]] rfl ymd ?_; (with_reducible refine (impl_onlyOne.calls k a0_0 _ _ l0_1 _ _ l0_2 true _ ?side1 ?side2 ?side3 ?side4 A5.out).mono ?_); (case side1 => exact Kd.Cz ((Kd.C_below HR0_1.out HB.out))); (case side2 => exact HC0_1.out); (case side3 => exact Kd.Cz ((Kd.C_below HR0_2.out HB.out))); (case side4 => exact HC0_2.out); rintro e w9 ⟨rfl, hb⟩; refine ⟨_, rfl, ?_⟩; have n0_ := yam (blk_below (g := gb678) (o := .cells #[.int .i64 a0_0, .slice A0_1 l0_1.length c0_1, .slice A0_2 l0_2.length c0_2] 37 (0, 0)) (ybz BK678.out) hb); have n1_ := yam (below_step yhb hb); clear BK678; clear HB; have BK678 := n0_; have HB := n1_; clear n0_ n1_; (try clear hb); (try clear hb2); (try clear hk); (try clear hi)))
   go_meet
   case rel => exact ⟨_, (true), yeq, H', ⟨by first | omega | exact Nat.le_refl _⟩, ⟨by (with_reducible repeat (first | refine ybn ?_ _ | refine ybd ?_ | refine yba ?_ _)); exact BK678.out⟩, ⟨yhb⟩⟩
  rw [if_neg c7] at H
  have c7b0 : decide (a1 < 0) = false := decide_eq_false c7
  clear c7
  (first | rw [c7b0] | (simp only [i64_w, i32_w]; rw [c7b0]) | skip)
  by_cases c10 : a1 ≥ (l0_1.length : Int)
  ·rw [if_pos c10] at H
   have c10b0 : decide ((l0_1.length : Int) ≤ a1) = true := decide_eq_true c10
   clear c10
   have H' := yam H
   clear H
   obtain ⟨hcz11_0, hcz11_1, hcz11_2, hfz11_0, hfz11_1, hfz11_2⟩ := ybc BK678.out
   go_wp2_with (first | (refine goesL_ (some 6) rfl rfl Try.func68 (by kernel_rfl) rfl #[.agg #[.int .i64 a0_0, .slice A0_1 l0_1.length c0_1, .slice A0_2 l0_2.length c0_2]] rfl ymd ?_; (with_reducible refine (impl_onlyOne.calls k a0_0 _ _ l0_1 _ _ l0_2 true _ ?side1 ?side2 ?side3 ?side4 A5.out).mono ?_); (case side1 => exact Kd.Cz ((Kd.C_below HR0_1.out HB.out))); (case side2 => exact HC0_1.out); (case side3 => exact Kd.Cz ((Kd.C_below HR0_2.out HB.out))); (case side4 => exact HC0_2.out); rintro e w12 ⟨rfl, hb⟩; refine ⟨_, rfl, ?_⟩; have n0_ := yam (blk_below (g := gb678) (o := .cells #[.int .i64 a0_0, .slice A0_1 l0_1.length c0_1, .slice A0_2 l0_2.length c0_2] 37 (0, 0)) (ybz BK678.out) hb); have n1_ := yam (below_step yhb hb); clear BK678; clear HB; have BK678 := n0_; have HB := n1_; clear n0_ n1_; (try clear hb); (try clear hb2); (try clear hk); (try clear hi); obtain ⟨hcz13_0, hcz13_1, hcz13_2, hfz13_0, hfz13_1, hfz13_2⟩ := ybc BK678.out))
   go_meet
   case rel => exact ⟨_, (true), yeq, H', ⟨by first | omega | exact Nat.le_refl _⟩, ⟨by (with_reducible repeat (first | refine ybn ?_ _ | refine ybd ?_ | refine yba ?_ _)); exact BK678.out⟩, ⟨yhb⟩⟩
  rw [if_neg c10] at H
  have c10b0 : decide ((l0_1.length : Int) ≤ a1) = false := decide_eq_false c10
  clear c10
  replace H := yif H
  obtain ⟨c14b0, H⟩ := H
  replace H := yif H
  obtain ⟨c15b0, H⟩ := H
  have H' := yam H
  clear H
  obtain ⟨hcz16_0, hcz16_1, hcz16_2, hfz16_0, hfz16_1, hfz16_2⟩ := ybc BK678.out
  go_wp2_with (first | (refine goesL_ (some 6) rfl rfl Try.func68 (by kernel_rfl) rfl #[.agg #[.int .i64 a0_0, .slice A0_1 l0_1.length c0_1, .slice A0_2 l0_2.length c0_2]] rfl ymd ?_; (with_reducible refine (impl_onlyOne.calls k a0_0 _ _ l0_1 _ _ l0_2 true _ ?side1 ?side2 ?side3 ?side4 A5.out).mono ?_); (case side1 => exact Kd.Cz ((Kd.C_below HR0_1.out HB.out))); (case side2 => exact HC0_1.out); (case side3 => exact Kd.Cz ((Kd.C_below HR0_2.out HB.out))); (case side4 => exact HC0_2.out); rintro e w17 ⟨rfl, hb⟩; refine ⟨_, rfl, ?_⟩; have n0_ := yam (blk_below (g := gb678) (o := .cells #[.int .i64 a0_0, .slice A0_1 l0_1.length c0_1, .slice A0_2 l0_2.length c0_2] 37 (0, 0)) (ybz BK678.out) hb); have n1_ := yam (below_step yhb hb); clear BK678; clear HB; have BK678 := n0_; have HB := n1_; clear n0_ n1_; (try clear hb); (try clear hb2); (try clear hk); (try clear hi); obtain ⟨hcz18_0, hcz18_1, hcz18_2, hfz18_0, hfz18_1, hfz18_2⟩ := ybc BK678.out; have p680 : 0 ≤ (a1 : Int) := ydt; have q680 : a1 < (l0_1.length : Int) := ydt; obtain ⟨ad680, e680, hx680_0⟩ := Kd.at_int HR0_1.out a1 p680 q680; cases e680; replace hx680_0 := ybx HB.out hx680_0; replace p680 := eq_true p680; replace q680 := eq_true q680))
  go_meet
  case rel => exact ⟨_, (((rd l0_1 a1) == 0)), yeq, H', ⟨by first | omega | exact Nat.le_refl _⟩, ⟨by (with_reducible repeat (first | refine ybn ?_ _ | refine ybd ?_ | refine yba ?_ _)); exact BK678.out⟩, ⟨yhb⟩⟩
 case rest =>
  clear HC3
  try clear c1
  try clear p2
  try clear c3
  try clear c6
  try clear p6
  try clear q6
  try clear hx6
  try clear c7
  try clear c7b0
  try clear c10
  try clear c10b0
  try clear c14
  try clear c14b0
  try clear c15
  try clear c15b0
  try clear hcz11_0
  try clear hcz11_1
  try clear hcz11_2
  try clear hcz13_0
  try clear hcz13_1
  try clear hcz13_2
  try clear hcz16_0
  try clear hcz16_1
  try clear hcz16_2
  try clear hcz18_0
  try clear hcz18_1
  try clear hcz18_2
  try clear hcz19_0
  try clear hcz19_1
  try clear hcz19_2
  try clear hcz8_0
  try clear hcz8_1
  try clear hcz8_2
  try clear hfz11_0
  try clear hfz11_1
  try clear hfz11_2
  try clear hfz13_0
  try clear hfz13_1
  try clear hfz13_2
  try clear hfz16_0
  try clear hfz16_1
  try clear hfz16_2
  try clear hfz18_0
  try clear hfz18_1
  try clear hfz18_2
  try clear hfz19_0
  try clear hfz19_1
  try clear hfz19_2
  try clear hfz8_0
  try clear hfz8_1
  try clear hfz8_2
  try clear hx680_0
  try clear p680
  try clear q680
  obtain ⟨kq, x26_2, rfl, HA, HJ2, BK678, HB⟩ := hcut
  cases kq with
  | zero => exact absurd HA.out (by simp [impl_IsRedundant.j0])
  | succ kj2 =>
   have H := HA.out
   clear HA
   simp only [impl_IsRedundant.j0] at H
   by_cases c21 : x26_2 = true
   ·subst c21
    have H1 : (some false) = some r := by rw [if_pos rfl] at H; exact H
    clear H
    have H := H1
    clear H1
    obtain rfl := Option.some.inj H
    go_wp2
    go_ret
    exact ⟨yer, yhb⟩
   replace c21 := Bool.eq_false_iff.mpr c21
   subst c21
   have H1 : ((impl_without.f kj2 a0_0 l0_1 l0_2 (([a1] : List Int))).bind fun bt684 => ((impl_onlyOne.f kj2 bt684.1 bt684.2.1 bt684.2.2).bind fun t691 => (some t691))) = some r := by rw [if_neg (show ¬ (false = true) by decide)] at H; exact H
   clear H
   have H := H1
   clear H1
   obtain ⟨y681, hy681⟩ : ∃ y_ : List Int, y_ = (([a1] : List Int)) := ⟨_, rfl⟩
   replace H : ((impl_without.f kj2 a0_0 l0_1 l0_2 y681).bind fun bt684 => ((impl_onlyOne.f kj2 bt684.1 bt684.2.1 bt684.2.2).bind fun t691 => (some t691))) = some r := by first | (rw [hy681]; with_reducible exact H) | (have H2_ := (Option.bind_some _ _).symm.trans H; rw [hy681]; with_reducible exact H2_) | (have H2_ := (Option.bind_some _ _).symm.trans H; with_reducible exact H2_) | with_reducible exact H | (rw [hy681]; exact H) | exact H
   have Ny681 := yam hy681
   clear hy681
   replace H := Option.bind_eq_some_iff.mp H
   obtain ⟨⟨t684, t685, t688⟩, A220, H⟩ := H
   try dsimp only at H
   have A22 := yam A220
   clear A220
   replace H := Option.bind_eq_some_iff.mp H
   obtain ⟨t691, A230, H⟩ := H
   try dsimp only at H
   have A23 := yam A230
   clear A230
   obtain rfl := Option.some.inj H
   obtain ⟨hcz24_0, hcz24_1, hcz24_2, hfz24_0, hfz24_1, hfz24_2⟩ := ybc BK678.out
   go_wp2_with (first | ((with_reducible refine gate_dst (N := 29) rfl ?_); (try (refine gate_guard (by rfl) ?_; dsimp only)); refine Kd.R_lit (Kd.int .i64) _ 3 ?hg (N := 29) ?hd (xs := ([a1] : List Int)) (inner := [.int .i64 a1]) (ok := fun _ => True) (okp := fun _ => True) ?hr ?hp (fun _ hk => hk) trivial (Below.refl _ _) (Nat.le_refl _) (by simp) ?_; (case hd => rfl); (case hg => rfl); (case hr => first | (go_simp; done) | (go_simp; rfl)); (case hp => exact (Reps.one (show Kd.M (Kd.int .i64) _ _ _ a1 [.int .i64 a1] from rfl) (Reps.none _ _))); intro v682 w25 ho26 hb hg_ hnew_; clear hg_ hnew_; (first | rw [← Ny681.out] at ho26 | (simp only [Int.reduceToNat] at ho26; rw [← Ny681.out] at ho26)); have n0_ := yam (Kd.R_lower ho26 (below_size yhb)); have n1_ := yam (blk_below (g := gb678) (o := .cells #[.int .i64 a0_0, .slice A0_1 l0_1.length c0_1, .slice A0_2 l0_2.length c0_2] 37 (0, 0)) (ybz BK678.out) hb); have n2_ := yam (below_step yhb hb); clear BK678; clear HB; have HO683 := n0_; have BK678 := n1_; have HB := n2_; clear n0_ n1_ n2_; clear hb ho26; obtain ⟨Ao27, co27, eo27⟩ := Kd.R_slice HO683.out; subst eo27) | (refine goesL_ (some 30) rfl rfl Try.func69 (by kernel_rfl) rfl #[.agg #[.int .i64 a0_0, .slice A0_1 l0_1.length c0_1, .slice A0_2 l0_2.length c0_2], .slice Ao27 y681.length co27] rfl ymd ?_; (with_reducible refine (impl_without.calls kj2 a0_0 _ _ l0_1 _ _ l0_2 _ _ y681 t684 t685 t688 _ ?side1 ?side2 ?side3 ?side4 ?side5 ?side6 A22.out).mono ?_); (case side1 => exact Kd.Cz ((Kd.C_below HR0_1.out HB.out))); (case side2 => exact HC0_1.out); (case side3 => exact Kd.Cz ((Kd.C_below HR0_2.out HB.out))); (case side4 => exact HC0_2.out); (case side5 => repeat (first | exact (Kd.Yr HO683.out).2.2 | (with_reducible refine Kd.C_alloc ?_ _) | (with_reducible refine Kd.C_drewN ?_ _) | (with_reducible refine Kd.C_drew ?_))); (case side6 => exact (Kd.Yr HO683.out).2.1); rintro e w28 ⟨v686, v689, rfl, ho0, ho1, hb⟩; refine ⟨_, rfl, ?_⟩; have n0_ := yam (Kd.Ye (Kd.Yz HO683.out) (Kd.Yb ho0) hb); have n1_ := yam (Kd.R_lower (Kd.Yw ho0 (Kd.R_lt (Kd.Yz HO683.out))) (below_size yhb)); have n2_ := yam (Kd.S_lower (Kd.S_new' ho1 (Kd.R_lt (Kd.Yz HO683.out))) (below_size yhb)); have n3_ := yam (blk_below (g := gb678) (o := .cells #[.int .i64 a0_0, .slice A0_1 l0_1.length c0_1, .slice A0_2 l0_2.length c0_2] 37 (0, 0)) (ybz BK678.out) hb); have n4_ := yam (below_step yhb hb); clear HO683; clear BK678; clear HB; have HO683 := n0_; have HO687 := n1_; have HO690 := n2_; have BK678 := n3_; have HB := n4_; clear n0_ n1_ n2_ n3_ n4_; (try clear hb); (try clear hb2); (try clear hk); (try clear hi); (try clear ho0); (try clear ho1); obtain ⟨Ao29, co29, eo29⟩ := Kd.R_slice HO687.out; subst eo29; obtain ⟨Ao30, co30, eo30⟩ := Kd.S_slice HO690.out; subst eo30) | (refine goesL_ (some 31) rfl rfl Try.func68 (by kernel_rfl) rfl #[.agg #[.int .i64 t684, .slice Ao29 t685.length co29, .slice Ao30 t688.length co30]] rfl ymd ?_; (with_reducible refine (impl_onlyOne.calls kj2 t684 _ _ t685 _ _ t688 t691 _ ?side1 ?side2 ?side3 ?side4 A23.out).mono ?_); (case side1 => repeat (first | exact (Kd.Yr HO687.out).2.2 | (with_reducible refine Kd.C_alloc ?_ _) | (with_reducible refine Kd.C_drewN ?_ _) | (with_reducible refine Kd.C_drew ?_))); (case side2 => exact (Kd.Yr HO687.out).2.1); (case side3 => repeat (first | exact (Kd.S_reads' HO690.out).2.2 | (with_reducible refine Kd.C_alloc ?_ _) | (with_reducible refine Kd.C_drewN ?_ _) | (with_reducible refine Kd.C_drew ?_))); (case side4 => exact (Kd.S_reads' HO690.out).2.1); rintro e w31 ⟨rfl, hb⟩; refine ⟨_, rfl, ?_⟩; have n0_ := yam (Kd.R_below (Kd.Yz HO683.out) hb); have n1_ := yam (Kd.R_below (Kd.Yz HO687.out) hb); have n2_ := yam (Kd.S_below (by (with_reducible repeat (first | apply Kd.S_alloc | apply Kd.S_drewN | apply Kd.S_drew)); exact HO690.out) hb); have n3_ := yam (blk_below (g := gb678) (o := .cells #[.int .i64 a0_0, .slice A0_1 l0_1.length c0_1, .slice A0_2 l0_2.length c0_2] 37 (0, 0)) (ybz BK678.out) hb); have n4_ := yam (below_step yhb hb); clear HO683; clear HO687; clear HO690; clear BK678; clear HB; have HO683 := n0_; have HO687 := n1_; have HO690 := n2_; have BK678 := n3_; have HB := n4_; clear n0_ n1_ n2_ n3_ n4_; (try clear hb); (try clear hb2); (try clear hk); (try clear hi)))
   go_ret
   exact ⟨yer, yhb⟩
def laws_FnExactIsRedundant.f (k : Nat) (a0_0 : Int) (l0_1 : List Int) (l0_2 : List (S70)) (a1 : Int) : Option (Bool) := (laws_szPuzzle.f k a0_0 l0_1 l0_2 1048576).bind fun t693 => (if t693 < 0 then (some true) else ((laws_toPuzzle.f k a0_0 l0_1 l0_2).bind fun bt694 => ((spec_IsRedundant.f k bt694.1 bt694.2.1 bt694.2.2 a1).bind fun t701 => ((laws_toPuzzle.f k a0_0 l0_1 l0_2).bind fun bt702 => ((impl_IsRedundant.f k bt702.1 bt702.2.1 bt702.2.2 a1).bind fun t710 => (if (t710 != t701) = true then (some false) else ((laws_toPuzzle.f k a0_0 l0_1 l0_2).bind fun bt711 => ((laws_eqPuzzle.f k bt702.1 bt702.2.1 bt702.2.2 bt711.1 bt711.2.1 bt711.2.2).bind fun t718 => (if t718 = true then (some true) else (some false))))))))))
set_option maxHeartbeats 8000000 in
set_option maxRecDepth 100000 in
theorem laws_FnExactIsRedundant.calls (k : Nat) (a0_0 : Int) (A0_1 : Option Addr) (c0_1 : Nat) (l0_1 : List Int) (A0_2 : Option Addr) (c0_2 : Nat) (l0_2 : List (S70)) (a1 : Int) (r : Bool) (w : World) (hr0_1 : Kd.C (Kd.int .i64) w A0_1 l0_1.length l0_1) (hc0_1 : l0_1.length ≤ c0_1) (hr0_2 : Kd.C k70 w A0_2 l0_2.length l0_2) (hc0_2 : l0_2.length ≤ c0_2) (h : laws_FnExactIsRedundant.f k a0_0 l0_1 l0_2 a1 = some r) :
  Calls Try.prog 7 #[.agg #[.int .i64 a0_0, .slice A0_1 l0_1.length c0_1, .slice A0_2 l0_2.length c0_2], .int .i64 a1] w fun e w' => e = .returned (.bool r) ∧ Below w.heap.size w w' := by
 have hu48 := Try.underlying48
 have hu37 := Try.underlying37
 have HR0_1 := yam hr0_1
 have HC0_1 := yam hc0_1
 clear hr0_1 hc0_1
 have HR0_2 := yam hr0_2
 have HC0_2 := yam hc0_2
 clear hr0_2 hc0_2
 have HB := yam (Below.refl w.heap.size w)
 have H : ((laws_szPuzzle.f k a0_0 l0_1 l0_2 1048576).bind fun t693 => (if t693 < 0 then (some true) else ((laws_toPuzzle.f k a0_0 l0_1 l0_2).bind fun bt694 => ((spec_IsRedundant.f k bt694.1 bt694.2.1 bt694.2.2 a1).bind fun t701 => ((laws_toPuzzle.f k a0_0 l0_1 l0_2).bind fun bt702 => ((impl_IsRedundant.f k bt702.1 bt702.2.1 bt702.2.2 a1).bind fun t710 => (if (t710 != t701) = true then (some false) else ((laws_toPuzzle.f k a0_0 l0_1 l0_2).bind fun bt711 => ((laws_eqPuzzle.f k bt702.1 bt702.2.1 bt702.2.2 bt711.1 bt711.2.1 bt711.2.2).bind fun t718 => (if t718 = true then (some true) else (some false))))))))))) = some r := h
 clear h
 replace H := Option.bind_eq_some_iff.mp H
 obtain ⟨t693, A30, H⟩ := H
 try dsimp only at H
 have A3 := yam A30
 clear A30
 by_cases c4 : t693 < 0
 ·rw [if_pos c4] at H
  have c4b0 : decide (t693 < 0) = true := decide_eq_true c4
  clear c4
  obtain rfl := Option.some.inj H
  go_enter Try.func7, Try.ntmps7
  go_wp2_with (first | (refine ybe 2 #[.int .i64 a0_0, .slice A0_1 l0_1.length c0_1, .slice A0_2 l0_2.length c0_2] 48 ?_; intro gb692 hg w5 hbox hb; have n0_ := yam (below_step (yez HB.out) hb); have n1_ := yam (hbox); have n2_ := yam ((by rw [hg]; exact (below_size (yez HB.out)) : w.heap.size ≤ gb692)); have n3_ := n2_; clear HB; have HB := n0_; have BK692 := n1_; have GW692 := n2_; have GE692 := n3_; clear n0_ n1_ n2_ n3_; clear hb hbox hg; obtain ⟨hcz6_0, hcz6_1, hcz6_2, hfz6_0, hfz6_1, hfz6_2⟩ := ybc BK692.out) | (refine goesL_ (some 11) rfl rfl Try.func30 (by kernel_rfl) rfl #[.agg #[.int .i64 a0_0, .slice A0_1 l0_1.length c0_1, .slice A0_2 l0_2.length c0_2], .int .i64 1048576] rfl ymd ?_; (with_reducible refine (laws_szPuzzle.calls k a0_0 _ _ l0_1 _ _ l0_2 1048576 t693 _ ?side1 ?side2 ?side3 ?side4 A3.out).mono ?_); (case side1 => exact Kd.Cz ((Kd.C_below HR0_1.out HB.out))); (case side2 => exact HC0_1.out); (case side3 => exact Kd.Cz ((Kd.C_below HR0_2.out HB.out))); (case side4 => exact HC0_2.out); rintro e w7 ⟨rfl, hb⟩; refine ⟨_, rfl, ?_⟩; have n0_ := yam (blk_below (g := gb692) (o := .cells #[.int .i64 a0_0, .slice A0_1 l0_1.length c0_1, .slice A0_2 l0_2.length c0_2] 48 (0, 0)) (ybz BK692.out) hb); have n1_ := yam (below_step yhb hb); clear BK692; clear HB; have BK692 := n0_; have HB := n1_; clear n0_ n1_; (try clear hb); (try clear hb2); (try clear hk); (try clear hi)))
  go_ret
  exact ⟨yer, yhb⟩
 rw [if_neg c4] at H
 have c4b0 : decide (t693 < 0) = false := decide_eq_false c4
 clear c4
 replace H := Option.bind_eq_some_iff.mp H
 obtain ⟨⟨t694, t695, t698⟩, A80, H⟩ := H
 try dsimp only at H
 have A8 := yam A80
 clear A80
 replace H := Option.bind_eq_some_iff.mp H
 obtain ⟨t701, A90, H⟩ := H
 try dsimp only at H
 have A9 := yam A90
 clear A90
 replace H := Option.bind_eq_some_iff.mp H
 obtain ⟨⟨t702, t703, t706⟩, A100, H⟩ := H
 try dsimp only at H
 have A10 := yam A100
 clear A100
 replace H := Option.bind_eq_some_iff.mp H
 obtain ⟨t710, A110, H⟩ := H
 try dsimp only at H
 have A11 := yam A110
 clear A110
 by_cases c12 : (t710 != t701) = true
 ·rw [if_pos c12] at H
  have c12b0 : (t710 != t701) = true := c12
  (try (have c12b1 : decide (t710 = t701) = false := by simpa using c12))
  (try (have c12b2 : (t710 == t701) = false := by simpa using c12))
  (try (have c12b3 : ¬ (t710 = t701) := by simpa using c12))
  clear c12
  obtain rfl := Option.some.inj H
  go_enter Try.func7, Try.ntmps7
  go_wp2_with (first | (refine ybe 2 #[.int .i64 a0_0, .slice A0_1 l0_1.length c0_1, .slice A0_2 l0_2.length c0_2] 48 ?_; intro gb692 hg w13 hbox hb; have n0_ := yam (below_step (yez HB.out) hb); have n1_ := yam (hbox); have n2_ := yam ((by rw [hg]; exact (below_size (yez HB.out)) : w.heap.size ≤ gb692)); have n3_ := n2_; clear HB; have HB := n0_; have BK692 := n1_; have GW692 := n2_; have GE692 := n3_; clear n0_ n1_ n2_ n3_; clear hb hbox hg; obtain ⟨hcz14_0, hcz14_1, hcz14_2, hfz14_0, hfz14_1, hfz14_2⟩ := ybc BK692.out) | (refine goesL_ (some 11) rfl rfl Try.func30 (by kernel_rfl) rfl #[.agg #[.int .i64 a0_0, .slice A0_1 l0_1.length c0_1, .slice A0_2 l0_2.length c0_2], .int .i64 1048576] rfl ymd ?_; (with_reducible refine (laws_szPuzzle.calls k a0_0 _ _ l0_1 _ _ l0_2 1048576 t693 _ ?side1 ?side2 ?side3 ?side4 A3.out).mono ?_); (case side1 => exact Kd.Cz ((Kd.C_below HR0_1.out HB.out))); (case side2 => exact HC0_1.out); (case side3 => exact Kd.Cz ((Kd.C_below HR0_2.out HB.out))); (case side4 => exact HC0_2.out); rintro e w15 ⟨rfl, hb⟩; refine ⟨_, rfl, ?_⟩; have n0_ := yam (blk_below (g := gb692) (o := .cells #[.int .i64 a0_0, .slice A0_1 l0_1.length c0_1, .slice A0_2 l0_2.length c0_2] 48 (0, 0)) (ybz BK692.out) hb); have n1_ := yam (below_step yhb hb); clear BK692; clear HB; have BK692 := n0_; have HB := n1_; clear n0_ n1_; (try clear hb); (try clear hb2); (try clear hk); (try clear hi); obtain ⟨hcz16_0, hcz16_1, hcz16_2, hfz16_0, hfz16_1, hfz16_2⟩ := ybc BK692.out) | (refine goesL_ (some 15) rfl rfl Try.func32 (by kernel_rfl) rfl #[.agg #[.int .i64 a0_0, .slice A0_1 l0_1.length c0_1, .slice A0_2 l0_2.length c0_2]] rfl ymd ?_; (with_reducible refine (laws_toPuzzle.calls k a0_0 _ _ l0_1 _ _ l0_2 t694 t695 t698 _ ?side1 ?side2 ?side3 ?side4 A8.out).mono ?_); (case side1 => exact Kd.Cz ((Kd.C_below HR0_1.out HB.out))); (case side2 => exact HC0_1.out); (case side3 => exact Kd.Cz ((Kd.C_below HR0_2.out HB.out))); (case side4 => exact HC0_2.out); rintro e w17 ⟨v696, v699, rfl, ho0, ho1, hb⟩; refine ⟨_, rfl, ?_⟩; have n0_ := yam (Kd.R_lower ho0 (below_size yhb)); have n1_ := yam (Kd.S_lower ho1 (below_size yhb)); have n2_ := yam (blk_below (g := gb692) (o := .cells #[.int .i64 a0_0, .slice A0_1 l0_1.length c0_1, .slice A0_2 l0_2.length c0_2] 48 (0, 0)) (ybz BK692.out) hb); have n3_ := yam (below_step yhb hb); clear BK692; clear HB; have HO697 := n0_; have HO700 := n1_; have BK692 := n2_; have HB := n3_; clear n0_ n1_ n2_ n3_; (try clear hb); (try clear hb2); (try clear hk); (try clear hi); (try clear ho0); (try clear ho1); obtain ⟨Ao18, co18, eo18⟩ := Kd.R_slice HO697.out; subst eo18; obtain ⟨Ao19, co19, eo19⟩ := Kd.S_slice HO700.out; subst eo19) | (refine goesL_ (some 17) rfl rfl Try.func34 (by kernel_rfl) rfl #[.agg #[.int .i64 t694, .slice Ao18 t695.length co18, .slice Ao19 t698.length co19], .int .i64 a1] rfl ymd ?_; (with_reducible refine (spec_IsRedundant.calls k t694 _ _ t695 _ _ t698 a1 t701 _ ?side1 ?side2 ?side3 ?side4 A9.out).mono ?_); (case side1 => repeat (first | exact (Kd.Yr HO697.out).2.2 | (with_reducible refine Kd.C_alloc ?_ _) | (with_reducible refine Kd.C_drewN ?_ _) | (with_reducible refine Kd.C_drew ?_))); (case side2 => exact (Kd.Yr HO697.out).2.1); (case side3 => repeat (first | exact (Kd.S_reads' HO700.out).2.2 | (with_reducible refine Kd.C_alloc ?_ _) | (with_reducible refine Kd.C_drewN ?_ _) | (with_reducible refine Kd.C_drew ?_))); (case side4 => exact (Kd.S_reads' HO700.out).2.1); rintro e w20 ⟨rfl, hb⟩; refine ⟨_, rfl, ?_⟩; have n0_ := yam (Kd.R_below (Kd.Yz HO697.out) hb); have n1_ := yam (Kd.S_below (by (with_reducible repeat (first | apply Kd.S_alloc | apply Kd.S_drewN | apply Kd.S_drew)); exact HO700.out) hb); have n2_ := yam (blk_below (g := gb692) (o := .cells #[.int .i64 a0_0, .slice A0_1 l0_1.length c0_1, .slice A0_2 l0_2.length c0_2] 48 (0, 0)) (ybz BK692.out) hb); have n3_ := yam (below_step yhb hb); clear HO697; clear HO700; clear BK692; clear HB; have HO697 := n0_; have HO700 := n1_; have BK692 := n2_; have HB := n3_; clear n0_ n1_ n2_ n3_; (try clear hb); (try clear hb2); (try clear hk); (try clear hi); obtain ⟨hcz21_0, hcz21_1, hcz21_2, hfz21_0, hfz21_1, hfz21_2⟩ := ybc BK692.out) | (refine goesL_ (some 19) rfl rfl Try.func32 (by kernel_rfl) rfl #[.agg #[.int .i64 a0_0, .slice A0_1 l0_1.length c0_1, .slice A0_2 l0_2.length c0_2]] rfl ymd ?_; (with_reducible refine (laws_toPuzzle.calls k a0_0 _ _ l0_1 _ _ l0_2 t702 t703 t706 _ ?side1 ?side2 ?side3 ?side4 A10.out).mono ?_); (case side1 => exact Kd.Cz ((Kd.C_below HR0_1.out HB.out))); (case side2 => exact HC0_1.out); (case side3 => exact Kd.Cz ((Kd.C_below HR0_2.out HB.out))); (case side4 => exact HC0_2.out); rintro e w22 ⟨v704, v707, rfl, ho0, ho1, hb⟩; refine ⟨_, rfl, ?_⟩; have n0_ := yam (Kd.Ye (Kd.Yz HO697.out) (Kd.Yb ho0) hb); have n1_ := yam (Kd.S_mono (Kd.S_told (Kd.S_told (Kd.S_old (by (with_reducible repeat (first | apply Kd.S_alloc | apply Kd.S_drewN | apply Kd.S_drew)); exact HO700.out) hb) (Kd.Yb ho0)) (Kd.S_base ho1)) (fun _ h_ => h_.1)); have n2_ := yam (Kd.R_lower (Kd.Yw ho0 (Kd.R_lt (Kd.Yz HO697.out))) (below_size yhb)); have n3_ := yam (Kd.S_lower (Kd.S_new' (Kd.S_new' ho1 (Kd.R_lt (Kd.Yz HO697.out))) (Kd.S_lt (by (with_reducible repeat (first | apply Kd.S_alloc | apply Kd.S_drewN | apply Kd.S_drew)); exact HO700.out))) (below_size yhb)); have n4_ := yam (blk_below (g := gb692) (o := .cells #[.int .i64 a0_0, .slice A0_1 l0_1.length c0_1, .slice A0_2 l0_2.length c0_2] 48 (0, 0)) (ybz BK692.out) hb); have n5_ := yam (below_step yhb hb); clear HO697; clear HO700; clear BK692; clear HB; have HO697 := n0_; have HO700 := n1_; have HO705 := n2_; have HO708 := n3_; have BK692 := n4_; have HB := n5_; clear n0_ n1_ n2_ n3_ n4_ n5_; (try clear hb); (try clear hb2); (try clear hk); (try clear hi); (try clear ho0); (try clear ho1)) | (refine ybe 7 #[.int .i64 0, .slice none 0 0, .slice none 0 0] 37 ?_; intro gb709 hg w23 hbox hb; have n0_ := yam (Kd.R_below (Kd.Yz HO697.out) hb); have n1_ := yam (Kd.S_below (by (with_reducible repeat (first | apply Kd.S_alloc | apply Kd.S_drewN | apply Kd.S_drew)); exact HO700.out) hb); have n2_ := yam (Kd.R_below (Kd.Yz HO705.out) hb); have n3_ := yam (Kd.S_below (by (with_reducible repeat (first | apply Kd.S_alloc | apply Kd.S_drewN | apply Kd.S_drew)); exact HO708.out) hb); have n4_ := yam (blk_below (g := gb692) (o := .cells #[.int .i64 a0_0, .slice A0_1 l0_1.length c0_1, .slice A0_2 l0_2.length c0_2] 48 (0, 0)) (ybz BK692.out) hb); have n5_ := yam (below_step yhb hb); have n6_ := yam (hbox); have n7_ := yam ((by rw [hg]; exact (below_size yhb) : w.heap.size ≤ gb709)); have n8_ := n7_; have n9_ := yam ((by rw [hg]; exact Nat.ne_of_lt (blk_lt (g := gb692) (o := .cells #[.int .i64 a0_0, .slice A0_1 l0_1.length c0_1, .slice A0_2 l0_2.length c0_2] 48 (0, 0)) (ybz BK692.out)) : gb692 ≠ gb709)); have n10_ := yam ((by rw [hg]; exact Nat.ne_of_gt (blk_lt (g := gb692) (o := .cells #[.int .i64 a0_0, .slice A0_1 l0_1.length c0_1, .slice A0_2 l0_2.length c0_2] 48 (0, 0)) (ybz BK692.out)) : gb709 ≠ gb692)); clear HO697; clear HO700; clear HO705; clear HO708; clear BK692; clear HB; have HO697 := n0_; have HO700 := n1_; have HO705 := n2_; have HO708 := n3_; have BK692 := n4_; have HB := n5_; have BK709 := n6_; have GW709 := n7_; have GE709 := n8_; have NB692_709 := n9_; have NB709_692 := n10_; clear n0_ n1_ n2_ n3_ n4_ n5_ n6_ n7_ n8_ n9_ n10_; clear hb hbox hg; have hnb24 := NB709_692.out; have hnc24 := NB692_709.out; obtain ⟨hcz25_0, hcz25_1, hcz25_2, hfz25_0, hfz25_1, hfz25_2⟩ := ybc BK709.out; obtain ⟨Ao26, co26, eo26⟩ := Kd.R_slice HO705.out; subst eo26; obtain ⟨Ao27, co27, eo27⟩ := Kd.S_slice HO708.out; subst eo27) | (refine goesL_ (some 22) rfl rfl Try.func35 (by kernel_rfl) rfl #[.agg #[.int .i64 t702, .slice Ao26 t703.length co26, .slice Ao27 t706.length co27], .int .i64 a1] rfl ymd ?_; (with_reducible refine (impl_IsRedundant.calls k t702 _ _ t703 _ _ t706 a1 t710 _ ?side1 ?side2 ?side3 ?side4 A11.out).mono ?_); (case side1 => refine (Kd.Yr (e := 3) (base := w.heap.size) (ok := fun k_ => (True ∧ some k_ ≠ (.slice Ao18 t695.length co18 : Value).ownBlock)) (n := t703.length) (c := co26) ?_).2.2; exact (by (with_reducible repeat (first | apply Kd.Ya | apply Kd.Yn | apply Kd.Yd)); exact (Kd.R_mono (Kd.R_far (p := ⟨gb709, 2, none⟩) (Kd.R_far (p := ⟨gb709, 1, none⟩) (Kd.R_far (p := ⟨gb709, 0, none⟩) (Kd.R_types HO705.out BK709.out (by decide)) (fun _ hk => hk.2) (.int .i64 t702)) (fun _ hk => hk.2) (.slice Ao26 t703.length co26)) (fun _ hk => hk.2) (.slice Ao27 t706.length co27)) (fun _ h_ => h_.1)))); (case side2 => exact (Kd.Yr HO705.out).2.1); (case side3 => refine (Kd.S_reads' (e := 73) (base := w.heap.size) (ok := fun k_ => ((some k_ ≠ (.slice Ao26 t703.length co26 : Value).ownBlock ∧ some k_ ≠ (.slice Ao18 t695.length co18 : Value).ownBlock) ∧ some k_ ≠ (.slice Ao19 t698.length co19 : Value).ownBlock)) (n := t706.length) (c := co27) ?_).2.2; exact (by (with_reducible repeat (first | apply Kd.S_alloc | apply Kd.S_drewN | apply Kd.S_drew)); exact (Kd.S_mono (Kd.S_far (p := ⟨gb709, 2, none⟩) (Kd.S_far (p := ⟨gb709, 1, none⟩) (Kd.S_far (p := ⟨gb709, 0, none⟩) (Kd.S_types HO708.out BK709.out (by decide)) (fun _ hk => hk.2) (.int .i64 t702)) (fun _ hk => hk.2) (.slice Ao26 t703.length co26)) (fun _ hk => hk.2) (.slice Ao27 t706.length co27)) (fun _ h_ => h_.1)))); (case side4 => exact (Kd.S_reads' HO708.out).2.1); rintro e w28 ⟨rfl, hb⟩; refine ⟨_, rfl, ?_⟩; have n0_ := yam (Kd.R_below (by (with_reducible repeat (first | apply Kd.Ya | apply Kd.Yn | apply Kd.Yd)); exact (Kd.R_mono (Kd.R_far (p := ⟨gb709, 2, none⟩) (Kd.R_far (p := ⟨gb709, 1, none⟩) (Kd.R_far (p := ⟨gb709, 0, none⟩) (Kd.R_types HO697.out BK709.out (by decide)) (fun _ hk => hk.2) (.int .i64 t702)) (fun _ hk => hk.2) (.slice Ao26 t703.length co26)) (fun _ hk => hk.2) (.slice Ao27 t706.length co27)) (fun _ h_ => h_.1))) hb); have n1_ := yam (Kd.S_below (by (with_reducible repeat (first | apply Kd.S_alloc | apply Kd.S_drewN | apply Kd.S_drew)); exact (Kd.S_mono (Kd.S_far (p := ⟨gb709, 2, none⟩) (Kd.S_far (p := ⟨gb709, 1, none⟩) (Kd.S_far (p := ⟨gb709, 0, none⟩) (Kd.S_types HO700.out BK709.out (by decide)) (fun _ hk => hk.2) (.int .i64 t702)) (fun _ hk => hk.2) (.slice Ao26 t703.length co26)) (fun _ hk => hk.2) (.slice Ao27 t706.length co27)) (fun _ h_ => h_.1))) hb); have n2_ := yam (Kd.R_below (by (with_reducible repeat (first | apply Kd.Ya | apply Kd.Yn | apply Kd.Yd)); exact (Kd.R_mono (Kd.R_far (p := ⟨gb709, 2, none⟩) (Kd.R_far (p := ⟨gb709, 1, none⟩) (Kd.R_far (p := ⟨gb709, 0, none⟩) (Kd.R_types HO705.out BK709.out (by decide)) (fun _ hk => hk.2) (.int .i64 t702)) (fun _ hk => hk.2) (.slice Ao26 t703.length co26)) (fun _ hk => hk.2) (.slice Ao27 t706.length co27)) (fun _ h_ => h_.1))) hb); have n3_ := yam (Kd.S_below (by (with_reducible repeat (first | apply Kd.S_alloc | apply Kd.S_drewN | apply Kd.S_drew)); exact (Kd.S_mono (Kd.S_far (p := ⟨gb709, 2, none⟩) (Kd.S_far (p := ⟨gb709, 1, none⟩) (Kd.S_far (p := ⟨gb709, 0, none⟩) (Kd.S_types HO708.out BK709.out (by decide)) (fun _ hk => hk.2) (.int .i64 t702)) (fun _ hk => hk.2) (.slice Ao26 t703.length co26)) (fun _ hk => hk.2) (.slice Ao27 t706.length co27)) (fun _ h_ => h_.1))) hb); have n4_ := yam (blk_below (g := gb692) (o := .cells #[.int .i64 a0_0, .slice A0_1 l0_1.length c0_1, .slice A0_2 l0_2.length c0_2] 48 (0, 0)) (by (with_reducible repeat (first | refine ybn ?_ _ | refine ybd ?_ | refine yba ?_ _)); refine blk_far ?_ NB692_709.out _; (with_reducible repeat (first | refine ybn ?_ _ | refine ybd ?_ | refine yba ?_ _)); refine blk_far ?_ NB692_709.out _; (with_reducible repeat (first | refine ybn ?_ _ | refine ybd ?_ | refine yba ?_ _)); refine blk_far ?_ NB692_709.out _; (with_reducible repeat (first | refine ybn ?_ _ | refine ybd ?_ | refine yba ?_ _)); exact BK692.out) hb); have n5_ := yam (blk_below (g := gb709) (o := .cells #[.int .i64 t702, .slice Ao26 t703.length co26, .slice Ao27 t706.length co27] 37 (0, 0)) (by (with_reducible repeat (first | refine ybn ?_ _ | refine ybd ?_ | refine yba ?_ _)); refine blk_put (cs := #[.int .i64 t702, .slice Ao26 t703.length co26, .slice none 0 0]) ?_ 2 _ rfl; (with_reducible repeat (first | refine ybn ?_ _ | refine ybd ?_ | refine yba ?_ _)); refine blk_put (cs := #[.int .i64 t702, .slice none 0 0, .slice none 0 0]) ?_ 1 _ rfl; (with_reducible repeat (first | refine ybn ?_ _ | refine ybd ?_ | refine yba ?_ _)); refine blk_put (cs := #[.int .i64 0, .slice none 0 0, .slice none 0 0]) ?_ 0 _ rfl; (with_reducible repeat (first | refine ybn ?_ _ | refine ybd ?_ | refine yba ?_ _)); exact BK709.out) hb); have n6_ := yam (below_step yhb hb); clear HO697; clear HO700; clear HO705; clear HO708; clear BK692; clear BK709; clear HB; have HO697 := n0_; have HO700 := n1_; have HO705 := n2_; have HO708 := n3_; have BK692 := n4_; have BK709 := n5_; have HB := n6_; clear n0_ n1_ n2_ n3_ n4_ n5_ n6_; (try clear hb); (try clear hb2); (try clear hk); (try clear hi)))
  go_ret
  exact ⟨yer, yhb⟩
 rw [if_neg c12] at H
 have c12b0 : (t710 != t701) = false := by simpa using c12
 (try (have c12b1 : decide (t710 = t701) = true := by simpa using c12))
 (try (have c12b2 : (t710 == t701) = true := by simpa using c12))
 clear c12
 replace H := Option.bind_eq_some_iff.mp H
 obtain ⟨⟨t711, t712, t715⟩, A290, H⟩ := H
 try dsimp only at H
 have A29 := yam A290
 clear A290
 replace H := Option.bind_eq_some_iff.mp H
 obtain ⟨t718, A300, H⟩ := H
 try dsimp only at H
 have A30 := yam A300
 clear A300
 by_cases c31 : t718 = true
 ·subst c31
  have H1 : (some true) = some r := by rw [if_pos rfl] at H; exact H
  clear H
  have H := H1
  clear H1
  obtain rfl := Option.some.inj H
  go_enter Try.func7, Try.ntmps7
  try go_wp2_with (first | (refine ybe 2 #[.int .i64 a0_0, .slice A0_1 l0_1.length c0_1, .slice A0_2 l0_2.length c0_2] 48 ?_; intro gb692 hg w32 hbox hb; have n0_ := yam (below_step (yez HB.out) hb); have n1_ := yam (hbox); have n2_ := yam ((by rw [hg]; exact (below_size (yez HB.out)) : w.heap.size ≤ gb692)); have n3_ := n2_; clear HB; have HB := n0_; have BK692 := n1_; have GW692 := n2_; have GE692 := n3_; clear n0_ n1_ n2_ n3_; clear hb hbox hg; obtain ⟨hcz33_0, hcz33_1, hcz33_2, hfz33_0, hfz33_1, hfz33_2⟩ := ybc BK692.out) | (refine goesL_ (some 11) rfl rfl Try.func30 (by kernel_rfl) rfl #[.agg #[.int .i64 a0_0, .slice A0_1 l0_1.length c0_1, .slice A0_2 l0_2.length c0_2], .int .i64 1048576] rfl ymd ?_; (with_reducible refine (laws_szPuzzle.calls k a0_0 _ _ l0_1 _ _ l0_2 1048576 t693 _ ?side1 ?side2 ?side3 ?side4 A3.out).mono ?_); (case side1 => exact Kd.Cz ((Kd.C_below HR0_1.out HB.out))); (case side2 => exact HC0_1.out); (case side3 => exact Kd.Cz ((Kd.C_below HR0_2.out HB.out))); (case side4 => exact HC0_2.out); rintro e w34 ⟨rfl, hb⟩; refine ⟨_, rfl, ?_⟩; have n0_ := yam (blk_below (g := gb692) (o := .cells #[.int .i64 a0_0, .slice A0_1 l0_1.length c0_1, .slice A0_2 l0_2.length c0_2] 48 (0, 0)) (ybz BK692.out) hb); have n1_ := yam (below_step yhb hb); clear BK692; clear HB; have BK692 := n0_; have HB := n1_; clear n0_ n1_; (try clear hb); (try clear hb2); (try clear hk); (try clear hi); obtain ⟨hcz35_0, hcz35_1, hcz35_2, hfz35_0, hfz35_1, hfz35_2⟩ := ybc BK692.out) | (refine goesL_ (some 15) rfl rfl Try.func32 (by kernel_rfl) rfl #[.agg #[.int .i64 a0_0, .slice A0_1 l0_1.length c0_1, .slice A0_2 l0_2.length c0_2]] rfl ymd ?_; (with_reducible refine (laws_toPuzzle.calls k a0_0 _ _ l0_1 _ _ l0_2 t694 t695 t698 _ ?side1 ?side2 ?side3 ?side4 A8.out).mono ?_); (case side1 => exact Kd.Cz ((Kd.C_below HR0_1.out HB.out))); (case side2 => exact HC0_1.out); (case side3 => exact Kd.Cz ((Kd.C_below HR0_2.out HB.out))); (case side4 => exact HC0_2.out); rintro e w36 ⟨v696, v699, rfl, ho0, ho1, hb⟩; refine ⟨_, rfl, ?_⟩; have n0_ := yam (Kd.R_lower ho0 (below_size yhb)); have n1_ := yam (Kd.S_lower ho1 (below_size yhb)); have n2_ := yam (blk_below (g := gb692) (o := .cells #[.int .i64 a0_0, .slice A0_1 l0_1.length c0_1, .slice A0_2 l0_2.length c0_2] 48 (0, 0)) (ybz BK692.out) hb); have n3_ := yam (below_step yhb hb); clear BK692; clear HB; have HO697 := n0_; have HO700 := n1_; have BK692 := n2_; have HB := n3_; clear n0_ n1_ n2_ n3_; (try clear hb); (try clear hb2); (try clear hk); (try clear hi); (try clear ho0); (try clear ho1); obtain ⟨Ao37, co37, eo37⟩ := Kd.R_slice HO697.out; subst eo37; obtain ⟨Ao38, co38, eo38⟩ := Kd.S_slice HO700.out; subst eo38) | (refine goesL_ (some 17) rfl rfl Try.func34 (by kernel_rfl) rfl #[.agg #[.int .i64 t694, .slice Ao37 t695.length co37, .slice Ao38 t698.length co38], .int .i64 a1] rfl ymd ?_; (with_reducible refine (spec_IsRedundant.calls k t694 _ _ t695 _ _ t698 a1 t701 _ ?side1 ?side2 ?side3 ?side4 A9.out).mono ?_); (case side1 => repeat (first | exact (Kd.Yr HO697.out).2.2 | (with_reducible refine Kd.C_alloc ?_ _) | (with_reducible refine Kd.C_drewN ?_ _) | (with_reducible refine Kd.C_drew ?_))); (case side2 => exact (Kd.Yr HO697.out).2.1); (case side3 => repeat (first | exact (Kd.S_reads' HO700.out).2.2 | (with_reducible refine Kd.C_alloc ?_ _) | (with_reducible refine Kd.C_drewN ?_ _) | (with_reducible refine Kd.C_drew ?_))); (case side4 => exact (Kd.S_reads' HO700.out).2.1); rintro e w39 ⟨rfl, hb⟩; refine ⟨_, rfl, ?_⟩; have n0_ := yam (Kd.R_below (Kd.Yz HO697.out) hb); have n1_ := yam (Kd.S_below (by (with_reducible repeat (first | apply Kd.S_alloc | apply Kd.S_drewN | apply Kd.S_drew)); exact HO700.out) hb); have n2_ := yam (blk_below (g := gb692) (o := .cells #[.int .i64 a0_0, .slice A0_1 l0_1.length c0_1, .slice A0_2 l0_2.length c0_2] 48 (0, 0)) (ybz BK692.out) hb); have n3_ := yam (below_step yhb hb); clear HO697; clear HO700; clear BK692; clear HB; have HO697 := n0_; have HO700 := n1_; have BK692 := n2_; have HB := n3_; clear n0_ n1_ n2_ n3_; (try clear hb); (try clear hb2); (try clear hk); (try clear hi); obtain ⟨hcz40_0, hcz40_1, hcz40_2, hfz40_0, hfz40_1, hfz40_2⟩ := ybc BK692.out) | (refine goesL_ (some 19) rfl rfl Try.func32 (by kernel_rfl) rfl #[.agg #[.int .i64 a0_0, .slice A0_1 l0_1.length c0_1, .slice A0_2 l0_2.length c0_2]] rfl ymd ?_; (with_reducible refine (laws_toPuzzle.calls k a0_0 _ _ l0_1 _ _ l0_2 t702 t703 t706 _ ?side1 ?side2 ?side3 ?side4 A10.out).mono ?_); (case side1 => exact Kd.Cz ((Kd.C_below HR0_1.out HB.out))); (case side2 => exact HC0_1.out); (case side3 => exact Kd.Cz ((Kd.C_below HR0_2.out HB.out))); (case side4 => exact HC0_2.out); rintro e w41 ⟨v704, v707, rfl, ho0, ho1, hb⟩; refine ⟨_, rfl, ?_⟩; have n0_ := yam (Kd.Ye (Kd.Yz HO697.out) (Kd.Yb ho0) hb); have n1_ := yam (Kd.S_mono (Kd.S_told (Kd.S_told (Kd.S_old (by (with_reducible repeat (first | apply Kd.S_alloc | apply Kd.S_drewN | apply Kd.S_drew)); exact HO700.out) hb) (Kd.Yb ho0)) (Kd.S_base ho1)) (fun _ h_ => h_.1)); have n2_ := yam (Kd.R_lower (Kd.Yw ho0 (Kd.R_lt (Kd.Yz HO697.out))) (below_size yhb)); have n3_ := yam (Kd.S_lower (Kd.S_new' (Kd.S_new' ho1 (Kd.R_lt (Kd.Yz HO697.out))) (Kd.S_lt (by (with_reducible repeat (first | apply Kd.S_alloc | apply Kd.S_drewN | apply Kd.S_drew)); exact HO700.out))) (below_size yhb)); have n4_ := yam (blk_below (g := gb692) (o := .cells #[.int .i64 a0_0, .slice A0_1 l0_1.length c0_1, .slice A0_2 l0_2.length c0_2] 48 (0, 0)) (ybz BK692.out) hb); have n5_ := yam (below_step yhb hb); clear HO697; clear HO700; clear BK692; clear HB; have HO697 := n0_; have HO700 := n1_; have HO705 := n2_; have HO708 := n3_; have BK692 := n4_; have HB := n5_; clear n0_ n1_ n2_ n3_ n4_ n5_; (try clear hb); (try clear hb2); (try clear hk); (try clear hi); (try clear ho0); (try clear ho1)) | (refine ybe 7 #[.int .i64 0, .slice none 0 0, .slice none 0 0] 37 ?_; intro gb709 hg w42 hbox hb; have n0_ := yam (Kd.R_below (Kd.Yz HO697.out) hb); have n1_ := yam (Kd.S_below (by (with_reducible repeat (first | apply Kd.S_alloc | apply Kd.S_drewN | apply Kd.S_drew)); exact HO700.out) hb); have n2_ := yam (Kd.R_below (Kd.Yz HO705.out) hb); have n3_ := yam (Kd.S_below (by (with_reducible repeat (first | apply Kd.S_alloc | apply Kd.S_drewN | apply Kd.S_drew)); exact HO708.out) hb); have n4_ := yam (blk_below (g := gb692) (o := .cells #[.int .i64 a0_0, .slice A0_1 l0_1.length c0_1, .slice A0_2 l0_2.length c0_2] 48 (0, 0)) (ybz BK692.out) hb); have n5_ := yam (below_step yhb hb); have n6_ := yam (hbox); have n7_ := yam ((by rw [hg]; exact (below_size yhb) : w.heap.size ≤ gb709)); have n8_ := n7_; have n9_ := yam ((by rw [hg]; exact Nat.ne_of_lt (blk_lt (g := gb692) (o := .cells #[.int .i64 a0_0, .slice A0_1 l0_1.length c0_1, .slice A0_2 l0_2.length c0_2] 48 (0, 0)) (ybz BK692.out)) : gb692 ≠ gb709)); have n10_ := yam ((by rw [hg]; exact Nat.ne_of_gt (blk_lt (g := gb692) (o := .cells #[.int .i64 a0_0, .slice A0_1 l0_1.length c0_1, .slice A0_2 l0_2.length c0_2] 48 (0, 0)) (ybz BK692.out)) : gb709 ≠ gb692)); clear HO697; clear HO700; clear HO705; clear HO708; clear BK692; clear HB; have HO697 := n0_; have HO700 := n1_; have HO705 := n2_; have HO708 := n3_; have BK692 := n4_; have HB := n5_; have BK709 := n6_; have GW709 := n7_; have GE709 := n8_; have NB692_709 := n9_; have NB709_692 := n10_; clear n0_ n1_ n2_ n3_ n4_ n5_ n6_ n7_ n8_ n9_ n10_; clear hb hbox hg; have hnb43 := NB709_692.out; have hnc43 := NB692_709.out; obtain ⟨hcz44_0, hcz44_1, hcz44_2, hfz44_0, hfz44_1, hfz44_2⟩ := ybc BK709.out; obtain ⟨Ao45, co45, eo45⟩ := Kd.R_slice HO705.out; subst eo45; obtain ⟨Ao46, co46, eo46⟩ := Kd.S_slice HO708.out; subst eo46) | (refine goesL_ (some 22) rfl rfl Try.func35 (by kernel_rfl) rfl #[.agg #[.int .i64 t702, .slice Ao45 t703.length co45, .slice Ao46 t706.length co46], .int .i64 a1] rfl ymd ?_; (with_reducible refine (impl_IsRedundant.calls k t702 _ _ t703 _ _ t706 a1 t710 _ ?side1 ?side2 ?side3 ?side4 A11.out).mono ?_); (case side1 => refine (Kd.Yr (e := 3) (base := w.heap.size) (ok := fun k_ => (True ∧ some k_ ≠ (.slice Ao37 t695.length co37 : Value).ownBlock)) (n := t703.length) (c := co45) ?_).2.2; exact (by (with_reducible repeat (first | apply Kd.Ya | apply Kd.Yn | apply Kd.Yd)); exact (Kd.R_mono (Kd.R_far (p := ⟨gb709, 2, none⟩) (Kd.R_far (p := ⟨gb709, 1, none⟩) (Kd.R_far (p := ⟨gb709, 0, none⟩) (Kd.R_types HO705.out BK709.out (by decide)) (fun _ hk => hk.2) (.int .i64 t702)) (fun _ hk => hk.2) (.slice Ao45 t703.length co45)) (fun _ hk => hk.2) (.slice Ao46 t706.length co46)) (fun _ h_ => h_.1)))); (case side2 => exact (Kd.Yr HO705.out).2.1); (case side3 => refine (Kd.S_reads' (e := 73) (base := w.heap.size) (ok := fun k_ => ((some k_ ≠ (.slice Ao45 t703.length co45 : Value).ownBlock ∧ some k_ ≠ (.slice Ao37 t695.length co37 : Value).ownBlock) ∧ some k_ ≠ (.slice Ao38 t698.length co38 : Value).ownBlock)) (n := t706.length) (c := co46) ?_).2.2; exact (by (with_reducible repeat (first | apply Kd.S_alloc | apply Kd.S_drewN | apply Kd.S_drew)); exact (Kd.S_mono (Kd.S_far (p := ⟨gb709, 2, none⟩) (Kd.S_far (p := ⟨gb709, 1, none⟩) (Kd.S_far (p := ⟨gb709, 0, none⟩) (Kd.S_types HO708.out BK709.out (by decide)) (fun _ hk => hk.2) (.int .i64 t702)) (fun _ hk => hk.2) (.slice Ao45 t703.length co45)) (fun _ hk => hk.2) (.slice Ao46 t706.length co46)) (fun _ h_ => h_.1)))); (case side4 => exact (Kd.S_reads' HO708.out).2.1); rintro e w47 ⟨rfl, hb⟩; refine ⟨_, rfl, ?_⟩; have n0_ := yam (Kd.R_below (by (with_reducible repeat (first | apply Kd.Ya | apply Kd.Yn | apply Kd.Yd)); exact (Kd.R_mono (Kd.R_far (p := ⟨gb709, 2, none⟩) (Kd.R_far (p := ⟨gb709, 1, none⟩) (Kd.R_far (p := ⟨gb709, 0, none⟩) (Kd.R_types HO697.out BK709.out (by decide)) (fun _ hk => hk.2) (.int .i64 t702)) (fun _ hk => hk.2) (.slice Ao45 t703.length co45)) (fun _ hk => hk.2) (.slice Ao46 t706.length co46)) (fun _ h_ => h_.1))) hb); have n1_ := yam (Kd.S_below (by (with_reducible repeat (first | apply Kd.S_alloc | apply Kd.S_drewN | apply Kd.S_drew)); exact (Kd.S_mono (Kd.S_far (p := ⟨gb709, 2, none⟩) (Kd.S_far (p := ⟨gb709, 1, none⟩) (Kd.S_far (p := ⟨gb709, 0, none⟩) (Kd.S_types HO700.out BK709.out (by decide)) (fun _ hk => hk.2) (.int .i64 t702)) (fun _ hk => hk.2) (.slice Ao45 t703.length co45)) (fun _ hk => hk.2) (.slice Ao46 t706.length co46)) (fun _ h_ => h_.1))) hb); have n2_ := yam (Kd.R_below (by (with_reducible repeat (first | apply Kd.Ya | apply Kd.Yn | apply Kd.Yd)); exact (Kd.R_mono (Kd.R_far (p := ⟨gb709, 2, none⟩) (Kd.R_far (p := ⟨gb709, 1, none⟩) (Kd.R_far (p := ⟨gb709, 0, none⟩) (Kd.R_types HO705.out BK709.out (by decide)) (fun _ hk => hk.2) (.int .i64 t702)) (fun _ hk => hk.2) (.slice Ao45 t703.length co45)) (fun _ hk => hk.2) (.slice Ao46 t706.length co46)) (fun _ h_ => h_.1))) hb); have n3_ := yam (Kd.S_below (by (with_reducible repeat (first | apply Kd.S_alloc | apply Kd.S_drewN | apply Kd.S_drew)); exact (Kd.S_mono (Kd.S_far (p := ⟨gb709, 2, none⟩) (Kd.S_far (p := ⟨gb709, 1, none⟩) (Kd.S_far (p := ⟨gb709, 0, none⟩) (Kd.S_types HO708.out BK709.out (by decide)) (fun _ hk => hk.2) (.int .i64 t702)) (fun _ hk => hk.2) (.slice Ao45 t703.length co45)) (fun _ hk => hk.2) (.slice Ao46 t706.length co46)) (fun _ h_ => h_.1))) hb); have n4_ := yam (blk_below (g := gb692) (o := .cells #[.int .i64 a0_0, .slice A0_1 l0_1.length c0_1, .slice A0_2 l0_2.length c0_2] 48 (0, 0)) (by (with_reducible repeat (first | refine ybn ?_ _ | refine ybd ?_ | refine yba ?_ _)); refine blk_far ?_ NB692_709.out _; (with_reducible repeat (first | refine ybn ?_ _ | refine ybd ?_ | refine yba ?_ _)); refine blk_far ?_ NB692_709.out _; (with_reducible repeat (first | refine ybn ?_ _ | refine ybd ?_ | refine yba ?_ _)); refine blk_far ?_ NB692_709.out _; (with_reducible repeat (first | refine ybn ?_ _ | refine ybd ?_ | refine yba ?_ _)); exact BK692.out) hb); have n5_ := yam (blk_below (g := gb709) (o := .cells #[.int .i64 t702, .slice Ao45 t703.length co45, .slice Ao46 t706.length co46] 37 (0, 0)) (by (with_reducible repeat (first | refine ybn ?_ _ | refine ybd ?_ | refine yba ?_ _)); refine blk_put (cs := #[.int .i64 t702, .slice Ao45 t703.length co45, .slice none 0 0]) ?_ 2 _ rfl; (with_reducible repeat (first | refine ybn ?_ _ | refine ybd ?_ | refine yba ?_ _)); refine blk_put (cs := #[.int .i64 t702, .slice none 0 0, .slice none 0 0]) ?_ 1 _ rfl; (with_reducible repeat (first | refine ybn ?_ _ | refine ybd ?_ | refine yba ?_ _)); refine blk_put (cs := #[.int .i64 0, .slice none 0 0, .slice none 0 0]) ?_ 0 _ rfl; (with_reducible repeat (first | refine ybn ?_ _ | refine ybd ?_ | refine yba ?_ _)); exact BK709.out) hb); have n6_ := yam (below_step yhb hb); clear HO697; clear HO700; clear HO705; clear HO708; clear BK692; clear BK709; clear HB; have HO697 := n0_; have HO700 := n1_; have HO705 := n2_; have HO708 := n3_; have BK692 := n4_; have BK709 := n5_; have HB := n6_; clear n0_ n1_ n2_ n3_ n4_ n5_ n6_; (try clear hb); (try clear hb2); (try clear hk); (try clear hi)))
  have n0_ := yam (Kd.Yd HO697.out)
  have n1_ := yam (Kd.S_drew HO700.out)
  have n2_ := yam (Kd.Yd HO705.out)
  have n3_ := yam (Kd.S_drew HO708.out)
  have n4_ := yam (ybd BK692.out)
  have n5_ := yam (ybd BK709.out)
  have n6_ := yam (yed HB.out)
  clear HO697
  clear HO700
  clear HO705
  clear HO708
  clear BK692
  clear BK709
  clear HB
  have HO697 := n0_
  have HO700 := n1_
  have HO705 := n2_
  have HO708 := n3_
  have BK692 := n4_
  have BK709 := n5_
  have HB := n6_
  clear n0_ n1_ n2_ n3_ n4_ n5_ n6_
  refine start_ (n := 5) (S := fun w' => w'.cell? ⟨gb709, 0, none⟩ = some (.int .i64 t702) ∧ w'.cell? ⟨gb709, 1, none⟩ = some (.slice Ao45 t703.length co45) ∧ w'.cell? ⟨gb709, 2, none⟩ = some (.slice Ao46 t706.length co46) ∧ w'.cell? ⟨gb692, 0, none⟩ = some (.int .i64 a0_0) ∧ w'.cell? ⟨gb692, 1, none⟩ = some (.slice A0_1 l0_1.length c0_1) ∧ w'.cell? ⟨gb692, 2, none⟩ = some (.slice A0_2 l0_2.length c0_2)) (ds := []) #[false, false, false, false, false] (by kernel_rfl) rfl rfl ⟨(blk_cell BK709.out 0).trans rfl, (blk_cell BK709.out 1).trans rfl, (blk_cell BK709.out 2).trans rfl, (blk_cell BK692.out 0).trans rfl, (blk_cell BK692.out 1).trans rfl, (blk_cell BK692.out 2).trans rfl⟩ (fun hHeld => ?_)
  generalize w47.drew = w48 at HO697 HO700 HO705 HO708 BK692 BK709 HB hHeld ⊢
  refine take_ (i := 0) (N := some 26) (v := ?_) (a' := ?_) #[true, false, false, false, false] rfl rfl (by kernel_rfl) (fun _ _ _ h => h) (Or.inl ⟨by rfl, ?_⟩) hHeld ?_ ?_
  rotate_left
  ·rintro w' ⟨s0, s1, s2, s3, s4, s5⟩
   go_simp
   with_reducible rfl
  rotate_left
  ·simp only [Act.put, yps, i64_w, i32_w]
   rfl
  refine take_ (i := 1) (N := some 27) (v := ?_) (a' := ?_) #[true, true, false, false, false] rfl rfl (by kernel_rfl) (fun _ _ _ h => h) (Or.inl ⟨by rfl, ?_⟩) hHeld ?_ ?_
  rotate_left
  ·rintro w' ⟨s0, s1, s2, s3, s4, s5⟩
   go_simp
   with_reducible rfl
  rotate_left
  ·simp only [Act.put, yps, i64_w, i32_w]
   rfl
  refine one_ (i := 2) (N := some 28) #[true, true, true, false, false] rfl rfl (by kernel_rfl) (by decide) (fun K hK => ?_)
  refine goes_ Try.func32 (by kernel_rfl) rfl #[.agg #[.int .i64 a0_0, .slice A0_1 l0_1.length c0_1, .slice A0_2 l0_2.length c0_2]] (by rfl) rfl rfl ymd ?_
  with_reducible refine (laws_toPuzzle.calls k a0_0 _ _ l0_1 _ _ l0_2 t711 t712 t715 _ ?side1 ?side2 ?side3 ?side4 A29.out).mono ?_
  (case side1 => exact Kd.Cz ((Kd.C_below HR0_1.out HB.out)))
  (case side2 => exact HC0_1.out)
  (case side3 => exact Kd.Cz ((Kd.C_below HR0_2.out HB.out)))
  (case side4 => exact HC0_2.out)
  rintro e w49 ⟨v713, v716, rfl, ho0, ho1, hb⟩
  refine ⟨_, rfl, ?_⟩
  have n0_ := yam (Kd.Ye (Kd.Yz HO697.out) (Kd.Yb ho0) hb)
  have n1_ := yam (Kd.S_mono (Kd.S_told (Kd.S_told (Kd.S_old (by (with_reducible repeat (first | apply Kd.S_alloc | apply Kd.S_drewN | apply Kd.S_drew)); exact HO700.out) hb) (Kd.Yb ho0)) (Kd.S_base ho1)) (fun _ h_ => h_.1))
  have n2_ := yam (Kd.Ye (Kd.Yz HO705.out) (Kd.Yb ho0) hb)
  have n3_ := yam (Kd.S_mono (Kd.S_told (Kd.S_told (Kd.S_old (by (with_reducible repeat (first | apply Kd.S_alloc | apply Kd.S_drewN | apply Kd.S_drew)); exact HO708.out) hb) (Kd.Yb ho0)) (Kd.S_base ho1)) (fun _ h_ => h_.1))
  have n4_ := yam (Kd.R_lower (Kd.Yw (Kd.Yw ho0 (Kd.R_lt (Kd.Yz HO697.out))) (Kd.R_lt (Kd.Yz HO705.out))) (below_size yhb))
  have n5_ := yam (Kd.S_lower (Kd.S_new' (Kd.S_new' (Kd.S_new' (Kd.S_new' ho1 (Kd.R_lt (Kd.Yz HO697.out))) (Kd.S_lt (by (with_reducible repeat (first | apply Kd.S_alloc | apply Kd.S_drewN | apply Kd.S_drew)); exact HO700.out))) (Kd.R_lt (Kd.Yz HO705.out))) (Kd.S_lt (by (with_reducible repeat (first | apply Kd.S_alloc | apply Kd.S_drewN | apply Kd.S_drew)); exact HO708.out))) (below_size yhb))
  have n6_ := yam (blk_below (g := gb692) (o := .cells #[.int .i64 a0_0, .slice A0_1 l0_1.length c0_1, .slice A0_2 l0_2.length c0_2] 48 (0, 0)) (ybz BK692.out) hb)
  have n7_ := yam (blk_below (g := gb709) (o := .cells #[.int .i64 t702, .slice Ao45 t703.length co45, .slice Ao46 t706.length co46] 37 (0, 0)) (ybz BK709.out) hb)
  have n8_ := yam (below_step yhb hb)
  clear HO697
  clear HO700
  clear HO705
  clear HO708
  clear BK692
  clear BK709
  clear HB
  have HO697 := n0_
  have HO700 := n1_
  have HO705 := n2_
  have HO708 := n3_
  have HO714 := n4_
  have HO717 := n5_
  have BK692 := n6_
  have BK709 := n7_
  have HB := n8_
  clear n0_ n1_ n2_ n3_ n4_ n5_ n6_ n7_ n8_
  (try clear hb)
  (try clear hb2)
  (try clear hk)
  (try clear hi)
  (try clear ho0)
  (try clear ho1)
  obtain ⟨Ao50, co50, eo50⟩ := Kd.R_slice HO714.out
  (first | subst eo50 | (injection eo50 with f1_ f2_ f3_; have f4_ := f1_.symm; have f5_ := f3_.symm; clear f1_ f2_ f3_; subst f4_; subst f5_))
  obtain ⟨Ao51, co51, eo51⟩ := Kd.S_slice HO717.out
  (first | subst eo51 | (injection eo51 with f1_ f2_ f3_; have f4_ := f1_.symm; have f5_ := f3_.symm; clear f1_ f2_ f3_; subst f4_; subst f5_))
  refine hK.out _ _ ⟨(blk_cell BK709.out 0).trans rfl, (blk_cell BK709.out 1).trans rfl, (blk_cell BK709.out 2).trans rfl, (blk_cell BK692.out 0).trans rfl, (blk_cell BK692.out 1).trans rfl, (blk_cell BK692.out 2).trans rfl⟩ (fun hHeld => ?_)
  clear hK K
  refine norm_ (a' := ?_) ?_ ?_
  rotate_left
  ·show Act.put _ (some 28) _ = _
   simp only [Act.put, yps, i64_w, i32_w]
   rfl
  refine one_ (i := 3) (N := some 29) #[true, true, true, true, false] rfl rfl (by kernel_rfl) (by decide) (fun K hK => ?_)
  refine goes_ Try.func25 (by kernel_rfl) rfl #[.agg #[.int .i64 t702, .slice Ao45 t703.length co45, .slice Ao46 t706.length co46], .agg #[.int .i64 t711, .slice Ao50 t712.length co50, .slice Ao51 t715.length co51]] (by rfl) rfl rfl ymd ?_
  with_reducible refine (laws_eqPuzzle.calls k t702 _ _ t703 _ _ t706 t711 _ _ t712 _ _ t715 true _ ?side1 ?side2 ?side3 ?side4 ?side5 ?side6 ?side7 ?side8 A30.out).mono ?_
  (case side1 => repeat (first | exact (Kd.Yr HO705.out).2.2 | (with_reducible refine Kd.C_alloc ?_ _) | (with_reducible refine Kd.C_drewN ?_ _) | (with_reducible refine Kd.C_drew ?_)))
  (case side2 => exact (Kd.Yr HO705.out).2.1)
  (case side3 => repeat (first | exact (Kd.S_reads' HO708.out).2.2 | (with_reducible refine Kd.C_alloc ?_ _) | (with_reducible refine Kd.C_drewN ?_ _) | (with_reducible refine Kd.C_drew ?_)))
  (case side4 => exact (Kd.S_reads' HO708.out).2.1)
  (case side5 => repeat (first | exact (Kd.Yr HO714.out).2.2 | (with_reducible refine Kd.C_alloc ?_ _) | (with_reducible refine Kd.C_drewN ?_ _) | (with_reducible refine Kd.C_drew ?_)))
  (case side6 => exact (Kd.Yr HO714.out).2.1)
  (case side7 => repeat (first | exact (Kd.S_reads' HO717.out).2.2 | (with_reducible refine Kd.C_alloc ?_ _) | (with_reducible refine Kd.C_drewN ?_ _) | (with_reducible refine Kd.C_drew ?_)))
  (case side8 => exact (Kd.S_reads' HO717.out).2.1)
  rintro e w52 ⟨rfl, hb⟩
  refine ⟨_, rfl, ?_⟩
  have n0_ := yam (Kd.R_below (Kd.Yz HO697.out) hb)
  have n1_ := yam (Kd.S_below (by (with_reducible repeat (first | apply Kd.S_alloc | apply Kd.S_drewN | apply Kd.S_drew)); exact HO700.out) hb)
  have n2_ := yam (Kd.R_below (Kd.Yz HO705.out) hb)
  have n3_ := yam (Kd.S_below (by (with_reducible repeat (first | apply Kd.S_alloc | apply Kd.S_drewN | apply Kd.S_drew)); exact HO708.out) hb)
  have n4_ := yam (Kd.R_below (Kd.Yz HO714.out) hb)
  have n5_ := yam (Kd.S_below (by (with_reducible repeat (first | apply Kd.S_alloc | apply Kd.S_drewN | apply Kd.S_drew)); exact HO717.out) hb)
  have n6_ := yam (blk_below (g := gb692) (o := .cells #[.int .i64 a0_0, .slice A0_1 l0_1.length c0_1, .slice A0_2 l0_2.length c0_2] 48 (0, 0)) (ybz BK692.out) hb)
  have n7_ := yam (blk_below (g := gb709) (o := .cells #[.int .i64 t702, .slice Ao45 t703.length co45, .slice Ao46 t706.length co46] 37 (0, 0)) (ybz BK709.out) hb)
  have n8_ := yam (below_step yhb hb)
  clear HO697
  clear HO700
  clear HO705
  clear HO708
  clear HO714
  clear HO717
  clear BK692
  clear BK709
  clear HB
  have HO697 := n0_
  have HO700 := n1_
  have HO705 := n2_
  have HO708 := n3_
  have HO714 := n4_
  have HO717 := n5_
  have BK692 := n6_
  have BK709 := n7_
  have HB := n8_
  clear n0_ n1_ n2_ n3_ n4_ n5_ n6_ n7_ n8_
  (try clear hb)
  (try clear hb2)
  (try clear hk)
  (try clear hi)
  refine hK.out _ _ ⟨(blk_cell BK709.out 0).trans rfl, (blk_cell BK709.out 1).trans rfl, (blk_cell BK709.out 2).trans rfl, (blk_cell BK692.out 0).trans rfl, (blk_cell BK692.out 1).trans rfl, (blk_cell BK692.out 2).trans rfl⟩ (fun hHeld => ?_)
  clear hK K
  refine norm_ (a' := ?_) ?_ ?_
  rotate_left
  ·show Act.put _ (some 29) _ = _
   simp only [Act.put, yps, i64_w, i32_w]
   rfl
  refine pure_ (i := 4) (N := some 30) (v := ?_) (a' := ?_) #[true, true, true, true, true] rfl rfl (by kernel_rfl) (fun _ _ _ h => h) (Or.inl ⟨by rfl, ?_⟩) ?_ ?_
  rotate_left
  ·intro w'
   go_simp
   with_reducible rfl
  rotate_left
  ·simp only [Act.put, yps, i64_w, i32_w]
   rfl
  refine done_ (by kernel_rfl) ?_
  try go_wp2
  go_ret
  exact ⟨yer, yhb⟩
 replace c31 := Bool.eq_false_iff.mpr c31
 subst c31
 have H1 : (some false) = some r := by rw [if_neg (show ¬ (false = true) by decide)] at H; exact H
 clear H
 have H := H1
 clear H1
 obtain rfl := Option.some.inj H
 go_enter Try.func7, Try.ntmps7
 try go_wp2_with (first | (refine ybe 2 #[.int .i64 a0_0, .slice A0_1 l0_1.length c0_1, .slice A0_2 l0_2.length c0_2] 48 ?_; intro gb692 hg w53 hbox hb; have n0_ := yam (below_step (yez HB.out) hb); have n1_ := yam (hbox); have n2_ := yam ((by rw [hg]; exact (below_size (yez HB.out)) : w.heap.size ≤ gb692)); have n3_ := n2_; clear HB; have HB := n0_; have BK692 := n1_; have GW692 := n2_; have GE692 := n3_; clear n0_ n1_ n2_ n3_; clear hb hbox hg; obtain ⟨hcz54_0, hcz54_1, hcz54_2, hfz54_0, hfz54_1, hfz54_2⟩ := ybc BK692.out) | (refine goesL_ (some 11) rfl rfl Try.func30 (by kernel_rfl) rfl #[.agg #[.int .i64 a0_0, .slice A0_1 l0_1.length c0_1, .slice A0_2 l0_2.length c0_2], .int .i64 1048576] rfl ymd ?_; (with_reducible refine (laws_szPuzzle.calls k a0_0 _ _ l0_1 _ _ l0_2 1048576 t693 _ ?side1 ?side2 ?side3 ?side4 A3.out).mono ?_); (case side1 => exact Kd.Cz ((Kd.C_below HR0_1.out HB.out))); (case side2 => exact HC0_1.out); (case side3 => exact Kd.Cz ((Kd.C_below HR0_2.out HB.out))); (case side4 => exact HC0_2.out); rintro e w55 ⟨rfl, hb⟩; refine ⟨_, rfl, ?_⟩; have n0_ := yam (blk_below (g := gb692) (o := .cells #[.int .i64 a0_0, .slice A0_1 l0_1.length c0_1, .slice A0_2 l0_2.length c0_2] 48 (0, 0)) (ybz BK692.out) hb); have n1_ := yam (below_step yhb hb); clear BK692; clear HB; have BK692 := n0_; have HB := n1_; clear n0_ n1_; (try clear hb); (try clear hb2); (try clear hk); (try clear hi); obtain ⟨hcz56_0, hcz56_1, hcz56_2, hfz56_0, hfz56_1, hfz56_2⟩ := ybc BK692.out) | (refine goesL_ (some 15) rfl rfl Try.func32 (by kernel_rfl) rfl #[.agg #[.int .i64 a0_0, .slice A0_1 l0_1.length c0_1, .slice A0_2 l0_2.length c0_2]] rfl ymd ?_; (with_reducible refine (laws_toPuzzle.calls k a0_0 _ _ l0_1 _ _ l0_2 t694 t695 t698 _ ?side1 ?side2 ?side3 ?side4 A8.out).mono ?_); (case side1 => exact Kd.Cz ((Kd.C_below HR0_1.out HB.out))); (case side2 => exact HC0_1.out); (case side3 => exact Kd.Cz ((Kd.C_below HR0_2.out HB.out))); (case side4 => exact HC0_2.out); rintro e w57 ⟨v696, v699, rfl, ho0, ho1, hb⟩; refine ⟨_, rfl, ?_⟩; have n0_ := yam (Kd.R_lower ho0 (below_size yhb)); have n1_ := yam (Kd.S_lower ho1 (below_size yhb)); have n2_ := yam (blk_below (g := gb692) (o := .cells #[.int .i64 a0_0, .slice A0_1 l0_1.length c0_1, .slice A0_2 l0_2.length c0_2] 48 (0, 0)) (ybz BK692.out) hb); have n3_ := yam (below_step yhb hb); clear BK692; clear HB; have HO697 := n0_; have HO700 := n1_; have BK692 := n2_; have HB := n3_; clear n0_ n1_ n2_ n3_; (try clear hb); (try clear hb2); (try clear hk); (try clear hi); (try clear ho0); (try clear ho1); obtain ⟨Ao58, co58, eo58⟩ := Kd.R_slice HO697.out; subst eo58; obtain ⟨Ao59, co59, eo59⟩ := Kd.S_slice HO700.out; subst eo59) | (refine goesL_ (some 17) rfl rfl Try.func34 (by kernel_rfl) rfl #[.agg #[.int .i64 t694, .slice Ao58 t695.length co58, .slice Ao59 t698.length co59], .int .i64 a1] rfl ymd ?_; (with_reducible refine (spec_IsRedundant.calls k t694 _ _ t695 _ _ t698 a1 t701 _ ?side1 ?side2 ?side3 ?side4 A9.out).mono ?_); (case side1 => repeat (first | exact (Kd.Yr HO697.out).2.2 | (with_reducible refine Kd.C_alloc ?_ _) | (with_reducible refine Kd.C_drewN ?_ _) | (with_reducible refine Kd.C_drew ?_))); (case side2 => exact (Kd.Yr HO697.out).2.1); (case side3 => repeat (first | exact (Kd.S_reads' HO700.out).2.2 | (with_reducible refine Kd.C_alloc ?_ _) | (with_reducible refine Kd.C_drewN ?_ _) | (with_reducible refine Kd.C_drew ?_))); (case side4 => exact (Kd.S_reads' HO700.out).2.1); rintro e w60 ⟨rfl, hb⟩; refine ⟨_, rfl, ?_⟩; have n0_ := yam (Kd.R_below (Kd.Yz HO697.out) hb); have n1_ := yam (Kd.S_below (by (with_reducible repeat (first | apply Kd.S_alloc | apply Kd.S_drewN | apply Kd.S_drew)); exact HO700.out) hb); have n2_ := yam (blk_below (g := gb692) (o := .cells #[.int .i64 a0_0, .slice A0_1 l0_1.length c0_1, .slice A0_2 l0_2.length c0_2] 48 (0, 0)) (ybz BK692.out) hb); have n3_ := yam (below_step yhb hb); clear HO697; clear HO700; clear BK692; clear HB; have HO697 := n0_; have HO700 := n1_; have BK692 := n2_; have HB := n3_; clear n0_ n1_ n2_ n3_; (try clear hb); (try clear hb2); (try clear hk); (try clear hi); obtain ⟨hcz61_0, hcz61_1, hcz61_2, hfz61_0, hfz61_1, hfz61_2⟩ := ybc BK692.out) | (refine goesL_ (some 19) rfl rfl Try.func32 (by kernel_rfl) rfl #[.agg #[.int .i64 a0_0, .slice A0_1 l0_1.length c0_1, .slice A0_2 l0_2.length c0_2]] rfl ymd ?_; (with_reducible refine (laws_toPuzzle.calls k a0_0 _ _ l0_1 _ _ l0_2 t702 t703 t706 _ ?side1 ?side2 ?side3 ?side4 A10.out).mono ?_); (case side1 => exact Kd.Cz ((Kd.C_below HR0_1.out HB.out))); (case side2 => exact HC0_1.out); (case side3 => exact Kd.Cz ((Kd.C_below HR0_2.out HB.out))); (case side4 => exact HC0_2.out); rintro e w62 ⟨v704, v707, rfl, ho0, ho1, hb⟩; refine ⟨_, rfl, ?_⟩; have n0_ := yam (Kd.Ye (Kd.Yz HO697.out) (Kd.Yb ho0) hb); have n1_ := yam (Kd.S_mono (Kd.S_told (Kd.S_told (Kd.S_old (by (with_reducible repeat (first | apply Kd.S_alloc | apply Kd.S_drewN | apply Kd.S_drew)); exact HO700.out) hb) (Kd.Yb ho0)) (Kd.S_base ho1)) (fun _ h_ => h_.1)); have n2_ := yam (Kd.R_lower (Kd.Yw ho0 (Kd.R_lt (Kd.Yz HO697.out))) (below_size yhb)); have n3_ := yam (Kd.S_lower (Kd.S_new' (Kd.S_new' ho1 (Kd.R_lt (Kd.Yz HO697.out))) (Kd.S_lt (by (with_reducible repeat (first | apply Kd.S_alloc | apply Kd.S_drewN | apply Kd.S_drew)); exact HO700.out))) (below_size yhb)); have n4_ := yam (blk_below (g := gb692) (o := .cells #[.int .i64 a0_0, .slice A0_1 l0_1.length c0_1, .slice A0_2 l0_2.length c0_2] 48 (0, 0)) (ybz BK692.out) hb); have n5_ := yam (below_step yhb hb); clear HO697; clear HO700; clear BK692; clear HB; have HO697 := n0_; have HO700 := n1_; have HO705 := n2_; have HO708 := n3_; have BK692 := n4_; have HB := n5_; clear n0_ n1_ n2_ n3_ n4_ n5_; (try clear hb); (try clear hb2); (try clear hk); (try clear hi); (try clear ho0); (try clear ho1)) | (refine ybe 7 #[.int .i64 0, .slice none 0 0, .slice none 0 0] 37 ?_; intro gb709 hg w63 hbox hb; have n0_ := yam (Kd.R_below (Kd.Yz HO697.out) hb); have n1_ := yam (Kd.S_below (by (with_reducible repeat (first | apply Kd.S_alloc | apply Kd.S_drewN | apply Kd.S_drew)); exact HO700.out) hb); have n2_ := yam (Kd.R_below (Kd.Yz HO705.out) hb); have n3_ := yam (Kd.S_below (by (with_reducible repeat (first | apply Kd.S_alloc | apply Kd.S_drewN | apply Kd.S_drew)); exact HO708.out) hb); have n4_ := yam (blk_below (g := gb692) (o := .cells #[.int .i64 a0_0, .slice A0_1 l0_1.length c0_1, .slice A0_2 l0_2.length c0_2] 48 (0, 0)) (ybz BK692.out) hb); have n5_ := yam (below_step yhb hb); have n6_ := yam (hbox); have n7_ := yam ((by rw [hg]; exact (below_size yhb) : w.heap.size ≤ gb709)); have n8_ := n7_; have n9_ := yam ((by rw [hg]; exact Nat.ne_of_lt (blk_lt (g := gb692) (o := .cells #[.int .i64 a0_0, .slice A0_1 l0_1.length c0_1, .slice A0_2 l0_2.length c0_2] 48 (0, 0)) (ybz BK692.out)) : gb692 ≠ gb709)); have n10_ := yam ((by rw [hg]; exact Nat.ne_of_gt (blk_lt (g := gb692) (o := .cells #[.int .i64 a0_0, .slice A0_1 l0_1.length c0_1, .slice A0_2 l0_2.length c0_2] 48 (0, 0)) (ybz BK692.out)) : gb709 ≠ gb692)); clear HO697; clear HO700; clear HO705; clear HO708; clear BK692; clear HB; have HO697 := n0_; have HO700 := n1_; have HO705 := n2_; have HO708 := n3_; have BK692 := n4_; have HB := n5_; have BK709 := n6_; have GW709 := n7_; have GE709 := n8_; have NB692_709 := n9_; have NB709_692 := n10_; clear n0_ n1_ n2_ n3_ n4_ n5_ n6_ n7_ n8_ n9_ n10_; clear hb hbox hg; have hnb64 := NB709_692.out; have hnc64 := NB692_709.out; obtain ⟨hcz65_0, hcz65_1, hcz65_2, hfz65_0, hfz65_1, hfz65_2⟩ := ybc BK709.out; obtain ⟨Ao66, co66, eo66⟩ := Kd.R_slice HO705.out; subst eo66; obtain ⟨Ao67, co67, eo67⟩ := Kd.S_slice HO708.out; subst eo67) | (refine goesL_ (some 22) rfl rfl Try.func35 (by kernel_rfl) rfl #[.agg #[.int .i64 t702, .slice Ao66 t703.length co66, .slice Ao67 t706.length co67], .int .i64 a1] rfl ymd ?_; (with_reducible refine (impl_IsRedundant.calls k t702 _ _ t703 _ _ t706 a1 t710 _ ?side1 ?side2 ?side3 ?side4 A11.out).mono ?_); (case side1 => refine (Kd.Yr (e := 3) (base := w.heap.size) (ok := fun k_ => (True ∧ some k_ ≠ (.slice Ao58 t695.length co58 : Value).ownBlock)) (n := t703.length) (c := co66) ?_).2.2; exact (by (with_reducible repeat (first | apply Kd.Ya | apply Kd.Yn | apply Kd.Yd)); exact (Kd.R_mono (Kd.R_far (p := ⟨gb709, 2, none⟩) (Kd.R_far (p := ⟨gb709, 1, none⟩) (Kd.R_far (p := ⟨gb709, 0, none⟩) (Kd.R_types HO705.out BK709.out (by decide)) (fun _ hk => hk.2) (.int .i64 t702)) (fun _ hk => hk.2) (.slice Ao66 t703.length co66)) (fun _ hk => hk.2) (.slice Ao67 t706.length co67)) (fun _ h_ => h_.1)))); (case side2 => exact (Kd.Yr HO705.out).2.1); (case side3 => refine (Kd.S_reads' (e := 73) (base := w.heap.size) (ok := fun k_ => ((some k_ ≠ (.slice Ao66 t703.length co66 : Value).ownBlock ∧ some k_ ≠ (.slice Ao58 t695.length co58 : Value).ownBlock) ∧ some k_ ≠ (.slice Ao59 t698.length co59 : Value).ownBlock)) (n := t706.length) (c := co67) ?_).2.2; exact (by (with_reducible repeat (first | apply Kd.S_alloc | apply Kd.S_drewN | apply Kd.S_drew)); exact (Kd.S_mono (Kd.S_far (p := ⟨gb709, 2, none⟩) (Kd.S_far (p := ⟨gb709, 1, none⟩) (Kd.S_far (p := ⟨gb709, 0, none⟩) (Kd.S_types HO708.out BK709.out (by decide)) (fun _ hk => hk.2) (.int .i64 t702)) (fun _ hk => hk.2) (.slice Ao66 t703.length co66)) (fun _ hk => hk.2) (.slice Ao67 t706.length co67)) (fun _ h_ => h_.1)))); (case side4 => exact (Kd.S_reads' HO708.out).2.1); rintro e w68 ⟨rfl, hb⟩; refine ⟨_, rfl, ?_⟩; have n0_ := yam (Kd.R_below (by (with_reducible repeat (first | apply Kd.Ya | apply Kd.Yn | apply Kd.Yd)); exact (Kd.R_mono (Kd.R_far (p := ⟨gb709, 2, none⟩) (Kd.R_far (p := ⟨gb709, 1, none⟩) (Kd.R_far (p := ⟨gb709, 0, none⟩) (Kd.R_types HO697.out BK709.out (by decide)) (fun _ hk => hk.2) (.int .i64 t702)) (fun _ hk => hk.2) (.slice Ao66 t703.length co66)) (fun _ hk => hk.2) (.slice Ao67 t706.length co67)) (fun _ h_ => h_.1))) hb); have n1_ := yam (Kd.S_below (by (with_reducible repeat (first | apply Kd.S_alloc | apply Kd.S_drewN | apply Kd.S_drew)); exact (Kd.S_mono (Kd.S_far (p := ⟨gb709, 2, none⟩) (Kd.S_far (p := ⟨gb709, 1, none⟩) (Kd.S_far (p := ⟨gb709, 0, none⟩) (Kd.S_types HO700.out BK709.out (by decide)) (fun _ hk => hk.2) (.int .i64 t702)) (fun _ hk => hk.2) (.slice Ao66 t703.length co66)) (fun _ hk => hk.2) (.slice Ao67 t706.length co67)) (fun _ h_ => h_.1))) hb); have n2_ := yam (Kd.R_below (by (with_reducible repeat (first | apply Kd.Ya | apply Kd.Yn | apply Kd.Yd)); exact (Kd.R_mono (Kd.R_far (p := ⟨gb709, 2, none⟩) (Kd.R_far (p := ⟨gb709, 1, none⟩) (Kd.R_far (p := ⟨gb709, 0, none⟩) (Kd.R_types HO705.out BK709.out (by decide)) (fun _ hk => hk.2) (.int .i64 t702)) (fun _ hk => hk.2) (.slice Ao66 t703.length co66)) (fun _ hk => hk.2) (.slice Ao67 t706.length co67)) (fun _ h_ => h_.1))) hb); have n3_ := yam (Kd.S_below (by (with_reducible repeat (first | apply Kd.S_alloc | apply Kd.S_drewN | apply Kd.S_drew)); exact (Kd.S_mono (Kd.S_far (p := ⟨gb709, 2, none⟩) (Kd.S_far (p := ⟨gb709, 1, none⟩) (Kd.S_far (p := ⟨gb709, 0, none⟩) (Kd.S_types HO708.out BK709.out (by decide)) (fun _ hk => hk.2) (.int .i64 t702)) (fun _ hk => hk.2) (.slice Ao66 t703.length co66)) (fun _ hk => hk.2) (.slice Ao67 t706.length co67)) (fun _ h_ => h_.1))) hb); have n4_ := yam (blk_below (g := gb692) (o := .cells #[.int .i64 a0_0, .slice A0_1 l0_1.length c0_1, .slice A0_2 l0_2.length c0_2] 48 (0, 0)) (by (with_reducible repeat (first | refine ybn ?_ _ | refine ybd ?_ | refine yba ?_ _)); refine blk_far ?_ NB692_709.out _; (with_reducible repeat (first | refine ybn ?_ _ | refine ybd ?_ | refine yba ?_ _)); refine blk_far ?_ NB692_709.out _; (with_reducible repeat (first | refine ybn ?_ _ | refine ybd ?_ | refine yba ?_ _)); refine blk_far ?_ NB692_709.out _; (with_reducible repeat (first | refine ybn ?_ _ | refine ybd ?_ | refine yba ?_ _)); exact BK692.out) hb); have n5_ := yam (blk_below (g := gb709) (o := .cells #[.int .i64 t702, .slice Ao66 t703.length co66, .slice Ao67 t706.length co67] 37 (0, 0)) (by (with_reducible repeat (first | refine ybn ?_ _ | refine ybd ?_ | refine yba ?_ _)); refine blk_put (cs := #[.int .i64 t702, .slice Ao66 t703.length co66, .slice none 0 0]) ?_ 2 _ rfl; (with_reducible repeat (first | refine ybn ?_ _ | refine ybd ?_ | refine yba ?_ _)); refine blk_put (cs := #[.int .i64 t702, .slice none 0 0, .slice none 0 0]) ?_ 1 _ rfl; (with_reducible repeat (first | refine ybn ?_ _ | refine ybd ?_ | refine yba ?_ _)); refine blk_put (cs := #[.int .i64 0, .slice none 0 0, .slice none 0 0]) ?_ 0 _ rfl; (with_reducible repeat (first | refine ybn ?_ _ | refine ybd ?_ | refine yba ?_ _)); exact BK709.out) hb); have n6_ := yam (below_step yhb hb); clear HO697; clear HO700; clear HO705; clear HO708; clear BK692; clear BK709; clear HB; have HO697 := n0_; have HO700 := n1_; have HO705 := n2_; have HO708 := n3_; have BK692 := n4_; have BK709 := n5_; have HB := n6_; clear n0_ n1_ n2_ n3_ n4_ n5_ n6_; (try clear hb); (try clear hb2); (try clear hk); (try clear hi)))
 have n0_ := yam (Kd.Yd HO697.out)
 have n1_ := yam (Kd.S_drew HO700.out)
 have n2_ := yam (Kd.Yd HO705.out)
 have n3_ := yam (Kd.S_drew HO708.out)
 have n4_ := yam (ybd BK692.out)
 have n5_ := yam (ybd BK709.out)
 have n6_ := yam (yed HB.out)
 clear HO697
 clear HO700
 clear HO705
 clear HO708
 clear BK692
 clear BK709
 clear HB
 have HO697 := n0_
 have HO700 := n1_
 have HO705 := n2_
 have HO708 := n3_
 have BK692 := n4_
 have BK709 := n5_
 have HB := n6_
 clear n0_ n1_ n2_ n3_ n4_ n5_ n6_
 refine start_ (n := 5) (S := fun w' => w'.cell? ⟨gb709, 0, none⟩ = some (.int .i64 t702) ∧ w'.cell? ⟨gb709, 1, none⟩ = some (.slice Ao66 t703.length co66) ∧ w'.cell? ⟨gb709, 2, none⟩ = some (.slice Ao67 t706.length co67) ∧ w'.cell? ⟨gb692, 0, none⟩ = some (.int .i64 a0_0) ∧ w'.cell? ⟨gb692, 1, none⟩ = some (.slice A0_1 l0_1.length c0_1) ∧ w'.cell? ⟨gb692, 2, none⟩ = some (.slice A0_2 l0_2.length c0_2)) (ds := []) #[false, false, false, false, false] (by kernel_rfl) rfl rfl ⟨(blk_cell BK709.out 0).trans rfl, (blk_cell BK709.out 1).trans rfl, (blk_cell BK709.out 2).trans rfl, (blk_cell BK692.out 0).trans rfl, (blk_cell BK692.out 1).trans rfl, (blk_cell BK692.out 2).trans rfl⟩ (fun hHeld => ?_)
 generalize w68.drew = w69 at HO697 HO700 HO705 HO708 BK692 BK709 HB hHeld ⊢
 refine take_ (i := 0) (N := some 26) (v := ?_) (a' := ?_) #[true, false, false, false, false] rfl rfl (by kernel_rfl) (fun _ _ _ h => h) (Or.inl ⟨by rfl, ?_⟩) hHeld ?_ ?_
 rotate_left
 ·rintro w' ⟨s0, s1, s2, s3, s4, s5⟩
  go_simp
  with_reducible rfl
 rotate_left
 ·simp only [Act.put, yps, i64_w, i32_w]
  rfl
 refine take_ (i := 1) (N := some 27) (v := ?_) (a' := ?_) #[true, true, false, false, false] rfl rfl (by kernel_rfl) (fun _ _ _ h => h) (Or.inl ⟨by rfl, ?_⟩) hHeld ?_ ?_
 rotate_left
 ·rintro w' ⟨s0, s1, s2, s3, s4, s5⟩
  go_simp
  with_reducible rfl
 rotate_left
 ·simp only [Act.put, yps, i64_w, i32_w]
  rfl
 refine one_ (i := 2) (N := some 28) #[true, true, true, false, false] rfl rfl (by kernel_rfl) (by decide) (fun K hK => ?_)
 refine goes_ Try.func32 (by kernel_rfl) rfl #[.agg #[.int .i64 a0_0, .slice A0_1 l0_1.length c0_1, .slice A0_2 l0_2.length c0_2]] (by rfl) rfl rfl ymd ?_
 with_reducible refine (laws_toPuzzle.calls k a0_0 _ _ l0_1 _ _ l0_2 t711 t712 t715 _ ?side1 ?side2 ?side3 ?side4 A29.out).mono ?_
 (case side1 => exact Kd.Cz ((Kd.C_below HR0_1.out HB.out)))
 (case side2 => exact HC0_1.out)
 (case side3 => exact Kd.Cz ((Kd.C_below HR0_2.out HB.out)))
 (case side4 => exact HC0_2.out)
 rintro e w70 ⟨v713, v716, rfl, ho0, ho1, hb⟩
 refine ⟨_, rfl, ?_⟩
 have n0_ := yam (Kd.Ye (Kd.Yz HO697.out) (Kd.Yb ho0) hb)
 have n1_ := yam (Kd.S_mono (Kd.S_told (Kd.S_told (Kd.S_old (by (with_reducible repeat (first | apply Kd.S_alloc | apply Kd.S_drewN | apply Kd.S_drew)); exact HO700.out) hb) (Kd.Yb ho0)) (Kd.S_base ho1)) (fun _ h_ => h_.1))
 have n2_ := yam (Kd.Ye (Kd.Yz HO705.out) (Kd.Yb ho0) hb)
 have n3_ := yam (Kd.S_mono (Kd.S_told (Kd.S_told (Kd.S_old (by (with_reducible repeat (first | apply Kd.S_alloc | apply Kd.S_drewN | apply Kd.S_drew)); exact HO708.out) hb) (Kd.Yb ho0)) (Kd.S_base ho1)) (fun _ h_ => h_.1))
 have n4_ := yam (Kd.R_lower (Kd.Yw (Kd.Yw ho0 (Kd.R_lt (Kd.Yz HO697.out))) (Kd.R_lt (Kd.Yz HO705.out))) (below_size yhb))
 have n5_ := yam (Kd.S_lower (Kd.S_new' (Kd.S_new' (Kd.S_new' (Kd.S_new' ho1 (Kd.R_lt (Kd.Yz HO697.out))) (Kd.S_lt (by (with_reducible repeat (first | apply Kd.S_alloc | apply Kd.S_drewN | apply Kd.S_drew)); exact HO700.out))) (Kd.R_lt (Kd.Yz HO705.out))) (Kd.S_lt (by (with_reducible repeat (first | apply Kd.S_alloc | apply Kd.S_drewN | apply Kd.S_drew)); exact HO708.out))) (below_size yhb))
 have n6_ := yam (blk_below (g := gb692) (o := .cells #[.int .i64 a0_0, .slice A0_1 l0_1.length c0_1, .slice A0_2 l0_2.length c0_2] 48 (0, 0)) (ybz BK692.out) hb)
 have n7_ := yam (blk_below (g := gb709) (o := .cells #[.int .i64 t702, .slice Ao66 t703.length co66, .slice Ao67 t706.length co67] 37 (0, 0)) (ybz BK709.out) hb)
 have n8_ := yam (below_step yhb hb)
 clear HO697
 clear HO700
 clear HO705
 clear HO708
 clear BK692
 clear BK709
 clear HB
 have HO697 := n0_
 have HO700 := n1_
 have HO705 := n2_
 have HO708 := n3_
 have HO714 := n4_
 have HO717 := n5_
 have BK692 := n6_
 have BK709 := n7_
 have HB := n8_
 clear n0_ n1_ n2_ n3_ n4_ n5_ n6_ n7_ n8_
 (try clear hb)
 (try clear hb2)
 (try clear hk)
 (try clear hi)
 (try clear ho0)
 (try clear ho1)
 obtain ⟨Ao71, co71, eo71⟩ := Kd.R_slice HO714.out
 (first | subst eo71 | (injection eo71 with f1_ f2_ f3_; have f4_ := f1_.symm; have f5_ := f3_.symm; clear f1_ f2_ f3_; subst f4_; subst f5_))
 obtain ⟨Ao72, co72, eo72⟩ := Kd.S_slice HO717.out
 (first | subst eo72 | (injection eo72 with f1_ f2_ f3_; have f4_ := f1_.symm; have f5_ := f3_.symm; clear f1_ f2_ f3_; subst f4_; subst f5_))
 refine hK.out _ _ ⟨(blk_cell BK709.out 0).trans rfl, (blk_cell BK709.out 1).trans rfl, (blk_cell BK709.out 2).trans rfl, (blk_cell BK692.out 0).trans rfl, (blk_cell BK692.out 1).trans rfl, (blk_cell BK692.out 2).trans rfl⟩ (fun hHeld => ?_)
 clear hK K
 refine norm_ (a' := ?_) ?_ ?_
 rotate_left
 ·show Act.put _ (some 28) _ = _
  simp only [Act.put, yps, i64_w, i32_w]
  rfl
 refine one_ (i := 3) (N := some 29) #[true, true, true, true, false] rfl rfl (by kernel_rfl) (by decide) (fun K hK => ?_)
 refine goes_ Try.func25 (by kernel_rfl) rfl #[.agg #[.int .i64 t702, .slice Ao66 t703.length co66, .slice Ao67 t706.length co67], .agg #[.int .i64 t711, .slice Ao71 t712.length co71, .slice Ao72 t715.length co72]] (by rfl) rfl rfl ymd ?_
 with_reducible refine (laws_eqPuzzle.calls k t702 _ _ t703 _ _ t706 t711 _ _ t712 _ _ t715 false _ ?side1 ?side2 ?side3 ?side4 ?side5 ?side6 ?side7 ?side8 A30.out).mono ?_
 (case side1 => repeat (first | exact (Kd.Yr HO705.out).2.2 | (with_reducible refine Kd.C_alloc ?_ _) | (with_reducible refine Kd.C_drewN ?_ _) | (with_reducible refine Kd.C_drew ?_)))
 (case side2 => exact (Kd.Yr HO705.out).2.1)
 (case side3 => repeat (first | exact (Kd.S_reads' HO708.out).2.2 | (with_reducible refine Kd.C_alloc ?_ _) | (with_reducible refine Kd.C_drewN ?_ _) | (with_reducible refine Kd.C_drew ?_)))
 (case side4 => exact (Kd.S_reads' HO708.out).2.1)
 (case side5 => repeat (first | exact (Kd.Yr HO714.out).2.2 | (with_reducible refine Kd.C_alloc ?_ _) | (with_reducible refine Kd.C_drewN ?_ _) | (with_reducible refine Kd.C_drew ?_)))
 (case side6 => exact (Kd.Yr HO714.out).2.1)
 (case side7 => repeat (first | exact (Kd.S_reads' HO717.out).2.2 | (with_reducible refine Kd.C_alloc ?_ _) | (with_reducible refine Kd.C_drewN ?_ _) | (with_reducible refine Kd.C_drew ?_)))
 (case side8 => exact (Kd.S_reads' HO717.out).2.1)
 rintro e w73 ⟨rfl, hb⟩
 refine ⟨_, rfl, ?_⟩
 have n0_ := yam (Kd.R_below (Kd.Yz HO697.out) hb)
 have n1_ := yam (Kd.S_below (by (with_reducible repeat (first | apply Kd.S_alloc | apply Kd.S_drewN | apply Kd.S_drew)); exact HO700.out) hb)
 have n2_ := yam (Kd.R_below (Kd.Yz HO705.out) hb)
 have n3_ := yam (Kd.S_below (by (with_reducible repeat (first | apply Kd.S_alloc | apply Kd.S_drewN | apply Kd.S_drew)); exact HO708.out) hb)
 have n4_ := yam (Kd.R_below (Kd.Yz HO714.out) hb)
 have n5_ := yam (Kd.S_below (by (with_reducible repeat (first | apply Kd.S_alloc | apply Kd.S_drewN | apply Kd.S_drew)); exact HO717.out) hb)
 have n6_ := yam (blk_below (g := gb692) (o := .cells #[.int .i64 a0_0, .slice A0_1 l0_1.length c0_1, .slice A0_2 l0_2.length c0_2] 48 (0, 0)) (ybz BK692.out) hb)
 have n7_ := yam (blk_below (g := gb709) (o := .cells #[.int .i64 t702, .slice Ao66 t703.length co66, .slice Ao67 t706.length co67] 37 (0, 0)) (ybz BK709.out) hb)
 have n8_ := yam (below_step yhb hb)
 clear HO697
 clear HO700
 clear HO705
 clear HO708
 clear HO714
 clear HO717
 clear BK692
 clear BK709
 clear HB
 have HO697 := n0_
 have HO700 := n1_
 have HO705 := n2_
 have HO708 := n3_
 have HO714 := n4_
 have HO717 := n5_
 have BK692 := n6_
 have BK709 := n7_
 have HB := n8_
 clear n0_ n1_ n2_ n3_ n4_ n5_ n6_ n7_ n8_
 (try clear hb)
 (try clear hb2)
 (try clear hk)
 (try clear hi)
 refine hK.out _ _ ⟨(blk_cell BK709.out 0).trans rfl, (blk_cell BK709.out 1).trans rfl, (blk_cell BK709.out 2).trans rfl, (blk_cell BK692.out 0).trans rfl, (blk_cell BK692.out 1).trans rfl, (blk_cell BK692.out 2).trans rfl⟩ (fun hHeld => ?_)
 clear hK K
 refine norm_ (a' := ?_) ?_ ?_
 rotate_left
 ·show Act.put _ (some 29) _ = _
  simp only [Act.put, yps, i64_w, i32_w]
  rfl
 refine pure_ (i := 4) (N := some 30) (v := ?_) (a' := ?_) #[true, true, true, true, true] rfl rfl (by kernel_rfl) (fun _ _ _ h => h) (Or.inl ⟨by rfl, ?_⟩) ?_ ?_
 rotate_left
 ·intro w'
  go_simp
  with_reducible rfl
 rotate_left
 ·simp only [Act.put, yps, i64_w, i32_w]
  rfl
 refine done_ (by kernel_rfl) ?_
 try go_wp2
 go_ret
 exact ⟨yer, yhb⟩
end Go.Proofs.Ytmjbnghhfadapaa.P
