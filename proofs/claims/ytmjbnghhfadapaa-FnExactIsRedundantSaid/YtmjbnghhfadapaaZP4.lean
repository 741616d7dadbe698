/- The machine's side: each Go function as a plain Lean function and the proof that the machine's call does what that function says; written by this session's own program over the kit's print. -/
import Derived.Test.YtmjbnghhfadapaaZP1
import Derived.Test.YtmjbnghhfadapaaZP2
import Derived.Test.YtmjbnghhfadapaaZP3
namespace Go.Proofs.Ytmjbnghhfadapaa.P
open Go.RowKit Go.Proofs.YtmjbnghhfadapaaW.PrintWords Go.Proofs.YtmjbnghhfadapaaW.PrintLast Go.Proofs.YtmjbnghhfadapaaW.PrintMore
attribute [local go_sem] max2_int min2_int max_two min_two max_three min_three max_four min_four   -- for this text's walks alone
set_option linter.unusedVariables false
set_option linter.unusedSimpArgs false
mutual
def spec_l5Fits.l0 : Nat → List Int → Int → Int → List Int → List (S73) → Option (Bool)
 | 0, _, _, _, _, _ => none
 | k + 1, x1, x5, x414000, x414001, x414002 => if x5 < (x1.length : Int) then (if 0 ≤ x5 then (if x5 < (x414001.length : Int) then (if (rd x414001 x5) > 0 then (if (rd x1 x5) > 0 then (if (rd x1 x5) = (rd x414001 x5) then (spec_l5Fits.l0 k x1 (wrap64 (x5 + 1)) x414000 x414001 x414002) else (some false)) else (spec_l5Fits.l0 k x1 (wrap64 (x5 + 1)) x414000 x414001 x414002)) else (spec_l5Fits.l0 k x1 (wrap64 (x5 + 1)) x414000 x414001 x414002)) else (none)) else (none)) else (spec_l5Fits.l1 k x1 0 x414000 x414001 x414002)
def spec_l5Fits.l1 : Nat → List Int → Int → Int → List Int → List (S73) → Option (Bool)
 | 0, _, _, _, _, _ => none
 | k + 1, x1, x6, x414000, x414001, x414002 => if x6 < (x414002.length : Int) then (if 0 ≤ x6 then ((spec_RulePossible.f k ((rd_T73 x414002 x6).f0) ((rd_T73 x414002 x6).f1) ((rd_T73 x414002 x6).f2) x1 x414000).bind fun t419 => (if t419 = true then (spec_l5Fits.l1 k x1 (wrap64 (x6 + 1)) x414000 x414001 x414002) else (some false))) else (none)) else ((spec_l2Clash.f k x1 x414000).bind fun t420 => (some (!t420)))
end
def spec_l5Fits.f (k : Nat) (a0_0 : Int) (l0_1 : List Int) (l0_2 : List (S73)) (l1 : List Int) : Option (Bool) := spec_l5Fits.l0 k l1 0 a0_0 l0_1 l0_2
def spec_l5Fits.T4 : Bool × List (List Nat × List Nat) := (true, [([], []), ([0], [0]), ([], []), ([1, 2], [1, 2]), ([3], [3]), ([4], [4]), ([5], [5]), ([6], [6]), ([6], [6]), ([7, 8, 6], [6, 7, 8]), ([9, 6], [6, 9]), ([10, 6], [6, 10]), ([6, 11], [6, 11]), ([12, 6], [12]), ([13], [13]), ([13], [13]), ([14, 15, 13], [13, 14, 15]), ([16, 13], [13, 16]), ([13], [13]), ([18, 13], [13, 18]), ([13], [13]), ([19, 20, 13], [13, 19, 20]), ([21, 13], [13, 21]), ([17, 22, 13], [13, 17, 22]), ([13, 23], [13, 23])])
def spec_l5Fits.B4 : List Nat := [0, 1, 0, 7, 15, 31, 63, 127, 127, 511, 1023, 2047, 4095, 8191, 16383, 16383, 65535, 131071, 16383, 278527, 16383, 1851391, 3948543, 8388607, 16777215]
theorem spec_l5Fits.tab4 : rtab .any (opsOf Try.f90 4) = spec_l5Fits.T4 := by kernel_rfl
theorem spec_l5Fits.bits4 : waitsOk spec_l5Fits.T4.2 spec_l5Fits.B4 = true := by kernel_rfl
def spec_l5Fits.T9 : Bool × List (List Nat × List Nat) := (true, [([], []), ([0], [0]), ([], []), ([1, 2], [1, 2]), ([3], [3]), ([], []), ([], []), ([6], [6]), ([4, 5, 7], [4, 5, 7]), ([8], [8])])
def spec_l5Fits.B9 : List Nat := [0, 1, 0, 7, 15, 0, 0, 64, 255, 511]
theorem spec_l5Fits.tab9 : rtab .any (opsOf Try.f90 9) = spec_l5Fits.T9 := by kernel_rfl
theorem spec_l5Fits.bits9 : waitsOk spec_l5Fits.T9.2 spec_l5Fits.B9 = true := by kernel_rfl
set_option maxHeartbeats 8000000 in
set_option maxRecDepth 100000 in
theorem spec_l5Fits.calls (k : Nat) (a0_0 : Int) (A0_1 : Option Addr) (c0_1 : Nat) (l0_1 : List Int) (A0_2 : Option Addr) (c0_2 : Nat) (l0_2 : List (S73)) (A1 : Option Addr) (c1 : Nat) (l1 : List Int) (r : Bool) (w : World) (hr0_1 : Kd.C (Kd.int .i64) w A0_1 l0_1.length l0_1) (hc0_1 : l0_1.length ≤ c0_1) (hr0_2 : Kd.C k73 w A0_2 l0_2.length l0_2) (hc0_2 : l0_2.length ≤ c0_2) (hr1 : Kd.C (Kd.int .i64) w A1 l1.length l1) (hc1 : l1.length ≤ c1) (h : spec_l5Fits.f k a0_0 l0_1 l0_2 l1 = some r) :
  Calls Try.prog 90 #[.agg #[.int .i64 a0_0, .slice A0_1 l0_1.length c0_1, .slice A0_2 l0_2.length c0_2], .slice A1 l1.length c1] w fun e w' => e = .returned (.bool r) ∧ Below w.heap.size w w' := by
 have hu37 := Try.underlying37
 have hu73 := Try.underlying73
 have HR0_1 := yam hr0_1
 have HC0_1 := yam hc0_1
 clear hr0_1 hc0_1
 have HR0_2 := yam hr0_2
 have HC0_2 := yam hc0_2
 clear hr0_2 hc0_2
 have HR1 := yam hr1
 have HC1 := yam hc1
 clear hr1 hc1
 have HB := yam (Below.refl w.heap.size w)
 have H : (spec_l5Fits.l0 k l1 0 a0_0 l0_1 l0_2) = some r := h
 clear h
 have H' := yam H
 clear H
 go_enter Try.func90, Try.ntmps90
 go_wp2_with (first | (refine ybe 2 #[.int .i64 a0_0, .slice A0_1 l0_1.length c0_1, .slice A0_2 l0_2.length c0_2] 37 ?_; intro gb413 hg w3 hbox hb; have n0_ := yam (below_step (yez HB.out) hb); have n1_ := yam (hbox); have n2_ := yam ((by rw [hg]; exact (below_size (yez HB.out)) : w.heap.size ≤ gb413)); have n3_ := n2_; clear HB; have HB := n0_; have BK413 := n1_; have GW413 := n2_; have GE413 := n3_; clear n0_ n1_ n2_ n3_; clear hb hbox hg))
 go_loopg [5] k (fun kq v5 w' => ∃ (x5_1 : Int), v5 = .int .i64 x5_1 ∧ Aside0 (spec_l5Fits.l0 kq l1 x5_1 a0_0 l0_1 l0_2 = some r) ∧ Aside0 (kq ≤ k) ∧ Aside0 (w'.heap[gb413]? = some (.cells #[.int .i64 a0_0, (.slice A0_1 l0_1.length c0_1), (.slice A0_2 l0_2.length c0_2)] 37 (0, 0))) ∧ Aside0 (Below w.heap.size w w'))
 case atStart => exact ⟨(0), yeq, H', ⟨Nat.le_refl _⟩, ⟨by (with_reducible repeat (first | refine ybn ?_ _ | refine ybd ?_ | refine yba ?_ _)); exact BK413.out⟩, ⟨yhb⟩⟩
 case round =>
  clear H'
  try clear c1
  try clear p2
  obtain ⟨x5_1, rfl, HA, HK1, BK413, HB⟩ := hrel
  cases gk with
  | zero => exact absurd HA.out (by simp [spec_l5Fits.l0])
  | succ k1 =>
   have H := HA.out
   clear HA
   simp only [spec_l5Fits.l0] at H
   by_cases c4 : x5_1 < (l1.length : Int)
   rotate_left
   ·rw [if_neg c4] at H
    have c4b0 : decide (x5_1 < (l1.length : Int)) = false := decide_eq_false c4
    clear c4
    have H' := yam H
    clear H
    go_wp2
    go_loopg [6] k1 (fun kq v6 w' => ∃ (x6_2 : Int), v6 = .int .i64 x6_2 ∧ Aside0 (spec_l5Fits.l1 kq l1 x6_2 a0_0 l0_1 l0_2 = some r) ∧ Aside0 (kq ≤ k1) ∧ Aside0 (w'.heap[gb413]? = some (.cells #[.int .i64 a0_0, (.slice A0_1 l0_1.length c0_1), (.slice A0_2 l0_2.length c0_2)] 37 (0, 0))) ∧ Aside0 (Below w.heap.size w w'))
    case atStart => exact ⟨(0), yeq, H', ⟨Nat.le_refl _⟩, ⟨by (with_reducible repeat (first | refine ybn ?_ _ | refine ybd ?_ | refine yba ?_ _)); exact BK413.out⟩, ⟨yhb⟩⟩
    case round =>
     clear H'
     try clear p2
     try clear c4
     try clear c4b0
     try clear p4
     try clear q4
     try clear hx4
     try clear c5
     try clear c6
     try clear p6
     try clear c7
     try clear c7b0
     try clear c8
     try clear c8b0
     try clear hx414_0
     try clear hx415_0
     try clear hx416_0
     try clear hx417_0
     try clear p414
     try clear p415
     try clear p416
     try clear p417
     try clear q414
     try clear q415
     try clear q416
     try clear q417
     obtain ⟨x6_2, rfl, HA, HK2, BK413, HB⟩ := hrel
     cases gk with
     | zero => exact absurd HA.out (by simp [spec_l5Fits.l1])
     | succ k2 =>
      have H := HA.out
      clear HA
      simp only [spec_l5Fits.l1] at H
      by_cases c14 : x6_2 < (l0_2.length : Int)
      rotate_left
      ·rw [if_neg c14] at H
       have c14b0 : decide (x6_2 < (l0_2.length : Int)) = false := decide_eq_false c14
       clear c14
       replace H := Option.bind_eq_some_iff.mp H
       obtain ⟨t420, A240, H⟩ := H
       try dsimp only at H
       have A24 := yam A240
       clear A240
       obtain rfl := Option.some.inj H
       obtain ⟨hcz25_0, hcz25_1, hcz25_2, hfz25_0, hfz25_1, hfz25_2⟩ := ybc BK413.out
       go_wp2_with (first | (refine goesL_ (some 58) rfl rfl Try.func71 (by kernel_rfl) rfl #[.slice A1 l1.length c1, .int .i64 a0_0] rfl ymd ?_; (with_reducible refine (spec_l2Clash.calls k2 _ _ l1 a0_0 t420 _ ?side1 ?side2 A24.out).mono ?_); (case side1 => exact Kd.Cz ((Kd.C_below HR1.out HB.out))); (case side2 => exact HC1.out); rintro e w26 ⟨rfl, hb⟩; refine ⟨_, rfl, ?_⟩; have n0_ := yam (blk_below (g := gb413) (o := .cells #[.int .i64 a0_0, .slice A0_1 l0_1.length c0_1, .slice A0_2 l0_2.length c0_2] 37 (0, 0)) (ybz BK413.out) hb); have n1_ := yam (below_step yhb hb); clear BK413; clear HB; have BK413 := n0_; have HB := n1_; clear n0_ n1_; (try clear hb); (try clear hb2); (try clear hk); (try clear hi)))
       go_ret
       exact ⟨yer, yhb⟩

      rw [if_pos c14] at H
      have c14b0 : decide (x6_2 < (l0_2.length : Int)) = true := decide_eq_true c14
      clear c14
      replace H := yif H
      obtain ⟨c15b0, H⟩ := H
      replace H := Option.bind_eq_some_iff.mp H
      obtain ⟨t419, A160, H⟩ := H
      try dsimp only at H
      have A16 := yam A160
      clear A160
      by_cases c17 : t419 = true
      rotate_left
      ·replace c17 := Bool.eq_false_iff.mpr c17
       subst c17
       have H1 : (some false) = some r := by rw [if_neg (show ¬ (false = true) by decide)] at H; exact H
       clear H
       have H := H1
       clear H1
       obtain rfl := Option.some.inj H
       obtain ⟨hcz21_0, hcz21_1, hcz21_2, hfz21_0, hfz21_1, hfz21_2⟩ := ybc BK413.out
       try go_wp2
       have n0_ := yam (ybd BK413.out)
       have n1_ := yam (yed HB.out)
       clear BK413
       clear HB
       have BK413 := n0_
       have HB := n1_
       clear n0_ n1_
       have p418 : 0 ≤ (x6_2 : Int) := ydt
       have q418 : x6_2 < (l0_2.length : Int) := ydt
       obtain ⟨ad418, A418_1, c418_1, e418, hx418_0, hx418_1, hx418_2, hl418_1, hi418_1⟩ := at_T73 HR0_2.out x6_2 p418 q418
       have hw418_2 := hx418_2
       have hw418_1 := hx418_1
       have hw418_0 := hx418_0
       cases e418
       replace hx418_0 := ybx HB.out hx418_0
       replace hx418_1 := ybx HB.out hx418_1
       replace hx418_2 := ybx HB.out hx418_2
       have HR418_1 := yam hi418_1
       have HC418_1 := yam hl418_1
       clear hi418_1 hl418_1
       replace p418 := eq_true p418
       replace q418 := eq_true q418
       refine start_ (n := 10) (S := fun w' => w'.cell? ⟨gb413, 0, none⟩ = some (.int .i64 a0_0) ∧ w'.cell? ⟨gb413, 1, none⟩ = some (.slice A0_1 l0_1.length c0_1) ∧ w'.cell? ⟨gb413, 2, none⟩ = some (.slice (some ad418) l0_2.length c0_2) ∧ w'.cell? (ad418.add ((x6_2).toNat * 3)) = some (.int .i64 ((rd_T73 l0_2 x6_2).f0)) ∧ w'.cell? ⟨(ad418.add ((x6_2).toNat * 3)).block, (ad418.add ((x6_2).toNat * 3)).off + 1, none⟩ = some (.slice A418_1 ((rd_T73 l0_2 x6_2).f1).length c418_1) ∧ w'.cell? ⟨(ad418.add ((x6_2).toNat * 3)).block, (ad418.add ((x6_2).toNat * 3)).off + 2, none⟩ = some (.int .i64 ((rd_T73 l0_2 x6_2).f2))) (ds := []) #[false, false, false, false, false, false, false, false, false, false] (by kernel_rfl) rfl rfl ⟨(blk_cell BK413.out 0).trans rfl, (blk_cell BK413.out 1).trans rfl, (blk_cell BK413.out 2).trans rfl, ((HB.out.cell (World.block_lt_of_cell? w _ hw418_0)).trans hw418_0), ((HB.out.cell (World.block_lt_of_cell? w _ hw418_1)).trans hw418_1), ((HB.out.cell (World.block_lt_of_cell? w _ hw418_2)).trans hw418_2)⟩ (fun hHeld => ?_); refine with_tabW spec_l5Fits.tab9 spec_l5Fits.bits9 (fun HT_ HW_ => ?_)
       generalize wr.drew = w22 at BK413 HB HR418_1 hx418_0 hx418_1 hx418_2 hHeld ⊢
       refine yvp 0 45 (yvb 10 1) HT_.out ?_
       refine yvp 2 47 (yvb 10 5) HT_.out ?_
       refine yvp 5 50 (yvb 10 37) HT_.out ?_
       refine yvp 6 51 (yvb 10 101) HT_.out ?_
       refine yvt 1 46 (yvb 10 103) HT_.out HW_.out hHeld ?_
       refine yvp 3 48 (yvb 10 111) HT_.out ?_
       refine yvt 4 49 (yvb 10 127) HT_.out HW_.out hHeld ?_
       refine yvt 7 52 (yvb 10 255) HT_.out HW_.out hHeld ?_
       refine one_ (i := 8) (N := some 53) #[true, true, true, true, true, true, true, true, true, false] rfl rfl (one_of HT_.out (by kernel_rfl)) (by decide) (fun K hK => ?_)
       refine goes_ Try.func94 (by kernel_rfl) rfl #[.agg #[.int .i64 ((rd_T73 l0_2 x6_2).f0), .slice A418_1 ((rd_T73 l0_2 x6_2).f1).length c418_1, .int .i64 ((rd_T73 l0_2 x6_2).f2)], .slice A1 l1.length c1, .int .i64 a0_0] (by rfl) rfl rfl ymd ?_
       with_reducible refine (spec_RulePossible.calls k2 ((rd_T73 l0_2 x6_2).f0) _ _ ((rd_T73 l0_2 x6_2).f1) ((rd_T73 l0_2 x6_2).f2) _ _ l1 a0_0 false _ ?side1 ?side2 ?side3 ?side4 A16.out).mono ?_
       (case side1 => exact Kd.Cz ((Kd.C_below HR418_1.out HB.out)))
       (case side2 => exact HC418_1.out)
       (case side3 => exact Kd.Cz ((Kd.C_below HR1.out HB.out)))
       (case side4 => exact HC1.out)
       rintro e w23 ⟨rfl, hb⟩
       refine ⟨_, rfl, ?_⟩
       have n0_ := yam (blk_below (g := gb413) (o := .cells #[.int .i64 a0_0, .slice A0_1 l0_1.length c0_1, .slice (some ad418) l0_2.length c0_2] 37 (0, 0)) (ybz BK413.out) hb)
       have n1_ := yam (below_step yhb hb)
       clear BK413
       clear HB
       have BK413 := n0_
       have HB := n1_
       clear n0_ n1_
       (try clear hb)
       (try clear hb2)
       (try clear hk)
       (try clear hi)
       refine hK.out _ _ ⟨(blk_cell BK413.out 0).trans rfl, (blk_cell BK413.out 1).trans rfl, (blk_cell BK413.out 2).trans rfl, ((HB.out.cell (World.block_lt_of_cell? w _ hw418_0)).trans hw418_0), ((HB.out.cell (World.block_lt_of_cell? w _ hw418_1)).trans hw418_1), ((HB.out.cell (World.block_lt_of_cell? w _ hw418_2)).trans hw418_2)⟩ (fun hHeld => ?_)
       clear hK K
       refine norm_ (a' := ?_) ?_ ?_
       rotate_left
       ·show Act.put _ (some 53) _ = _
        simp only [Act.put, yps, i64_w, i32_w]
        rfl
       refine yvp 9 54 (yvb 10 1023) HT_.out ?_
       refine done_ (done_of HT_.out (by kernel_rfl)) ?_
       try go_wp2
       go_ret
       exact ⟨yer, yhb⟩
      subst c17
      have H1 : (spec_l5Fits.l1 k2 l1 (wrap64 (x6_2 + 1)) a0_0 l0_1 l0_2) = some r := by rw [if_pos rfl] at H; exact H
      clear H
      have H := H1
      clear H1
      have H' := yam H
      clear H
      obtain ⟨hcz18_0, hcz18_1, hcz18_2, hfz18_0, hfz18_1, hfz18_2⟩ := ybc BK413.out
      try go_wp2
      have n0_ := yam (ybd BK413.out)
      have n1_ := yam (yed HB.out)
      clear BK413
      clear HB
      have BK413 := n0_
      have HB := n1_
      clear n0_ n1_
      have p418 : 0 ≤ (x6_2 : Int) := ydt
      have q418 : x6_2 < (l0_2.length : Int) := ydt
      obtain ⟨ad418, A418_1, c418_1, e418, hx418_0, hx418_1, hx418_2, hl418_1, hi418_1⟩ := at_T73 HR0_2.out x6_2 p418 q418
      have hw418_2 := hx418_2
      have hw418_1 := hx418_1
      have hw418_0 := hx418_0
      cases e418
      replace hx418_0 := ybx HB.out hx418_0
      replace hx418_1 := ybx HB.out hx418_1
      replace hx418_2 := ybx HB.out hx418_2
      have HR418_1 := yam hi418_1
      have HC418_1 := yam hl418_1
      clear hi418_1 hl418_1
      replace p418 := eq_true p418
      replace q418 := eq_true q418
      refine start_ (n := 10) (S := fun w' => w'.cell? ⟨gb413, 0, none⟩ = some (.int .i64 a0_0) ∧ w'.cell? ⟨gb413, 1, none⟩ = some (.slice A0_1 l0_1.length c0_1) ∧ w'.cell? ⟨gb413, 2, none⟩ = some (.slice (some ad418) l0_2.length c0_2) ∧ w'.cell? (ad418.add ((x6_2).toNat * 3)) = some (.int .i64 ((rd_T73 l0_2 x6_2).f0)) ∧ w'.cell? ⟨(ad418.add ((x6_2).toNat * 3)).block, (ad418.add ((x6_2).toNat * 3)).off + 1, none⟩ = some (.slice A418_1 ((rd_T73 l0_2 x6_2).f1).length c418_1) ∧ w'.cell? ⟨(ad418.add ((x6_2).toNat * 3)).block, (ad418.add ((x6_2).toNat * 3)).off + 2, none⟩ = some (.int .i64 ((rd_T73 l0_2 x6_2).f2))) (ds := []) #[false, false, false, false, false, false, false, false, false, false] (by kernel_rfl) rfl rfl ⟨(blk_cell BK413.out 0).trans rfl, (blk_cell BK413.out 1).trans rfl, (blk_cell BK413.out 2).trans rfl, ((HB.out.cell (World.block_lt_of_cell? w _ hw418_0)).trans hw418_0), ((HB.out.cell (World.block_lt_of_cell? w _ hw418_1)).trans hw418_1), ((HB.out.cell (World.block_lt_of_cell? w _ hw418_2)).trans hw418_2)⟩ (fun hHeld => ?_); refine with_tabW spec_l5Fits.tab9 spec_l5Fits.bits9 (fun HT_ HW_ => ?_)
      generalize wr.drew = w19 at BK413 HB HR418_1 hx418_0 hx418_1 hx418_2 hHeld ⊢
      refine yvp 0 45 (yvb 10 1) HT_.out ?_
      refine yvp 2 47 (yvb 10 5) HT_.out ?_
      refine yvp 5 50 (yvb 10 37) HT_.out ?_
      refine yvp 6 51 (yvb 10 101) HT_.out ?_
      refine yvt 1 46 (yvb 10 103) HT_.out HW_.out hHeld ?_
      refine yvp 3 48 (yvb 10 111) HT_.out ?_
      refine yvt 4 49 (yvb 10 127) HT_.out HW_.out hHeld ?_
      refine yvt 7 52 (yvb 10 255) HT_.out HW_.out hHeld ?_
      refine one_ (i := 8) (N := some 53) #[true, true, true, true, true, true, true, true, true, false] rfl rfl (one_of HT_.out (by kernel_rfl)) (by decide) (fun K hK => ?_)
      refine goes_ Try.func94 (by kernel_rfl) rfl #[.agg #[.int .i64 ((rd_T73 l0_2 x6_2).f0), .slice A418_1 ((rd_T73 l0_2 x6_2).f1).length c418_1, .int .i64 ((rd_T73 l0_2 x6_2).f2)], .slice A1 l1.length c1, .int .i64 a0_0] (by rfl) rfl rfl ymd ?_
      with_reducible refine (spec_RulePossible.calls k2 ((rd_T73 l0_2 x6_2).f0) _ _ ((rd_T73 l0_2 x6_2).f1) ((rd_T73 l0_2 x6_2).f2) _ _ l1 a0_0 true _ ?side1 ?side2 ?side3 ?side4 A16.out).mono ?_
      (case side1 => exact Kd.Cz ((Kd.C_below HR418_1.out HB.out)))
      (case side2 => exact HC418_1.out)
      (case side3 => exact Kd.Cz ((Kd.C_below HR1.out HB.out)))
      (case side4 => exact HC1.out)
      rintro e w20 ⟨rfl, hb⟩
      refine ⟨_, rfl, ?_⟩
      have n0_ := yam (blk_below (g := gb413) (o := .cells #[.int .i64 a0_0, .slice A0_1 l0_1.length c0_1, .slice (some ad418) l0_2.length c0_2] 37 (0, 0)) (ybz BK413.out) hb)
      have n1_ := yam (below_step yhb hb)
      clear BK413
      clear HB
      have BK413 := n0_
      have HB := n1_
      clear n0_ n1_
      (try clear hb)
      (try clear hb2)
      (try clear hk)
      (try clear hi)
      refine hK.out _ _ ⟨(blk_cell BK413.out 0).trans rfl, (blk_cell BK413.out 1).trans rfl, (blk_cell BK413.out 2).trans rfl, ((HB.out.cell (World.block_lt_of_cell? w _ hw418_0)).trans hw418_0), ((HB.out.cell (World.block_lt_of_cell? w _ hw418_1)).trans hw418_1), ((HB.out.cell (World.block_lt_of_cell? w _ hw418_2)).trans hw418_2)⟩ (fun hHeld => ?_)
      clear hK K
      refine norm_ (a' := ?_) ?_ ?_
      rotate_left
      ·show Act.put _ (some 53) _ = _
       simp only [Act.put, yps, i64_w, i32_w]
       rfl
      refine yvp 9 54 (yvb 10 1023) HT_.out ?_
      refine done_ (done_of HT_.out (by kernel_rfl)) ?_
      try go_wp2
      go_roundg k2
      case measure => have := HK1.out; have := HK2.out; omega
      case rel => exact ⟨(wrap64 (x6_2 + 1)), yeq, H', ⟨by have := HK1.out; have := HK2.out; omega⟩, ⟨by (with_reducible repeat (first | refine ybn ?_ _ | refine ybd ?_ | refine yba ?_ _)); exact BK413.out⟩, ⟨yhb⟩⟩
   rw [if_pos c4] at H
   have c4b0 : decide (x5_1 < (l1.length : Int)) = true := decide_eq_true c4
   clear c4
   replace H := yif H
   obtain ⟨c5b0, H⟩ := H
   replace H := yif H
   obtain ⟨c6b0, H⟩ := H
   by_cases c7 : (rd l0_1 x5_1) > 0
   rotate_left
   ·rw [if_neg c7] at H
    have c7b0 : decide (0 < (rd l0_1 x5_1)) = false := decide_eq_false c7
    clear c7
    have H' := yam H
    clear H
    try go_wp2
    have n0_ := yam (ybd BK413.out)
    have n1_ := yam (yed HB.out)
    clear BK413
    clear HB
    have BK413 := n0_
    have HB := n1_
    clear n0_ n1_
    have p414 : 0 ≤ (x5_1 : Int) := ydt
    have q414 : x5_1 < (l0_1.length : Int) := ydt
    obtain ⟨ad414, e414, hx414_0⟩ := Kd.at_int HR0_1.out x5_1 p414 q414
    have hw414_0 := hx414_0
    cases e414
    replace hx414_0 := ybx HB.out hx414_0
    replace p414 := eq_true p414
    replace q414 := eq_true q414
    refine start_ (n := 25) (S := fun w' => w'.cell? ⟨gb413, 0, none⟩ = some (.int .i64 a0_0) ∧ w'.cell? ⟨gb413, 1, none⟩ = some (.slice (some ad414) l0_1.length c0_1) ∧ w'.cell? ⟨gb413, 2, none⟩ = some (.slice A0_2 l0_2.length c0_2) ∧ w'.cell? (ad414.add (x5_1).toNat) = some (.int .i64 (rd l0_1 x5_1))) (ds := []) #[false, false, false, false, false, false, false, false, false, false, false, false, false, false, false, false, false, false, false, false, false, false, false, false, false] (by kernel_rfl) rfl rfl ⟨(blk_cell BK413.out 0).trans rfl, (blk_cell BK413.out 1).trans rfl, (blk_cell BK413.out 2).trans rfl, ((HB.out.cell (World.block_lt_of_cell? w _ hw414_0)).trans hw414_0)⟩ (fun hHeld => ?_); refine with_tabW spec_l5Fits.tab4 spec_l5Fits.bits4 (fun HT_ HW_ => ?_)
    generalize wr.drew = w13 at BK413 HB hx414_0 hHeld ⊢
    refine yvp 0 13 (yvb 25 1) HT_.out ?_
    refine yvp 2 15 (yvb 25 5) HT_.out ?_
    refine yvt 1 14 (yvb 25 7) HT_.out HW_.out hHeld ?_
    refine yvp 3 16 (yvb 25 15) HT_.out ?_
    refine yvt 4 17 (yvb 25 31) HT_.out HW_.out hHeld ?_
    refine yvp 5 18 (yvb 25 63) HT_.out ?_
    refine yvp 6 19 (yvb 25 127) HT_.out ?_
    refine yvu 7 20 (yvb 25 255) HT_.out ?_
    refine yvu 8 21 (yvb 25 511) HT_.out ?_
    refine yvu 9 22 (yvb 25 1023) HT_.out ?_
    refine yvu 10 23 (yvb 25 2047) HT_.out ?_
    refine yvu 11 24 (yvb 25 4095) HT_.out ?_
    refine yvp 12 25 (yvb 25 8191) HT_.out ?_
    refine yvp 13 26 (yvb 25 16383) HT_.out ?_
    refine yvu 14 27 (yvb 25 32767) HT_.out ?_
    refine yvu 15 28 (yvb 25 65535) HT_.out ?_
    refine yvu 16 29 (yvb 25 131071) HT_.out ?_
    refine yvu 17 30 (yvb 25 262143) HT_.out ?_
    refine yvu 18 31 (yvb 25 524287) HT_.out ?_
    refine yvu 19 32 (yvb 25 1048575) HT_.out ?_
    refine yvu 20 33 (yvb 25 2097151) HT_.out ?_
    refine yvu 21 34 (yvb 25 4194303) HT_.out ?_
    refine yvu 22 35 (yvb 25 8388607) HT_.out ?_
    refine yvu 23 36 (yvb 25 16777215) HT_.out ?_
    refine yvp 24 37 (yvb 25 33554431) HT_.out ?_
    refine done_ (done_of HT_.out (by kernel_rfl)) ?_
    try go_wp2
    go_roundg k1
    case measure => have := HK1.out; omega
    case rel => exact ⟨(wrap64 (x5_1 + 1)), yeq, H', ⟨by have := HK1.out; omega⟩, ⟨by (with_reducible repeat (first | refine ybn ?_ _ | refine ybd ?_ | refine yba ?_ _)); exact BK413.out⟩, ⟨yhb⟩⟩
   rw [if_pos c7] at H
   have c7b0 : decide (0 < (rd l0_1 x5_1)) = true := decide_eq_true c7
   clear c7
   by_cases c8 : (rd l1 x5_1) > 0
   rotate_left
   ·rw [if_neg c8] at H
    have c8b0 : decide (0 < (rd l1 x5_1)) = false := decide_eq_false c8
    clear c8
    have H' := yam H
    clear H
    try go_wp2
    have n0_ := yam (ybd BK413.out)
    have n1_ := yam (yed HB.out)
    clear BK413
    clear HB
    have BK413 := n0_
    have HB := n1_
    clear n0_ n1_
    have p414 : 0 ≤ (x5_1 : Int) := ydt
    have q414 : x5_1 < (l0_1.length : Int) := ydt
    obtain ⟨ad414, e414, hx414_0⟩ := Kd.at_int HR0_1.out x5_1 p414 q414
    have hw414_0 := hx414_0
    cases e414
    replace hx414_0 := ybx HB.out hx414_0
    replace p414 := eq_true p414
    replace q414 := eq_true q414
    have p415 : 0 ≤ (x5_1 : Int) := ydt
    have q415 : x5_1 < (l1.length : Int) := ydt
    obtain ⟨ad415, e415, hx415_0⟩ := Kd.at_int HR1.out x5_1 p415 q415
    have hw415_0 := hx415_0
    cases e415
    replace hx415_0 := ybx HB.out hx415_0
    replace p415 := eq_true p415
    replace q415 := eq_true q415
    refine start_ (n := 25) (S := fun w' => w'.cell? ⟨gb413, 0, none⟩ = some (.int .i64 a0_0) ∧ w'.cell? ⟨gb413, 1, none⟩ = some (.slice (some ad414) l0_1.length c0_1) ∧ w'.cell? ⟨gb413, 2, none⟩ = some (.slice A0_2 l0_2.length c0_2) ∧ w'.cell? (ad414.add (x5_1).toNat) = some (.int .i64 (rd l0_1 x5_1)) ∧ w'.cell? (ad415.add (x5_1).toNat) = some (.int .i64 (rd l1 x5_1))) (ds := []) #[false, false, false, false, false, false, false, false, false, false, false, false, false, false, false, false, false, false, false, false, false, false, false, false, false] (by kernel_rfl) rfl rfl ⟨(blk_cell BK413.out 0).trans rfl, (blk_cell BK413.out 1).trans rfl, (blk_cell BK413.out 2).trans rfl, ((HB.out.cell (World.block_lt_of_cell? w _ hw414_0)).trans hw414_0), ((HB.out.cell (World.block_lt_of_cell? w _ hw415_0)).trans hw415_0)⟩ (fun hHeld => ?_); refine with_tabW spec_l5Fits.tab4 spec_l5Fits.bits4 (fun HT_ HW_ => ?_)
    generalize wr.drew = w12 at BK413 HB hx414_0 hx415_0 hHeld ⊢
    refine yvp 0 13 (yvb 25 1) HT_.out ?_
    refine yvp 2 15 (yvb 25 5) HT_.out ?_
    refine yvt 1 14 (yvb 25 7) HT_.out HW_.out hHeld ?_
    refine yvp 3 16 (yvb 25 15) HT_.out ?_
    refine yvt 4 17 (yvb 25 31) HT_.out HW_.out hHeld ?_
    refine yvp 5 18 (yvb 25 63) HT_.out ?_
    refine yvp 6 19 (yvb 25 127) HT_.out ?_
    refine yvp 7 20 (yvb 25 255) HT_.out ?_
    refine yvp 8 21 (yvb 25 511) HT_.out ?_
    refine yvp 9 22 (yvb 25 1023) HT_.out ?_
    refine yvt 10 23 (yvb 25 2047) HT_.out HW_.out hHeld ?_
    refine yvp 11 24 (yvb 25 4095) HT_.out ?_
    refine yvp 12 25 (yvb 25 8191) HT_.out ?_
    refine yvp 13 26 (yvb 25 16383) HT_.out ?_
    refine yvu 14 27 (yvb 25 32767) HT_.out ?_
    refine yvu 15 28 (yvb 25 65535) HT_.out ?_
    refine yvu 16 29 (yvb 25 131071) HT_.out ?_
    refine yvu 17 30 (yvb 25 262143) HT_.out ?_
    refine yvu 18 31 (yvb 25 524287) HT_.out ?_
    refine yvu 19 32 (yvb 25 1048575) HT_.out ?_
    refine yvu 20 33 (yvb 25 2097151) HT_.out ?_
    refine yvu 21 34 (yvb 25 4194303) HT_.out ?_
    refine yvu 22 35 (yvb 25 8388607) HT_.out ?_
    refine yvu 23 36 (yvb 25 16777215) HT_.out ?_
    refine yvp 24 37 (yvb 25 33554431) HT_.out ?_
    refine done_ (done_of HT_.out (by kernel_rfl)) ?_
    try go_wp2
    go_roundg k1
    case measure => have := HK1.out; omega
    case rel => exact ⟨(wrap64 (x5_1 + 1)), yeq, H', ⟨by have := HK1.out; omega⟩, ⟨by (with_reducible repeat (first | refine ybn ?_ _ | refine ybd ?_ | refine yba ?_ _)); exact BK413.out⟩, ⟨yhb⟩⟩
   rw [if_pos c8] at H
   have c8b0 : decide (0 < (rd l1 x5_1)) = true := decide_eq_true c8
   clear c8
   by_cases c9 : (rd l1 x5_1) = (rd l0_1 x5_1)
   rotate_left
   ·rw [if_neg c9] at H
    have c9b0 : ((rd l1 x5_1) == (rd l0_1 x5_1)) = false := beq_eq_false_iff_ne.mpr c9
    have c9b1 : ((rd l1 x5_1) != (rd l0_1 x5_1)) = true := bne_iff_ne.mpr c9
    obtain rfl := Option.some.inj H
    try go_wp2
    have n0_ := yam (ybd BK413.out)
    have n1_ := yam (yed HB.out)
    clear BK413
    clear HB
    have BK413 := n0_
    have HB := n1_
    clear n0_ n1_
    have p414 : 0 ≤ (x5_1 : Int) := ydt
    have q414 : x5_1 < (l0_1.length : Int) := ydt
    obtain ⟨ad414, e414, hx414_0⟩ := Kd.at_int HR0_1.out x5_1 p414 q414
    have hw414_0 := hx414_0
    cases e414
    replace hx414_0 := ybx HB.out hx414_0
    replace p414 := eq_true p414
    replace q414 := eq_true q414
    have p415 : 0 ≤ (x5_1 : Int) := ydt
    have q415 : x5_1 < (l1.length : Int) := ydt
    obtain ⟨ad415, e415, hx415_0⟩ := Kd.at_int HR1.out x5_1 p415 q415
    have hw415_0 := hx415_0
    cases e415
    replace hx415_0 := ybx HB.out hx415_0
    replace p415 := eq_true p415
    replace q415 := eq_true q415
    have p416 : 0 ≤ (x5_1 : Int) := ydt
    have q416 : x5_1 < (l1.length : Int) := ydt
    obtain ⟨ad416, e416, hx416_0⟩ := Kd.at_int HR1.out x5_1 p416 q416
    have hw416_0 := hx416_0
    obtain rfl : ad415 = ad416 := (by injection e416)
    replace hx416_0 := ybx HB.out hx416_0
    replace p416 := eq_true p416
    replace q416 := eq_true q416
    have p417 : 0 ≤ (x5_1 : Int) := ydt
    have q417 : x5_1 < (l0_1.length : Int) := ydt
    obtain ⟨ad417, e417, hx417_0⟩ := Kd.at_int HR0_1.out x5_1 p417 q417
    have hw417_0 := hx417_0
    obtain rfl : ad414 = ad417 := (by injection e417)
    replace hx417_0 := ybx HB.out hx417_0
    replace p417 := eq_true p417
    replace q417 := eq_true q417
    refine start_ (n := 25) (S := fun w' => w'.cell? ⟨gb413, 0, none⟩ = some (.int .i64 a0_0) ∧ w'.cell? ⟨gb413, 1, none⟩ = some (.slice (some ad414) l0_1.length c0_1) ∧ w'.cell? ⟨gb413, 2, none⟩ = some (.slice A0_2 l0_2.length c0_2) ∧ w'.cell? (ad414.add (x5_1).toNat) = some (.int .i64 (rd l0_1 x5_1)) ∧ w'.cell? (ad415.add (x5_1).toNat) = some (.int .i64 (rd l1 x5_1)) ∧ w'.cell? (ad415.add (x5_1).toNat) = some (.int .i64 (rd l1 x5_1)) ∧ w'.cell? (ad414.add (x5_1).toNat) = some (.int .i64 (rd l0_1 x5_1))) (ds := []) #[false, false, false, false, false, false, false, false, false, false, false, false, false, false, false, false, false, false, false, false, false, false, false, false, false] (by kernel_rfl) rfl rfl ⟨(blk_cell BK413.out 0).trans rfl, (blk_cell BK413.out 1).trans rfl, (blk_cell BK413.out 2).trans rfl, ((HB.out.cell (World.block_lt_of_cell? w _ hw414_0)).trans hw414_0), ((HB.out.cell (World.block_lt_of_cell? w _ hw415_0)).trans hw415_0), ((HB.out.cell (World.block_lt_of_cell? w _ hw416_0)).trans hw416_0), ((HB.out.cell (World.block_lt_of_cell? w _ hw417_0)).trans hw417_0)⟩ (fun hHeld => ?_); refine with_tabW spec_l5Fits.tab4 spec_l5Fits.bits4 (fun HT_ HW_ => ?_)
    generalize wr.drew = w11 at BK413 HB hx414_0 hx415_0 hx416_0 hx417_0 hHeld ⊢
    refine yvp 0 13 (yvb 25 1) HT_.out ?_
    refine yvp 2 15 (yvb 25 5) HT_.out ?_
    refine yvt 1 14 (yvb 25 7) HT_.out HW_.out hHeld ?_
    refine yvp 3 16 (yvb 25 15) HT_.out ?_
    refine yvt 4 17 (yvb 25 31) HT_.out HW_.out hHeld ?_
    refine yvp 5 18 (yvb 25 63) HT_.out ?_
    refine yvp 6 19 (yvb 25 127) HT_.out ?_
    refine yvp 7 20 (yvb 25 255) HT_.out ?_
    refine yvp 8 21 (yvb 25 511) HT_.out ?_
    refine yvp 9 22 (yvb 25 1023) HT_.out ?_
    refine yvt 10 23 (yvb 25 2047) HT_.out HW_.out hHeld ?_
    refine yvp 11 24 (yvb 25 4095) HT_.out ?_
    refine yvp 12 25 (yvb 25 8191) HT_.out ?_
    refine yvp 13 26 (yvb 25 16383) HT_.out ?_
    refine yvp 14 27 (yvb 25 32767) HT_.out ?_
    refine yvp 15 28 (yvb 25 65535) HT_.out ?_
    refine yvp 16 29 (yvb 25 131071) HT_.out ?_
    refine yvp 18 31 (yvb 25 393215) HT_.out ?_
    refine yvp 20 33 (yvb 25 1441791) HT_.out ?_
    refine yvt 17 30 (yvb 25 1572863) HT_.out HW_.out hHeld ?_
    refine yvt 19 32 (yvb 25 2097151) HT_.out HW_.out hHeld ?_
    refine yvp 21 34 (yvb 25 4194303) HT_.out ?_
    refine yvt 22 35 (yvb 25 8388607) HT_.out HW_.out hHeld ?_
    refine yvp 23 36 (yvb 25 16777215) HT_.out ?_
    refine yvp 24 37 (yvb 25 33554431) HT_.out ?_
    refine done_ (done_of HT_.out (by kernel_rfl)) ?_
    try go_wp2
    go_ret
    exact ⟨yer, yhb⟩
   rw [if_pos c9] at H
   have c9b0 : ((rd l1 x5_1) == (rd l0_1 x5_1)) = true := beq_iff_eq.mpr c9
   have c9b1 : ((rd l1 x5_1) != (rd l0_1 x5_1)) = false := bne_eq_false_iff_eq.mpr c9
   clear c9
   have H' := yam H
   clear H
   try go_wp2
   have n0_ := yam (ybd BK413.out)
   have n1_ := yam (yed HB.out)
   clear BK413
   clear HB
   have BK413 := n0_
   have HB := n1_
   clear n0_ n1_
   have p414 : 0 ≤ (x5_1 : Int) := ydt
   have q414 : x5_1 < (l0_1.length : Int) := ydt
   obtain ⟨ad414, e414, hx414_0⟩ := Kd.at_int HR0_1.out x5_1 p414 q414
   have hw414_0 := hx414_0
   cases e414
   replace hx414_0 := ybx HB.out hx414_0
   replace p414 := eq_true p414
   replace q414 := eq_true q414
   have p415 : 0 ≤ (x5_1 : Int) := ydt
   have q415 : x5_1 < (l1.length : Int) := ydt
   obtain ⟨ad415, e415, hx415_0⟩ := Kd.at_int HR1.out x5_1 p415 q415
   have hw415_0 := hx415_0
   cases e415
   replace hx415_0 := ybx HB.out hx415_0
   replace p415 := eq_true p415
   replace q415 := eq_true q415
   have p416 : 0 ≤ (x5_1 : Int) := ydt
   have q416 : x5_1 < (l1.length : Int) := ydt
   obtain ⟨ad416, e416, hx416_0⟩ := Kd.at_int HR1.out x5_1 p416 q416
   have hw416_0 := hx416_0
   obtain rfl : ad415 = ad416 := (by injection e416)
   replace hx416_0 := ybx HB.out hx416_0
   replace p416 := eq_true p416
   replace q416 := eq_true q416
   have p417 : 0 ≤ (x5_1 : Int) := ydt
   have q417 : x5_1 < (l0_1.length : Int) := ydt
   obtain ⟨ad417, e417, hx417_0⟩ := Kd.at_int HR0_1.out x5_1 p417 q417
   have hw417_0 := hx417_0
   obtain rfl : ad414 = ad417 := (by injection e417)
   replace hx417_0 := ybx HB.out hx417_0
   replace p417 := eq_true p417
   replace q417 := eq_true q417
   refine start_ (n := 25) (S := fun w' => w'.cell? ⟨gb413, 0, none⟩ = some (.int .i64 a0_0) ∧ w'.cell? ⟨gb413, 1, none⟩ = some (.slice (some ad414) l0_1.length c0_1) ∧ w'.cell? ⟨gb413, 2, none⟩ = some (.slice A0_2 l0_2.length c0_2) ∧ w'.cell? (ad414.add (x5_1).toNat) = some (.int .i64 (rd l0_1 x5_1)) ∧ w'.cell? (ad415.add (x5_1).toNat) = some (.int .i64 (rd l1 x5_1)) ∧ w'.cell? (ad415.add (x5_1).toNat) = some (.int .i64 (rd l1 x5_1)) ∧ w'.cell? (ad414.add (x5_1).toNat) = some (.int .i64 (rd l0_1 x5_1))) (ds := []) #[false, false, false, false, false, false, false, false, false, false, false, false, false, false, false, false, false, false, false, false, false, false, false, false, false] (by kernel_rfl) rfl rfl ⟨(blk_cell BK413.out 0).trans rfl, (blk_cell BK413.out 1).trans rfl, (blk_cell BK413.out 2).trans rfl, ((HB.out.cell (World.block_lt_of_cell? w _ hw414_0)).trans hw414_0), ((HB.out.cell (World.block_lt_of_cell? w _ hw415_0)).trans hw415_0), ((HB.out.cell (World.block_lt_of_cell? w _ hw416_0)).trans hw416_0), ((HB.out.cell (World.block_lt_of_cell? w _ hw417_0)).trans hw417_0)⟩ (fun hHeld => ?_); refine with_tabW spec_l5Fits.tab4 spec_l5Fits.bits4 (fun HT_ HW_ => ?_)
   generalize wr.drew = w10 at BK413 HB hx414_0 hx415_0 hx416_0 hx417_0 hHeld ⊢
   refine yvp 0 13 (yvb 25 1) HT_.out ?_
   refine yvp 2 15 (yvb 25 5) HT_.out ?_
   refine yvt 1 14 (yvb 25 7) HT_.out HW_.out hHeld ?_
   refine yvp 3 16 (yvb 25 15) HT_.out ?_
   refine yvt 4 17 (yvb 25 31) HT_.out HW_.out hHeld ?_
   refine yvp 5 18 (yvb 25 63) HT_.out ?_
   refine yvp 6 19 (yvb 25 127) HT_.out ?_
   refine yvp 7 20 (yvb 25 255) HT_.out ?_
   refine yvp 8 21 (yvb 25 511) HT_.out ?_
   refine yvp 9 22 (yvb 25 1023) HT_.out ?_
   refine yvt 10 23 (yvb 25 2047) HT_.out HW_.out hHeld ?_
   refine yvp 11 24 (yvb 25 4095) HT_.out ?_
   refine yvp 12 25 (yvb 25 8191) HT_.out ?_
   refine yvp 13 26 (yvb 25 16383) HT_.out ?_
   refine yvp 14 27 (yvb 25 32767) HT_.out ?_
   refine yvp 15 28 (yvb 25 65535) HT_.out ?_
   refine yvp 16 29 (yvb 25 131071) HT_.out ?_
   refine yvp 18 31 (yvb 25 393215) HT_.out ?_
   refine yvp 20 33 (yvb 25 1441791) HT_.out ?_
   refine yvt 17 30 (yvb 25 1572863) HT_.out HW_.out hHeld ?_
   refine yvt 19 32 (yvb 25 2097151) HT_.out HW_.out hHeld ?_
   refine yvp 21 34 (yvb 25 4194303) HT_.out ?_
   refine yvt 22 35 (yvb 25 8388607) HT_.out HW_.out hHeld ?_
   refine yvp 23 36 (yvb 25 16777215) HT_.out ?_
   refine yvp 24 37 (yvb 25 33554431) HT_.out ?_
   refine done_ (done_of HT_.out (by kernel_rfl)) ?_
   try go_wp2
   go_roundg k1
   case measure => have := HK1.out; omega
   case rel => exact ⟨(wrap64 (x5_1 + 1)), yeq, H', ⟨by have := HK1.out; omega⟩, ⟨by (with_reducible repeat (first | refine ybn ?_ _ | refine ybd ?_ | refine yba ?_ _)); exact BK413.out⟩, ⟨yhb⟩⟩
def spec_PuzzleFits.f (k : Nat) (a0_0 : Int) (l0_1 : List Int) (l0_2 : List (S73)) (l1 : List Int) : Option (Bool) := (spec_PuzzleValid.f k a0_0 l0_1 l0_2).bind fun t422 => (if t422 = true then ((spec_GridValid.f k l1 a0_0).bind fun t423 => (if t423 = true then ((spec_l5Fits.f k a0_0 l0_1 l0_2 l1).bind fun t424 => (some t424)) else (some false))) else (some false))
set_option maxHeartbeats 8000000 in
set_option maxRecDepth 100000 in
theorem spec_PuzzleFits.calls (k : Nat) (a0_0 : Int) (A0_1 : Option Addr) (c0_1 : Nat) (l0_1 : List Int) (A0_2 : Option Addr) (c0_2 : Nat) (l0_2 : List (S73)) (A1 : Option Addr) (c1 : Nat) (l1 : List Int) (r : Bool) (w : World) (hr0_1 : Kd.C (Kd.int .i64) w A0_1 l0_1.length l0_1) (hc0_1 : l0_1.length ≤ c0_1) (hr0_2 : Kd.C k73 w A0_2 l0_2.length l0_2) (hc0_2 : l0_2.length ≤ c0_2) (hr1 : Kd.C (Kd.int .i64) w A1 l1.length l1) (hc1 : l1.length ≤ c1) (h : spec_PuzzleFits.f k a0_0 l0_1 l0_2 l1 = some r) :
  Calls Try.prog 79 #[.agg #[.int .i64 a0_0, .slice A0_1 l0_1.length c0_1, .slice A0_2 l0_2.length c0_2], .slice A1 l1.length c1] w fun e w' => e = .returned (.bool r) ∧ Below w.heap.size w w' := by
 have hu37 := Try.underlying37
 have HR0_1 := yam hr0_1
 have HC0_1 := yam hc0_1
 clear hr0_1 hc0_1
 have HR0_2 := yam hr0_2
 have HC0_2 := yam hc0_2
 clear hr0_2 hc0_2
 have HR1 := yam hr1
 have HC1 := yam hc1
 clear hr1 hc1
 have HB := yam (Below.refl w.heap.size w)
 have H : ((spec_PuzzleValid.f k a0_0 l0_1 l0_2).bind fun t422 => (if t422 = true then ((spec_GridValid.f k l1 a0_0).bind fun t423 => (if t423 = true then ((spec_l5Fits.f k a0_0 l0_1 l0_2 l1).bind fun t424 => (some t424)) else (some false))) else (some false))) = some r := h
 clear h
 replace H := Option.bind_eq_some_iff.mp H
 obtain ⟨t422, A30, H⟩ := H
 try dsimp only at H
 have A3 := yam A30
 clear A30
 by_cases c4 : t422 = true
 rotate_left
 ·replace c4 := Bool.eq_false_iff.mpr c4
  subst c4
  have H1 : (some false) = some r := by rw [if_neg (show ¬ (false = true) by decide)] at H; exact H
  clear H
  have H := H1
  clear H1
  obtain rfl := Option.some.inj H
  go_enter Try.func79, Try.ntmps79
  go_wp2_with (first | (refine ybe 2 #[.int .i64 a0_0, .slice A0_1 l0_1.length c0_1, .slice A0_2 l0_2.length c0_2] 37 ?_; intro gb421 hg w17 hbox hb; have n0_ := yam (below_step (yez HB.out) hb); have n1_ := yam (hbox); have n2_ := yam ((by rw [hg]; exact (below_size (yez HB.out)) : w.heap.size ≤ gb421)); have n3_ := n2_; clear HB; have HB := n0_; have BK421 := n1_; have GW421 := n2_; have GE421 := n3_; clear n0_ n1_ n2_ n3_; clear hb hbox hg; obtain ⟨hcz18_0, hcz18_1, hcz18_2, hfz18_0, hfz18_1, hfz18_2⟩ := ybc BK421.out) | (refine goesL_ (some 6) rfl rfl Try.func62 (by kernel_rfl) rfl #[.agg #[.int .i64 a0_0, .slice A0_1 l0_1.length c0_1, .slice A0_2 l0_2.length c0_2]] rfl ymd ?_; (with_reducible refine (spec_PuzzleValid.calls k a0_0 _ _ l0_1 _ _ l0_2 false _ ?side1 ?side2 ?side3 ?side4 A3.out).mono ?_); (case side1 => exact Kd.Cz ((Kd.C_below HR0_1.out HB.out))); (case side2 => exact HC0_1.out); (case side3 => exact Kd.Cz ((Kd.C_below HR0_2.out HB.out))); (case side4 => exact HC0_2.out); rintro e w19 ⟨rfl, hb⟩; refine ⟨_, rfl, ?_⟩; have n0_ := yam (blk_below (g := gb421) (o := .cells #[.int .i64 a0_0, .slice A0_1 l0_1.length c0_1, .slice A0_2 l0_2.length c0_2] 37 (0, 0)) (ybz BK421.out) hb); have n1_ := yam (below_step yhb hb); clear BK421; clear HB; have BK421 := n0_; have HB := n1_; clear n0_ n1_; (try clear hb); (try clear hb2); (try clear hk); (try clear hi)))
  go_ret
  exact ⟨yer, yhb⟩

 subst c4
 have H1 : ((spec_GridValid.f k l1 a0_0).bind fun t423 => (if t423 = true then ((spec_l5Fits.f k a0_0 l0_1 l0_2 l1).bind fun t424 => (some t424)) else (some false))) = some r := by rw [if_pos rfl] at H; exact H
 clear H
 have H := H1
 clear H1
 replace H := Option.bind_eq_some_iff.mp H
 obtain ⟨t423, A50, H⟩ := H
 try dsimp only at H
 have A5 := yam A50
 clear A50
 by_cases c6 : t423 = true
 rotate_left
 ·replace c6 := Bool.eq_false_iff.mpr c6
  subst c6
  have H1 : (some false) = some r := by rw [if_neg (show ¬ (false = true) by decide)] at H; exact H
  clear H
  have H := H1
  clear H1
  obtain rfl := Option.some.inj H
  go_enter Try.func79, Try.ntmps79
  go_wp2_with (first | (refine ybe 2 #[.int .i64 a0_0, .slice A0_1 l0_1.length c0_1, .slice A0_2 l0_2.length c0_2] 37 ?_; intro gb421 hg w13 hbox hb; have n0_ := yam (below_step (yez HB.out) hb); have n1_ := yam (hbox); have n2_ := yam ((by rw [hg]; exact (below_size (yez HB.out)) : w.heap.size ≤ gb421)); have n3_ := n2_; clear HB; have HB := n0_; have BK421 := n1_; have GW421 := n2_; have GE421 := n3_; clear n0_ n1_ n2_ n3_; clear hb hbox hg; obtain ⟨hcz14_0, hcz14_1, hcz14_2, hfz14_0, hfz14_1, hfz14_2⟩ := ybc BK421.out) | (refine goesL_ (some 6) rfl rfl Try.func62 (by kernel_rfl) rfl #[.agg #[.int .i64 a0_0, .slice A0_1 l0_1.length c0_1, .slice A0_2 l0_2.length c0_2]] rfl ymd ?_; (with_reducible refine (spec_PuzzleValid.calls k a0_0 _ _ l0_1 _ _ l0_2 true _ ?side1 ?side2 ?side3 ?side4 A3.out).mono ?_); (case side1 => exact Kd.Cz ((Kd.C_below HR0_1.out HB.out))); (case side2 => exact HC0_1.out); (case side3 => exact Kd.Cz ((Kd.C_below HR0_2.out HB.out))); (case side4 => exact HC0_2.out); rintro e w15 ⟨rfl, hb⟩; refine ⟨_, rfl, ?_⟩; have n0_ := yam (blk_below (g := gb421) (o := .cells #[.int .i64 a0_0, .slice A0_1 l0_1.length c0_1, .slice A0_2 l0_2.length c0_2] 37 (0, 0)) (ybz BK421.out) hb); have n1_ := yam (below_step yhb hb); clear BK421; clear HB; have BK421 := n0_; have HB := n1_; clear n0_ n1_; (try clear hb); (try clear hb2); (try clear hk); (try clear hi); obtain ⟨hcz16_0, hcz16_1, hcz16_2, hfz16_0, hfz16_1, hfz16_2⟩ := ybc BK421.out) | (go_at_call 84; (with_reducible refine (spec_GridValid.calls k _ _ l1 a0_0 false _ ?side1 ?side2 A5.out).mono ?_); (case side1 => exact Kd.Cz ((Kd.C_below HR1.out HB.out))); (case side2 => exact HC1.out); rintro e w' ⟨rfl, ⟨nd, rfl⟩⟩))
  go_ret
  exact ⟨yer, yhb⟩
 subst c6
 have H1 : ((spec_l5Fits.f k a0_0 l0_1 l0_2 l1).bind fun t424 => (some t424)) = some r := by rw [if_pos rfl] at H; exact H
 clear H
 have H := H1
 clear H1
 replace H := Option.bind_eq_some_iff.mp H
 obtain ⟨t424, A70, H⟩ := H
 try dsimp only at H
 have A7 := yam A70
 clear A70
 obtain rfl := Option.some.inj H
 go_enter Try.func79, Try.ntmps79
 go_wp2_with (first | (refine ybe 2 #[.int .i64 a0_0, .slice A0_1 l0_1.length c0_1, .slice A0_2 l0_2.length c0_2] 37 ?_; intro gb421 hg w8 hbox hb; have n0_ := yam (below_step (yez HB.out) hb); have n1_ := yam (hbox); have n2_ := yam ((by rw [hg]; exact (below_size (yez HB.out)) : w.heap.size ≤ gb421)); have n3_ := n2_; clear HB; have HB := n0_; have BK421 := n1_; have GW421 := n2_; have GE421 := n3_; clear n0_ n1_ n2_ n3_; clear hb hbox hg; obtain ⟨hcz9_0, hcz9_1, hcz9_2, hfz9_0, hfz9_1, hfz9_2⟩ := ybc BK421.out) | (refine goesL_ (some 6) rfl rfl Try.func62 (by kernel_rfl) rfl #[.agg #[.int .i64 a0_0, .slice A0_1 l0_1.length c0_1, .slice A0_2 l0_2.length c0_2]] rfl ymd ?_; (with_reducible refine (spec_PuzzleValid.calls k a0_0 _ _ l0_1 _ _ l0_2 true _ ?side1 ?side2 ?side3 ?side4 A3.out).mono ?_); (case side1 => exact Kd.Cz ((Kd.C_below HR0_1.out HB.out))); (case side2 => exact HC0_1.out); (case side3 => exact Kd.Cz ((Kd.C_below HR0_2.out HB.out))); (case side4 => exact HC0_2.out); rintro e w10 ⟨rfl, hb⟩; refine ⟨_, rfl, ?_⟩; have n0_ := yam (blk_below (g := gb421) (o := .cells #[.int .i64 a0_0, .slice A0_1 l0_1.length c0_1, .slice A0_2 l0_2.length c0_2] 37 (0, 0)) (ybz BK421.out) hb); have n1_ := yam (below_step yhb hb); clear BK421; clear HB; have BK421 := n0_; have HB := n1_; clear n0_ n1_; (try clear hb); (try clear hb2); (try clear hk); (try clear hi); obtain ⟨hcz11_0, hcz11_1, hcz11_2, hfz11_0, hfz11_1, hfz11_2⟩ := ybc BK421.out) | (go_at_call 84; (with_reducible refine (spec_GridValid.calls k _ _ l1 a0_0 true _ ?side1 ?side2 A5.out).mono ?_); (case side1 => exact Kd.Cz ((Kd.C_below HR1.out HB.out))); (case side2 => exact HC1.out); rintro e w' ⟨rfl, ⟨nd, rfl⟩⟩) | (go_at_call 90; (with_reducible refine (spec_l5Fits.calls k a0_0 _ _ l0_1 _ _ l0_2 _ _ l1 t424 _ ?side1 ?side2 ?side3 ?side4 ?side5 ?side6 A7.out).mono ?_); (case side1 => repeat (first | exact (Kd.C_below HR0_1.out yhb) | (with_reducible refine Kd.C_alloc ?_ _) | (with_reducible refine Kd.C_drewN ?_ _) | (with_reducible refine Kd.C_drew ?_))); (case side2 => exact HC0_1.out); (case side3 => repeat (first | exact (Kd.C_below HR0_2.out yhb) | (with_reducible refine Kd.C_alloc ?_ _) | (with_reducible refine Kd.C_drewN ?_ _) | (with_reducible refine Kd.C_drew ?_))); (case side4 => exact HC0_2.out); (case side5 => repeat (first | exact (Kd.C_below HR1.out yhb) | (with_reducible refine Kd.C_alloc ?_ _) | (with_reducible refine Kd.C_drewN ?_ _) | (with_reducible refine Kd.C_drew ?_))); (case side6 => exact HC1.out); rintro e w12 ⟨rfl, hb⟩; have n0_ := yam (blk_below (g := gb421) (o := .cells #[.int .i64 a0_0, .slice A0_1 l0_1.length c0_1, .slice A0_2 l0_2.length c0_2] 37 (0, 0)) (ybz BK421.out) hb); have n1_ := yam (below_step yhb hb); clear BK421; clear HB; have BK421 := n0_; have HB := n1_; clear n0_ n1_; (try clear hb); (try clear hb2); (try clear hk); (try clear hi)))
 go_ret
 exact ⟨yer, yhb⟩
def spec_l5Search.loop (fits : List Int → Option Bool) (f : List Int → List (List Int) → Option (List (List Int))) (g : List Int) (i : Nat) (most : Int) : Nat → Int → List (List Int) → Option (List (List Int))
 | 0, _, out => some out
 | n + 1, v, out => if (out.length : Int) < most then (fits (g.set i v)).bind fun b => (if b = true then (f (g.set i v) out).bind fun o => spec_l5Search.loop fits f g i most n (v + 1) o else spec_l5Search.loop fits f g i most n (v + 1) out) else some out
def spec_l5Search.srch (k : Nat) (s : Int) (l1 : List Int) (l2 : List S73) (most : Int) (N : Nat) : Nat → List Int → List (List Int) → Option (List (List Int))
 | 0, g, out => if out.length ≤ 100000 then some (out ++ [g]) else none
 | d + 1, g, out => if 0 < rd g ((N : Int) - (d + 1 : Nat)) then spec_l5Search.srch k s l1 l2 most N d g out else spec_l5Search.loop (fun g' => spec_l5Fits.f k s l1 l2 g') (spec_l5Search.srch k s l1 l2 most N d) g ((N : Int) - (d + 1 : Nat)).toNat most s.toNat 1 out
theorem below_of_grown {W w1 : World} (hg : W.grownBy w1 none) : Below W.heap.size W w1 := ⟨hg.os, hg.tape, hg.output, hg.size, fun i hi => hg.block i hi (by simp)⟩
theorem below_own {w W W' : World} {row : Option Nat} (h : Below w.heap.size w W) (hg : W.grownBy W' row) (hr : ∀ k, row = some k → w.heap.size ≤ k) : Below w.heap.size w W' := pw_below_grown h row h.size hg hr
def spec_l5Search.OutB (p : Nat) (w0 w : World) (Pt : Nat → Prop) (out : List (List Int)) : Prop := ∃ v, w.heap[p]? = some (.cells #[v] 78 (0, 0)) ∧ Kd.S (Kd.slice 3 (Kd.int .i64)) 22 w w0.heap.size (fun k => ¬ Pt k ∧ k ≠ p) v out
theorem spec_l5Search.OutB.below {p : Nat} {w0 w w' : World} {Pt : Nat → Prop} {out : List (List Int)} (h : spec_l5Search.OutB p w0 w Pt out) (hb : Below w.heap.size w w') : spec_l5Search.OutB p w0 w' Pt out := by
 obtain ⟨v, h1, h2⟩ := h
 exact ⟨v, blk_below h1 hb, Kd.S_below h2 hb⟩
theorem spec_l5Search.OutB.mono {p : Nat} {w0 w : World} {Pt Pt' : Nat → Prop} {out : List (List Int)} (h : spec_l5Search.OutB p w0 w Pt out) (hp : ∀ k, k < w.heap.size → Pt' k → Pt k) : spec_l5Search.OutB p w0 w Pt' out := by
 obtain ⟨v, h1, h2⟩ := h
 exact ⟨v, h1, Kd.S_mono (Kd.S_bound h2) (fun k hk => ⟨fun hq => hk.1.1 (hp k hk.2.2.1 hq), hk.1.2⟩)⟩
theorem spec_l5Search.OutB.set {p g : Nat} {w0 w : World} {Pt : Nat → Prop} {out : List (List Int)} (h : spec_l5Search.OutB p w0 w Pt out) (hg : Pt g) (hne : p ≠ g) (j : Nat) (u : Value) : spec_l5Search.OutB p w0 (w.setCell ⟨g, j, none⟩ u) Pt out := by
 obtain ⟨v, h1, h2⟩ := h
 exact ⟨v, (Below.heap_setCell w ⟨g, j, none⟩ u p hne).trans h1, Kd.S_far (p := ⟨g, j, none⟩) h2 (fun k hk e => hk.1 (by simp only at e; rw [e]; exact hg)) u⟩
set_option maxHeartbeats 8000000 in
set_option maxRecDepth 100000 in
theorem spec_l5Search.clo (k : Nat) (s : Int) (A1 : Option Addr) (c1 : Nat) (l1 : List Int) (A2 : Option Addr) (c2 : Nat) (l2 : List S73) (most : Int) (N p : Nat) (w0 : World) (hN : N ≤ 100000) (hs4 : s ≤ 1000) (hp0 : w0.heap.size ≤ p) (hc1 : l1.length ≤ c1) (hc2 : l2.length ≤ c2) :
  ∀ (d : Nat) (a : Int) (g : List Int) (A : Option Addr) (c : Nat) (out out' : List (List Int)) (Pt : Nat → Prop) (w : World) (_ : (N : Int) - d = a) (_ : d ≤ N) (_ : g.length = N) (_ : ∀ W, Agr Pt w W → Kd.C (Kd.int .i64) W A N g) (_ : N ≤ c) (_ : ∀ W, Agr Pt w W → Kd.C (Kd.int .i64) W A1 l1.length l1) (_ : ∀ W, Agr Pt w W → Kd.C k73 W A2 l2.length l2) (_ : ∀ k, Pt k → k < w.heap.size) (_ : ¬ Pt p) (_ : spec_l5Search.OutB p w0 w Pt out) (_ : Below w0.heap.size w0 w) (_ : spec_l5Search.srch k s l1 l2 most N d g out = some out'),
  Calls Try.prog 85 #[.agg #[.int .i64 s, .slice A1 l1.length c1, .slice A2 l2.length c2], .slice A N c, .int .i64 a, .int .i64 most, .pointer (some ⟨p, 0, none⟩)] w fun e w' => e = .returned (.tuple #[]) ∧ spec_l5Search.OutB p w0 w' Pt out' ∧ Agr Pt w w' ∧ Below w0.heap.size w0 w' := by
 intro d
 have HN := yam hN
 have HS4 := yam hs4
 have HP0 := yam hp0
 have HC1 := yam hc1
 have HC2 := yam hc2
 clear hN hs4 hp0 hc1 hc2
 induction d using Nat.strongRecOn with
 | _ d ih =>
 have IH := yam ih
 clear ih
 intro a g A c out out' Pt w ha hd hl hr hc hr1 hr2 hPl hPp hO hB h
 have HAD := yam (show (N : Int) - d = a ∧ d ≤ N from ⟨ha, hd⟩)
 have HL := yam hl
 have HR := yam hr
 have HC := yam hc
 have HR1 := yam hr1
 have HR2 := yam hr2
 have HPL := yam hPl
 have HPP := yam hPp
 have HO := yam hO
 have HB := yam hB
 have HT := yam h
 have hu := Try.underlying37
 clear ha hd hl hr hc hr1 hr2 hPl hPp hO hB h
 go_enter Try.func85, Try.ntmps85
 go_wp2_with (first
  | (refine ybe 5 #[.int .i64 s, .slice A1 l1.length c1, .slice A2 l2.length c2] 37 ?_; intro gP hg w3 hbox hb; have BgP := yam hbox; have HW := yam hb; have HGP := yam (show w.heap.size ≤ gP ∧ gP < w3.heap.size ∧ p < w.heap.size from ⟨Nat.le_of_eq hg.symm, blk_lt hbox, by obtain ⟨_, h_, _⟩ := HO.out; exact blk_lt h_⟩); have HO3 := yam ((HO.out.mono (Pt' := fun k_ => Pt k_ ∨ k_ = gP) (fun k_ hl_ hp_ => hp_.resolve_right (by omega))).below hb); clear hg hbox hb HO))
 (try simp only [Act.put, List.setIfInBounds_toArray, List.set_cons_zero, List.set_cons_succ])
 go_loopg [2] d (fun kq v2 w' => ∃ (i : Int), v2 = .int .i64 i ∧ w' = w3 ∧ Aside0 ((N : Int) - kq = i ∧ kq ≤ d) ∧ Aside0 (spec_l5Search.srch k s l1 l2 most N kq g out = some out'))
 case atStart => exact ⟨a, rfl, rfl, ⟨HAD.out.1, Nat.le_refl _⟩, HT⟩
 case round =>
  clear HT
  obtain ⟨i, rfl, rfl, HK, HT⟩ := hrel
  cases gk with
  | zero =>
   have hi : i = (N : Int) := by have := HK.out; omega
   subst hi
   have hlt : decide ((N : Int) < (N : Int)) = false := decide_eq_false (by omega)
   have h := HT.out
   clear HT
   unfold spec_l5Search.srch at h
   by_cases hol : out.length ≤ 100000
   rotate_left
   ·rw [if_neg hol] at h
    cases h
   rw [if_pos hol] at h
   obtain rfl := Option.some.inj h
   clear h
   have HOL := yam hol
   clear hol
   obtain ⟨v0, hpb, hS⟩ := HO3.out
   obtain ⟨Av, cv, ev⟩ := Kd.S_slice hS
   subst ev
   have HP0_ := yam hpb
   have HS := yam hS
   clear hpb hS HO3
   go_wp2
   refine start_ (n := 11) (S := fun w' => w'.cell? ⟨p, 0, none⟩ = some (.slice Av out.length cv)) (ds := [10]) #[false, false, false, false, false, false, false, false, false, false, false] (by kernel_rfl) rfl rfl ((blk_cell (show wr.drew.heap[p]? = _ from HP0_.out) 0).trans rfl) (fun hHeld => ?_)
   have n1_ := yam (show wr.drew.heap[p]? = _ from HP0_.out)
   have n2_ := yam (Kd.S_drew HS.out)
   have n3_ := yam (show Below w.heap.size w wr.drew from below_drew1 HW.out)
   clear HP0_ HS HW
   have n4_ := yam (show wr.heap.size ≤ wr.drew.heap.size from Nat.le_refl _)
   generalize wr.drew = w4 at n1_ n2_ n3_ n4_ hHeld ⊢
   have HZ0 := n4_
   clear n4_
   have HP := n1_
   have HS := n2_
   have HW := n3_
   clear n1_ n2_ n3_
   refine pure_ (i := 0) (N := some 29) (v := ?_) (a' := ?_) #[true, false, false, false, false, false, false, false, false, false, false] rfl rfl (by kernel_rfl) (fun _ _ _ h => h) (Or.inl ⟨by rfl, ?_⟩) ?_ ?_
   rotate_left
   ·intro w'
    go_simp
    with_reducible rfl
   rotate_left
   ·simp only [Act.put, yps, i64_w, i32_w]
    rfl
   refine pure_ (i := 1) (N := some 30) (v := ?_) (a' := ?_) #[true, true, false, false, false, false, false, false, false, false, false] rfl rfl (by kernel_rfl) (fun _ _ _ h => h) (Or.inl ⟨by rfl, ?_⟩) ?_ ?_
   rotate_left
   ·intro w'
    go_simp
    with_reducible rfl
   rotate_left
   ·simp only [Act.put, yps, i64_w, i32_w]
    rfl
   refine pure_ (i := 2) (N := some 31) (v := ?_) (a' := ?_) #[true, true, true, false, false, false, false, false, false, false, false] rfl rfl (by kernel_rfl) (fun _ _ _ h => h) (Or.inl ⟨by rfl, ?_⟩) ?_ ?_
   rotate_left
   ·intro w'
    go_simp
    with_reducible rfl
   rotate_left
   ·simp only [Act.put, yps, i64_w, i32_w]
    rfl
   refine take_ (i := 3) (N := some 32) (v := ?_) (a' := ?_) #[true, true, true, true, false, false, false, false, false, false, false] rfl rfl (by kernel_rfl) (fun _ _ _ h => h) (Or.inl ⟨by rfl, ?_⟩) hHeld ?_ ?_
   rotate_left
   ·intro w' s0
    go_simp
    with_reducible rfl
   rotate_left
   ·simp only [Act.put, yps, i64_w, i32_w]
    rfl
   refine pure_ (i := 5) (N := some 34) (v := ?_) (a' := ?_) #[true, true, true, true, false, true, false, false, false, false, false] rfl rfl (by kernel_rfl) (fun _ _ _ h => h) (Or.inl ⟨by rfl, ?_⟩) ?_ ?_
   rotate_left
   ·intro w'
    go_simp
    with_reducible rfl
   rotate_left
   ·simp only [Act.put, yps, i64_w, i32_w]
    rfl
   refine one_ (i := 4) (N := some 33) #[true, true, true, true, true, true, false, false, false, false, false] rfl rfl (by kernel_rfl) (by decide) (fun K hK => ?_)
   refine Kd.R_lit_step (Kd.int .i64) (w0 := w0) w0.heap.size 3 (by rfl) (N := 33) rfl (xs := ([] : List Int)) (inner := []) (ok := fun k_ => w4.heap.size ≤ k_) (okp := fun _ => False) (by first | (go_simp; done) | (go_simp; rfl)) (Reps.none _ _) (fun _ h_ => h_.elim) (Nat.le_refl _) (below_step HB.out HW.out) (Nat.le_trans HB.out.size HW.out.size) (by simp) ?_
   intro v33 w5 ho hb hg hat
   have hbl : Below w4.heap.size w4 w5 := below_of_grown hg
   have n1_ := yam (blk_below HP.out hbl)
   have n2_ := yam (Kd.S_below (Kd.S_bound HS.out) hbl)
   have n3_ := yam (below_step HW.out hbl)
   have n4_ := yam ho
   have n5_ := yam (show w.heap.size ≤ w4.heap.size ∧ w4.heap.size ≤ w5.heap.size from ⟨HW.out.size, hbl.size⟩)
   clear HP HS HW ho hb hg hat hbl
   have HP := n1_
   have HS := n2_
   have HW := n3_
   have HV := n4_
   have HZ := n5_
   clear n1_ n2_ n3_ n4_ n5_
   obtain ⟨A33, c33, e33⟩ := Kd.R_slice HV.out
   subst e33
   refine hK.out _ _ ((blk_cell HP.out 0).trans rfl) (fun hHeld => ?_)
   clear hK K
   refine norm_ (a' := ?_) ?_ ?_
   rotate_left
   ·show Act.put _ (some 33) _ = _
    simp only [Act.put, yps, i64_w, i32_w]
    rfl
   refine one_ (i := 6) (N := some 35) #[true, true, true, true, true, true, true, false, false, false, false] rfl rfl (by kernel_rfl) (by decide) (fun K hK => ?_)
   refine Kd.R_append_rows_step (Kd.int .i64) (w0 := w0) w0.heap.size (by rfl) (.tmp 33) (.tmp 34) 22 3 (.int .i64 0) 8 rfl Try.underlying22 info3 rfl (by decide) (by omega) (.slice A33 ([] : List Int).length c33) [] g A N c (fun k_ => w4.heap.size ≤ k_) (fun _ => False) rfl rfl HV.out (HR.out w5 (Agr.of_below HW.out)) (fun _ _ h => h) (fun _ h => h.elim) (fun k_ h_ => Nat.le_trans HZ.out.2 h_) (below_step HB.out HW.out) (Nat.le_trans HB.out.size HW.out.size) (by have := HN.out; simp only [List.length_nil]; omega) ?_
   intro v35 w6 ho hb hg hat
   simp only [List.nil_append] at ho
   have hown : ∀ k, (Value.slice A33 ([] : List Int).length c33).ownBlock = some k → w4.heap.size ≤ k := fun k_ e_ => HV.out.1 k_ e_
   have n1_ := yam (blk_grown HP.out hg (fun e_ => by have := hown p e_.symm; have := HGP.out; have := HZ.out; omega))
   have n2_ := yam (Kd.S_grown HS.out hg (fun k_ h_ e_ => by have := hown k_ e_.symm; have := h_.2.2.1; omega))
   have n3_ := yam (below_own HW.out hg (fun k_ e_ => by have := hown k_ e_; have := HZ.out; omega))
   have n4_ := yam ho
   have n5_ := yam (show w.heap.size ≤ w4.heap.size ∧ w4.heap.size ≤ w6.heap.size from ⟨HZ.out.1, Nat.le_trans HZ.out.2 hg.size⟩)
   clear HP HS HW HV HZ ho hb hg hat hown
   have HP := n1_
   have HS := n2_
   have HW := n3_
   have HV := n4_
   have HZ := n5_
   clear n1_ n2_ n3_ n4_ n5_
   obtain ⟨A35, c35, e35⟩ := Kd.R_slice HV.out
   subst e35
   refine hK.out _ _ ((blk_cell HP.out 0).trans rfl) (fun hHeld => ?_)
   clear hK K
   refine norm_ (a' := ?_) ?_ ?_
   rotate_left
   ·show Act.put _ (some 35) _ = _
    simp only [Act.put, yps, i64_w, i32_w]
    rfl
   refine one_ (i := 7) (N := some 36) #[true, true, true, true, true, true, true, true, false, false, false] rfl rfl (by kernel_rfl) (by decide) (fun K hK => ?_)
   refine value_ (w1 := w6.alloc (.cells #[.slice A35 g.length c35] 22)) (v := .slice (some ⟨w6.heap.size, 0, none⟩) 1 1) (by rfl) rfl ?_ ?_
   ·go_simp
    first | done | rfl | (constructor <;> rfl)
   refine hK.out _ _ ((blk_cell (blk_alloc HP.out _) 0).trans rfl) (fun hHeld => ?_)
   clear hK K
   refine norm_ (a' := ?_) ?_ ?_
   rotate_left
   ·show Act.put _ (some 36) _ = _
    simp only [Act.put, yps, i64_w, i32_w]
    rfl
   refine one_ (i := 8) (N := some 37) #[true, true, true, true, true, true, true, true, true, false, false] rfl rfl (by kernel_rfl) (by decide) (fun K hK => ?_)
   refine Kd.S_append_step (Kd.slice 3 (Kd.int .i64)) (w0 := w0) w0.heap.size (by rfl) (.tmp 32) (.tmp 36) 78 22 (.slice none 0 0) 24 rfl Try.underlying78 info22 rfl (by decide) (by omega) (.slice Av out.length cv) out g [.slice A35 g.length c35] (fun k_ => ¬ (Pt k_ ∨ k_ = gP) ∧ k_ ≠ p) (fun k_ => some k_ = (Value.slice A35 g.length c35).ownBlock) rfl rfl (Kd.M_row (Kd.R_tight rfl HV.out)) (fun k_ h_ => by
    have h1_ := HV.out.1 k_ h_.symm
    have h2_ := HGP.out
    have h3_ := HZ.out
    exact ⟨⟨fun hp_ => hp_.elim (fun hp_ => by have := HPL.out k_ hp_; omega) (fun hp_ => by have := HZ0.out; omega), by omega⟩, fun e_ => by have := ((Kd.S_R HS.out).1 k_ e_.symm).2.2.1; omega⟩) (fun k_ h_ => by
    have h2_ := HGP.out
    have h3_ := HZ.out
    exact ⟨fun hp_ => hp_.elim (fun hp_ => by have := HPL.out k_ hp_; omega) (fun hp_ => by have := HZ0.out; omega), by omega⟩) (Kd.S_mono HS.out (fun k_ h_ => ⟨h_.1, fun e_ => by have := HV.out.1 k_ e_.symm; have := h_.2.2.1; omega⟩)) (below_step HB.out HW.out) (Nat.le_trans HB.out.size HW.out.size) (by have := HOL.out; omega) ?_
   intro v37 w8 ho hb hg hat
   have hown : ∀ k, (Value.slice Av out.length cv).ownBlock = some k → (¬ (Pt k ∨ k = gP) ∧ k ≠ p) := fun k_ e_ => ((Kd.S_R HS.out).1 k_ e_).1
   have n1_ := yam (blk_grown HP.out hg (fun e_ => (hown p e_.symm).2 rfl))
   have n2_ := yam ho
   have n3_ := yam (show Agr Pt w w8 from ⟨Nat.le_trans HW.out.size hg.size, fun k_ hl_ hp_ => (hg.block k_ (Nat.lt_of_lt_of_le hl_ HW.out.size) (fun e_ => (hown k_ e_.symm).1 (.inl hp_))).trans (HW.out.block k_ hl_)⟩)
   have n4_ := yam hb
   clear HP HS HW HV ho hb hg hat hown
   have HP := n1_
   have HS := n2_
   have HA := n3_
   have HB8 := n4_
   clear n1_ n2_ n3_ n4_
   obtain ⟨A37, c37, e37⟩ := Kd.S_slice HS.out
   subst e37
   refine hK.out _ _ ((blk_cell HP.out 0).trans rfl) (fun hHeld => ?_)
   clear hK K
   refine norm_ (a' := ?_) ?_ ?_
   rotate_left
   ·show Act.put _ (some 37) _ = _
    simp only [Act.put, yps, i64_w, i32_w]
    rfl
   refine pure_ (i := 9) (N := some 38) (v := ?_) (a' := ?_) #[true, true, true, true, true, true, true, true, true, true, false] rfl rfl (by kernel_rfl) (fun _ _ _ h => h) (Or.inl ⟨by rfl, ?_⟩) ?_ ?_
   rotate_left
   ·intro w'
    go_simp
    with_reducible rfl
   rotate_left
   ·simp only [Act.put, yps, i64_w, i32_w]
    rfl
   have hzf := blk_frozen HP.out 0
   have hz := hHeld
   refine last_ (i := 10) (N := none) #[true, true, true, true, true, true, true, true, true, true, true] rfl rfl (by kernel_rfl) (by decide) (fun K hK => ?_)
   refine skip_ (w1 := w8.setCell ⟨p, 0, none⟩ (.slice A37 (out ++ [g]).length c37)) (by rfl) rfl ?_ ?_
   ·go_simp
    first | done | rfl
   refine hK.out _ _ ?_
   clear hK K hz hzf hHeld
   have n1_ : Aside0 (spec_l5Search.OutB p w0 (w8.setCell ⟨p, 0, none⟩ (.slice A37 (out ++ [g]).length c37)) Pt (out ++ [g])) := ⟨⟨_, by simpa using blk_set HP.out 0 (.slice A37 (out ++ [g]).length c37), Kd.S_far (p := ⟨p, 0, none⟩) (Kd.S_mono HS.out (fun k_ h_ => ⟨fun hp_ => h_.1 (.inl hp_), h_.2⟩)) (fun k_ h_ => h_.2) _⟩⟩
   have n2_ : Aside0 (Agr Pt w (w8.setCell ⟨p, 0, none⟩ (.slice A37 (out ++ [g]).length c37))) := ⟨⟨by have := HA.out.1; simpa [World.setCell] using this, fun k_ hl_ hp_ => (Below.heap_setCell w8 ⟨p, 0, none⟩ _ k_ (fun e_ => HPP.out (by simp only at e_; rw [← e_]; exact hp_))).trans (HA.out.2 k_ hl_ hp_)⟩⟩
   have n3_ : Aside0 (Below w0.heap.size w0 (w8.setCell ⟨p, 0, none⟩ (.slice A37 (out ++ [g]).length c37))) := ⟨below_set HB8.out HP0.out⟩
   refine done_ (by kernel_rfl) ?_
   go_wp2
   first | go_end0 | ((try simp only [Exit.inBlock, Exit.then]); refine bodyPost_ret (results_none rfl _ _ _) rfl ?_)
   exact ⟨rfl, n1_.out, n2_.out, n3_.out⟩
  | succ q =>
   have h0 : 0 ≤ i := by have := HK.out; have := HAD.out; omega
   have h1 : i < (N : Int) := by have := HK.out; omega
   obtain ⟨ad, eA, hx⟩ := Kd.at_int (HR.out wr (Agr.of_below HW.out)) i h0 h1
   subst eA
   have hlt : decide (i < (N : Int)) = true := decide_eq_true h1
   have hae : (i == (N : Int)) = false := beq_eq_false_iff_ne.mpr (by omega)
   have hw1 : wrap64 (i + 1) = i + 1 := by have := HN.out; unfold wrap64; omega
   have hw2 : IntKind.i64.wrap (i + 1) = i + 1 := by rw [i64_w]; exact hw1
   have h := HT.out
   clear HT
   unfold spec_l5Search.srch at h
   have hi : (N : Int) - ((q + 1 : Nat) : Int) = i := HK.out.1
   rw [hi] at h
   have HI := yam (show 0 ≤ i ∧ i < (N : Int) ∧ (N : Int) - q = i + 1 ∧ q < d from ⟨h0, h1, by omega, by have := HK.out; omega⟩)
   have q0 := eq_true h0
   have q1 := eq_true h1
   clear h0 h1 hi
   by_cases hpos : 0 < rd g i
   ·rw [if_pos hpos] at h
    have hpb : decide (0 < rd g i) = true := decide_eq_true hpos
    have HT := yam h
    clear h hpos
    go_wp2
    go_roundg q
    case measure => omega
    case rel => exact ⟨i + 1, rfl, rfl, ⟨HI.out.2.2.1, by have := HI.out; omega⟩, HT⟩
   ·rw [if_neg hpos] at h
    have hpb : decide (0 < rd g i) = false := decide_eq_false hpos
    have HT := yam h
    clear h hpos
    go_wp2
    have HA0 := yam (Agr.of_below (P := Pt) HW.out)
    have HB0 := yam (below_step HB.out HW.out)
    clear hx hlt hae hpb hw1 hw2 q0 q1
    obtain ⟨sz, hsz⟩ : ∃ x, x = wr.heap.size := ⟨_, rfl⟩
    rw [← hsz] at HGP
    have HSZ0 := yam (Nat.le_of_eq hsz)
    clear hsz
    go_loopg [10] s.toNat (fun kq v10 w' => ∃ (v : Int) (o : List (List Int)), v10 = .int .i64 v ∧ Aside0 (1 ≤ v ∧ v + (kq : Int) = (s.toNat : Int) + 1) ∧ Aside0 (spec_l5Search.loop (fun g' => spec_l5Fits.f k s l1 l2 g') (spec_l5Search.srch k s l1 l2 most N q) g i.toNat most kq v o = some out') ∧ Aside0 (w'.heap[gP]? = some (.cells #[.int .i64 s, .slice A1 l1.length c1, .slice A2 l2.length c2] 37 (0, 0))) ∧ Aside0 (spec_l5Search.OutB p w0 w' (fun k_ => Pt k_ ∨ k_ = gP) o) ∧ Aside0 (Agr Pt w w') ∧ Aside0 (Below w0.heap.size w0 w') ∧ Aside0 (sz ≤ w'.heap.size))
    case atStart => exact ⟨1, out, rfl, ⟨by omega⟩, HT, BgP, HO3, HA0, HB0, HSZ0⟩
    case round =>
     clear HT BgP HO3 HA0 HB0 HSZ0 HW HB
     obtain ⟨v, o, rfl, HK2, HT, BP, HO4, HA, HB, HSZ⟩ := hrel
     obtain ⟨vv, hpb, hS⟩ := HO4.out
     obtain ⟨Av, cv, ev⟩ := Kd.S_slice hS
     subst ev
     have hcO : wr.cell? ⟨p, 0, none⟩ = some (.slice Av o.length cv) := (blk_cell hpb 0).trans rfl
     have hcP0 : wr.cell? ⟨gP, 0, none⟩ = some (.int .i64 s) := (blk_cell BP.out 0).trans rfl
     clear hpb hS
     cases gk with
     | zero =>
      have h := HT.out
      unfold spec_l5Search.loop at h
      obtain rfl := Option.some.inj h
      clear HT h
      have hvb : decide (v ≤ s) = false := decide_eq_false (by have := HK2.out; omega)
      go_wp2
      first | go_end0 | ((try simp only [Exit.inBlock, Exit.then]); refine bodyPost_ret (results_none rfl _ _ _) rfl ?_)
      exact ⟨rfl, HO4.out.mono (fun _ _ hp_ => .inl hp_), HA.out, HB.out⟩
     | succ n =>
      have h := HT.out
      clear HT
      unfold spec_l5Search.loop at h
      have hvb : decide (v ≤ s) = true := decide_eq_true (by have := HK2.out; omega)
      have hvw : wrap64 (v + 1) = v + 1 := by have := HK2.out; have := HS4.out; unfold wrap64; omega
      have hvw2 : IntKind.i64.wrap (v + 1) = v + 1 := by rw [i64_w]; exact hvw
      by_cases hm : (o.length : Int) < most
      rotate_left
      ·rw [if_neg hm] at h
       obtain rfl := Option.some.inj h
       clear h
       have hmb : decide ((o.length : Int) < most) = false := decide_eq_false hm
       clear hm
       go_wp2
       first | go_end0 | ((try simp only [Exit.inBlock, Exit.then]); refine bodyPost_ret (results_none rfl _ _ _) rfl ?_)
       exact ⟨rfl, HO4.out.mono (fun _ _ hp_ => .inl hp_), HA.out, HB.out⟩
      rw [if_pos hm] at h
      have hmb : decide ((o.length : Int) < most) = true := decide_eq_true hm
      clear hm
      obtain ⟨b, hF, h⟩ := Option.bind_eq_some_iff.1 h
      have HF := yam hF
      clear hF
      have h0 := HI.out.1
      have h1 := HI.out.2.1
      have q0 := eq_true h0
      have q1 := eq_true h1
      have hiw : wrap64 (i + 1) = i + 1 := by have := HN.out; unfold wrap64; omega
      have hiw2 : IntKind.i64.wrap (i + 1) = i + 1 := by rw [i64_w]; exact hiw
      have hlt : decide (i < (N : Int)) = true := decide_eq_true h1
      clear h0 h1
      cases b with
      | false =>
       simp only [Bool.false_eq_true, if_false] at h
       have HT := yam h
       clear h
       go_wp2_with (first
        | ((with_reducible refine gate_dst (N := 53) rfl ?_); refine Kd.R_lit (Kd.int .i64) (w0 := w0) w0.heap.size 3 ?hg (N := 53) ?hd (xs := ([] : List Int)) (inner := []) (ok := fun k_ => wr.heap.size ≤ k_) (okp := fun _ => False) ?hr ?hp (fun _ hk => hk.elim) (Nat.le_refl _) HB.out HB.out.size (by simp) ?_; (case hd => rfl); (case hg => rfl); (case hr => first | (go_simp; done) | (go_simp; rfl)); (case hp => exact (Reps.none _ _)); intro v53 w53 ho hbb hg_ hnew_; have HWr := yam (below_of_grown hg_); have HV := yam ho; clear ho hbb hg_ hnew_ hcO hcP0; obtain ⟨A53, c53, e53⟩ := Kd.R_slice HV.out; subst e53)
        | ((with_reducible refine gate_builtin (b := .append) (xs := #[.tmp 53, .tmp 54]) rfl ?_); at_builtin; refine Kd.R_append_rows (Kd.int .i64) (w0 := w0) w0.heap.size rfl (.tmp 53) (.tmp 54) 22 3 (.int .i64 0) 8 rfl Try.underlying22 info3 rfl (by decide) (by omega) (.slice A53 ([] : List Int).length c53) [] g (some ad) N c (fun k_ => wr.heap.size ≤ k_) (fun _ => False) rfl rfl HV.out (HR.out w53 (HA.out.trans (Agr.of_below HWr.out))) (fun _ _ h => h) (fun _ h => h.elim) (fun k_ h_ => Nat.le_trans HWr.out.size h_) (below_step HB.out HWr.out) (Nat.le_trans HB.out.size HWr.out.size) (by have := HN.out; simp only [List.length_nil]; omega) ?_; intro v55 w55 ho hbb hg_ hat; simp only [List.nil_append] at ho; have n1_ := yam (below_own HWr.out hg_ (fun k_ e_ => HV.out.1 k_ e_)); obtain ⟨gn, c55, e55, gb_, gl_, gx_⟩ := Kd.R_form ho (by have := HI.out; have := HL.out; omega); rw [HL.out] at e55; subst e55; have n2_ := yam (Kd.R_mono (Kd.R_tight rfl ho) (fun k_ h_ => by simpa [Value.ownBlock] using h_) : Kd.R (Kd.int .i64) 3 w55 w0.heap.size (fun k_ => k_ = gn) (.slice (some ⟨gn, 0, none⟩) N c55) g); have n3_ := yam (show wr.heap.size ≤ gn ∧ gn < w55.heap.size from ⟨ho.1 gn rfl, gl_⟩); clear HV HWr ho hbb hg_ hat gb_ gl_ gx_; have HWr := n1_; have HV := n2_; have HGN := n3_; clear n1_ n2_ n3_; obtain ⟨hxv0, hfv⟩ := Kd.R_celln 0 HV.out i HI.out.1 HI.out.2.1; have hxv := hxv0.trans (rfl : _ = some (Value.int .i64 (rd g i))); have HPO := yam (Kd.R_putg HV.out i v); clear hxv0)
        | ((with_reducible refine gate_store (t := 3) (p := 59) rfl ?_); refine store_event (t := 3) (p := 59) (v := ?vo1) (w1 := w55.setCell ⟨gn, i.toNat, none⟩ (.int .i64 v)) ?hg ?ho ?hn ?hr ?_; (case ho => rfl); (case hg => rfl); (case hn => rfl); (case hr => first | (go_simp; done) | (go_simp; rfl)); intro w59 hw; have n1_ : Aside0 (Below wr.heap.size wr w59) := ⟨by rw [hw]; exact below_set HWr.out HGN.out.1⟩; have n2_ : Aside0 (Kd.R (Kd.int .i64) 3 w59 w0.heap.size (fun k_ => k_ = gn) (.slice (some ⟨gn, 0, none⟩) N c55) (g.set i.toNat v)) := ⟨by rw [hw]; exact HPO.out.1⟩; have n3_ : Aside0 (wr.heap.size ≤ gn ∧ gn < w59.heap.size) := ⟨by have := HGN.out; rw [hw]; simpa [World.setCell] using this⟩; clear HWr HV HGN HPO hxv hfv hw; have HWr := n1_; have HV := n2_; have HGN := n3_; clear n1_ n2_ n3_; have hcP0 : w59.cell? ⟨gP, 0, none⟩ = some (.int .i64 s) := (blk_cell (blk_below BP.out HWr.out) 0).trans rfl; have hcP1 : w59.cell? ⟨gP, 1, none⟩ = some (.slice A1 l1.length c1) := (blk_cell (blk_below BP.out HWr.out) 1).trans rfl; have hcP2 : w59.cell? ⟨gP, 2, none⟩ = some (.slice A2 l2.length c2) := (blk_cell (blk_below BP.out HWr.out) 2).trans rfl)
        | (refine goesL_ (some 62) rfl rfl Try.func90 (by kernel_rfl) rfl #[.agg #[.int .i64 s, .slice A1 l1.length c1, .slice A2 l2.length c2], .slice (some ⟨gn, 0, none⟩) (g.set i.toNat v).length c55] rfl (by (try simp only [List.map_toArray, List.map_cons, List.map_nil]); rw [List.length_set, HL.out]; rfl) ?_; (with_reducible refine (spec_l5Fits.calls k s _ _ l1 _ _ l2 _ _ (g.set i.toNat v) false w59 (HR1.out _ (HA.out.trans (Agr.of_below HWr.out))) HC1.out (HR2.out _ (HA.out.trans (Agr.of_below HWr.out))) HC2.out (Kd.R_reads' HV.out).2.2 (by rw [List.length_set, HL.out]; exact (Kd.R_reads' HV.out).2.1) HF.out).mono ?_); rintro e w62 ⟨rfl, hb⟩; refine ⟨_, rfl, ?_⟩; replace HV := yam (Kd.R_below HV.out hb); have HGN_ := HGN.out; clear HGN; have HGN := yam (show wr.heap.size ≤ gn ∧ gn < w62.heap.size from ⟨HGN_.1, Nat.lt_of_lt_of_le HGN_.2 hb.size⟩); replace HWr := yam (below_step HWr.out hb); clear hb HGN_ hcP0 hcP1 hcP2; have hcP0 : w62.cell? ⟨gP, 0, none⟩ = some (.int .i64 s) := (blk_cell (blk_below BP.out HWr.out) 0).trans rfl; have hcP1 : w62.cell? ⟨gP, 1, none⟩ = some (.slice A1 l1.length c1) := (blk_cell (blk_below BP.out HWr.out) 1).trans rfl; have hcP2 : w62.cell? ⟨gP, 2, none⟩ = some (.slice A2 l2.length c2) := (blk_cell (blk_below BP.out HWr.out) 2).trans rfl))
       go_roundg n
       case measure => omega
       case rel => exact ⟨v + 1, o, rfl, ⟨by have := HK2.out; omega⟩, HT, ⟨blk_below BP.out HWr.out⟩, ⟨HO4.out.below HWr.out⟩, ⟨HA.out.trans (Agr.of_below HWr.out)⟩, ⟨below_step HB.out HWr.out⟩, ⟨Nat.le_trans HSZ.out HWr.out.size⟩⟩
      | true =>
       simp only [if_true] at h
       obtain ⟨o2, hsr, h⟩ := Option.bind_eq_some_iff.1 h
       have HSR := yam hsr
       have HT := yam h
       clear h hsr
       go_wp2_with (first
        | ((with_reducible refine gate_dst (N := 53) rfl ?_); refine Kd.R_lit (Kd.int .i64) (w0 := w0) w0.heap.size 3 ?hg (N := 53) ?hd (xs := ([] : List Int)) (inner := []) (ok := fun k_ => wr.heap.size ≤ k_) (okp := fun _ => False) ?hr ?hp (fun _ hk => hk.elim) (Nat.le_refl _) HB.out HB.out.size (by simp) ?_; (case hd => rfl); (case hg => rfl); (case hr => first | (go_simp; done) | (go_simp; rfl)); (case hp => exact (Reps.none _ _)); intro v53 w53 ho hbb hg_ hnew_; have HWr := yam (below_of_grown hg_); have HV := yam ho; clear ho hbb hg_ hnew_ hcO hcP0; obtain ⟨A53, c53, e53⟩ := Kd.R_slice HV.out; subst e53)
        | ((with_reducible refine gate_builtin (b := .append) (xs := #[.tmp 53, .tmp 54]) rfl ?_); at_builtin; refine Kd.R_append_rows (Kd.int .i64) (w0 := w0) w0.heap.size rfl (.tmp 53) (.tmp 54) 22 3 (.int .i64 0) 8 rfl Try.underlying22 info3 rfl (by decide) (by omega) (.slice A53 ([] : List Int).length c53) [] g (some ad) N c (fun k_ => wr.heap.size ≤ k_) (fun _ => False) rfl rfl HV.out (HR.out w53 (HA.out.trans (Agr.of_below HWr.out))) (fun _ _ h => h) (fun _ h => h.elim) (fun k_ h_ => Nat.le_trans HWr.out.size h_) (below_step HB.out HWr.out) (Nat.le_trans HB.out.size HWr.out.size) (by have := HN.out; simp only [List.length_nil]; omega) ?_; intro v55 w55 ho hbb hg_ hat; simp only [List.nil_append] at ho; have n1_ := yam (below_own HWr.out hg_ (fun k_ e_ => HV.out.1 k_ e_)); obtain ⟨gn, c55, e55, gb_, gl_, gx_⟩ := Kd.R_form ho (by have := HI.out; have := HL.out; omega); rw [HL.out] at e55; subst e55; have n2_ := yam (Kd.R_mono (Kd.R_tight rfl ho) (fun k_ h_ => by simpa [Value.ownBlock] using h_) : Kd.R (Kd.int .i64) 3 w55 w0.heap.size (fun k_ => k_ = gn) (.slice (some ⟨gn, 0, none⟩) N c55) g); have n3_ := yam (show wr.heap.size ≤ gn ∧ gn < w55.heap.size from ⟨ho.1 gn rfl, gl_⟩); clear HV HWr ho hbb hg_ hat gb_ gl_ gx_; have HWr := n1_; have HV := n2_; have HGN := n3_; clear n1_ n2_ n3_; obtain ⟨hxv0, hfv⟩ := Kd.R_celln 0 HV.out i HI.out.1 HI.out.2.1; have hxv := hxv0.trans (rfl : _ = some (Value.int .i64 (rd g i))); have HPO := yam (Kd.R_putg HV.out i v); clear hxv0)
        | ((with_reducible refine gate_store (t := 3) (p := 59) rfl ?_); refine store_event (t := 3) (p := 59) (v := ?vo2) (w1 := w55.setCell ⟨gn, i.toNat, none⟩ (.int .i64 v)) ?hg ?ho ?hn ?hr ?_; (case ho => rfl); (case hg => rfl); (case hn => rfl); (case hr => first | (go_simp; done) | (go_simp; rfl)); intro w59 hw; have n1_ : Aside0 (Below wr.heap.size wr w59) := ⟨by rw [hw]; exact below_set HWr.out HGN.out.1⟩; have n2_ : Aside0 (Kd.R (Kd.int .i64) 3 w59 w0.heap.size (fun k_ => k_ = gn) (.slice (some ⟨gn, 0, none⟩) N c55) (g.set i.toNat v)) := ⟨by rw [hw]; exact HPO.out.1⟩; have n3_ : Aside0 (wr.heap.size ≤ gn ∧ gn < w59.heap.size) := ⟨by have := HGN.out; rw [hw]; simpa [World.setCell] using this⟩; clear HWr HV HGN HPO hxv hfv hw; have HWr := n1_; have HV := n2_; have HGN := n3_; clear n1_ n2_ n3_; have hcP0 : w59.cell? ⟨gP, 0, none⟩ = some (.int .i64 s) := (blk_cell (blk_below BP.out HWr.out) 0).trans rfl; have hcP1 : w59.cell? ⟨gP, 1, none⟩ = some (.slice A1 l1.length c1) := (blk_cell (blk_below BP.out HWr.out) 1).trans rfl; have hcP2 : w59.cell? ⟨gP, 2, none⟩ = some (.slice A2 l2.length c2) := (blk_cell (blk_below BP.out HWr.out) 2).trans rfl)
        | (refine goesL_ (some 62) rfl rfl Try.func90 (by kernel_rfl) rfl #[.agg #[.int .i64 s, .slice A1 l1.length c1, .slice A2 l2.length c2], .slice (some ⟨gn, 0, none⟩) (g.set i.toNat v).length c55] rfl (by (try simp only [List.map_toArray, List.map_cons, List.map_nil]); rw [List.length_set, HL.out]; rfl) ?_; (with_reducible refine (spec_l5Fits.calls k s _ _ l1 _ _ l2 _ _ (g.set i.toNat v) true w59 (HR1.out _ (HA.out.trans (Agr.of_below HWr.out))) HC1.out (HR2.out _ (HA.out.trans (Agr.of_below HWr.out))) HC2.out (Kd.R_reads' HV.out).2.2 (by rw [List.length_set, HL.out]; exact (Kd.R_reads' HV.out).2.1) HF.out).mono ?_); rintro e w62 ⟨rfl, hb⟩; refine ⟨_, rfl, ?_⟩; replace HV := yam (Kd.R_below HV.out hb); have HGN_ := HGN.out; clear HGN; have HGN := yam (show wr.heap.size ≤ gn ∧ gn < w62.heap.size from ⟨HGN_.1, Nat.lt_of_lt_of_le HGN_.2 hb.size⟩); replace HWr := yam (below_step HWr.out hb); clear hb HGN_ hcP0 hcP1 hcP2; have hcP0 : w62.cell? ⟨gP, 0, none⟩ = some (.int .i64 s) := (blk_cell (blk_below BP.out HWr.out) 0).trans rfl; have hcP1 : w62.cell? ⟨gP, 1, none⟩ = some (.slice A1 l1.length c1) := (blk_cell (blk_below BP.out HWr.out) 1).trans rfl; have hcP2 : w62.cell? ⟨gP, 2, none⟩ = some (.slice A2 l2.length c2) := (blk_cell (blk_below BP.out HWr.out) 2).trans rfl)
        | (refine goesL_ (some 69) rfl rfl Try.func85 (by kernel_rfl) rfl #[.agg #[.int .i64 s, .slice A1 l1.length c1, .slice A2 l2.length c2], .slice (some ⟨gn, 0, none⟩) N c55, .int .i64 (i + 1), .int .i64 most, .pointer (some ⟨p, 0, none⟩)] rfl yma ?_; (refine (IH.out q HI.out.2.2.2 (i + 1) (g.set i.toNat v) (some ⟨gn, 0, none⟩) c55 o o2 (fun k_ => Pt k_ ∨ k_ = gP ∨ k_ = gn) w62 HI.out.2.2.1 (by have := HI.out; have := HAD.out; omega) (by rw [List.length_set]; exact HL.out) (fun W_ h_ => by have q_ := Kd.R_reads' (Agr.R HV.out h_ (fun k_ e_ => .inr (.inr e_))); have e_ := q_.1; rw [e_]; exact q_.2.2) (Kd.R_reads' HV.out).2.1 (fun W_ h_ => HR1.out W_ ((HA.out.trans (Agr.of_below HWr.out)).trans (h_.mono (fun _ _ hp_ => .inl hp_)))) (fun W_ h_ => HR2.out W_ ((HA.out.trans (Agr.of_below HWr.out)).trans (h_.mono (fun _ _ hp_ => .inl hp_)))) (fun k_ hp_ => hp_.elim (fun hp_ => by have h1_ := HPL.out k_ hp_; have h2_ := HA.out.1; have h3_ := HWr.out.size; omega) (fun hp_ => hp_.elim (fun hp_ => by have h1_ := HSZ.out; have h2_ := HWr.out.size; have h3_ := HGP.out; omega) (fun hp_ => by have := HGN.out; omega))) (fun hp_ => hp_.elim HPP.out (fun hp_ => hp_.elim (fun hp_ => by have := HGP.out; omega) (fun hp_ => by have h1_ := HGP.out; have h2_ := HGN.out; have h3_ := HA.out.1; omega))) ((HO4.out.mono (Pt' := (fun k_ => Pt k_ ∨ k_ = gP ∨ k_ = gn)) (fun k_ hl_ hp_ => hp_.elim .inl (fun hp_ => hp_.elim .inr (fun hp_ => by have := HGN.out; omega)))).below HWr.out) (below_step HB.out HWr.out) HSR.out).mono ?_); rintro e w69 ⟨rfl, hO2, hA2, hB2⟩; refine ⟨_, rfl, ?_⟩; have n1_ := yam (Agr.blk (blk_below BP.out HWr.out) hA2 (.inr (.inl rfl))); have n2_ := yam (hO2.mono (Pt' := (fun k_ => Pt k_ ∨ k_ = gP)) (fun _ _ hp_ => hp_.elim .inl (fun hp_ => .inr (.inl hp_)))); have n3_ := yam ((HA.out.trans (Agr.of_below HWr.out)).trans (hA2.mono (fun _ _ hp_ => .inl hp_))); have n4_ := yam hB2; have n5_ := yam (Nat.le_trans HSZ.out (Nat.le_trans HWr.out.size hA2.1)); clear hO2 hA2 hB2 HWr HV HGN hcP0 hcP1 hcP2))
       go_roundg n
       case measure => omega
       case rel => exact ⟨v + 1, o2, rfl, ⟨by have := HK2.out; omega⟩, HT, n1_, n2_, n3_, n4_, n5_⟩
def spec_l5Search.f (k : Nat) : Option Unit := none
theorem spec_l5Search.calls : True := trivial
def spec_l5All.f (k : Nat) (a0_0 : Int) (l0_1 : List Int) (l0_2 : List S73) (a1 : Int) : Option (List (List Int)) := (spec_PuzzleFits.f k a0_0 l0_1 l0_2 l0_1).bind fun b => (if b = true then (if l0_1.length ≤ 100000 ∧ a0_0 ≤ 1000 then spec_l5Search.srch k a0_0 l0_1 l0_2 a1 l0_1.length l0_1.length l0_1 [] else none) else some [])
set_option maxHeartbeats 8000000 in
set_option maxRecDepth 100000 in
theorem spec_l5All.calls (k : Nat) (a0_0 : Int) (A0_1 : Option Addr) (c0_1 : Nat) (l0_1 : List Int) (A0_2 : Option Addr) (c0_2 : Nat) (l0_2 : List S73) (a1 : Int) (r : List (List Int)) (w : World) (hr0_1 : Kd.C (Kd.int .i64) w A0_1 l0_1.length l0_1) (hc0_1 : l0_1.length ≤ c0_1) (hr0_2 : Kd.C k73 w A0_2 l0_2.length l0_2) (hc0_2 : l0_2.length ≤ c0_2) (h : spec_l5All.f k a0_0 l0_1 l0_2 a1 = some r) :
  Calls Try.prog 63 #[.agg #[.int .i64 a0_0, .slice A0_1 l0_1.length c0_1, .slice A0_2 l0_2.length c0_2], .int .i64 a1] w fun e w' => ∃ v0_ : Value, e = .returned (v0_) ∧ Kd.S (Kd.slice 3 (Kd.int .i64)) 22 w' w.heap.size (fun _ => True) v0_ r ∧ Below w.heap.size w w' := by
 unfold spec_l5All.f at h
 obtain ⟨b, hF, h⟩ := Option.bind_eq_some_iff.1 h
 have HF := yam hF
 have HS_ := yam h
 have HR1 := yam hr0_1
 have HC1 := yam hc0_1
 have HR2 := yam hr0_2
 have HC2 := yam hc0_2
 have hu := Try.underlying37
 clear h hF hr0_1 hc0_1 hr0_2 hc0_2
 go_enter Try.func63, Try.ntmps63
 cases b with
 | false =>
  have HE := HS_.out
  clear HS_
  simp only [Bool.false_eq_true, if_false] at HE
  obtain rfl := Option.some.inj HE
  clear HE
  go_wp2_with (first
    | (refine ybe 2 #[.int .i64 a0_0, .slice A0_1 l0_1.length c0_1, .slice A0_2 l0_2.length c0_2] 37 ?_; intro gP hg w3 hbox hb; have BgP := yam hbox; have HW := yam hb; have HO := yam (show w.heap.size ≤ gP ∧ gP < w3.heap.size from ⟨Nat.le_of_eq hg.symm, blk_lt hbox⟩); clear hg hbox hb)
    | ((with_reducible refine gate_dst (N := 6) rfl ?_); refine Kd.S_lit (Kd.slice 3 (Kd.int .i64)) _ 22 ?hg (N := 6) ?hd (xs := ([] : List (List Int))) (inner := []) (ok := fun k_ => k_ = w3.heap.size) (okp := fun _ => False) ?hr ?hp (fun _ hk => hk.elim) rfl (Below.refl _ _) (Nat.le_refl _) (by simp) ?_; (case hd => rfl); (case hg => rfl); (case hr => first | (go_simp; done) | (go_simp; rfl)); (case hp => exact (Reps.none _ _)); intro v8 w8 ho hb hg_ hnew_; clear hg_; obtain ⟨b_, e_, l_⟩ := hnew_; have l2_ := Kd.S_lt ho b_ e_; have HS := yam (Kd.S_lower ho HW.out.size); replace BgP := yam (blk_below BgP.out hb); replace HW := yam (below_step HW.out hb); have HO_ := HO.out; clear HO; have HO := yam (show w.heap.size ≤ gP ∧ gP < w3.heap.size ∧ w3.heap.size < w8.heap.size from ⟨HO_.1, HO_.2, by omega⟩); clear HO_ ho hb e_ l_ l2_; obtain ⟨A8, c8, e8⟩ := Kd.S_slice HS.out; subst e8)
    | (refine ybe 5 #[.slice none 0 0] 78 ?_; intro gO hg w9 hbox hb; have BgO := yam hbox; replace BgP := yam (blk_below BgP.out hb); replace HW := yam (below_step HW.out hb); replace HS := yam (Kd.S_below (Kd.S_bound HS.out) hb); have HO_ := HO.out; clear HO; have HO := yam (show w.heap.size ≤ gP ∧ gP < w3.heap.size ∧ w3.heap.size < w8.heap.size ∧ w8.heap.size ≤ gO ∧ gO < w9.heap.size from ⟨HO_.1, HO_.2.1, HO_.2.2, Nat.le_of_eq hg.symm, blk_lt hbox⟩); have hz : w9.cell? ⟨gO, 0, none⟩ = some (.slice none 0 0) := (blk_cell hbox 0).trans rfl; have hzf := blk_frozen hbox 0; clear HO_ hg hbox hb)
    | ((with_reducible refine gate_store (t := 78) (p := 5) rfl ?_); refine store_event (t := 78) (p := 5) (v := ?vo1) (w1 := w9.setCell ⟨gO, 0, none⟩ (.slice A8 ([] : List (List Int)).length c8)) ?hg ?ho ?hn ?hr ?_; (case ho => rfl); (case hg => rfl); (case hn => rfl); (case hr => first | (go_simp; done) | (go_simp; rfl)); intro w10 hw; have n0_ := yam (far1 hw BgP.out (by have := HO.out; omega)); have n2_ : Aside0 (w10.heap[gO]? = some (.cells #[.slice A8 ([] : List (List Int)).length c8] 78 (0, 0))) := ⟨by rw [hw]; simpa using blk_set BgO.out 0 (.slice A8 ([] : List (List Int)).length c8)⟩; have n3_ : Aside0 (Below w.heap.size w w10) := ⟨by rw [hw]; exact below_set HW.out (by have := HO.out; omega)⟩; have n4_ : Aside0 (Kd.S (Kd.slice 3 (Kd.int .i64)) 22 w10 w.heap.size (fun k_ => k_ = w3.heap.size) (.slice A8 ([] : List (List Int)).length c8) []) := ⟨by rw [hw]; exact Kd.S_mono (Kd.S_far (p := ⟨gO, 0, none⟩) HS.out (fun k_ h_ e_ => by have := h_.2.2.1; have := HO.out; simp only at e_; omega) _) (fun _ h_ => h_.1)⟩; have n5_ : Aside0 (w.heap.size ≤ gP ∧ gP < w3.heap.size ∧ w3.heap.size ≤ gO ∧ gO < w10.heap.size) := ⟨by have := HO.out; rw [hw]; simp only [World.setCell]; (try simp); omega⟩; have n6_ := yam (show w3.heap.size < gO from by have h1_ := HO.out; omega); clear BgP BgO HW HS HO hz hzf hw; have BgP := n0_; have BgO := n2_; have HW := n3_; have HS := n4_; have HO := n5_; have HO2 := n6_; clear n0_ n2_ n3_ n4_ n5_ n6_; have hp0 : w10.cell? ⟨gP, 0, none⟩ = some (.int .i64 a0_0) := (blk_cell BgP.out 0).trans rfl; have hp1 : w10.cell? ⟨gP, 1, none⟩ = some (.slice A0_1 l0_1.length c0_1) := (blk_cell BgP.out 1).trans rfl; have hp2 : w10.cell? ⟨gP, 2, none⟩ = some (.slice A0_2 l0_2.length c0_2) := (blk_cell BgP.out 2).trans rfl)
    | (refine goesL_ (some 10) rfl rfl Try.func79 (by kernel_rfl) rfl #[.agg #[.int .i64 a0_0, .slice A0_1 l0_1.length c0_1, .slice A0_2 l0_2.length c0_2], .slice A0_1 l0_1.length c0_1] rfl yma ?_; (with_reducible refine (spec_PuzzleFits.calls k a0_0 _ _ l0_1 _ _ l0_2 _ _ l0_1 false w10 (Kd.C_below HR1.out HW.out) HC1.out (Kd.C_below HR2.out HW.out) HC2.out (Kd.C_below HR1.out HW.out) HC1.out HF.out).mono ?_); rintro e w11 ⟨rfl, hb⟩; refine ⟨_, rfl, ?_⟩; have n0_ := yam (blk_below BgP.out hb); have n1_ := yam (blk_below BgO.out hb); have n2_ := yam (below_step HW.out hb); have n3_ := yam (Kd.S_below (Kd.S_bound HS.out) hb); have n4_ := yam (show w.heap.size ≤ gP ∧ gP < w3.heap.size ∧ w3.heap.size ≤ gO ∧ gO < w11.heap.size from ⟨HO.out.1, HO.out.2.1, HO.out.2.2.1, Nat.lt_of_lt_of_le HO.out.2.2.2 hb.size⟩); clear hp0 hp1 hp2 BgP BgO HW HS HO hb; have BgP := n0_; have BgO := n1_; have HW := n2_; have HS := n3_; have HO := n4_; clear n0_ n1_ n2_ n3_ n4_; have hp0 : w11.cell? ⟨gP, 0, none⟩ = some (.int .i64 a0_0) := (blk_cell BgP.out 0).trans rfl; have hp1 : w11.cell? ⟨gP, 1, none⟩ = some (.slice A0_1 l0_1.length c0_1) := (blk_cell BgP.out 1).trans rfl; have hp2 : w11.cell? ⟨gP, 2, none⟩ = some (.slice A0_2 l0_2.length c0_2) := (blk_cell BgP.out 2).trans rfl; have hcO : w11.cell? ⟨gO, 0, none⟩ = some (.slice A8 ([] : List (List Int)).length c8) := (blk_cell BgO.out 0).trans rfl))
  go_ret
  exact ⟨_, rfl, Kd.S_mono HS.out (fun _ _ => trivial), HW.out⟩
 | true =>
  have HE := HS_.out
  clear HS_
  simp only [if_true] at HE
  by_cases hg : l0_1.length ≤ 100000 ∧ a0_0 ≤ 1000
  rotate_left
  ·rw [if_neg hg] at HE
   cases HE
  rw [if_pos hg] at HE
  have HG := yam hg
  have HS_ := yam HE
  clear hg
  clear HE
  go_wp2_with (first
    | (refine ybe 2 #[.int .i64 a0_0, .slice A0_1 l0_1.length c0_1, .slice A0_2 l0_2.length c0_2] 37 ?_; intro gP hg w3 hbox hb; have BgP := yam hbox; have HW := yam hb; have HO := yam (show w.heap.size ≤ gP ∧ gP < w3.heap.size from ⟨Nat.le_of_eq hg.symm, blk_lt hbox⟩); clear hg hbox hb)
    | ((with_reducible refine gate_dst (N := 6) rfl ?_); refine Kd.S_lit (Kd.slice 3 (Kd.int .i64)) _ 22 ?hg (N := 6) ?hd (xs := ([] : List (List Int))) (inner := []) (ok := fun k_ => k_ = w3.heap.size) (okp := fun _ => False) ?hr ?hp (fun _ hk => hk.elim) rfl (Below.refl _ _) (Nat.le_refl _) (by simp) ?_; (case hd => rfl); (case hg => rfl); (case hr => first | (go_simp; done) | (go_simp; rfl)); (case hp => exact (Reps.none _ _)); intro v8 w8 ho hb hg_ hnew_; clear hg_; obtain ⟨b_, e_, l_⟩ := hnew_; have l2_ := Kd.S_lt ho b_ e_; have HS := yam (Kd.S_lower ho HW.out.size); replace BgP := yam (blk_below BgP.out hb); replace HW := yam (below_step HW.out hb); have HO_ := HO.out; clear HO; have HO := yam (show w.heap.size ≤ gP ∧ gP < w3.heap.size ∧ w3.heap.size < w8.heap.size from ⟨HO_.1, HO_.2, by omega⟩); clear HO_ ho hb e_ l_ l2_; obtain ⟨A8, c8, e8⟩ := Kd.S_slice HS.out; subst e8)
    | (refine ybe 5 #[.slice none 0 0] 78 ?_; intro gO hg w9 hbox hb; have BgO := yam hbox; replace BgP := yam (blk_below BgP.out hb); replace HW := yam (below_step HW.out hb); replace HS := yam (Kd.S_below (Kd.S_bound HS.out) hb); have HO_ := HO.out; clear HO; have HO := yam (show w.heap.size ≤ gP ∧ gP < w3.heap.size ∧ w3.heap.size < w8.heap.size ∧ w8.heap.size ≤ gO ∧ gO < w9.heap.size from ⟨HO_.1, HO_.2.1, HO_.2.2, Nat.le_of_eq hg.symm, blk_lt hbox⟩); have hz : w9.cell? ⟨gO, 0, none⟩ = some (.slice none 0 0) := (blk_cell hbox 0).trans rfl; have hzf := blk_frozen hbox 0; clear HO_ hg hbox hb)
    | ((with_reducible refine gate_store (t := 78) (p := 5) rfl ?_); refine store_event (t := 78) (p := 5) (v := ?vo2) (w1 := w9.setCell ⟨gO, 0, none⟩ (.slice A8 ([] : List (List Int)).length c8)) ?hg ?ho ?hn ?hr ?_; (case ho => rfl); (case hg => rfl); (case hn => rfl); (case hr => first | (go_simp; done) | (go_simp; rfl)); intro w10 hw; have n0_ := yam (far1 hw BgP.out (by have := HO.out; omega)); have n2_ : Aside0 (w10.heap[gO]? = some (.cells #[.slice A8 ([] : List (List Int)).length c8] 78 (0, 0))) := ⟨by rw [hw]; simpa using blk_set BgO.out 0 (.slice A8 ([] : List (List Int)).length c8)⟩; have n3_ : Aside0 (Below w.heap.size w w10) := ⟨by rw [hw]; exact below_set HW.out (by have := HO.out; omega)⟩; have n4_ : Aside0 (Kd.S (Kd.slice 3 (Kd.int .i64)) 22 w10 w.heap.size (fun k_ => k_ = w3.heap.size) (.slice A8 ([] : List (List Int)).length c8) []) := ⟨by rw [hw]; exact Kd.S_mono (Kd.S_far (p := ⟨gO, 0, none⟩) HS.out (fun k_ h_ e_ => by have := h_.2.2.1; have := HO.out; simp only at e_; omega) _) (fun _ h_ => h_.1)⟩; have n5_ : Aside0 (w.heap.size ≤ gP ∧ gP < w3.heap.size ∧ w3.heap.size ≤ gO ∧ gO < w10.heap.size) := ⟨by have := HO.out; rw [hw]; simp only [World.setCell]; (try simp); omega⟩; have n6_ := yam (show w3.heap.size < gO from by have h1_ := HO.out; omega); clear BgP BgO HW HS HO hz hzf hw; have BgP := n0_; have BgO := n2_; have HW := n3_; have HS := n4_; have HO := n5_; have HO2 := n6_; clear n0_ n2_ n3_ n4_ n5_ n6_; have hp0 : w10.cell? ⟨gP, 0, none⟩ = some (.int .i64 a0_0) := (blk_cell BgP.out 0).trans rfl; have hp1 : w10.cell? ⟨gP, 1, none⟩ = some (.slice A0_1 l0_1.length c0_1) := (blk_cell BgP.out 1).trans rfl; have hp2 : w10.cell? ⟨gP, 2, none⟩ = some (.slice A0_2 l0_2.length c0_2) := (blk_cell BgP.out 2).trans rfl)
    | (refine goesL_ (some 10) rfl rfl Try.func79 (by kernel_rfl) rfl #[.agg #[.int .i64 a0_0, .slice A0_1 l0_1.length c0_1, .slice A0_2 l0_2.length c0_2], .slice A0_1 l0_1.length c0_1] rfl yma ?_; (with_reducible refine (spec_PuzzleFits.calls k a0_0 _ _ l0_1 _ _ l0_2 _ _ l0_1 true w10 (Kd.C_below HR1.out HW.out) HC1.out (Kd.C_below HR2.out HW.out) HC2.out (Kd.C_below HR1.out HW.out) HC1.out HF.out).mono ?_); rintro e w11 ⟨rfl, hb⟩; refine ⟨_, rfl, ?_⟩; have n0_ := yam (blk_below BgP.out hb); have n1_ := yam (blk_below BgO.out hb); have n2_ := yam (below_step HW.out hb); have n3_ := yam (Kd.S_below (Kd.S_bound HS.out) hb); have n4_ := yam (show w.heap.size ≤ gP ∧ gP < w3.heap.size ∧ w3.heap.size ≤ gO ∧ gO < w11.heap.size from ⟨HO.out.1, HO.out.2.1, HO.out.2.2.1, Nat.lt_of_lt_of_le HO.out.2.2.2 hb.size⟩); clear hp0 hp1 hp2 BgP BgO HW HS HO hb; have BgP := n0_; have BgO := n1_; have HW := n2_; have HS := n3_; have HO := n4_; clear n0_ n1_ n2_ n3_ n4_; have hp0 : w11.cell? ⟨gP, 0, none⟩ = some (.int .i64 a0_0) := (blk_cell BgP.out 0).trans rfl; have hp1 : w11.cell? ⟨gP, 1, none⟩ = some (.slice A0_1 l0_1.length c0_1) := (blk_cell BgP.out 1).trans rfl; have hp2 : w11.cell? ⟨gP, 2, none⟩ = some (.slice A0_2 l0_2.length c0_2) := (blk_cell BgP.out 2).trans rfl; have hcO : w11.cell? ⟨gO, 0, none⟩ = some (.slice A8 ([] : List (List Int)).length c8) := (blk_cell BgO.out 0).trans rfl)
    | (refine goesL_ (some 15) rfl rfl Try.func85 (by kernel_rfl) rfl #[.agg #[.int .i64 a0_0, .slice A0_1 l0_1.length c0_1, .slice A0_2 l0_2.length c0_2], .slice A0_1 l0_1.length c0_1, .int .i64 0, .int .i64 a1, .pointer (some ⟨gO, 0, none⟩)] rfl yma ?_; (refine (spec_l5Search.clo k a0_0 A0_1 c0_1 l0_1 A0_2 c0_2 l0_2 a1 l0_1.length gO w HG.out.1 HG.out.2 (by have := HO.out; omega) HC1.out HC2.out l0_1.length 0 l0_1 A0_1 c0_1 [] r (fun k_ => k_ < w11.heap.size ∧ k_ ≠ gO ∧ k_ ≠ w3.heap.size) w11 (by omega) (Nat.le_refl _) rfl (fun W_ h_ => (Kd.heap_int .i64).C (fun k_ hl_ => (h_.2 k_ (Nat.lt_of_lt_of_le hl_ HW.out.size) ⟨Nat.lt_of_lt_of_le hl_ HW.out.size, by have := HO.out; omega, by have := HO.out; omega⟩).trans (HW.out.block k_ hl_)) HR1.out) HC1.out (fun W_ h_ => (Kd.heap_int .i64).C (fun k_ hl_ => (h_.2 k_ (Nat.lt_of_lt_of_le hl_ HW.out.size) ⟨Nat.lt_of_lt_of_le hl_ HW.out.size, by have := HO.out; omega, by have := HO.out; omega⟩).trans (HW.out.block k_ hl_)) HR1.out) (fun W_ h_ => (Kd.heap_iso _ (Kd.heap_pair (Kd.heap_int _) (Kd.heap_pair (Kd.heap_slice _ (Kd.heap_int _)) (Kd.heap_int _)))).C (fun k_ hl_ => (h_.2 k_ (Nat.lt_of_lt_of_le hl_ HW.out.size) ⟨Nat.lt_of_lt_of_le hl_ HW.out.size, by have := HO.out; omega, by have := HO.out; omega⟩).trans (HW.out.block k_ hl_)) HR2.out) (fun _ h_ => h_.1) (fun h_ => h_.2.1 rfl) ⟨_, BgO.out, Kd.S_mono HS.out (fun k_ h_ => ⟨fun hp_ => hp_.2.2 h_.1, by have := HO2.out; have := h_.1; omega⟩)⟩ HW.out HS_.out).mono ?_); rintro e w12 ⟨rfl, ⟨v_, hO_, hS_⟩, hA, hB⟩; refine ⟨_, rfl, ?_⟩; have HSS := yam hS_; have HBB := yam hB; obtain ⟨Ar, cr, er⟩ := Kd.S_slice HSS.out; subst er; have hcO2 : w12.cell? ⟨gO, 0, none⟩ = some (.slice Ar r.length cr) := (blk_cell hO_ 0).trans rfl; clear hO_ hS_ hA hB hp0 hp1 hp2 hcO))
  go_ret
  exact ⟨_, rfl, Kd.S_mono HSS.out (fun _ _ => trivial), HBB.out⟩
def spec_l10One.f (k : Nat) (a0_0 : Int) (l0_1 : List Int) (l0_2 : List (S73)) : Option (Bool) := (spec_l5All.f k a0_0 l0_1 l0_2 2).bind fun t639 => (some ((t639.length : Int) == 1))
set_option maxHeartbeats 8000000 in
set_option maxRecDepth 100000 in
theorem spec_l10One.calls (k : Nat) (a0_0 : Int) (A0_1 : Option Addr) (c0_1 : Nat) (l0_1 : List Int) (A0_2 : Option Addr) (c0_2 : Nat) (l0_2 : List (S73)) (r : Bool) (w : World) (hr0_1 : Kd.C (Kd.int .i64) w A0_1 l0_1.length l0_1) (hc0_1 : l0_1.length ≤ c0_1) (hr0_2 : Kd.C k73 w A0_2 l0_2.length l0_2) (hc0_2 : l0_2.length ≤ c0_2) (h : spec_l10One.f k a0_0 l0_1 l0_2 = some r) :
  Calls Try.prog 66 #[.agg #[.int .i64 a0_0, .slice A0_1 l0_1.length c0_1, .slice A0_2 l0_2.length c0_2]] w fun e w' => e = .returned (.bool r) ∧ Below w.heap.size w w' := by
 have hu37 := Try.underlying37
 have HR0_1 := yam hr0_1
 have HC0_1 := yam hc0_1
 clear hr0_1 hc0_1
 have HR0_2 := yam hr0_2
 have HC0_2 := yam hc0_2
 clear hr0_2 hc0_2
 have HB := yam (Below.refl w.heap.size w)
 have H : ((spec_l5All.f k a0_0 l0_1 l0_2 2).bind fun t639 => (some ((t639.length : Int) == 1))) = some r := h
 clear h
 replace H := Option.bind_eq_some_iff.mp H
 obtain ⟨t639, A20, H⟩ := H
 try dsimp only at H
 have A2 := yam A20
 clear A20
 obtain rfl := Option.some.inj H
 go_enter Try.func66, Try.ntmps66
 go_wp2_with (first | (refine ybe 1 #[.int .i64 a0_0, .slice A0_1 l0_1.length c0_1, .slice A0_2 l0_2.length c0_2] 37 ?_; intro gb638 hg w3 hbox hb; have n0_ := yam (below_step (yez HB.out) hb); have n1_ := yam (hbox); have n2_ := yam ((by rw [hg]; exact (below_size (yez HB.out)) : w.heap.size ≤ gb638)); have n3_ := n2_; clear HB; have HB := n0_; have BK638 := n1_; have GW638 := n2_; have GE638 := n3_; clear n0_ n1_ n2_ n3_; clear hb hbox hg; obtain ⟨hcz4_0, hcz4_1, hcz4_2, hfz4_0, hfz4_1, hfz4_2⟩ := ybc BK638.out) | (refine goesL_ (some 4) rfl rfl Try.func63 (by kernel_rfl) rfl #[.agg #[.int .i64 a0_0, .slice A0_1 l0_1.length c0_1, .slice A0_2 l0_2.length c0_2], .int .i64 2] rfl ymd ?_; (with_reducible refine (spec_l5All.calls k a0_0 _ _ l0_1 _ _ l0_2 2 t639 _ ?side1 ?side2 ?side3 ?side4 A2.out).mono ?_); (case side1 => exact Kd.Cz ((Kd.C_below HR0_1.out HB.out))); (case side2 => exact HC0_1.out); (case side3 => exact Kd.Cz ((Kd.C_below HR0_2.out HB.out))); (case side4 => exact HC0_2.out); rintro e w5 ⟨v640, rfl, ho0, hb⟩; refine ⟨_, rfl, ?_⟩; have n0_ := yam (Kd.S_lower ho0 (below_size yhb)); have n1_ := yam (blk_below (g := gb638) (o := .cells #[.int .i64 a0_0, .slice A0_1 l0_1.length c0_1, .slice A0_2 l0_2.length c0_2] 37 (0, 0)) (ybz BK638.out) hb); have n2_ := yam (below_step yhb hb); clear BK638; clear HB; have HO641 := n0_; have BK638 := n1_; have HB := n2_; clear n0_ n1_ n2_; (try clear hb); (try clear hb2); (try clear hk); (try clear hi); (try clear ho0); obtain ⟨Ao6, co6, eo6⟩ := Kd.S_slice HO641.out; subst eo6))
 go_ret
 exact ⟨yer, yhb⟩
def spec_l10Without.f (a0_0 : Int) (l0_1 : List Int) (l0_2 : List (S73)) (a1 : Int) : Option (Int × List Int × (List (S73))) := (some (([] : List Int) : List Int)).bind fun y644 => (if y644.length + l0_1.length < 17592186044416 then ((some (y644 ++ l0_1 : List Int)).bind fun y647 => (if 0 ≤ a1 then (if a1 < (y647.length : Int) then (some (a0_0, (y647.set (a1 : Int).toNat 0), l0_2)) else (none)) else (none))) else (none))
set_option maxHeartbeats 8000000 in
set_option maxRecDepth 100000 in
theorem spec_l10Without.calls (a0_0 : Int) (A0_1 : Option Addr) (c0_1 : Nat) (l0_1 : List Int) (P0_2_ : Nat → Prop) (A0_2 : Option Addr) (c0_2 : Nat) (l0_2 : List (S73)) (a1 : Int) (r1 : Int) (r2 : List Int) (r3 : List (S73)) (w : World) (hr0_1 : Kd.C (Kd.int .i64) w A0_1 l0_1.length l0_1) (hc0_1 : l0_1.length ≤ c0_1) (hs0_2 : Kd.V k73 73 w w.heap.size (fun k_ => P0_2_ k_) (.slice A0_2 l0_2.length c0_2) l0_2) (h : spec_l10Without.f a0_0 l0_1 l0_2 a1 = some (r1, r2, r3)) :
  Calls Try.prog 67 #[.agg #[.int .i64 a0_0, .slice A0_1 l0_1.length c0_1, .slice A0_2 l0_2.length c0_2], .int .i64 a1] w fun e w' => ∃ v1_ v2_ : Value, e = .returned (.agg #[.int .i64 r1, v1_, v2_]) ∧ Kd.R (Kd.int .i64) 3 w' w.heap.size (fun k_ => (w.heap.size ≤ k_)) v1_ r2 ∧ Kd.V k73 73 w' w.heap.size (fun k_ => (P0_2_ k_ ∨ w.heap.size ≤ k_) ∧ some k_ ≠ (v1_ : Value).ownBlock) v2_ r3 ∧ Below w.heap.size w w' := by
 have hu37 := Try.underlying37
 have HR0_1 := yam hr0_1
 have HC0_1 := yam hc0_1
 clear hr0_1 hc0_1
 have HO0_2 := yam (show Kd.V k73 73 w w.heap.size (fun k_ => (P0_2_ k_ ∨ w.heap.size ≤ k_)) (.slice A0_2 l0_2.length c0_2) l0_2 from Kd.V_mono hs0_2 (fun k_ hk => .inl hk))
 have HB := yam (Below.refl w.heap.size w)
 have H : ((some (([] : List Int) : List Int)).bind fun y644 => (if y644.length + l0_1.length < 17592186044416 then ((some (y644 ++ l0_1 : List Int)).bind fun y647 => (if 0 ≤ a1 then (if a1 < (y647.length : Int) then (some (a0_0, (y647.set (a1 : Int).toNat 0), l0_2)) else (none)) else (none))) else (none))) = some (r1, r2, r3) := h
 clear h
 obtain ⟨y644, hy644⟩ : ∃ y_ : List Int, y_ = (([] : List Int)) := ⟨_, rfl⟩
 replace H : (if y644.length + l0_1.length < 17592186044416 then ((some (y644 ++ l0_1 : List Int)).bind fun y647 => (if 0 ≤ a1 then (if a1 < (y647.length : Int) then (some (a0_0, (y647.set (a1 : Int).toNat 0), l0_2)) else (none)) else (none))) else (none)) = some (r1, r2, r3) := by first | (rw [hy644]; with_reducible exact H) | (have H2_ := (Option.bind_some _ _).symm.trans H; rw [hy644]; with_reducible exact H2_) | (have H2_ := (Option.bind_some _ _).symm.trans H; with_reducible exact H2_) | with_reducible exact H | (rw [hy644]; exact H) | exact H
 have Ny644 := yam hy644
 clear hy644
 by_cases c3 : y644.length + l0_1.length < 17592186044416
 rotate_left
 ·rw [if_neg c3] at H
  exact absurd H (by simp)

 rw [if_pos c3] at H
 have LMc3 := yam c3
 clear c3
 obtain ⟨y647, hy647⟩ : ∃ y_ : List Int, y_ = (y644 ++ l0_1) := ⟨_, rfl⟩
 replace H : (if 0 ≤ a1 then (if a1 < (y647.length : Int) then (some (a0_0, (y647.set (a1 : Int).toNat 0), l0_2)) else (none)) else (none)) = some (r1, r2, r3) := by first | (rw [hy647]; with_reducible exact H) | (have H2_ := (Option.bind_some _ _).symm.trans H; rw [hy647]; with_reducible exact H2_) | (have H2_ := (Option.bind_some _ _).symm.trans H; with_reducible exact H2_) | with_reducible exact H | (rw [hy647]; exact H) | exact H
 have Ny647 := yam hy647
 clear hy647
 replace H := yif H
 obtain ⟨c4b0, H⟩ := H
 replace H := yif H
 obtain ⟨c5b0, H⟩ := H
 obtain ⟨y650, hy650⟩ : ∃ y_ : List Int, y_ = (y647.set (a1 : Int).toNat 0) := ⟨_, rfl⟩
 replace H : (some (a0_0, y650, l0_2)) = some (r1, r2, r3) := by first | (rw [hy650]; with_reducible exact H) | (have H2_ := (Option.bind_some _ _).symm.trans H; rw [hy650]; with_reducible exact H2_) | (have H2_ := (Option.bind_some _ _).symm.trans H; with_reducible exact H2_) | with_reducible exact H | (rw [hy650]; exact H) | exact H
 have Ny650 := yam hy650
 clear hy650
 simp only [Option.some.injEq, Prod.mk.injEq] at H
 obtain ⟨rfl, rfl, rfl⟩ := H
 go_enter Try.func67, Try.ntmps67
 go_wp2_with (first | (refine ybe 2 #[.int .i64 a0_0, .slice A0_1 l0_1.length c0_1, .slice A0_2 l0_2.length c0_2] 37 ?_; intro gb642 hg w7 hbox hb; have n0_ := yam (Kd.V_below (Kd.V_elderB (by (with_reducible repeat (first | apply Kd.V_alloc | apply Kd.V_drewN | apply Kd.V_drew)); exact HO0_2.out) gb642 (Nat.le_of_eq hg.symm)) hb); have n1_ := yam (below_step (yez HB.out) hb); have n2_ := yam (hbox); have n3_ := yam ((by rw [hg]; exact (below_size (yez HB.out)) : w.heap.size ≤ gb642)); have n4_ := n3_; clear HO0_2; clear HB; have HO0_2 := n0_; have HB := n1_; have BK642 := n2_; have GW642 := n3_; have GE642 := n4_; clear n0_ n1_ n2_ n3_ n4_; clear hb hbox hg) | (refine ybe 4 #[.int .i64 0, .slice none 0 0, .slice none 0 0] 37 ?_; intro gb643 hg w8 hbox hb; have n0_ := yam (Kd.V_below (Kd.V_elderB (by (with_reducible repeat (first | apply Kd.V_alloc | apply Kd.V_drewN | apply Kd.V_drew)); exact HO0_2.out) gb643 (Nat.le_of_eq hg.symm)) hb); have n1_ := yam (blk_below (g := gb642) (o := .cells #[.int .i64 a0_0, .slice A0_1 l0_1.length c0_1, .slice A0_2 l0_2.length c0_2] 37 (0, 0)) (ybz BK642.out) hb); have n2_ := yam (below_step yhb hb); have n3_ := yam (hbox); have n4_ := yam ((by rw [hg]; exact (below_size yhb) : w.heap.size ≤ gb643)); have n5_ := n4_; have n6_ := yam ((by rw [hg]; exact Nat.ne_of_lt (blk_lt (g := gb642) (o := .cells #[.int .i64 a0_0, .slice A0_1 l0_1.length c0_1, .slice A0_2 l0_2.length c0_2] 37 (0, 0)) (ybz BK642.out)) : gb642 ≠ gb643)); have n7_ := yam ((by rw [hg]; exact Nat.ne_of_gt (blk_lt (g := gb642) (o := .cells #[.int .i64 a0_0, .slice A0_1 l0_1.length c0_1, .slice A0_2 l0_2.length c0_2] 37 (0, 0)) (ybz BK642.out)) : gb643 ≠ gb642)); clear HO0_2; clear BK642; clear HB; have HO0_2 := n0_; have BK642 := n1_; have HB := n2_; have BK643 := n3_; have GW643 := n4_; have GE643 := n5_; have NB642_643 := n6_; have NB643_642 := n7_; clear n0_ n1_ n2_ n3_ n4_ n5_ n6_ n7_; clear hb hbox hg) | ((with_reducible refine gate_dst (N := 6) rfl ?_); refine Kd.R_lit (Kd.int .i64) _ 3 ?hg (N := 6) ?hd (xs := ([] : List Int)) (inner := []) (ok := fun _ => True) (okp := fun _ => True) ?hr ?hp (fun _ hk => hk) trivial (Below.refl _ _) (Nat.le_refl _) (by simp) ?_; (case hd => rfl); (case hg => rfl); (case hr => first | (go_simp; done) | (go_simp; rfl)); (case hp => exact (Reps.none _ _)); intro v645 w9 ho10 hb hg_ hnew_; clear hg_ hnew_; (first | rw [← Ny644.out] at ho10 | (simp only [Int.reduceToNat] at ho10; rw [← Ny644.out] at ho10)); have n0_ := yam (Kd.V_elder' (by (with_reducible repeat (first | apply Kd.V_alloc | apply Kd.V_drewN | apply Kd.V_drew)); exact HO0_2.out) (Kd.Yb ho10) hb); have n1_ := yam (Kd.R_lower (Kd.R_newM (M := fun k_ => (w.heap.size ≤ k_)) ho10 (below_size yhb) (fun k_ h_ => h_)) (below_size yhb)); have n2_ := yam (blk_below (g := gb642) (o := .cells #[.int .i64 a0_0, .slice A0_1 l0_1.length c0_1, .slice A0_2 l0_2.length c0_2] 37 (0, 0)) (ybz BK642.out) hb); have n3_ := yam (blk_below (g := gb643) (o := .cells #[.int .i64 0, .slice none 0 0, .slice none 0 0] 37 (0, 0)) (ybz BK643.out) hb); have n4_ := yam (below_step yhb hb); clear HO0_2; clear BK642; clear BK643; clear HB; have HO0_2 := n0_; have HO646 := n1_; have BK642 := n2_; have BK643 := n3_; have HB := n4_; clear n0_ n1_ n2_ n3_ n4_; clear hb ho10; have hnb11 := NB642_643.out; have hnc11 := NB643_642.out; obtain ⟨hcz12_0, hcz12_1, hcz12_2, hfz12_0, hfz12_1, hfz12_2⟩ := ybc BK642.out) | ((with_reducible refine gate_builtin (b := .append) (xs := #[.tmp 6, .tmp 8]) rfl ?_); at_builtin; refine Kd.R_append_rows (Kd.int .i64) (w0 := w) w.heap.size rfl (.tmp 6) (.tmp 8) 22 3 (.int .i64 0) 8 rfl Try.underlying22 info3 rfl (by decide) (by omega) v645 y644 l0_1 _ _ _ (fun k_ => (w.heap.size ≤ k_)) (fun _ => False) rfl rfl ?aO ?aR (fun _ _ h => h) (fun _ h => h.elim) ?aF ?aB ?aS ?aL ?_; (case aR => exact Kd.Cz ((Kd.C_below HR0_1.out HB.out))); (case aB => exact yhb); (case aF => exact (fun k_ hk => (Nat.le_trans (below_size yhb) hk))); (case aO => exact (by (with_reducible repeat (first | apply Kd.Ya | apply Kd.Yn | apply Kd.Yd)); exact Kd.R_mono HO646.out (fun _ hk => hk.1))); (case aS => exact (below_size yhb)); (case aL => have := LMc3.out; omega); intro v648 w13 ho hb hg hat; rw [← Ny647.out] at ho; have n0_ := yam (Kd.V_afterv (ok := (fun k_ => (P0_2_ k_ ∨ w.heap.size ≤ k_) ∧ k_ ≠ gb642 ∧ k_ ≠ gb643)) (by (with_reducible repeat (first | apply Kd.V_alloc | apply Kd.V_drewN | apply Kd.V_drew)); exact Kd.V_mono HO0_2.out (fun _ hk => ⟨⟨hk.1.1.1, ⟨hk.1.1.2, hk.1.2⟩⟩, hk.2⟩)) hg hat); have n1_ := yam (blk_grown (g := gb642) (o := .cells #[.int .i64 a0_0, .slice A0_1 l0_1.length c0_1, .slice A0_2 l0_2.length c0_2] 37 (0, 0)) (ybz BK642.out) hg (Kd.R_ne HO646.out BK642.out (by decide))); have n2_ := yam (blk_grown (g := gb643) (o := .cells #[.int .i64 0, .slice none 0 0, .slice none 0 0] 37 (0, 0)) (ybz BK643.out) hg (Kd.R_ne HO646.out BK643.out (by decide))); have n3_ := yam (hb); have n4_ := yam (ho); clear HO0_2; clear BK642; clear BK643; clear HB; clear HO646; have HO0_2 := n0_; have BK642 := n1_; have BK643 := n2_; have HB := n3_; have HO649 := n4_; clear n0_ n1_ n2_ n3_ n4_; clear ho hb hg hat; have p6 : 0 ≤ (a1 : Int) := ydt; have q6 : (a1 : Int) < ((y647.length : Int) : Int) := ydt; obtain ⟨go6, co6, eo6, gb6, gl6, cl6, HG6⟩ := Kd.R_form HO649.out (by omega); (first | cases eo6 | (injection eo6 with ea_ en_ ec_; (first | subst ea_ | (injection ea_ with ea_; subst ea_)); subst ec_; clear en_)); have GB6 := yam gb6; have GG6 := yam HG6; clear gb6 gl6 HG6; obtain ⟨hx6_0, hf6_0⟩ := Kd.R_celln 0 HO649.out (a1 : Int) p6 q6; replace p6 := eq_true p6; replace q6 := eq_true q6; obtain ⟨hy14_, hz14_⟩ := Kd.R_celln 0 HO649.out (a1 : Int) (ydt) (ydt); have HP14 := Kd.R_putg HO649.out (a1 : Int) 0) | ((with_reducible refine gate_store (t := 3) (p := 12) rfl ?_); refine store_event (t := 3) (p := 12) (v := ?vo_w15) (w1 := (w13.setCell ⟨go6, (a1 : Int).toNat, none⟩ (.int .i64 0))) ?hg ?ho ?hn ?hr ?_; (case ho => rfl); (case hg => rfl); (case hn => rfl); (case hr => first | (go_simp; done) | (go_simp; rfl)); intro w15 hw; have hg : w13.grownBy w15 (some go6) := (by rw [hw]; exact HP14.2); have hp_ : Kd.R (Kd.int .i64) 3 w15 w.heap.size (fun k_ => (w.heap.size ≤ k_)) (.slice (some ⟨go6, 0, none⟩) y647.length co6) y650 := (by rw [hw, Ny650.out]; exact HP14.1); clear HP14; have n0_ := yam (Kd.V_afterv (v := (.slice (some ⟨go6, 0, none⟩) y647.length co6)) (v1 := (.slice (some ⟨go6, 0, none⟩) y647.length co6)) (ok := (fun k_ => (P0_2_ k_ ∨ w.heap.size ≤ k_) ∧ k_ ≠ gb642 ∧ k_ ≠ gb643)) (by (with_reducible repeat (first | apply Kd.V_alloc | apply Kd.V_drewN | apply Kd.V_drew)); exact HO0_2.out) hg (.inl rfl)); have n1_ := yam (blk_grown (g := gb642) (o := .cells #[.int .i64 a0_0, .slice A0_1 l0_1.length c0_1, .slice A0_2 l0_2.length c0_2] 37 (0, 0)) (ybz BK642.out) hg (Kd.R_ne HO649.out BK642.out (by decide))); have n2_ := yam (blk_grown (g := gb643) (o := .cells #[.int .i64 0, .slice none 0 0, .slice none 0 0] 37 (0, 0)) (ybz BK643.out) hg (Kd.R_ne HO649.out BK643.out (by decide))); have n3_ := yam (hp_); have n4_ := yam ((by rw [hw]; exact below_set (HB.out) GB6.out : Below w.heap.size w w15)); clear HO0_2; clear BK642; clear BK643; clear HO649; clear HB; have HO0_2 := n0_; have BK642 := n1_; have BK643 := n2_; have HO649 := n3_; have HB := n4_; clear n0_ n1_ n2_ n3_ n4_; clear hg hw hp_; obtain ⟨hcz16_0, hcz16_1, hcz16_2, hfz16_0, hfz16_1, hfz16_2⟩ := ybc BK642.out; obtain ⟨hcz17_0, hcz17_1, hcz17_2, hfz17_0, hfz17_1, hfz17_2⟩ := ybc BK643.out))
 refine bodyPost_ret (results_cell_row rfl _ _ gb643 37 #[.int .i64 a0_0, .slice (some ⟨go6, 0, none⟩) y647.length co6, .slice A0_2 l0_2.length c0_2] (0, 0) _ rfl (by (with_reducible repeat (first | refine ybn ?_ _ | refine ybd ?_ | refine yba ?_ _)); refine blk_put (cs := #[.int .i64 a0_0, .slice (some ⟨go6, 0, none⟩) y647.length co6, .slice none 0 0]) ?_ 2 _ rfl; (with_reducible repeat (first | refine ybn ?_ _ | refine ybd ?_ | refine yba ?_ _)); refine blk_put (cs := #[.int .i64 a0_0, .slice none 0 0, .slice none 0 0]) ?_ 1 _ rfl; (with_reducible repeat (first | refine ybn ?_ _ | refine ybd ?_ | refine yba ?_ _)); refine blk_put (cs := #[.int .i64 0, .slice none 0 0, .slice none 0 0]) ?_ 0 _ rfl; (with_reducible repeat (first | refine ybn ?_ _ | refine ybd ?_ | refine yba ?_ _)); exact BK643.out) Try.underlying37 rfl (by kernel_rfl)) rfl ?_
 exact ⟨_, _, yer, by (with_reducible repeat (first | apply Kd.Ya | apply Kd.Yn | apply Kd.Yd)); exact Kd.R_mono (Kd.R_far (p := ⟨gb643, 2, none⟩) (Kd.R_far (p := ⟨gb643, 1, none⟩) (Kd.R_far (p := ⟨gb643, 0, none⟩) (Kd.R_types HO649.out BK643.out (by decide)) (fun _ hk => hk.2) (.int .i64 a0_0)) (fun _ hk => hk.2) (.slice (some ⟨go6, 0, none⟩) y647.length co6)) (fun _ hk => hk.2) (.slice A0_2 l0_2.length c0_2)) (fun _ hk => hk.1), by (with_reducible repeat (first | apply Kd.V_alloc | apply Kd.V_drewN | apply Kd.V_drew)); exact Kd.V_mono (Kd.V_far (p := ⟨gb643, 2, none⟩) (Kd.V_far (p := ⟨gb643, 1, none⟩) (Kd.V_far (p := ⟨gb643, 0, none⟩) (Kd.V_mono HO0_2.out (fun k_ hk => (⟨hk, hk.1.2.2⟩ : _ ∧ k_ ≠ gb643))) (fun _ hk => hk.2) (.int .i64 a0_0)) (fun _ hk => hk.2) (.slice (some ⟨go6, 0, none⟩) y647.length co6)) (fun _ hk => hk.2) (.slice A0_2 l0_2.length c0_2)) (fun _ hk => ⟨hk.1.1.1, hk.1.2⟩), yhb⟩
def spec_IsRedundant.f (k : Nat) (a0_0 : Int) (l0_1 : List Int) (l0_2 : List (S73)) (a1 : Int) : Option (Bool) := (spec_PuzzleValid.f k a0_0 l0_1 l0_2).bind fun t652 => (if t652 = true then ((spec_l1In.f a1 0 (wrap64 ((l0_1.length : Int) - 1))).bind fun t653 => (if t653 = true then (if 0 ≤ a1 then (if a1 < (l0_1.length : Int) then (if (rd l0_1 a1) > 0 then ((spec_l10One.f k a0_0 l0_1 l0_2).bind fun t655 => (if t655 = true then ((spec_l10Without.f a0_0 l0_1 l0_2 a1).bind fun bt656 => ((spec_l10One.f k bt656.1 bt656.2.1 bt656.2.2).bind fun t663 => (some t663))) else (some false))) else (some false)) else (none)) else (none)) else (some false))) else (some false))
set_option maxHeartbeats 8000000 in
set_option maxRecDepth 100000 in
theorem spec_IsRedundant.calls (k : Nat) (a0_0 : Int) (A0_1 : Option Addr) (c0_1 : Nat) (l0_1 : List Int) (A0_2 : Option Addr) (c0_2 : Nat) (l0_2 : List (S73)) (a1 : Int) (r : Bool) (w : World) (hr0_1 : Kd.C (Kd.int .i64) w A0_1 l0_1.length l0_1) (hc0_1 : l0_1.length ≤ c0_1) (hr0_2 : Kd.C k73 w A0_2 l0_2.length l0_2) (hc0_2 : l0_2.length ≤ c0_2) (h : spec_IsRedundant.f k a0_0 l0_1 l0_2 a1 = some r) :
  Calls Try.prog 34 #[.agg #[.int .i64 a0_0, .slice A0_1 l0_1.length c0_1, .slice A0_2 l0_2.length c0_2], .int .i64 a1] w fun e w' => e = .returned (.bool r) ∧ Below w.heap.size w w' := by
 have hu37 := Try.underlying37
 have HR0_1 := yam hr0_1
 have HC0_1 := yam hc0_1
 clear hr0_1 hc0_1
 have HR0_2 := yam hr0_2
 have HC0_2 := yam hc0_2
 clear hr0_2 hc0_2
 have HB := yam (Below.refl w.heap.size w)
 have H : ((spec_PuzzleValid.f k a0_0 l0_1 l0_2).bind fun t652 => (if t652 = true then ((spec_l1In.f a1 0 (wrap64 ((l0_1.length : Int) - 1))).bind fun t653 => (if t653 = true then (if 0 ≤ a1 then (if a1 < (l0_1.length : Int) then (if (rd l0_1 a1) > 0 then ((spec_l10One.f k a0_0 l0_1 l0_2).bind fun t655 => (if t655 = true then ((spec_l10Without.f a0_0 l0_1 l0_2 a1).bind fun bt656 => ((spec_l10One.f k bt656.1 bt656.2.1 bt656.2.2).bind fun t663 => (some t663))) else (some false))) else (some false)) else (none)) else (none)) else (some false))) else (some false))) = some r := h
 clear h
 replace H := Option.bind_eq_some_iff.mp H
 obtain ⟨t652, A30, H⟩ := H
 try dsimp only at H
 have A3 := yam A30
 clear A30
 by_cases c4 : t652 = true
 rotate_left
 ·replace c4 := Bool.eq_false_iff.mpr c4
  subst c4
  have H1 : (some false) = some r := by rw [if_neg (show ¬ (false = true) by decide)] at H; exact H
  clear H
  have H := H1
  clear H1
  obtain rfl := Option.some.inj H
  go_enter Try.func34, Try.ntmps34
  go_wp2_with (first | ((with_reducible refine gate_dst (N := 2) rfl ?_); (try (refine gate_guard (by rfl) ?_; dsimp only)); refine ybe 2 #[.int .i64 a0_0, .slice A0_1 l0_1.length c0_1, .slice A0_2 l0_2.length c0_2] 37 ?_; intro gb651 hg w37 hbox hb; have n0_ := yam (below_step (yez HB.out) hb); have n1_ := yam (hbox); have n2_ := yam ((by rw [hg]; exact (below_size (yez HB.out)) : w.heap.size ≤ gb651)); have n3_ := n2_; clear HB; have HB := n0_; have BK651 := n1_; have GW651 := n2_; have GE651 := n3_; clear n0_ n1_ n2_ n3_; clear hb hbox hg; obtain ⟨hcz38_0, hcz38_1, hcz38_2, hfz38_0, hfz38_1, hfz38_2⟩ := ybc BK651.out) | (refine goesL_ (some 6) rfl rfl Try.func62 (by kernel_rfl) rfl #[.agg #[.int .i64 a0_0, .slice A0_1 l0_1.length c0_1, .slice A0_2 l0_2.length c0_2]] rfl ymd ?_; (with_reducible refine (spec_PuzzleValid.calls k a0_0 _ _ l0_1 _ _ l0_2 false _ ?side1 ?side2 ?side3 ?side4 A3.out).mono ?_); (case side1 => exact Kd.Cz ((Kd.C_below HR0_1.out HB.out))); (case side2 => exact HC0_1.out); (case side3 => exact Kd.Cz ((Kd.C_below HR0_2.out HB.out))); (case side4 => exact HC0_2.out); rintro e w39 ⟨rfl, hb⟩; refine ⟨_, rfl, ?_⟩; have n0_ := yam (blk_below (g := gb651) (o := .cells #[.int .i64 a0_0, .slice A0_1 l0_1.length c0_1, .slice A0_2 l0_2.length c0_2] 37 (0, 0)) (ybz BK651.out) hb); have n1_ := yam (below_step yhb hb); clear BK651; clear HB; have BK651 := n0_; have HB := n1_; clear n0_ n1_; (try clear hb); (try clear hb2); (try clear hk); (try clear hi)))
  go_ret
  exact ⟨yer, yhb⟩

 subst c4
 have H1 : ((spec_l1In.f a1 0 (wrap64 ((l0_1.length : Int) - 1))).bind fun t653 => (if t653 = true then (if 0 ≤ a1 then (if a1 < (l0_1.length : Int) then (if (rd l0_1 a1) > 0 then ((spec_l10One.f k a0_0 l0_1 l0_2).bind fun t655 => (if t655 = true then ((spec_l10Without.f a0_0 l0_1 l0_2 a1).bind fun bt656 => ((spec_l10One.f k bt656.1 bt656.2.1 bt656.2.2).bind fun t663 => (some t663))) else (some false))) else (some false)) else (none)) else (none)) else (some false))) = some r := by rw [if_pos rfl] at H; exact H
 clear H
 have H := H1
 clear H1
 replace H := Option.bind_eq_some_iff.mp H
 obtain ⟨t653, A50, H⟩ := H
 try dsimp only at H
 have A5 := yam A50
 clear A50
 by_cases c6 : t653 = true
 rotate_left
 ·replace c6 := Bool.eq_false_iff.mpr c6
  subst c6
  have H1 : (some false) = some r := by rw [if_neg (show ¬ (false = true) by decide)] at H; exact H
  clear H
  have H := H1
  clear H1
  obtain rfl := Option.some.inj H
  go_enter Try.func34, Try.ntmps34
  go_wp2_with (first | ((with_reducible refine gate_dst (N := 2) rfl ?_); (try (refine gate_guard (by rfl) ?_; dsimp only)); refine ybe 2 #[.int .i64 a0_0, .slice A0_1 l0_1.length c0_1, .slice A0_2 l0_2.length c0_2] 37 ?_; intro gb651 hg w33 hbox hb; have n0_ := yam (below_step (yez HB.out) hb); have n1_ := yam (hbox); have n2_ := yam ((by rw [hg]; exact (below_size (yez HB.out)) : w.heap.size ≤ gb651)); have n3_ := n2_; clear HB; have HB := n0_; have BK651 := n1_; have GW651 := n2_; have GE651 := n3_; clear n0_ n1_ n2_ n3_; clear hb hbox hg; obtain ⟨hcz34_0, hcz34_1, hcz34_2, hfz34_0, hfz34_1, hfz34_2⟩ := ybc BK651.out) | (refine goesL_ (some 6) rfl rfl Try.func62 (by kernel_rfl) rfl #[.agg #[.int .i64 a0_0, .slice A0_1 l0_1.length c0_1, .slice A0_2 l0_2.length c0_2]] rfl ymd ?_; (with_reducible refine (spec_PuzzleValid.calls k a0_0 _ _ l0_1 _ _ l0_2 true _ ?side1 ?side2 ?side3 ?side4 A3.out).mono ?_); (case side1 => exact Kd.Cz ((Kd.C_below HR0_1.out HB.out))); (case side2 => exact HC0_1.out); (case side3 => exact Kd.Cz ((Kd.C_below HR0_2.out HB.out))); (case side4 => exact HC0_2.out); rintro e w35 ⟨rfl, hb⟩; refine ⟨_, rfl, ?_⟩; have n0_ := yam (blk_below (g := gb651) (o := .cells #[.int .i64 a0_0, .slice A0_1 l0_1.length c0_1, .slice A0_2 l0_2.length c0_2] 37 (0, 0)) (ybz BK651.out) hb); have n1_ := yam (below_step yhb hb); clear BK651; clear HB; have BK651 := n0_; have HB := n1_; clear n0_ n1_; (try clear hb); (try clear hb2); (try clear hk); (try clear hi); obtain ⟨hcz36_0, hcz36_1, hcz36_2, hfz36_0, hfz36_1, hfz36_2⟩ := ybc BK651.out) | (go_at_call 42; (with_reducible refine (spec_l1In.calls a1 0 (wrap64 ((l0_1.length : Int) - 1)) false _ A5.out).mono ?_); rintro e w' ⟨rfl, ⟨nd, rfl⟩⟩))
  go_ret
  exact ⟨yer, yhb⟩
 subst c6
 have H1 : (if 0 ≤ a1 then (if a1 < (l0_1.length : Int) then (if (rd l0_1 a1) > 0 then ((spec_l10One.f k a0_0 l0_1 l0_2).bind fun t655 => (if t655 = true then ((spec_l10Without.f a0_0 l0_1 l0_2 a1).bind fun bt656 => ((spec_l10One.f k bt656.1 bt656.2.1 bt656.2.2).bind fun t663 => (some t663))) else (some false))) else (some false)) else (none)) else (none)) = some r := by rw [if_pos rfl] at H; exact H
 clear H
 have H := H1
 clear H1
 replace H := yif H
 obtain ⟨c7b0, H⟩ := H
 replace H := yif H
 obtain ⟨c8b0, H⟩ := H
 by_cases c9 : (rd l0_1 a1) > 0
 rotate_left
 ·rw [if_neg c9] at H
  have c9b0 : decide (0 < (rd l0_1 a1)) = false := decide_eq_false c9
  clear c9
  obtain rfl := Option.some.inj H
  go_enter Try.func34, Try.ntmps34
  go_wp2_with (first | ((with_reducible refine gate_dst (N := 2) rfl ?_); (try (refine gate_guard (by rfl) ?_; dsimp only)); refine ybe 2 #[.int .i64 a0_0, .slice A0_1 l0_1.length c0_1, .slice A0_2 l0_2.length c0_2] 37 ?_; intro gb651 hg w29 hbox hb; have n0_ := yam (below_step (yez HB.out) hb); have n1_ := yam (hbox); have n2_ := yam ((by rw [hg]; exact (below_size (yez HB.out)) : w.heap.size ≤ gb651)); have n3_ := n2_; clear HB; have HB := n0_; have BK651 := n1_; have GW651 := n2_; have GE651 := n3_; clear n0_ n1_ n2_ n3_; clear hb hbox hg; obtain ⟨hcz30_0, hcz30_1, hcz30_2, hfz30_0, hfz30_1, hfz30_2⟩ := ybc BK651.out) | (refine goesL_ (some 6) rfl rfl Try.func62 (by kernel_rfl) rfl #[.agg #[.int .i64 a0_0, .slice A0_1 l0_1.length c0_1, .slice A0_2 l0_2.length c0_2]] rfl ymd ?_; (with_reducible refine (spec_PuzzleValid.calls k a0_0 _ _ l0_1 _ _ l0_2 true _ ?side1 ?side2 ?side3 ?side4 A3.out).mono ?_); (case side1 => exact Kd.Cz ((Kd.C_below HR0_1.out HB.out))); (case side2 => exact HC0_1.out); (case side3 => exact Kd.Cz ((Kd.C_below HR0_2.out HB.out))); (case side4 => exact HC0_2.out); rintro e w31 ⟨rfl, hb⟩; refine ⟨_, rfl, ?_⟩; have n0_ := yam (blk_below (g := gb651) (o := .cells #[.int .i64 a0_0, .slice A0_1 l0_1.length c0_1, .slice A0_2 l0_2.length c0_2] 37 (0, 0)) (ybz BK651.out) hb); have n1_ := yam (below_step yhb hb); clear BK651; clear HB; have BK651 := n0_; have HB := n1_; clear n0_ n1_; (try clear hb); (try clear hb2); (try clear hk); (try clear hi); obtain ⟨hcz32_0, hcz32_1, hcz32_2, hfz32_0, hfz32_1, hfz32_2⟩ := ybc BK651.out) | (go_at_call 42; (with_reducible refine (spec_l1In.calls a1 0 (wrap64 ((l0_1.length : Int) - 1)) true _ A5.out).mono ?_); rintro e w' ⟨rfl, ⟨nd, rfl⟩⟩; have p654 : 0 ≤ (a1 : Int) := ydt; have q654 : a1 < (l0_1.length : Int) := ydt; obtain ⟨ad654, e654, hx654_0⟩ := Kd.at_int HR0_1.out a1 p654 q654; cases e654; replace hx654_0 := ybx HB.out hx654_0; replace p654 := eq_true p654; replace q654 := eq_true q654))
  go_ret
  exact ⟨yer, yhb⟩
 rw [if_pos c9] at H
 have c9b0 : decide (0 < (rd l0_1 a1)) = true := decide_eq_true c9
 clear c9
 replace H := Option.bind_eq_some_iff.mp H
 obtain ⟨t655, A100, H⟩ := H
 try dsimp only at H
 have A10 := yam A100
 clear A100
 by_cases c11 : t655 = true
 rotate_left
 ·replace c11 := Bool.eq_false_iff.mpr c11
  subst c11
  have H1 : (some false) = some r := by rw [if_neg (show ¬ (false = true) by decide)] at H; exact H
  clear H
  have H := H1
  clear H1
  obtain rfl := Option.some.inj H
  go_enter Try.func34, Try.ntmps34
  go_wp2_with (first | ((with_reducible refine gate_dst (N := 2) rfl ?_); (try (refine gate_guard (by rfl) ?_; dsimp only)); refine ybe 2 #[.int .i64 a0_0, .slice A0_1 l0_1.length c0_1, .slice A0_2 l0_2.length c0_2] 37 ?_; intro gb651 hg w24 hbox hb; have n0_ := yam (below_step (yez HB.out) hb); have n1_ := yam (hbox); have n2_ := yam ((by rw [hg]; exact (below_size (yez HB.out)) : w.heap.size ≤ gb651)); have n3_ := n2_; clear HB; have HB := n0_; have BK651 := n1_; have GW651 := n2_; have GE651 := n3_; clear n0_ n1_ n2_ n3_; clear hb hbox hg; obtain ⟨hcz25_0, hcz25_1, hcz25_2, hfz25_0, hfz25_1, hfz25_2⟩ := ybc BK651.out) | (refine goesL_ (some 6) rfl rfl Try.func62 (by kernel_rfl) rfl #[.agg #[.int .i64 a0_0, .slice A0_1 l0_1.length c0_1, .slice A0_2 l0_2.length c0_2]] rfl ymd ?_; (with_reducible refine (spec_PuzzleValid.calls k a0_0 _ _ l0_1 _ _ l0_2 true _ ?side1 ?side2 ?side3 ?side4 A3.out).mono ?_); (case side1 => exact Kd.Cz ((Kd.C_below HR0_1.out HB.out))); (case side2 => exact HC0_1.out); (case side3 => exact Kd.Cz ((Kd.C_below HR0_2.out HB.out))); (case side4 => exact HC0_2.out); rintro e w26 ⟨rfl, hb⟩; refine ⟨_, rfl, ?_⟩; have n0_ := yam (blk_below (g := gb651) (o := .cells #[.int .i64 a0_0, .slice A0_1 l0_1.length c0_1, .slice A0_2 l0_2.length c0_2] 37 (0, 0)) (ybz BK651.out) hb); have n1_ := yam (below_step yhb hb); clear BK651; clear HB; have BK651 := n0_; have HB := n1_; clear n0_ n1_; (try clear hb); (try clear hb2); (try clear hk); (try clear hi); obtain ⟨hcz27_0, hcz27_1, hcz27_2, hfz27_0, hfz27_1, hfz27_2⟩ := ybc BK651.out) | (go_at_call 42; (with_reducible refine (spec_l1In.calls a1 0 (wrap64 ((l0_1.length : Int) - 1)) true _ A5.out).mono ?_); rintro e w' ⟨rfl, ⟨nd, rfl⟩⟩; have p654 : 0 ≤ (a1 : Int) := ydt; have q654 : a1 < (l0_1.length : Int) := ydt; obtain ⟨ad654, e654, hx654_0⟩ := Kd.at_int HR0_1.out a1 p654 q654; cases e654; replace hx654_0 := ybx HB.out hx654_0; replace p654 := eq_true p654; replace q654 := eq_true q654) | (go_at_call 66; (with_reducible refine (spec_l10One.calls k a0_0 _ _ l0_1 _ _ l0_2 false _ ?side1 ?side2 ?side3 ?side4 A10.out).mono ?_); (case side1 => repeat (first | exact (Kd.C_below HR0_1.out yhb) | (with_reducible refine Kd.C_alloc ?_ _) | (with_reducible refine Kd.C_drewN ?_ _) | (with_reducible refine Kd.C_drew ?_))); (case side2 => exact HC0_1.out); (case side3 => repeat (first | exact (Kd.C_below HR0_2.out yhb) | (with_reducible refine Kd.C_alloc ?_ _) | (with_reducible refine Kd.C_drewN ?_ _) | (with_reducible refine Kd.C_drew ?_))); (case side4 => exact HC0_2.out); rintro e w28 ⟨rfl, hb⟩; have n0_ := yam (blk_below (g := gb651) (o := .cells #[.int .i64 a0_0, .slice (some ad654) l0_1.length c0_1, .slice A0_2 l0_2.length c0_2] 37 (0, 0)) (ybz BK651.out) hb); have n1_ := yam (below_step yhb hb); clear BK651; clear HB; have BK651 := n0_; have HB := n1_; clear n0_ n1_; (try clear hb); (try clear hb2); (try clear hk); (try clear hi)))
  go_ret
  exact ⟨yer, yhb⟩
 subst c11
 have H1 : ((spec_l10Without.f a0_0 l0_1 l0_2 a1).bind fun bt656 => ((spec_l10One.f k bt656.1 bt656.2.1 bt656.2.2).bind fun t663 => (some t663))) = some r := by rw [if_pos rfl] at H; exact H
 clear H
 have H := H1
 clear H1
 replace H := Option.bind_eq_some_iff.mp H
 obtain ⟨⟨t656, t657, t660⟩, A120, H⟩ := H
 try dsimp only at H
 have A12 := yam A120
 clear A120
 replace H := Option.bind_eq_some_iff.mp H
 obtain ⟨t663, A130, H⟩ := H
 try dsimp only at H
 have A13 := yam A130
 clear A130
 obtain rfl := Option.some.inj H
 go_enter Try.func34, Try.ntmps34
 go_wp2_with (first | ((with_reducible refine gate_dst (N := 2) rfl ?_); (try (refine gate_guard (by rfl) ?_; dsimp only)); refine ybe 2 #[.int .i64 a0_0, .slice A0_1 l0_1.length c0_1, .slice A0_2 l0_2.length c0_2] 37 ?_; intro gb651 hg w14 hbox hb; have n0_ := yam (below_step (yez HB.out) hb); have n1_ := yam (hbox); have n2_ := yam ((by rw [hg]; exact (below_size (yez HB.out)) : w.heap.size ≤ gb651)); have n3_ := n2_; clear HB; have HB := n0_; have BK651 := n1_; have GW651 := n2_; have GE651 := n3_; clear n0_ n1_ n2_ n3_; clear hb hbox hg; obtain ⟨hcz15_0, hcz15_1, hcz15_2, hfz15_0, hfz15_1, hfz15_2⟩ := ybc BK651.out) | (refine goesL_ (some 6) rfl rfl Try.func62 (by kernel_rfl) rfl #[.agg #[.int .i64 a0_0, .slice A0_1 l0_1.length c0_1, .slice A0_2 l0_2.length c0_2]] rfl ymd ?_; (with_reducible refine (spec_PuzzleValid.calls k a0_0 _ _ l0_1 _ _ l0_2 true _ ?side1 ?side2 ?side3 ?side4 A3.out).mono ?_); (case side1 => exact Kd.Cz ((Kd.C_below HR0_1.out HB.out))); (case side2 => exact HC0_1.out); (case side3 => exact Kd.Cz ((Kd.C_below HR0_2.out HB.out))); (case side4 => exact HC0_2.out); rintro e w16 ⟨rfl, hb⟩; refine ⟨_, rfl, ?_⟩; have n0_ := yam (blk_below (g := gb651) (o := .cells #[.int .i64 a0_0, .slice A0_1 l0_1.length c0_1, .slice A0_2 l0_2.length c0_2] 37 (0, 0)) (ybz BK651.out) hb); have n1_ := yam (below_step yhb hb); clear BK651; clear HB; have BK651 := n0_; have HB := n1_; clear n0_ n1_; (try clear hb); (try clear hb2); (try clear hk); (try clear hi); obtain ⟨hcz17_0, hcz17_1, hcz17_2, hfz17_0, hfz17_1, hfz17_2⟩ := ybc BK651.out) | (go_at_call 42; (with_reducible refine (spec_l1In.calls a1 0 (wrap64 ((l0_1.length : Int) - 1)) true _ A5.out).mono ?_); rintro e w' ⟨rfl, ⟨nd, rfl⟩⟩; have p654 : 0 ≤ (a1 : Int) := ydt; have q654 : a1 < (l0_1.length : Int) := ydt; obtain ⟨ad654, e654, hx654_0⟩ := Kd.at_int HR0_1.out a1 p654 q654; cases e654; replace hx654_0 := ybx HB.out hx654_0; replace p654 := eq_true p654; replace q654 := eq_true q654) | (go_at_call 66; (with_reducible refine (spec_l10One.calls k a0_0 _ _ l0_1 _ _ l0_2 true _ ?side1 ?side2 ?side3 ?side4 A10.out).mono ?_); (case side1 => repeat (first | exact (Kd.C_below HR0_1.out yhb) | (with_reducible refine Kd.C_alloc ?_ _) | (with_reducible refine Kd.C_drewN ?_ _) | (with_reducible refine Kd.C_drew ?_))); (case side2 => exact HC0_1.out); (case side3 => repeat (first | exact (Kd.C_below HR0_2.out yhb) | (with_reducible refine Kd.C_alloc ?_ _) | (with_reducible refine Kd.C_drewN ?_ _) | (with_reducible refine Kd.C_drew ?_))); (case side4 => exact HC0_2.out); rintro e w18 ⟨rfl, hb⟩; have n0_ := yam (blk_below (g := gb651) (o := .cells #[.int .i64 a0_0, .slice (some ad654) l0_1.length c0_1, .slice A0_2 l0_2.length c0_2] 37 (0, 0)) (ybz BK651.out) hb); have n1_ := yam (below_step yhb hb); clear BK651; clear HB; have BK651 := n0_; have HB := n1_; clear n0_ n1_; (try clear hb); (try clear hb2); (try clear hk); (try clear hi); obtain ⟨hcz19_0, hcz19_1, hcz19_2, hfz19_0, hfz19_1, hfz19_2⟩ := ybc BK651.out) | (go_at_call 67; (with_reducible refine (spec_l10Without.calls a0_0 _ _ l0_1 (fun k_ => k_ < w.heap.size) _ _ l0_2 a1 t656 t657 t660 _ ?side1 ?side2 ?side3 A12.out).mono ?_); (case side1 => exact Kd.Cz ((Kd.C_below HR0_1.out HB.out))); (case side2 => exact HC0_1.out); (case side3 => exact Kd.V_mk HC0_2.out (Kd.F_below (Kd.C_F k73_heap HR0_2.out) yhb)); rintro e w20 ⟨v658, v661, rfl, ho0, ho1, hb⟩; have n0_ := yam (Kd.R_lower (Kd.R_mono (ok' := fun k_ => True) ho0 (fun _ hk_ => trivial)) (below_size yhb)); have n1_ := yam (Kd.V_lower (Kd.V_mono (ok' := fun k_ => some k_ ≠ (v658 : Value).ownBlock ∧ k_ ≠ gb651) ho1 (fun k_ hk_ => ⟨hk_.2, Or.elim hk_.1 (fun hs_ => fun e_ => Nat.not_le.2 hs_ (by rw [e_]; exact GW651.out)) (fun hn_ => (Kd.freshB (g := gb651) (o := .cells #[.int .i64 a0_0, .slice (some ad654) l0_1.length c0_1, .slice A0_2 l0_2.length c0_2] 37 (0, 0)) (ybz BK651.out) k_ hn_))⟩)) (below_size yhb)); have n2_ := yam (blk_below (g := gb651) (o := .cells #[.int .i64 a0_0, .slice (some ad654) l0_1.length c0_1, .slice A0_2 l0_2.length c0_2] 37 (0, 0)) (ybz BK651.out) hb); have n3_ := yam (below_step yhb hb); clear BK651; clear HB; have HO659 := n0_; have HO662 := n1_; have BK651 := n2_; have HB := n3_; clear n0_ n1_ n2_ n3_; (try clear hb); (try clear hb2); (try clear hk); (try clear hi); (try clear ho0); (try clear ho1); obtain ⟨Ao21, co21, eo21⟩ := Kd.R_slice HO659.out; subst eo21; obtain ⟨Ao22, co22, eo22⟩ := Kd.V_slice HO662.out; subst eo22) | (go_at_call 66; (with_reducible refine (spec_l10One.calls k t656 _ _ t657 _ _ t660 t663 _ ?side1 ?side2 ?side3 ?side4 A13.out).mono ?_); (case side1 => repeat (first | exact (Kd.Yr HO659.out).2.2 | (with_reducible refine Kd.C_alloc ?_ _) | (with_reducible refine Kd.C_drewN ?_ _) | (with_reducible refine Kd.C_drew ?_))); (case side2 => exact (Kd.Yr HO659.out).2.1); (case side3 => repeat (first | exact (Kd.V_reads' HO662.out).2.2 | (with_reducible refine Kd.C_alloc ?_ _) | (with_reducible refine Kd.C_drewN ?_ _) | (with_reducible refine Kd.C_drew ?_))); (case side4 => exact (Kd.V_reads' HO662.out).2.1); rintro e w23 ⟨rfl, hb⟩; have n0_ := yam (Kd.R_below (Kd.Yz HO659.out) hb); have n1_ := yam (Kd.V_below (by (with_reducible repeat (first | apply Kd.V_alloc | apply Kd.V_drewN | apply Kd.V_drew)); exact HO662.out) hb); have n2_ := yam (blk_below (g := gb651) (o := .cells #[.int .i64 a0_0, .slice (some ad654) l0_1.length c0_1, .slice A0_2 l0_2.length c0_2] 37 (0, 0)) (ybz BK651.out) hb); have n3_ := yam (below_step yhb hb); clear HO659; clear HO662; clear BK651; clear HB; have HO659 := n0_; have HO662 := n1_; have BK651 := n2_; have HB := n3_; clear n0_ n1_ n2_ n3_; (try clear hb); (try clear hb2); (try clear hk); (try clear hi)))
 go_ret
 exact ⟨yer, yhb⟩
def impl_sizeOk.f (a0 : Int) : Option (Bool) := if a0 ≥ 2 then (some (decide (a0 ≤ 4))) else (some false)
set_option maxHeartbeats 8000000 in
set_option maxRecDepth 100000 in
theorem impl_sizeOk.calls (a0 : Int) (r : Bool) (w : World) (h : impl_sizeOk.f a0 = some r) :
  Calls Try.prog 44 #[.int .i64 a0] w fun e w' => e = .returned (.bool r) ∧ Drawn0 w w' := by
 have H : (if a0 ≥ 2 then (some (decide (a0 ≤ 4))) else (some false)) = some r := h
 clear h
 by_cases c2 : a0 ≥ 2
 ·rw [if_pos c2] at H
  have c2b0 : decide (2 ≤ a0) = true := decide_eq_true c2
  clear c2
  obtain rfl := Option.some.inj H
  go_enter Try.func44, Try.ntmps44
  go_wp2
  go_ret
  exact ⟨yeq, by repeat (first | exact Drawn0.refl _ | apply Drawn0.step)⟩
 rw [if_neg c2] at H
 have c2b0 : decide (2 ≤ a0) = false := decide_eq_false c2
 clear c2
 obtain rfl := Option.some.inj H
 go_enter Try.func44, Try.ntmps44
 go_wp2
 go_ret
 exact ⟨yeq, by repeat (first | exact Drawn0.refl _ | apply Drawn0.step)⟩
mutual
def impl_GridValid.j0 : Nat → List Int → Int → Bool → Option (Bool)
 | 0, _, _, _ => none
 | k + 1, x0, x1, x17 => if x17 = true then (some false) else (impl_GridValid.l0 k x1 x0 (x0.length : Int) 0)
def impl_GridValid.l0 : Nat → Int → List Int → Int → Int → Option (Bool)
 | 0, _, _, _, _ => none
 | k + 1, x1, x18, x19, x20 => if x20 < x19 then (if 0 ≤ x20 then (if x20 < (x18.length : Int) then (if (rd x18 x20) < 0 then (some false) else (if (rd x18 x20) > x1 then (some false) else (impl_GridValid.l0 k x1 x18 x19 (wrap64 (x20 + 1))))) else (none)) else (none)) else (some true)
end
def impl_GridValid.f (k : Nat) (l0 : List Int) (a1 : Int) : Option (Bool) := (impl_sizeOk.f a1).bind fun t129 => (if t129 = true then (impl_GridValid.j0 k l0 a1 ((l0.length : Int) != (wrap64 (a1 * a1)))) else (impl_GridValid.j0 k l0 a1 true))
set_option maxHeartbeats 8000000 in
set_option maxRecDepth 100000 in
theorem impl_GridValid.calls (k : Nat) (A0 : Option Addr) (c0 : Nat) (l0 : List Int) (a1 : Int) (r : Bool) (w : World) (hr0 : Kd.C (Kd.int .i64) w A0 l0.length l0) (hc0 : l0.length ≤ c0) (h : impl_GridValid.f k l0 a1 = some r) :
  Calls Try.prog 76 #[.slice A0 l0.length c0, .int .i64 a1] w fun e w' => e = .returned (.bool r) ∧ Drawn0 w w' := by
 have HR0 := yam hr0
 have HC0 := yam hc0
 clear hr0 hc0
 have H : ((impl_sizeOk.f a1).bind fun t129 => (if t129 = true then (impl_GridValid.j0 k l0 a1 ((l0.length : Int) != (wrap64 (a1 * a1)))) else (impl_GridValid.j0 k l0 a1 true))) = some r := h
 clear h
 have HC3 := yam H
 clear H
 go_enter Try.func76, Try.ntmps76
 go_upto_region 1 with (fail)
 go_cut [17] (fun v17 wc => ∃ (kq : Nat) (x17_2 : Bool), v17 = .bool x17_2 ∧ Aside0 (impl_GridValid.j0 kq l0 a1 x17_2 = some r) ∧ Aside0 (kq ≤ k) ∧ Drawn0 w wc)
 case first =>
  have H := HC3.out
  clear HC3
  replace H := Option.bind_eq_some_iff.mp H
  obtain ⟨t129, A40, H⟩ := H
  try dsimp only at H
  have A4 := yam A40
  clear A40
  by_cases c5 : t129 = true
  ·subst c5
   have H1 : (impl_GridValid.j0 k l0 a1 ((l0.length : Int) != (wrap64 (a1 * a1)))) = some r := by rw [if_pos rfl] at H; exact H
   clear H
   have H := H1
   clear H1
   have H' := yam H
   clear H
   go_wp2_with (first | (refine goesL_ (some 8) rfl rfl Try.func44 (by kernel_rfl) rfl #[.int .i64 a1] rfl ymd ?_; (with_reducible refine (impl_sizeOk.calls a1 true _ A4.out).mono ?_); rintro e w' ⟨rfl, ⟨nd, rfl⟩⟩; refine ⟨_, rfl, ?_⟩))
   go_meet
   case rel => exact ⟨_, (((l0.length : Int) != (wrap64 (a1 * a1)))), yeq, H', ⟨by first | omega | exact Nat.le_refl _⟩, by repeat (first | exact Drawn0.refl _ | apply Drawn0.step)⟩
  replace c5 := Bool.eq_false_iff.mpr c5
  subst c5
  have H1 : (impl_GridValid.j0 k l0 a1 true) = some r := by rw [if_neg (show ¬ (false = true) by decide)] at H; exact H
  clear H
  have H := H1
  clear H1
  have H' := yam H
  clear H
  go_wp2_with (first | (refine goesL_ (some 8) rfl rfl Try.func44 (by kernel_rfl) rfl #[.int .i64 a1] rfl ymd ?_; (with_reducible refine (impl_sizeOk.calls a1 false _ A4.out).mono ?_); rintro e w' ⟨rfl, ⟨nd, rfl⟩⟩; refine ⟨_, rfl, ?_⟩))
  go_meet
  case rel => exact ⟨_, (true), yeq, H', ⟨by first | omega | exact Nat.le_refl _⟩, by repeat (first | exact Drawn0.refl _ | apply Drawn0.step)⟩
 case rest =>
  clear HC3
  try clear p2
  try clear c4
  try clear c5
  obtain ⟨kq, x17_2, rfl, HA, HJ2, ⟨mc2, rfl⟩⟩ := hcut
  cases kq with
  | zero => exact absurd HA.out (by simp [impl_GridValid.j0])
  | succ kj2 =>
   have H := HA.out
   clear HA
   simp only [impl_GridValid.j0] at H
   by_cases c6 : x17_2 = true
   ·subst c6
    have H1 : (some false) = some r := by rw [if_pos rfl] at H; exact H
    clear H
    have H := H1
    clear H1
    obtain rfl := Option.some.inj H
    go_wp2
    go_ret
    exact ⟨yeq, by repeat (first | exact Drawn0.refl _ | apply Drawn0.step)⟩
   replace c6 := Bool.eq_false_iff.mpr c6
   subst c6
   have H1 : (impl_GridValid.l0 kj2 a1 l0 (l0.length : Int) 0) = some r := by rw [if_neg (show ¬ (false = true) by decide)] at H; exact H
   clear H
   have H := H1
   clear H1
   have H' := yam H
   clear H
   go_wp2
   go_loopg [20] kj2 (fun kq v20 w' => ∃ (x20_2 : Int), v20 = .int .i64 x20_2 ∧ Aside0 (impl_GridValid.l0 kq a1 l0 (l0.length : Int) x20_2 = some r) ∧ Aside0 (kq ≤ kj2) ∧ Drawn0 w w')
   case atStart => exact ⟨(0), yeq, H', ⟨Nat.le_refl _⟩, by repeat (first | exact Drawn0.refl _ | apply Drawn0.step)⟩
   case round =>
    clear H'
    try clear c2
    try clear p2
    try clear c4
    try clear c5
    try clear c6
    try clear p6
    try clear p2
    obtain ⟨x20_2, rfl, HA, HK2, ⟨m2, rfl⟩⟩ := hrel
    cases gk with
    | zero => exact absurd HA.out (by simp [impl_GridValid.l0])
    | succ k2 =>
     have H := HA.out
     clear HA
     simp only [impl_GridValid.l0] at H
     by_cases c7 : x20_2 < (l0.length : Int)
     rotate_left
     ·rw [if_neg c7] at H
      have c7b0 : decide (x20_2 < (l0.length : Int)) = false := decide_eq_false c7
      clear c7
      obtain rfl := Option.some.inj H
      go_wp2
      go_ret
      exact ⟨yeq, by repeat (first | exact Drawn0.refl _ | apply Drawn0.step)⟩

     rw [if_pos c7] at H
     have c7b0 : decide (x20_2 < (l0.length : Int)) = true := decide_eq_true c7
     clear c7
     replace H := yif H
     obtain ⟨c8b0, H⟩ := H
     replace H := yif H
     obtain ⟨c9b0, H⟩ := H
     by_cases c10 : (rd l0 x20_2) < 0
     ·rw [if_pos c10] at H
      have c10b0 : decide ((rd l0 x20_2) < 0) = true := decide_eq_true c10
      clear c10
      obtain rfl := Option.some.inj H
      have p130 : 0 ≤ (x20_2 : Int) := ydt
      have q130 : x20_2 < (l0.length : Int) := ydt
      obtain ⟨ad130, e130, hx130_0⟩ := Kd.at_int HR0.out x20_2 p130 q130
      cases e130
      replace p130 := eq_true p130
      replace q130 := eq_true q130
      go_wp2
      go_ret
      exact ⟨yeq, by repeat (first | exact Drawn0.refl _ | apply Drawn0.step)⟩
     rw [if_neg c10] at H
     have c10b0 : decide ((rd l0 x20_2) < 0) = false := decide_eq_false c10
     clear c10
     by_cases c11 : (rd l0 x20_2) > a1
     ·rw [if_pos c11] at H
      have c11b0 : decide (a1 < (rd l0 x20_2)) = true := decide_eq_true c11
      clear c11
      obtain rfl := Option.some.inj H
      have p130 : 0 ≤ (x20_2 : Int) := ydt
      have q130 : x20_2 < (l0.length : Int) := ydt
      obtain ⟨ad130, e130, hx130_0⟩ := Kd.at_int HR0.out x20_2 p130 q130
      cases e130
      replace p130 := eq_true p130
      replace q130 := eq_true q130
      go_wp2
      go_ret
      exact ⟨yeq, by repeat (first | exact Drawn0.refl _ | apply Drawn0.step)⟩
     rw [if_neg c11] at H
     have c11b0 : decide (a1 < (rd l0 x20_2)) = false := decide_eq_false c11
     clear c11
     have H' := yam H
     clear H
     have p130 : 0 ≤ (x20_2 : Int) := ydt
     have q130 : x20_2 < (l0.length : Int) := ydt
     obtain ⟨ad130, e130, hx130_0⟩ := Kd.at_int HR0.out x20_2 p130 q130
     cases e130
     replace p130 := eq_true p130
     replace q130 := eq_true q130
     go_wp2
     go_roundg k2
     case measure => have := HJ2.out; have := HK2.out; omega
     case rel => exact ⟨(wrap64 (x20_2 + 1)), yeq, H', ⟨by have := HJ2.out; have := HK2.out; omega⟩, by repeat (first | exact Drawn0.refl _ | apply Drawn0.step)⟩
def slices_Index_int_int.l0 : Nat → List Int → Int → Int → Int → Option (Int)
 | 0, _, _, _, _ => none
 | k + 1, x0, x1, x7, x8 => if x8 < x7 then (if 0 ≤ x8 then (if x8 < (x0.length : Int) then (if x1 = (rd x0 x8) then (some x8) else (slices_Index_int_int.l0 k x0 x1 x7 (wrap64 (x8 + 1)))) else (none)) else (none)) else (some (-1))
def slices_Index_int_int.f (k : Nat) (l0 : List Int) (a1 : Int) : Option (Int) := slices_Index_int_int.l0 k l0 a1 (l0.length : Int) 0
set_option maxHeartbeats 8000000 in
set_option maxRecDepth 100000 in
theorem slices_Index_int_int.calls (k : Nat) (A0 : Option Addr) (c0 : Nat) (l0 : List Int) (a1 : Int) (r : Int) (w : World) (hr0 : Kd.C (Kd.int .i64) w A0 l0.length l0) (hc0 : l0.length ≤ c0) (h : slices_Index_int_int.f k l0 a1 = some r) :
  Calls Try.prog 93 #[.slice A0 l0.length c0, .int .i64 a1] w fun e w' => e = .returned (.int .i64 r) ∧ Drawn0 w w' := by
 have HR0 := yam hr0
 have HC0 := yam hc0
 clear hr0 hc0
 have H : (slices_Index_int_int.l0 k l0 a1 (l0.length : Int) 0) = some r := h
 clear h
 have H' := yam H
 clear H
 go_enter Try.func93, Try.ntmps93
 go_wp2
 go_loopg [8] k (fun kq v8 w' => ∃ (x8_1 : Int), v8 = .int .i64 x8_1 ∧ Aside0 (slices_Index_int_int.l0 kq l0 a1 (l0.length : Int) x8_1 = some r) ∧ Aside0 (kq ≤ k) ∧ Drawn0 w w')
 case atStart => exact ⟨(0), yeq, H', ⟨Nat.le_refl _⟩, by repeat (first | exact Drawn0.refl _ | apply Drawn0.step)⟩
 case round =>
  clear H'
  try clear p2
  obtain ⟨x8_1, rfl, HA, HK1, ⟨m1, rfl⟩⟩ := hrel
  cases gk with
  | zero => exact absurd HA.out (by simp [slices_Index_int_int.l0])
  | succ k1 =>
   have H := HA.out
   clear HA
   simp only [slices_Index_int_int.l0] at H
   by_cases c3 : x8_1 < (l0.length : Int)
   rotate_left
   ·rw [if_neg c3] at H
    have c3b0 : decide (x8_1 < (l0.length : Int)) = false := decide_eq_false c3
    clear c3
    obtain rfl := Option.some.inj H
    go_wp2
    go_ret
    exact ⟨yeq, by repeat (first | exact Drawn0.refl _ | apply Drawn0.step)⟩

   rw [if_pos c3] at H
   have c3b0 : decide (x8_1 < (l0.length : Int)) = true := decide_eq_true c3
   clear c3
   replace H := yif H
   obtain ⟨c4b0, H⟩ := H
   replace H := yif H
   obtain ⟨c5b0, H⟩ := H
   by_cases c6 : a1 = (rd l0 x8_1)
   ·rw [if_pos c6] at H
    have c6b0 : (a1 == (rd l0 x8_1)) = true := beq_iff_eq.mpr c6
    have c6b1 : (a1 != (rd l0 x8_1)) = false := bne_eq_false_iff_eq.mpr c6
    clear c6
    obtain rfl := Option.some.inj H
    have p141 : 0 ≤ (x8_1 : Int) := ydt
    have q141 : x8_1 < (l0.length : Int) := ydt
    obtain ⟨ad141, e141, hx141_0⟩ := Kd.at_int HR0.out x8_1 p141 q141
    cases e141
    replace p141 := eq_true p141
    replace q141 := eq_true q141
    go_wp2
    go_ret
    exact ⟨yeq, by repeat (first | exact Drawn0.refl _ | apply Drawn0.step)⟩
   rw [if_neg c6] at H
   have c6b0 : (a1 == (rd l0 x8_1)) = false := beq_eq_false_iff_ne.mpr c6
   have c6b1 : (a1 != (rd l0 x8_1)) = true := bne_iff_ne.mpr c6
   have H' := yam H
   clear H
   have p141 : 0 ≤ (x8_1 : Int) := ydt
   have q141 : x8_1 < (l0.length : Int) := ydt
   obtain ⟨ad141, e141, hx141_0⟩ := Kd.at_int HR0.out x8_1 p141 q141
   cases e141
   replace p141 := eq_true p141
   replace q141 := eq_true q141
   go_wp2
   go_roundg k1
   case measure => have := HK1.out; omega
   case rel => exact ⟨(wrap64 (x8_1 + 1)), yeq, H', ⟨by have := HK1.out; omega⟩, by repeat (first | exact Drawn0.refl _ | apply Drawn0.step)⟩
def slices_Contains_int_int.f (k : Nat) (l0 : List Int) (a1 : Int) : Option (Bool) := (slices_Index_int_int.f k l0 a1).bind fun t142 => (some (decide (t142 ≥ 0)))
set_option maxHeartbeats 8000000 in
set_option maxRecDepth 100000 in
theorem slices_Contains_int_int.calls (k : Nat) (A0 : Option Addr) (c0 : Nat) (l0 : List Int) (a1 : Int) (r : Bool) (w : World) (hr0 : Kd.C (Kd.int .i64) w A0 l0.length l0) (hc0 : l0.length ≤ c0) (h : slices_Contains_int_int.f k l0 a1 = some r) :
  Calls Try.prog 89 #[.slice A0 l0.length c0, .int .i64 a1] w fun e w' => e = .returned (.bool r) ∧ Drawn0 w w' := by
 have HR0 := yam hr0
 have HC0 := yam hc0
 clear hr0 hc0
 have H : ((slices_Index_int_int.f k l0 a1).bind fun t142 => (some (decide (t142 ≥ 0)))) = some r := h
 clear h
 replace H := Option.bind_eq_some_iff.mp H
 obtain ⟨t142, A30, H⟩ := H
 try dsimp only at H
 have A3 := yam A30
 clear A30
 obtain rfl := Option.some.inj H
 go_enter Try.func89, Try.ntmps89
 go_wp2_with (first | (refine goesL_ (some 7) rfl rfl Try.func93 (by kernel_rfl) rfl #[.slice A0 l0.length c0, .int .i64 a1] rfl ymd ?_; (with_reducible refine (slices_Index_int_int.calls k _ _ l0 a1 t142 _ ?side1 ?side2 A3.out).mono ?_); (case side1 => exact Kd.Cz (HR0.out)); (case side2 => exact HC0.out); rintro e w' ⟨rfl, ⟨nd, rfl⟩⟩; refine ⟨_, rfl, ?_⟩))
 go_ret
 exact ⟨yeq, by repeat (first | exact Drawn0.refl _ | apply Drawn0.step)⟩
end Go.Proofs.Ytmjbnghhfadapaa.P
