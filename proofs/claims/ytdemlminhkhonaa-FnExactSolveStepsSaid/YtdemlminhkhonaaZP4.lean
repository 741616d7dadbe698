/- The machine's side: each Go function as a plain Lean function and the proof that the machine's call does what that function says; written by this session's own program over the kit's print. -/
import Derived.Test.YtdemlminhkhonaaZP1
import Derived.Test.YtdemlminhkhonaaZP3
namespace Go.Proofs.Ytdemlminhkhonaa.P
open Go.RowKit Go.Proofs.YtdemlminhkhonaaW.PrintWords Go.Proofs.YtdemlminhkhonaaW.PrintLast Go.Proofs.YtdemlminhkhonaaW.PrintMore
attribute [local go_sem] max2_int min2_int max_two min_two max_three min_three max_four min_four   -- for this text's walks alone
set_option linter.unusedVariables false
set_option linter.unusedSimpArgs false
mutual
def spec_StartMasks.l0 : Nat → List Int → Int → Int → List Int → List (S67) → Option (List Int)
 | 0, _, _, _, _, _ => none
 | k + 1, x3, x4, x292000, x292001, x292002 => if x4 < (x292001.length : Int) then ((spec_PuzzleValid.f k x292000 x292001 x292002).bind fun t295 => (spec_StartMasks.j1 k x3 x4 t295 x292000 x292001 x292002)) else (spec_StartMasks.j1 k x3 x4 false x292000 x292001 x292002)
def spec_StartMasks.j1 : Nat → List Int → Int → Bool → Int → List Int → List (S67) → Option (List Int)
 | 0, _, _, _, _, _, _ => none
 | k + 1, x3, x4, x14, x292000, x292001, x292002 => if x14 = true then (if 0 ≤ x4 then (if x4 < (x292001.length : Int) then (if (rd x292001 x4) > 0 then (if 0 ≤ (rd x292001 x4) then (if x3.length < 17592186044416 then (spec_StartMasks.l0 k (x3 ++ [shl .i64 1 (rd x292001 x4)]) (wrap64 (x4 + 1)) x292000 x292001 x292002) else (none)) else (none)) else (if 0 ≤ (wrap64 (x292000 + 1)) then (if x3.length < 17592186044416 then (spec_StartMasks.l0 k (x3 ++ [wrap64 ((shl .i64 1 (wrap64 (x292000 + 1))) - 2)]) (wrap64 (x4 + 1)) x292000 x292001 x292002) else (none)) else (none))) else (none)) else (none)) else (some x3)
end
def spec_StartMasks.f (k : Nat) (a0_0 : Int) (l0_1 : List Int) (l0_2 : List (S67)) : Option (List Int) := spec_StartMasks.l0 k (([] : List Int)) 0 a0_0 l0_1 l0_2
set_option maxHeartbeats 8000000 in
set_option maxRecDepth 100000 in
theorem spec_StartMasks.calls (k : Nat) (a0_0 : Int) (A0_1 : Option Addr) (c0_1 : Nat) (l0_1 : List Int) (A0_2 : Option Addr) (c0_2 : Nat) (l0_2 : List (S67)) (r : List Int) (w : World) (hr0_1 : Kd.C (Kd.int .i64) w A0_1 l0_1.length l0_1) (hc0_1 : l0_1.length ≤ c0_1) (hr0_2 : Kd.C k67 w A0_2 l0_2.length l0_2) (hc0_2 : l0_2.length ≤ c0_2) (h : spec_StartMasks.f k a0_0 l0_1 l0_2 = some r) :
  Calls Try.prog 40 #[.agg #[.int .i64 a0_0, .slice A0_1 l0_1.length c0_1, .slice A0_2 l0_2.length c0_2]] w fun e w' => ∃ v0_ : Value, e = .returned (v0_) ∧ Kd.R (Kd.int .i64) 3 w' w.heap.size (fun _ => True) v0_ r ∧ Below w.heap.size w w' := by
 have hu30 := Try.underlying30
 have HR0_1 := yam hr0_1
 have HC0_1 := yam hc0_1
 clear hr0_1 hc0_1
 have HR0_2 := yam hr0_2
 have HC0_2 := yam hc0_2
 clear hr0_2 hc0_2
 have HB := yam (Below.refl w.heap.size w)
 have H : (spec_StartMasks.l0 k (([] : List Int)) 0 a0_0 l0_1 l0_2) = some r := h
 clear h
 obtain ⟨y292, hy292⟩ : ∃ y_ : List Int, y_ = (([] : List Int)) := ⟨_, rfl⟩
 replace H : (spec_StartMasks.l0 k y292 0 a0_0 l0_1 l0_2) = some r := by first | (rw [hy292]; with_reducible exact H) | (have H2_ := (Option.bind_some _ _).symm.trans H; rw [hy292]; with_reducible exact H2_) | (have H2_ := (Option.bind_some _ _).symm.trans H; with_reducible exact H2_) | with_reducible exact H | (rw [hy292]; exact H) | exact H
 have Ny292 := yam hy292
 clear hy292
 have H' := yam H
 clear H
 go_enter Try.func40, Try.ntmps40
 go_wp2_with (first | (refine ybe 1 #[.int .i64 a0_0, .slice A0_1 l0_1.length c0_1, .slice A0_2 l0_2.length c0_2] 30 ?_; intro gb291 hg w2 hbox hb; have n0_ := yam (below_step (yez HB.out) hb); have n1_ := yam (hbox); have n2_ := yam ((by rw [hg]; exact (below_size (yez HB.out)) : w.heap.size ≤ gb291)); have n3_ := n2_; clear HB; have HB := n0_; have BK291 := n1_; have GW291 := n2_; have GE291 := n3_; clear n0_ n1_ n2_ n3_; clear hb hbox hg) | ((with_reducible refine gate_dst (N := 5) rfl ?_); refine Kd.R_lit (Kd.int .i64) _ 3 ?hg (N := 5) ?hd (xs := ([] : List Int)) (inner := []) (ok := fun _ => True) (okp := fun _ => True) ?hr ?hp (fun _ hk => hk) trivial (Below.refl _ _) (Nat.le_refl _) (by simp) ?_; (case hd => rfl); (case hg => rfl); (case hr => first | (go_simp; done) | (go_simp; rfl)); (case hp => exact (Reps.none _ _)); intro v293 w3 ho4 hb hg_ hnew_; clear hg_ hnew_; (first | rw [← Ny292.out] at ho4 | (simp only [Int.reduceToNat] at ho4; rw [← Ny292.out] at ho4)); have n0_ := yam (Kd.R_lower ho4 (below_size yhb)); have n1_ := yam (blk_below (g := gb291) (o := .cells #[.int .i64 a0_0, .slice A0_1 l0_1.length c0_1, .slice A0_2 l0_2.length c0_2] 30 (0, 0)) (ybz BK291.out) hb); have n2_ := yam (below_step yhb hb); clear BK291; clear HB; have HO294 := n0_; have BK291 := n1_; have HB := n2_; clear n0_ n1_ n2_; clear hb ho4))
 go_loopg [3, 4] k (fun kq v3 v4 w' => ∃ (x3_1 : List Int) (x4_1 : Int), v4 = .int .i64 x4_1 ∧ Aside0 (spec_StartMasks.l0 kq x3_1 x4_1 a0_0 l0_1 l0_2 = some r) ∧ Aside0 (kq ≤ k) ∧ Aside0 (Kd.R (Kd.int .i64) 3 w' w.heap.size (fun _ => True) v3 x3_1) ∧ Aside0 (w'.heap[gb291]? = some (.cells #[.int .i64 a0_0, (.slice A0_1 l0_1.length c0_1), (.slice A0_2 l0_2.length c0_2)] 30 (0, 0))) ∧ Aside0 (Below w.heap.size w w'))
 case atStart => exact ⟨(y292), (0), yeq, H', ⟨Nat.le_refl _⟩, ⟨yka HO294.out⟩, ⟨by (with_reducible repeat (first | refine ybn ?_ _ | refine ybd ?_ | refine yba ?_ _)); exact BK291.out⟩, ⟨yhb⟩⟩
 case round =>
  clear H'
  try clear p2
  try clear c4
  obtain ⟨x3_1, x4_1, rfl, HA, HK1, HO_3, BK291, HB⟩ := hrel
  cases gk with
  | zero => exact absurd HA.out (by simp [spec_StartMasks.l0])
  | succ k1 =>
   have H := HA.out
   clear HA
   simp only [spec_StartMasks.l0] at H
   have HC5 := yam H
   clear H
   go_upto_region 3 with (fail)
   go_cut [14] (fun v14 wc => ∃ (kq : Nat) (x14_4 : Bool), v14 = .bool x14_4 ∧ Aside0 (spec_StartMasks.j1 kq x3_1 x4_1 x14_4 a0_0 l0_1 l0_2 = some r) ∧ Aside0 (kq ≤ k1) ∧ Aside0 (Kd.R (Kd.int .i64) 3 wc w.heap.size (fun _ => True) u3 x3_1) ∧ Aside0 (wc.heap[gb291]? = some (.cells #[.int .i64 a0_0, (.slice A0_1 l0_1.length c0_1), (.slice A0_2 l0_2.length c0_2)] 30 (0, 0))) ∧ Aside0 (Below w.heap.size w wc))
   case first =>
    have H := HC5.out
    clear HC5
    by_cases c6 : x4_1 < (l0_1.length : Int)
    rotate_left
    ·rw [if_neg c6] at H
     have c6b0 : decide (x4_1 < (l0_1.length : Int)) = false := decide_eq_false c6
     clear c6
     (first | rw [c6b0] | (simp only [i64_w, i32_w]; rw [c6b0]) | skip)
     have H' := yam H
     clear H
     obtain ⟨hcz10_0, hcz10_1, hcz10_2, hfz10_0, hfz10_1, hfz10_2⟩ := ybc BK291.out
     go_wp2
     go_meet
     case rel => exact ⟨_, (false), yeq, H', ⟨by have := HK1.out; first | omega | exact Nat.le_refl _⟩, ⟨yka HO_3.out⟩, ⟨by (with_reducible repeat (first | refine ybn ?_ _ | refine ybd ?_ | refine yba ?_ _)); exact BK291.out⟩, ⟨yhb⟩⟩
    rw [if_pos c6] at H
    have c6b0 : decide (x4_1 < (l0_1.length : Int)) = true := decide_eq_true c6
    clear c6
    (first | rw [c6b0] | (simp only [i64_w, i32_w]; rw [c6b0]) | skip)
    replace H := Option.bind_eq_some_iff.mp H
    obtain ⟨t295, A70, H⟩ := H
    try dsimp only at H
    have A7 := yam A70
    clear A70
    have H' := yam H
    clear H
    obtain ⟨hcz8_0, hcz8_1, hcz8_2, hfz8_0, hfz8_1, hfz8_2⟩ := ybc BK291.out
    go_wp2_with (first | (go_at_call 34; (with_reducible refine (spec_PuzzleValid.calls k1 a0_0 _ _ l0_1 _ _ l0_2 t295 _ ?side1 ?side2 ?side3 ?side4 A7.out).mono ?_); (case side1 => exact Kd.Cz ((Kd.C_below HR0_1.out HB.out))); (case side2 => exact HC0_1.out); (case side3 => exact Kd.Cz ((Kd.C_below HR0_2.out HB.out))); (case side4 => exact HC0_2.out); rintro e w9 ⟨rfl, hb⟩; have n0_ := yam (Kd.R_below (Kd.Yz HO_3.out) hb); have n1_ := yam (blk_below (g := gb291) (o := .cells #[.int .i64 a0_0, .slice A0_1 l0_1.length c0_1, .slice A0_2 l0_2.length c0_2] 30 (0, 0)) (ybz BK291.out) hb); have n2_ := yam (below_step yhb hb); clear HO_3; clear BK291; clear HB; have HO_3 := n0_; have BK291 := n1_; have HB := n2_; clear n0_ n1_ n2_; (try clear hb); (try clear hb2); (try clear hk); (try clear hi)))
    go_meet
    case rel => exact ⟨_, (t295), yeq, H', ⟨by have := HK1.out; first | omega | exact Nat.le_refl _⟩, ⟨yka HO_3.out⟩, ⟨by (with_reducible repeat (first | refine ybn ?_ _ | refine ybd ?_ | refine yba ?_ _)); exact BK291.out⟩, ⟨yhb⟩⟩
   case rest =>
    clear HC5
    try clear p2
    try clear c4
    try clear c6
    try clear c6b0
    try clear hcz10_0
    try clear hcz10_1
    try clear hcz10_2
    try clear hcz8_0
    try clear hcz8_1
    try clear hcz8_2
    try clear hfz10_0
    try clear hfz10_1
    try clear hfz10_2
    try clear hfz8_0
    try clear hfz8_1
    try clear hfz8_2
    try clear p2
    obtain ⟨kq, x14_4, rfl, HA, HJ4, HO_3, BK291, HB⟩ := hcut
    cases kq with
    | zero => exact absurd HA.out (by simp [spec_StartMasks.j1])
    | succ kj4 =>
     have H := HA.out
     clear HA
     simp only [spec_StartMasks.j1] at H
     by_cases c11 : x14_4 = true
     rotate_left
     ·replace c11 := Bool.eq_false_iff.mpr c11
      subst c11
      have H1 : (some x3_1) = some r := by rw [if_neg (show ¬ (false = true) by decide)] at H; exact H
      clear H
      have H := H1
      clear H1
      obtain rfl := Option.some.inj H
      go_wp2
      go_ret
      exact ⟨_, yer, yka HO_3.out, yhb⟩

     subst c11
     have H1 : (if 0 ≤ x4_1 then (if x4_1 < (l0_1.length : Int) then (if (rd l0_1 x4_1) > 0 then (if 0 ≤ (rd l0_1 x4_1) then (if x3_1.length < 17592186044416 then (spec_StartMasks.l0 kj4 (x3_1 ++ [shl .i64 1 (rd l0_1 x4_1)]) (wrap64 (x4_1 + 1)) a0_0 l0_1 l0_2) else (none)) else (none)) else (if 0 ≤ (wrap64 (a0_0 + 1)) then (if x3_1.length < 17592186044416 then (spec_StartMasks.l0 kj4 (x3_1 ++ [wrap64 ((shl .i64 1 (wrap64 (a0_0 + 1))) - 2)]) (wrap64 (x4_1 + 1)) a0_0 l0_1 l0_2) else (none)) else (none))) else (none)) else (none)) = some r := by rw [if_pos rfl] at H; exact H
     clear H
     have H := H1
     clear H1
     replace H := yif H
     obtain ⟨c12b0, H⟩ := H
     replace H := yif H
     obtain ⟨c13b0, H⟩ := H
     by_cases c14 : (rd l0_1 x4_1) > 0
     rotate_left
     ·rw [if_neg c14] at H
      have c14b0 : decide (0 < (rd l0_1 x4_1)) = false := decide_eq_false c14
      clear c14
      obtain ⟨ji20, hji20⟩ : ∃ j_ : Int, (wrap64 (a0_0 + 1)) = j_ := ⟨_, rfl⟩
      replace H : (if 0 ≤ (ji20) then (if x3_1.length < 17592186044416 then (spec_StartMasks.l0 kj4 (x3_1 ++ [wrap64 ((shl .i64 1 (ji20)) - 2)]) (wrap64 (x4_1 + 1)) a0_0 l0_1 l0_2) else (none)) else (none)) = some r := by first | (rw [hji20] at H; exact H) | (simp only [hji20] at H ⊢; exact H)
      have hji20w : (IntKind.i64.wrap (a0_0 + 1)) = ji20 := (i64_w _).trans hji20
      replace H := yig H
      obtain ⟨c21, H⟩ := H
      have c21b0 := eq_true c21
      have c21b1 : decide (0 ≤ (ji20)) = true := decide_eq_true c21
      clear c21
      obtain ⟨ji22, hji22⟩ : ∃ j_ : Int, (shl .i64 1 (ji20)) = j_ := ⟨_, rfl⟩
      replace H : (if x3_1.length < 17592186044416 then (spec_StartMasks.l0 kj4 (x3_1 ++ [wrap64 ((ji22) - 2)]) (wrap64 (x4_1 + 1)) a0_0 l0_1 l0_2) else (none)) = some r := by first | (rw [hji22] at H; exact H) | (simp only [hji22] at H ⊢; exact H)
      have hji22_ : (IntKind.i64.wrap (1 * 2 ^ min (ji20).toNat 64)) = ji22 := hji22
      have hji22z : (ji20) ≤ 64 → (IntKind.i64.wrap (1 * 2 ^ (ji20).toNat)) = ji22 := shl_small hji22
      have hji22u : (IntKind.i64.wrap (2 ^ min (ji20).toNat 64)) = ji22 := by have h_ := hji22_; rw [Int.one_mul] at h_; exact h_
      have hji22v : (ji20) ≤ 64 → (IntKind.i64.wrap (2 ^ (ji20).toNat)) = ji22 := fun hle_ => by have h_ := hji22z hle_; rw [Int.one_mul] at h_; exact h_
      have hji22y : (wrap64 (1 * 2 ^ min (ji20).toNat 64)) = ji22 := (i64_w _).symm.trans hji22_
      have hji22x : (ji20) ≤ 64 → (wrap64 (1 * 2 ^ (ji20).toNat)) = ji22 := fun h_ => (i64_w _).symm.trans (hji22z h_)
      replace H := yig H
      obtain ⟨c23, H⟩ := H
      have LMc23 := yam c23
      clear c23
      obtain ⟨y301, hy301⟩ : ∃ y_ : List Int, y_ = (x3_1 ++ [wrap64 ((ji22) - 2)]) := ⟨_, rfl⟩
      replace H : (spec_StartMasks.l0 kj4 y301 (wrap64 (x4_1 + 1)) a0_0 l0_1 l0_2) = some r := by first | (rw [hy301]; with_reducible exact H) | (have H2_ := (Option.bind_some _ _).symm.trans H; rw [hy301]; with_reducible exact H2_) | (have H2_ := (Option.bind_some _ _).symm.trans H; with_reducible exact H2_) | with_reducible exact H | (rw [hy301]; exact H) | exact H
      have Ny301 := yam hy301
      clear hy301
      have H' := yam H
      clear H
      obtain ⟨hcz24_0, hcz24_1, hcz24_2, hfz24_0, hfz24_1, hfz24_2⟩ := ybc BK291.out
      have p296 : 0 ≤ (x4_1 : Int) := ydt
      have q296 : x4_1 < (l0_1.length : Int) := ydt
      obtain ⟨ad296, e296, hx296_0⟩ := Kd.at_int HR0_1.out x4_1 p296 q296
      cases e296
      replace hx296_0 := ybx HB.out hx296_0
      replace p296 := eq_true p296
      replace q296 := eq_true q296
      go_wp2_with (first | ((with_reducible refine gate_builtin (b := .append) (xs := #[.tmp 32, .tmp 38]) rfl ?_); at_builtin; refine Kd.R_append (Kd.int .i64) (w0 := w) w.heap.size rfl (.tmp 32) (.tmp 38) 22 3 (.int .i64 0) 8 rfl Try.underlying22 info3 rfl (by decide) (by omega) u3 x3_1 (wrap64 ((ji22) - 2)) [.int .i64 (wrap64 ((ji22) - 2))] (fun _ => True) (fun _ => False) rfl rfl ?aP (fun _ hk => hk.elim) ?aF ?aO ?aB ?aS ?aL ?_; (case aP => exact rfl); (case aB => exact yhb); (case aF => exact (fun _ _ => trivial)); (case aO => exact (Kd.Yz HO_3.out)); (case aS => exact (below_size yhb)); (case aL => have := LMc23.out; omega); intro v302 w25 ho hb hg hat; rw [← Ny301.out] at ho; have n0_ := yam (blk_grown (g := gb291) (o := .cells #[.int .i64 a0_0, .slice (some ad296) l0_1.length c0_1, .slice A0_2 l0_2.length c0_2] 30 (0, 0)) (ybz BK291.out) hg (Kd.R_ne HO_3.out BK291.out (by decide))); have n1_ := yam (hb); have n2_ := yam (ho); clear BK291; clear HB; clear HO_3; have BK291 := n0_; have HB := n1_; have HO303 := n2_; clear n0_ n1_ n2_; clear ho hb hg hat))
      go_roundg kj4
      case measure => have := HK1.out; have := HJ4.out; omega
      case rel => exact ⟨(y301), (wrap64 (x4_1 + 1)), yeq, H', ⟨by have := HK1.out; have := HJ4.out; omega⟩, ⟨yka HO303.out⟩, ⟨by (with_reducible repeat (first | refine ybn ?_ _ | refine ybd ?_ | refine yba ?_ _)); exact BK291.out⟩, ⟨yhb⟩⟩
     rw [if_pos c14] at H
     have c14b0 : decide (0 < (rd l0_1 x4_1)) = true := decide_eq_true c14
     clear c14
     replace H := yig H
     obtain ⟨c15, H⟩ := H
     have c15b0 := eq_true c15
     have c15b1 : decide (0 ≤ (rd l0_1 x4_1)) = true := decide_eq_true c15
     clear c15
     obtain ⟨ji16, hji16⟩ : ∃ j_ : Int, (shl .i64 1 (rd l0_1 x4_1)) = j_ := ⟨_, rfl⟩
     replace H : (if x3_1.length < 17592186044416 then (spec_StartMasks.l0 kj4 (x3_1 ++ [ji16]) (wrap64 (x4_1 + 1)) a0_0 l0_1 l0_2) else (none)) = some r := by first | (rw [hji16] at H; exact H) | (simp only [hji16] at H ⊢; exact H)
     have hji16_ : (IntKind.i64.wrap (1 * 2 ^ min (rd l0_1 x4_1).toNat 64)) = ji16 := hji16
     have hji16z : (rd l0_1 x4_1) ≤ 64 → (IntKind.i64.wrap (1 * 2 ^ (rd l0_1 x4_1).toNat)) = ji16 := shl_small hji16
     have hji16u : (IntKind.i64.wrap (2 ^ min (rd l0_1 x4_1).toNat 64)) = ji16 := by have h_ := hji16_; rw [Int.one_mul] at h_; exact h_
     have hji16v : (rd l0_1 x4_1) ≤ 64 → (IntKind.i64.wrap (2 ^ (rd l0_1 x4_1).toNat)) = ji16 := fun hle_ => by have h_ := hji16z hle_; rw [Int.one_mul] at h_; exact h_
     have hji16y : (wrap64 (1 * 2 ^ min (rd l0_1 x4_1).toNat 64)) = ji16 := (i64_w _).symm.trans hji16_
     have hji16x : (rd l0_1 x4_1) ≤ 64 → (wrap64 (1 * 2 ^ (rd l0_1 x4_1).toNat)) = ji16 := fun h_ => (i64_w _).symm.trans (hji16z h_)
     replace H := yig H
     obtain ⟨c17, H⟩ := H
     have LMc17 := yam c17
     clear c17
     obtain ⟨y298, hy298⟩ : ∃ y_ : List Int, y_ = (x3_1 ++ [ji16]) := ⟨_, rfl⟩
     replace H : (spec_StartMasks.l0 kj4 y298 (wrap64 (x4_1 + 1)) a0_0 l0_1 l0_2) = some r := by first | (rw [hy298]; with_reducible exact H) | (have H2_ := (Option.bind_some _ _).symm.trans H; rw [hy298]; with_reducible exact H2_) | (have H2_ := (Option.bind_some _ _).symm.trans H; with_reducible exact H2_) | with_reducible exact H | (rw [hy298]; exact H) | exact H
     have Ny298 := yam hy298
     clear hy298
     have H' := yam H
     clear H
     obtain ⟨hcz18_0, hcz18_1, hcz18_2, hfz18_0, hfz18_1, hfz18_2⟩ := ybc BK291.out
     have p296 : 0 ≤ (x4_1 : Int) := ydt
     have q296 : x4_1 < (l0_1.length : Int) := ydt
     obtain ⟨ad296, e296, hx296_0⟩ := Kd.at_int HR0_1.out x4_1 p296 q296
     cases e296
     replace hx296_0 := ybx HB.out hx296_0
     replace p296 := eq_true p296
     replace q296 := eq_true q296
     have p297 : 0 ≤ (x4_1 : Int) := ydt
     have q297 : x4_1 < (l0_1.length : Int) := ydt
     obtain ⟨ad297, e297, hx297_0⟩ := Kd.at_int HR0_1.out x4_1 p297 q297
     obtain rfl : ad296 = ad297 := (by injection e297)
     replace hx297_0 := ybx HB.out hx297_0
     replace p297 := eq_true p297
     replace q297 := eq_true q297
     go_wp2_with (first | ((with_reducible refine gate_builtin (b := .append) (xs := #[.tmp 23, .tmp 30]) rfl ?_); at_builtin; refine Kd.R_append (Kd.int .i64) (w0 := w) w.heap.size rfl (.tmp 23) (.tmp 30) 22 3 (.int .i64 0) 8 rfl Try.underlying22 info3 rfl (by decide) (by omega) u3 x3_1 ji16 [.int .i64 ji16] (fun _ => True) (fun _ => False) rfl rfl ?aP (fun _ hk => hk.elim) ?aF ?aO ?aB ?aS ?aL ?_; (case aP => exact rfl); (case aB => exact yhb); (case aF => exact (fun _ _ => trivial)); (case aO => exact (Kd.Yz HO_3.out)); (case aS => exact (below_size yhb)); (case aL => have := LMc17.out; omega); intro v299 w19 ho hb hg hat; rw [← Ny298.out] at ho; have n0_ := yam (blk_grown (g := gb291) (o := .cells #[.int .i64 a0_0, .slice (some ad296) l0_1.length c0_1, .slice A0_2 l0_2.length c0_2] 30 (0, 0)) (ybz BK291.out) hg (Kd.R_ne HO_3.out BK291.out (by decide))); have n1_ := yam (hb); have n2_ := yam (ho); clear BK291; clear HB; clear HO_3; have BK291 := n0_; have HB := n1_; have HO300 := n2_; clear n0_ n1_ n2_; clear ho hb hg hat))
     go_roundg kj4
     case measure => have := HK1.out; have := HJ4.out; omega
     case rel => exact ⟨(y298), (wrap64 (x4_1 + 1)), yeq, H', ⟨by have := HK1.out; have := HJ4.out; omega⟩, ⟨yka HO300.out⟩, ⟨by (with_reducible repeat (first | refine ybn ?_ _ | refine ybd ?_ | refine yba ?_ _)); exact BK291.out⟩, ⟨yhb⟩⟩
def spec_l8Same.l0 : Nat → List Int → List Int → Int → Option (Bool)
 | 0, _, _, _ => none
 | k + 1, x0, x1, x5 => if x5 < (x0.length : Int) then (if 0 ≤ x5 then (if x5 < (x1.length : Int) then (if (rd x0 x5) = (rd x1 x5) then (spec_l8Same.l0 k x0 x1 (wrap64 (x5 + 1))) else (some false)) else (none)) else (none)) else (some true)
def spec_l8Same.f (k : Nat) (l0 : List Int) (l1 : List Int) : Option (Bool) := if (l0.length : Int) = (l1.length : Int) then (spec_l8Same.l0 k l0 l1 0) else (some false)
set_option maxHeartbeats 8000000 in
set_option maxRecDepth 100000 in
theorem spec_l8Same.calls (k : Nat) (A0 : Option Addr) (c0 : Nat) (l0 : List Int) (A1 : Option Addr) (c1 : Nat) (l1 : List Int) (r : Bool) (w : World) (hr0 : Kd.C (Kd.int .i64) w A0 l0.length l0) (hc0 : l0.length ≤ c0) (hr1 : Kd.C (Kd.int .i64) w A1 l1.length l1) (hc1 : l1.length ≤ c1) (h : spec_l8Same.f k l0 l1 = some r) :
  Calls Try.prog 41 #[.slice A0 l0.length c0, .slice A1 l1.length c1] w fun e w' => e = .returned (.bool r) ∧ Drawn0 w w' := by
 have HR0 := yam hr0
 have HC0 := yam hc0
 clear hr0 hc0
 have HR1 := yam hr1
 have HC1 := yam hc1
 clear hr1 hc1
 have H : (if (l0.length : Int) = (l1.length : Int) then (spec_l8Same.l0 k l0 l1 0) else (some false)) = some r := h
 clear h
 by_cases c3 : (l0.length : Int) = (l1.length : Int)
 rotate_left
 ·rw [if_neg c3] at H
  have c3b0 : ((l0.length : Int) == (l1.length : Int)) = false := beq_eq_false_iff_ne.mpr c3
  have c3b1 : ((l0.length : Int) != (l1.length : Int)) = true := bne_iff_ne.mpr c3
  have c3b2 : (l0.length == l1.length) = false := by first | simpa using c3 | (simp at c3 ⊢; omega)
  obtain rfl := Option.some.inj H
  go_enter Try.func41, Try.ntmps41
  go_wp2
  repeat (go_quiet (fail); try go_wp2)
  go_ret
  exact ⟨yeq, by repeat (first | exact Drawn0.refl _ | apply Drawn0.step)⟩

 rw [if_pos c3] at H
 have c3b0 : ((l0.length : Int) == (l1.length : Int)) = true := beq_iff_eq.mpr c3
 have c3b1 : ((l0.length : Int) != (l1.length : Int)) = false := bne_eq_false_iff_eq.mpr c3
 have c3b2 : (l0.length == l1.length) = true := by first | simpa using c3 | (simp at c3 ⊢; omega)
 clear c3
 have H' := yam H
 clear H
 go_enter Try.func41, Try.ntmps41
 go_wp2
 repeat (go_quiet (fail); try go_wp2)
 go_loopg [5] k (fun kq v5 w' => ∃ (x5_1 : Int), v5 = .int .i64 x5_1 ∧ Aside0 (spec_l8Same.l0 kq l0 l1 x5_1 = some r) ∧ Aside0 (kq ≤ k) ∧ Drawn0 w w')
 case atStart => exact ⟨(0), yeq, H', ⟨Nat.le_refl _⟩, by repeat (first | exact Drawn0.refl _ | apply Drawn0.step)⟩
 case round =>
  clear H'
  try clear c1
  try clear p2
  try clear c3
  try clear c3b0
  try clear c3b1
  try clear c3b2
  obtain ⟨x5_1, rfl, HA, HK1, ⟨m1, rfl⟩⟩ := hrel
  cases gk with
  | zero => exact absurd HA.out (by simp [spec_l8Same.l0])
  | succ k1 =>
   have H := HA.out
   clear HA
   simp only [spec_l8Same.l0] at H
   by_cases c4 : x5_1 < (l0.length : Int)
   rotate_left
   ·rw [if_neg c4] at H
    have c4b0 : decide (x5_1 < (l0.length : Int)) = false := decide_eq_false c4
    clear c4
    obtain rfl := Option.some.inj H
    go_wp2
    repeat (go_quiet (fail); try go_wp2)
    go_ret
    exact ⟨yeq, by repeat (first | exact Drawn0.refl _ | apply Drawn0.step)⟩
   rw [if_pos c4] at H
   have c4b0 : decide (x5_1 < (l0.length : Int)) = true := decide_eq_true c4
   clear c4
   replace H := yif H
   obtain ⟨c5b0, H⟩ := H
   replace H := yif H
   obtain ⟨c6b0, H⟩ := H
   by_cases c7 : (rd l0 x5_1) = (rd l1 x5_1)
   rotate_left
   ·rw [if_neg c7] at H
    have c7b0 : ((rd l0 x5_1) == (rd l1 x5_1)) = false := beq_eq_false_iff_ne.mpr c7
    have c7b1 : ((rd l0 x5_1) != (rd l1 x5_1)) = true := bne_iff_ne.mpr c7
    obtain rfl := Option.some.inj H
    have p304 : 0 ≤ (x5_1 : Int) := ydt
    have q304 : x5_1 < (l0.length : Int) := ydt
    obtain ⟨ad304, e304, hx304_0⟩ := Kd.at_int HR0.out x5_1 p304 q304
    cases e304
    replace p304 := eq_true p304
    replace q304 := eq_true q304
    have p305 : 0 ≤ (x5_1 : Int) := ydt
    have q305 : x5_1 < (l1.length : Int) := ydt
    obtain ⟨ad305, e305, hx305_0⟩ := Kd.at_int HR1.out x5_1 p305 q305
    cases e305
    replace p305 := eq_true p305
    replace q305 := eq_true q305
    go_wp2
    repeat (go_quiet (fail); try go_wp2)
    go_ret
    exact ⟨yeq, by repeat (first | exact Drawn0.refl _ | apply Drawn0.step)⟩
   rw [if_pos c7] at H
   have c7b0 : ((rd l0 x5_1) == (rd l1 x5_1)) = true := beq_iff_eq.mpr c7
   have c7b1 : ((rd l0 x5_1) != (rd l1 x5_1)) = false := bne_eq_false_iff_eq.mpr c7
   clear c7
   have H' := yam H
   clear H
   have p304 : 0 ≤ (x5_1 : Int) := ydt
   have q304 : x5_1 < (l0.length : Int) := ydt
   obtain ⟨ad304, e304, hx304_0⟩ := Kd.at_int HR0.out x5_1 p304 q304
   cases e304
   replace p304 := eq_true p304
   replace q304 := eq_true q304
   have p305 : 0 ≤ (x5_1 : Int) := ydt
   have q305 : x5_1 < (l1.length : Int) := ydt
   obtain ⟨ad305, e305, hx305_0⟩ := Kd.at_int HR1.out x5_1 p305 q305
   cases e305
   replace p305 := eq_true p305
   replace q305 := eq_true q305
   go_wp2
   repeat (go_quiet (fail); try go_wp2)
   go_roundg k1
   case measure => have := HK1.out; omega
   case rel => exact ⟨(wrap64 (x5_1 + 1)), yeq, H', ⟨by have := HK1.out; omega⟩, by repeat (first | exact Drawn0.refl _ | apply Drawn0.step)⟩
def spec_MasksCount.l0 : Nat → List Int → Int → Int → Option (Int)
 | 0, _, _, _ => none
 | k + 1, x0, x5, x6 => if x6 < (x0.length : Int) then (if 0 ≤ x6 then ((spec_MaskValues.f k (rd x0 x6)).bind fun t308 => (spec_MasksCount.l0 k x0 (wrap64 (x5 + (t308.length : Int))) (wrap64 (x6 + 1)))) else (none)) else (some x5)
def spec_MasksCount.f (k : Nat) (l0 : List Int) (a1 : Int) : Option (Int) := (spec_MasksValid.f k l0 a1).bind fun t306 => (if t306 = true then (spec_MasksCount.l0 k l0 0 0) else (some (-1)))
set_option maxHeartbeats 8000000 in
set_option maxRecDepth 100000 in
theorem spec_MasksCount.calls (k : Nat) (A0 : Option Addr) (c0 : Nat) (l0 : List Int) (a1 : Int) (r : Int) (w : World) (hr0 : Kd.C (Kd.int .i64) w A0 l0.length l0) (hc0 : l0.length ≤ c0) (h : spec_MasksCount.f k l0 a1 = some r) :
  Calls Try.prog 42 #[.slice A0 l0.length c0, .int .i64 a1] w fun e w' => e = .returned (.int .i64 r) ∧ Below w.heap.size w w' := by
 have HR0 := yam hr0
 have HC0 := yam hc0
 clear hr0 hc0
 have HB := yam (Below.refl w.heap.size w)
 have H : ((spec_MasksValid.f k l0 a1).bind fun t306 => (if t306 = true then (spec_MasksCount.l0 k l0 0 0) else (some (-1)))) = some r := h
 clear h
 replace H := Option.bind_eq_some_iff.mp H
 obtain ⟨t306, A30, H⟩ := H
 try dsimp only at H
 have A3 := yam A30
 clear A30
 by_cases c4 : t306 = true
 rotate_left
 ·replace c4 := Bool.eq_false_iff.mpr c4
  subst c4
  have H1 : (some (-1)) = some r := by rw [if_neg (show ¬ (false = true) by decide)] at H; exact H
  clear H
  have H := H1
  clear H1
  obtain rfl := Option.some.inj H
  go_enter Try.func42, Try.ntmps42
  go_wp2_with (first | (refine goesL_ (some 9) rfl rfl Try.func53 (by kernel_rfl) rfl #[.slice A0 l0.length c0, .int .i64 a1] rfl ymd ?_; (with_reducible refine (spec_MasksValid.calls k _ _ l0 a1 false _ ?side1 ?side2 A3.out).mono ?_); (case side1 => exact Kd.Cz (HR0.out)); (case side2 => exact HC0.out); rintro e w' ⟨rfl, ⟨nd, rfl⟩⟩; refine ⟨_, rfl, ?_⟩))
  go_ret
  exact ⟨yer, yhb⟩

 subst c4
 have H1 : (spec_MasksCount.l0 k l0 0 0) = some r := by rw [if_pos rfl] at H; exact H
 clear H
 have H := H1
 clear H1
 have H' := yam H
 clear H
 go_enter Try.func42, Try.ntmps42
 go_wp2_with (first | (refine goesL_ (some 9) rfl rfl Try.func53 (by kernel_rfl) rfl #[.slice A0 l0.length c0, .int .i64 a1] rfl ymd ?_; (with_reducible refine (spec_MasksValid.calls k _ _ l0 a1 true _ ?side1 ?side2 A3.out).mono ?_); (case side1 => exact Kd.Cz (HR0.out)); (case side2 => exact HC0.out); rintro e w' ⟨rfl, ⟨nd, rfl⟩⟩; refine ⟨_, rfl, ?_⟩))
 go_loopg [5, 6] k (fun kq v5 v6 w' => ∃ (x5_1 : Int) (x6_1 : Int), v5 = .int .i64 x5_1 ∧ v6 = .int .i64 x6_1 ∧ Aside0 (spec_MasksCount.l0 kq l0 x5_1 x6_1 = some r) ∧ Aside0 (kq ≤ k) ∧ Aside0 (Below w.heap.size w w'))
 case atStart => exact ⟨(0), (0), yeq, yeq, H', ⟨Nat.le_refl _⟩, ⟨yhb⟩⟩
 case round =>
  clear H'
  try clear p2
  try clear c4
  obtain ⟨x5_1, x6_1, rfl, rfl, HA, HK1, HB⟩ := hrel
  cases gk with
  | zero => exact absurd HA.out (by simp [spec_MasksCount.l0])
  | succ k1 =>
   have H := HA.out
   clear HA
   simp only [spec_MasksCount.l0] at H
   by_cases c5 : x6_1 < (l0.length : Int)
   rotate_left
   ·rw [if_neg c5] at H
    have c5b0 : decide (x6_1 < (l0.length : Int)) = false := decide_eq_false c5
    clear c5
    obtain rfl := Option.some.inj H
    go_wp2
    go_ret
    exact ⟨yer, yhb⟩
   rw [if_pos c5] at H
   have c5b0 : decide (x6_1 < (l0.length : Int)) = true := decide_eq_true c5
   clear c5
   replace H := yif H
   obtain ⟨c6b0, H⟩ := H
   replace H := Option.bind_eq_some_iff.mp H
   obtain ⟨t308, A70, H⟩ := H
   try dsimp only at H
   have A7 := yam A70
   clear A70
   have H' := yam H
   clear H
   have p307 : 0 ≤ (x6_1 : Int) := ydt
   have q307 : x6_1 < (l0.length : Int) := ydt
   obtain ⟨ad307, e307, hx307_0⟩ := Kd.at_int HR0.out x6_1 p307 q307
   cases e307
   replace hx307_0 := ybx HB.out hx307_0
   replace p307 := eq_true p307
   replace q307 := eq_true q307
   go_wp2_with (first | (refine goesL_ (some 22) rfl rfl Try.func72 (by kernel_rfl) rfl #[.int .i64 (rd l0 x6_1)] rfl ymd ?_; (with_reducible refine (spec_MaskValues.calls k1 (rd l0 x6_1) t308 _ A7.out).mono ?_); rintro e w8 ⟨v309, rfl, ho0, hb⟩; refine ⟨_, rfl, ?_⟩; have n0_ := yam (Kd.R_lower ho0 (below_size (yez HB.out))); have n1_ := yam (below_step (yez HB.out) hb); clear HB; have HO310 := n0_; have HB := n1_; clear n0_ n1_; (try clear hb); (try clear hb2); (try clear hk); (try clear hi); (try clear ho0); obtain ⟨Ao9, co9, eo9⟩ := Kd.R_slice HO310.out; subst eo9))
   go_roundg k1
   case measure => have := HK1.out; omega
   case rel => exact ⟨(wrap64 (x5_1 + (t308.length : Int))), (wrap64 (x6_1 + 1)), yeq, yeq, H', ⟨by have := HK1.out; omega⟩, ⟨yhb⟩⟩
mutual
def spec_SolveSteps.j0 : Nat → Int → List (S52) → Bool → Int → List Int → List (S67) → Option ((List (S52)))
 | 0, _, _, _, _, _, _ => none
 | k + 1, x1, x5, x17, x312000, x312001, x312002 => if x17 = true then (some x5) else ((spec_StartMasks.f k x312000 x312001 x312002).bind fun t317 => (spec_SolveSteps.l0 k x1 x5 t317 1 x312000 x312001 x312002))
def spec_SolveSteps.l0 : Nat → Int → List (S52) → List Int → Int → Int → List Int → List (S67) → Option ((List (S52)))
 | 0, _, _, _, _, _, _, _ => none
 | k + 1, x1, x5, x6, x7, x312000, x312001, x312002 => if x7 ≤ x1 then ((spec_NarrowBy.f k x312000 x312001 x312002 x6 x7).bind fun t320 => ((spec_l8Same.f k t320 x6).bind fun t323 => (if t323 = true then (spec_SolveSteps.l0 k x1 x5 x6 (wrap64 (x7 + 1)) x312000 x312001 x312002) else ((spec_MasksCount.f k t320 x312000).bind fun t324 => (if x5.length < 8796093022208 then (spec_SolveSteps.l0 k x1 (x5 ++ [(⟨x7, t324⟩ : S52)]) t320 1 x312000 x312001 x312002) else (none)))))) else (some x5)
end
def spec_SolveSteps.f (k : Nat) (a0_0 : Int) (l0_1 : List Int) (l0_2 : List (S67)) (a1 : Int) : Option ((List (S52))) := (some (([] : List (S52)) : List (S52))).bind fun y312 => ((spec_PuzzleValid.f k a0_0 l0_1 l0_2).bind fun t315 => (if t315 = true then ((spec_l1In.f a1 1 4).bind fun t316 => (spec_SolveSteps.j0 k a1 y312 (!t316) a0_0 l0_1 l0_2)) else (spec_SolveSteps.j0 k a1 y312 true a0_0 l0_1 l0_2)))
set_option maxHeartbeats 8000000 in
set_option maxRecDepth 100000 in
theorem spec_SolveSteps.calls (k : Nat) (a0_0 : Int) (A0_1 : Option Addr) (c0_1 : Nat) (l0_1 : List Int) (A0_2 : Option Addr) (c0_2 : Nat) (l0_2 : List (S67)) (a1 : Int) (r : List (S52)) (w : World) (hr0_1 : Kd.C (Kd.int .i64) w A0_1 l0_1.length l0_1) (hc0_1 : l0_1.length ≤ c0_1) (hr0_2 : Kd.C k67 w A0_2 l0_2.length l0_2) (hc0_2 : l0_2.length ≤ c0_2) (h : spec_SolveSteps.f k a0_0 l0_1 l0_2 a1 = some r) :
  Calls Try.prog 18 #[.agg #[.int .i64 a0_0, .slice A0_1 l0_1.length c0_1, .slice A0_2 l0_2.length c0_2], .int .i64 a1] w fun e w' => ∃ v0_ : Value, e = .returned (v0_) ∧ Kd.R k52 52 w' w.heap.size (fun _ => True) v0_ r ∧ Below w.heap.size w w' := by
 have hu30 := Try.underlying30
 have hu52 := Try.underlying52
 have HR0_1 := yam hr0_1
 have HC0_1 := yam hc0_1
 clear hr0_1 hc0_1
 have HR0_2 := yam hr0_2
 have HC0_2 := yam hc0_2
 clear hr0_2 hc0_2
 have HB := yam (Below.refl w.heap.size w)
 have H : ((some (([] : List (S52)) : List (S52))).bind fun y312 => ((spec_PuzzleValid.f k a0_0 l0_1 l0_2).bind fun t315 => (if t315 = true then ((spec_l1In.f a1 1 4).bind fun t316 => (spec_SolveSteps.j0 k a1 y312 (!t316) a0_0 l0_1 l0_2)) else (spec_SolveSteps.j0 k a1 y312 true a0_0 l0_1 l0_2)))) = some r := h
 clear h
 obtain ⟨y312, hy312⟩ : ∃ y_ : List (S52), y_ = (([] : List (S52))) := ⟨_, rfl⟩
 replace H : ((spec_PuzzleValid.f k a0_0 l0_1 l0_2).bind fun t315 => (if t315 = true then ((spec_l1In.f a1 1 4).bind fun t316 => (spec_SolveSteps.j0 k a1 y312 (!t316) a0_0 l0_1 l0_2)) else (spec_SolveSteps.j0 k a1 y312 true a0_0 l0_1 l0_2))) = some r := by first | (rw [hy312]; with_reducible exact H) | (have H2_ := (Option.bind_some _ _).symm.trans H; rw [hy312]; with_reducible exact H2_) | (have H2_ := (Option.bind_some _ _).symm.trans H; with_reducible exact H2_) | with_reducible exact H | (rw [hy312]; exact H) | exact H
 have Ny312 := yam hy312
 clear hy312
 have HC3 := yam H
 clear H
 go_enter Try.func18, Try.ntmps18
 go_upto_region 2 with (first | (refine ybe 2 #[.int .i64 a0_0, .slice A0_1 l0_1.length c0_1, .slice A0_2 l0_2.length c0_2] 30 ?_; intro gb311 hg w4 hbox hb; have n0_ := yam (below_step (yez HB.out) hb); have n1_ := yam (hbox); have n2_ := yam ((by rw [hg]; exact (below_size (yez HB.out)) : w.heap.size ≤ gb311)); have n3_ := n2_; clear HB; have HB := n0_; have BK311 := n1_; have GW311 := n2_; have GE311 := n3_; clear n0_ n1_ n2_ n3_; clear hb hbox hg) | ((with_reducible refine gate_dst (N := 9) rfl ?_); refine Kd.R_lit k52 _ 52 ?hg (N := 9) ?hd (xs := ([] : List (S52))) (inner := []) (ok := fun _ => True) (okp := fun _ => True) ?hr ?hp (fun _ hk => hk) trivial (Below.refl _ _) (Nat.le_refl _) (by simp) ?_; (case hd => rfl); (case hg => rfl); (case hr => first | (go_simp; done) | (go_simp; rfl)); (case hp => exact (Reps.none _ _)); intro v313 w5 ho6 hb hg_ hnew_; clear hg_ hnew_; (first | rw [← Ny312.out] at ho6 | (simp only [Int.reduceToNat] at ho6; rw [← Ny312.out] at ho6)); have n0_ := yam (Kd.R_lower ho6 (below_size yhb)); have n1_ := yam (blk_below (g := gb311) (o := .cells #[.int .i64 a0_0, .slice A0_1 l0_1.length c0_1, .slice A0_2 l0_2.length c0_2] 30 (0, 0)) (ybz BK311.out) hb); have n2_ := yam (below_step yhb hb); clear BK311; clear HB; have HO314 := n0_; have BK311 := n1_; have HB := n2_; clear n0_ n1_ n2_; clear hb ho6))
 (try simp only [Act.put, yps])
 go_cut [17] (fun v17 wc => ∃ (kq : Nat) (x17_2 : Bool), v17 = .bool x17_2 ∧ Aside0 (spec_SolveSteps.j0 kq a1 y312 x17_2 a0_0 l0_1 l0_2 = some r) ∧ Aside0 (kq ≤ k) ∧ Aside0 (Kd.R k52 52 wc w.heap.size (fun _ => True) v313 y312) ∧ Aside0 (wc.heap[gb311]? = some (.cells #[.int .i64 a0_0, (.slice A0_1 l0_1.length c0_1), (.slice A0_2 l0_2.length c0_2)] 30 (0, 0))) ∧ Aside0 (Below w.heap.size w wc))
 case first =>
  have H := HC3.out
  clear HC3
  replace H := Option.bind_eq_some_iff.mp H
  obtain ⟨t315, A70, H⟩ := H
  try dsimp only at H
  have A7 := yam A70
  clear A70
  by_cases c8 : t315 = true
  rotate_left
  ·replace c8 := Bool.eq_false_iff.mpr c8
   subst c8
   have H1 : (spec_SolveSteps.j0 k a1 y312 true a0_0 l0_1 l0_2) = some r := by rw [if_neg (show ¬ (false = true) by decide)] at H; exact H
   clear H
   have H := H1
   clear H1
   have H' := yam H
   clear H
   obtain ⟨hcz12_0, hcz12_1, hcz12_2, hfz12_0, hfz12_1, hfz12_2⟩ := ybc BK311.out
   go_wp2_with (first | (refine goesL_ (some 11) rfl rfl Try.func34 (by kernel_rfl) rfl #[.agg #[.int .i64 a0_0, .slice A0_1 l0_1.length c0_1, .slice A0_2 l0_2.length c0_2]] rfl ymd ?_; (with_reducible refine (spec_PuzzleValid.calls k a0_0 _ _ l0_1 _ _ l0_2 false _ ?side1 ?side2 ?side3 ?side4 A7.out).mono ?_); (case side1 => exact Kd.Cz ((Kd.C_below HR0_1.out HB.out))); (case side2 => exact HC0_1.out); (case side3 => exact Kd.Cz ((Kd.C_below HR0_2.out HB.out))); (case side4 => exact HC0_2.out); rintro e w13 ⟨rfl, hb⟩; refine ⟨_, rfl, ?_⟩; have n0_ := yam (Kd.R_below (Kd.Yz HO314.out) hb); have n1_ := yam (blk_below (g := gb311) (o := .cells #[.int .i64 a0_0, .slice A0_1 l0_1.length c0_1, .slice A0_2 l0_2.length c0_2] 30 (0, 0)) (ybz BK311.out) hb); have n2_ := yam (below_step yhb hb); clear HO314; clear BK311; clear HB; have HO314 := n0_; have BK311 := n1_; have HB := n2_; clear n0_ n1_ n2_; (try clear hb); (try clear hb2); (try clear hk); (try clear hi)))
   go_meet
   case rel => exact ⟨_, (true), yeq, H', ⟨by first | omega | exact Nat.le_refl _⟩, ⟨yka HO314.out⟩, ⟨by (with_reducible repeat (first | refine ybn ?_ _ | refine ybd ?_ | refine yba ?_ _)); exact BK311.out⟩, ⟨yhb⟩⟩
  subst c8
  have H1 : ((spec_l1In.f a1 1 4).bind fun t316 => (spec_SolveSteps.j0 k a1 y312 (!t316) a0_0 l0_1 l0_2)) = some r := by rw [if_pos rfl] at H; exact H
  clear H
  have H := H1
  clear H1
  replace H := Option.bind_eq_some_iff.mp H
  obtain ⟨t316, A90, H⟩ := H
  try dsimp only at H
  have A9 := yam A90
  clear A90
  have H' := yam H
  clear H
  obtain ⟨hcz10_0, hcz10_1, hcz10_2, hfz10_0, hfz10_1, hfz10_2⟩ := ybc BK311.out
  go_wp2_with (first | (refine goesL_ (some 11) rfl rfl Try.func34 (by kernel_rfl) rfl #[.agg #[.int .i64 a0_0, .slice A0_1 l0_1.length c0_1, .slice A0_2 l0_2.length c0_2]] rfl ymd ?_; (with_reducible refine (spec_PuzzleValid.calls k a0_0 _ _ l0_1 _ _ l0_2 true _ ?side1 ?side2 ?side3 ?side4 A7.out).mono ?_); (case side1 => exact Kd.Cz ((Kd.C_below HR0_1.out HB.out))); (case side2 => exact HC0_1.out); (case side3 => exact Kd.Cz ((Kd.C_below HR0_2.out HB.out))); (case side4 => exact HC0_2.out); rintro e w11 ⟨rfl, hb⟩; refine ⟨_, rfl, ?_⟩; have n0_ := yam (Kd.R_below (Kd.Yz HO314.out) hb); have n1_ := yam (blk_below (g := gb311) (o := .cells #[.int .i64 a0_0, .slice A0_1 l0_1.length c0_1, .slice A0_2 l0_2.length c0_2] 30 (0, 0)) (ybz BK311.out) hb); have n2_ := yam (below_step yhb hb); clear HO314; clear BK311; clear HB; have HO314 := n0_; have BK311 := n1_; have HB := n2_; clear n0_ n1_ n2_; (try clear hb); (try clear hb2); (try clear hk); (try clear hi)) | (go_at_call 39; (with_reducible refine (spec_l1In.calls a1 1 4 t316 _ A9.out).mono ?_); rintro e w' ⟨rfl, ⟨nd, rfl⟩⟩))
  go_meet
  case rel => exact ⟨_, (!t316), yeq, H', ⟨by first | omega | exact Nat.le_refl _⟩, ⟨yka HO314.out⟩, ⟨by (with_reducible repeat (first | refine ybn ?_ _ | refine ybd ?_ | refine yba ?_ _)); exact BK311.out⟩, ⟨yhb⟩⟩
 case rest =>
  clear HC3
  try clear c1
  try clear p2
  try clear c3
  try clear c8
  try clear hcz10_0
  try clear hcz10_1
  try clear hcz10_2
  try clear hcz12_0
  try clear hcz12_1
  try clear hcz12_2
  try clear hfz10_0
  try clear hfz10_1
  try clear hfz10_2
  try clear hfz12_0
  try clear hfz12_1
  try clear hfz12_2
  obtain ⟨kq, x17_2, rfl, HA, HJ2, HO_5, BK311, HB⟩ := hcut
  cases kq with
  | zero => exact absurd HA.out (by simp [spec_SolveSteps.j0])
  | succ kj2 =>
   have H := HA.out
   clear HA
   simp only [spec_SolveSteps.j0] at H
   by_cases c14 : x17_2 = true
   ·subst c14
    have H1 : (some y312) = some r := by rw [if_pos rfl] at H; exact H
    clear H
    have H := H1
    clear H1
    obtain rfl := Option.some.inj H
    go_wp2
    go_ret
    exact ⟨_, yer, yka HO_5.out, yhb⟩
   replace c14 := Bool.eq_false_iff.mpr c14
   subst c14
   have H1 : ((spec_StartMasks.f kj2 a0_0 l0_1 l0_2).bind fun t317 => (spec_SolveSteps.l0 kj2 a1 y312 t317 1 a0_0 l0_1 l0_2)) = some r := by rw [if_neg (show ¬ (false = true) by decide)] at H; exact H
   clear H
   have H := H1
   clear H1
   replace H := Option.bind_eq_some_iff.mp H
   obtain ⟨t317, A150, H⟩ := H
   try dsimp only at H
   have A15 := yam A150
   clear A150
   have H' := yam H
   clear H
   obtain ⟨hcz16_0, hcz16_1, hcz16_2, hfz16_0, hfz16_1, hfz16_2⟩ := ybc BK311.out
   go_wp2_with (first | (refine goesL_ (some 20) rfl rfl Try.func40 (by kernel_rfl) rfl #[.agg #[.int .i64 a0_0, .slice A0_1 l0_1.length c0_1, .slice A0_2 l0_2.length c0_2]] rfl ymd ?_; (with_reducible refine (spec_StartMasks.calls kj2 a0_0 _ _ l0_1 _ _ l0_2 t317 _ ?side1 ?side2 ?side3 ?side4 A15.out).mono ?_); (case side1 => exact Kd.Cz ((Kd.C_below HR0_1.out HB.out))); (case side2 => exact HC0_1.out); (case side3 => exact Kd.Cz ((Kd.C_below HR0_2.out HB.out))); (case side4 => exact HC0_2.out); rintro e w17 ⟨v318, rfl, ho0, hb⟩; refine ⟨_, rfl, ?_⟩; have n0_ := yam (Kd.R_below (Kd.Yz HO_5.out) hb); have n1_ := yam (Kd.R_lower ho0 (below_size yhb)); have n2_ := yam (blk_below (g := gb311) (o := .cells #[.int .i64 a0_0, .slice A0_1 l0_1.length c0_1, .slice A0_2 l0_2.length c0_2] 30 (0, 0)) (ybz BK311.out) hb); have n3_ := yam (below_step yhb hb); clear HO_5; clear BK311; clear HB; have HO_5 := n0_; have HO319 := n1_; have BK311 := n2_; have HB := n3_; clear n0_ n1_ n2_ n3_; (try clear hb); (try clear hb2); (try clear hk); (try clear hi); (try clear ho0)))
   go_loopg [5, 6, 7] kj2 (fun kq v5 v6 v7 w' => ∃ (x5_2 : List (S52)) (x6_2 : List Int) (x7_2 : Int), v7 = .int .i64 x7_2 ∧ Aside0 (spec_SolveSteps.l0 kq a1 x5_2 x6_2 x7_2 a0_0 l0_1 l0_2 = some r) ∧ Aside0 (kq ≤ kj2) ∧ Aside0 (Kd.R k52 52 w' w.heap.size (fun _ => True) v5 x5_2) ∧ Aside0 (Kd.R (Kd.int .i64) 3 w' w.heap.size (fun _ => True) v6 x6_2) ∧ Aside0 (w'.heap[gb311]? = some (.cells #[.int .i64 a0_0, (.slice A0_1 l0_1.length c0_1), (.slice A0_2 l0_2.length c0_2)] 30 (0, 0))) ∧ Aside0 (Below w.heap.size w w'))
   case atStart => exact ⟨(y312), (t317), (1), yeq, H', ⟨Nat.le_refl _⟩, ⟨yka HO_5.out⟩, ⟨yka HO319.out⟩, ⟨by (with_reducible repeat (first | refine ybn ?_ _ | refine ybd ?_ | refine yba ?_ _)); exact BK311.out⟩, ⟨yhb⟩⟩
   case round =>
    clear H'
    try clear c1
    try clear p2
    try clear c3
    try clear c4
    try clear c8
    try clear c14
    try clear hcz10_0
    try clear hcz10_1
    try clear hcz10_2
    try clear hcz12_0
    try clear hcz12_1
    try clear hcz12_2
    try clear hcz16_0
    try clear hcz16_1
    try clear hcz16_2
    try clear hfz10_0
    try clear hfz10_1
    try clear hfz10_2
    try clear hfz12_0
    try clear hfz12_1
    try clear hfz12_2
    try clear hfz16_0
    try clear hfz16_1
    try clear hfz16_2
    try clear p2
    obtain ⟨x5_2, x6_2, x7_2, rfl, HA, HK2, HO_5, HO_6, BK311, HB⟩ := hrel
    cases gk with
    | zero => exact absurd HA.out (by simp [spec_SolveSteps.l0])
    | succ k2 =>
     have H := HA.out
     clear HA
     simp only [spec_SolveSteps.l0] at H
     by_cases c18 : x7_2 ≤ a1
     rotate_left
     ·rw [if_neg c18] at H
      have c18b0 : decide (x7_2 ≤ a1) = false := decide_eq_false c18
      clear c18
      obtain rfl := Option.some.inj H
      go_wp2
      go_ret
      exact ⟨_, yer, yka HO_5.out, yhb⟩

     rw [if_pos c18] at H
     have c18b0 : decide (x7_2 ≤ a1) = true := decide_eq_true c18
     clear c18
     replace H := Option.bind_eq_some_iff.mp H
     obtain ⟨t320, A190, H⟩ := H
     try dsimp only at H
     have A19 := yam A190
     clear A190
     replace H := Option.bind_eq_some_iff.mp H
     obtain ⟨t323, A200, H⟩ := H
     try dsimp only at H
     have A20 := yam A200
     clear A200
     by_cases c21 : t323 = true
     ·subst c21
      have H1 : (spec_SolveSteps.l0 k2 a1 x5_2 x6_2 (wrap64 (x7_2 + 1)) a0_0 l0_1 l0_2) = some r := by rw [if_pos rfl] at H; exact H
      clear H
      have H := H1
      clear H1
      have H' := yam H
      clear H
      obtain ⟨hcz22_0, hcz22_1, hcz22_2, hfz22_0, hfz22_1, hfz22_2⟩ := ybc BK311.out
      obtain ⟨Ao23, co23, eo23⟩ := Kd.R_slice HO_6.out
      subst eo23
      go_wp2_with (first | (refine goesL_ (some 27) rfl rfl Try.func25 (by kernel_rfl) rfl #[.agg #[.int .i64 a0_0, .slice A0_1 l0_1.length c0_1, .slice A0_2 l0_2.length c0_2], .slice Ao23 x6_2.length co23, .int .i64 x7_2] rfl ymd ?_; (with_reducible refine (spec_NarrowBy.calls k2 a0_0 _ _ l0_1 _ _ l0_2 _ _ x6_2 x7_2 t320 _ ?side1 ?side2 ?side3 ?side4 ?side5 ?side6 A19.out).mono ?_); (case side1 => exact Kd.Cz ((Kd.C_below HR0_1.out HB.out))); (case side2 => exact HC0_1.out); (case side3 => exact Kd.Cz ((Kd.C_below HR0_2.out HB.out))); (case side4 => exact HC0_2.out); (case side5 => repeat (first | exact (Kd.Yr HO_6.out).2.2 | (with_reducible refine Kd.C_alloc ?_ _) | (with_reducible refine Kd.C_drewN ?_ _) | (with_reducible refine Kd.C_drew ?_))); (case side6 => exact (Kd.Yr HO_6.out).2.1); rintro e w24 ⟨v321, rfl, ho0, hb⟩; refine ⟨_, rfl, ?_⟩; have n0_ := yam (Kd.R_below (Kd.Yz HO_5.out) hb); have n1_ := yam (Kd.Ye (Kd.Yz HO_6.out) (Kd.Yb ho0) hb); have n2_ := yam (Kd.R_lower (Kd.Yw ho0 (Kd.R_lt (Kd.Yz HO_6.out))) (below_size yhb)); have n3_ := yam (blk_below (g := gb311) (o := .cells #[.int .i64 a0_0, .slice A0_1 l0_1.length c0_1, .slice A0_2 l0_2.length c0_2] 30 (0, 0)) (ybz BK311.out) hb); have n4_ := yam (below_step yhb hb); clear HO_5; clear HO_6; clear BK311; clear HB; have HO_5 := n0_; have HO_6 := n1_; have HO322 := n2_; have BK311 := n3_; have HB := n4_; clear n0_ n1_ n2_ n3_ n4_; (try clear hb); (try clear hb2); (try clear hk); (try clear hi); (try clear ho0); obtain ⟨Ao25, co25, eo25⟩ := Kd.R_slice HO322.out; subst eo25) | (refine goesL_ (some 30) rfl rfl Try.func41 (by kernel_rfl) rfl #[.slice Ao25 t320.length co25, .slice Ao23 x6_2.length co23] rfl ymd ?_; (with_reducible refine (spec_l8Same.calls k2 _ _ t320 _ _ x6_2 true _ ?side1 ?side2 ?side3 ?side4 A20.out).mono ?_); (case side1 => repeat (first | exact (Kd.Yr HO322.out).2.2 | (with_reducible refine Kd.C_alloc ?_ _) | (with_reducible refine Kd.C_drewN ?_ _) | (with_reducible refine Kd.C_drew ?_))); (case side2 => exact (Kd.Yr HO322.out).2.1); (case side3 => repeat (first | exact (Kd.Yr HO_6.out).2.2 | (with_reducible refine Kd.C_alloc ?_ _) | (with_reducible refine Kd.C_drewN ?_ _) | (with_reducible refine Kd.C_drew ?_))); (case side4 => exact (Kd.Yr HO_6.out).2.1); rintro e w' ⟨rfl, ⟨nd, rfl⟩⟩; refine ⟨_, rfl, ?_⟩))
      go_roundg k2
      case measure => have := HJ2.out; have := HK2.out; omega
      case rel => exact ⟨(x5_2), (x6_2), (wrap64 (x7_2 + 1)), yeq, H', ⟨by have := HJ2.out; have := HK2.out; omega⟩, ⟨yka HO_5.out⟩, ⟨by (with_reducible repeat (first | apply Kd.Ya | apply Kd.Yn | apply Kd.Yd)); exact Kd.R_mono HO_6.out (fun _ hk => trivial)⟩, ⟨by (with_reducible repeat (first | refine ybn ?_ _ | refine ybd ?_ | refine yba ?_ _)); exact BK311.out⟩, ⟨yhb⟩⟩
     replace c21 := Bool.eq_false_iff.mpr c21
     subst c21
     have H1 : ((spec_MasksCount.f k2 t320 a0_0).bind fun t324 => (if x5_2.length < 8796093022208 then (spec_SolveSteps.l0 k2 a1 (x5_2 ++ [(⟨x7_2, t324⟩ : S52)]) t320 1 a0_0 l0_1 l0_2) else (none))) = some r := by rw [if_neg (show ¬ (false = true) by decide)] at H; exact H
     clear H
     have H := H1
     clear H1
     replace H := Option.bind_eq_some_iff.mp H
     obtain ⟨t324, A260, H⟩ := H
     try dsimp only at H
     have A26 := yam A260
     clear A260
     replace H := yig H
     obtain ⟨c27, H⟩ := H
     have LMc27 := yam c27
     clear c27
     obtain ⟨y325, hy325⟩ : ∃ y_ : List (S52), y_ = (x5_2 ++ [(⟨x7_2, t324⟩ : S52)]) := ⟨_, rfl⟩
     replace H : (spec_SolveSteps.l0 k2 a1 y325 t320 1 a0_0 l0_1 l0_2) = some r := by first | (rw [hy325]; with_reducible exact H) | (have H2_ := (Option.bind_some _ _).symm.trans H; rw [hy325]; with_reducible exact H2_) | (have H2_ := (Option.bind_some _ _).symm.trans H; with_reducible exact H2_) | with_reducible exact H | (rw [hy325]; exact H) | exact H
     have Ny325 := yam hy325
     clear hy325
     have H' := yam H
     clear H
     obtain ⟨hcz28_0, hcz28_1, hcz28_2, hfz28_0, hfz28_1, hfz28_2⟩ := ybc BK311.out
     obtain ⟨Ao29, co29, eo29⟩ := Kd.R_slice HO_6.out
     subst eo29
     go_wp2_with (first | (refine goesL_ (some 27) rfl rfl Try.func25 (by kernel_rfl) rfl #[.agg #[.int .i64 a0_0, .slice A0_1 l0_1.length c0_1, .slice A0_2 l0_2.length c0_2], .slice Ao29 x6_2.length co29, .int .i64 x7_2] rfl ymd ?_; (with_reducible refine (spec_NarrowBy.calls k2 a0_0 _ _ l0_1 _ _ l0_2 _ _ x6_2 x7_2 t320 _ ?side1 ?side2 ?side3 ?side4 ?side5 ?side6 A19.out).mono ?_); (case side1 => exact Kd.Cz ((Kd.C_below HR0_1.out HB.out))); (case side2 => exact HC0_1.out); (case side3 => exact Kd.Cz ((Kd.C_below HR0_2.out HB.out))); (case side4 => exact HC0_2.out); (case side5 => repeat (first | exact (Kd.Yr HO_6.out).2.2 | (with_reducible refine Kd.C_alloc ?_ _) | (with_reducible refine Kd.C_drewN ?_ _) | (with_reducible refine Kd.C_drew ?_))); (case side6 => exact (Kd.Yr HO_6.out).2.1); rintro e w30 ⟨v321, rfl, ho0, hb⟩; refine ⟨_, rfl, ?_⟩; have n0_ := yam (Kd.R_below (Kd.Yz HO_5.out) hb); have n1_ := yam (Kd.Ye (Kd.Yz HO_6.out) (Kd.Yb ho0) hb); have n2_ := yam (Kd.R_lower (Kd.Yw ho0 (Kd.R_lt (Kd.Yz HO_6.out))) (below_size yhb)); have n3_ := yam (blk_below (g := gb311) (o := .cells #[.int .i64 a0_0, .slice A0_1 l0_1.length c0_1, .slice A0_2 l0_2.length c0_2] 30 (0, 0)) (ybz BK311.out) hb); have n4_ := yam (below_step yhb hb); clear HO_5; clear HO_6; clear BK311; clear HB; have HO_5 := n0_; have HO_6 := n1_; have HO322 := n2_; have BK311 := n3_; have HB := n4_; clear n0_ n1_ n2_ n3_ n4_; (try clear hb); (try clear hb2); (try clear hk); (try clear hi); (try clear ho0); obtain ⟨Ao31, co31, eo31⟩ := Kd.R_slice HO322.out; subst eo31) | (refine goesL_ (some 30) rfl rfl Try.func41 (by kernel_rfl) rfl #[.slice Ao31 t320.length co31, .slice Ao29 x6_2.length co29] rfl ymd ?_; (with_reducible refine (spec_l8Same.calls k2 _ _ t320 _ _ x6_2 false _ ?side1 ?side2 ?side3 ?side4 A20.out).mono ?_); (case side1 => repeat (first | exact (Kd.Yr HO322.out).2.2 | (with_reducible refine Kd.C_alloc ?_ _) | (with_reducible refine Kd.C_drewN ?_ _) | (with_reducible refine Kd.C_drew ?_))); (case side2 => exact (Kd.Yr HO322.out).2.1); (case side3 => repeat (first | exact (Kd.Yr HO_6.out).2.2 | (with_reducible refine Kd.C_alloc ?_ _) | (with_reducible refine Kd.C_drewN ?_ _) | (with_reducible refine Kd.C_drew ?_))); (case side4 => exact (Kd.Yr HO_6.out).2.1); rintro e w' ⟨rfl, ⟨nd, rfl⟩⟩; refine ⟨_, rfl, ?_⟩; obtain ⟨hcz32_0, hcz32_1, hcz32_2, hfz32_0, hfz32_1, hfz32_2⟩ := ybc BK311.out) | (refine goesL_ (some 39) rfl rfl Try.func42 (by kernel_rfl) rfl #[.slice Ao31 t320.length co31, .int .i64 a0_0] rfl ymd ?_; (with_reducible refine (spec_MasksCount.calls k2 _ _ t320 a0_0 t324 _ ?side1 ?side2 A26.out).mono ?_); (case side1 => repeat (first | exact (Kd.Yr HO322.out).2.2 | (with_reducible refine Kd.C_alloc ?_ _) | (with_reducible refine Kd.C_drewN ?_ _) | (with_reducible refine Kd.C_drew ?_))); (case side2 => exact (Kd.Yr HO322.out).2.1); rintro e w33 ⟨rfl, hb⟩; refine ⟨_, rfl, ?_⟩; have n0_ := yam (Kd.R_below (Kd.Yz HO_5.out) hb); have n1_ := yam (Kd.R_below (Kd.Yz HO_6.out) hb); have n2_ := yam (Kd.R_below (Kd.Yz HO322.out) hb); have n3_ := yam (blk_below (g := gb311) (o := .cells #[.int .i64 a0_0, .slice A0_1 l0_1.length c0_1, .slice A0_2 l0_2.length c0_2] 30 (0, 0)) (ybz BK311.out) hb); have n4_ := yam (below_step yhb hb); clear HO_5; clear HO_6; clear HO322; clear BK311; clear HB; have HO_5 := n0_; have HO_6 := n1_; have HO322 := n2_; have BK311 := n3_; have HB := n4_; clear n0_ n1_ n2_ n3_ n4_; (try clear hb); (try clear hb2); (try clear hk); (try clear hi)) | ((with_reducible refine gate_builtin (b := .append) (xs := #[.tmp 34, .tmp 41]) rfl ?_); at_builtin; refine Kd.R_append k52 (w0 := w) w.heap.size rfl (.tmp 34) (.tmp 41) 37 52 (.agg #[(.int .i64 0), (.int .i64 0)]) 16 rfl Try.underlying37 info52 rfl (by decide) (by omega) u5 x5_2 (⟨x7_2, t324⟩ : S52) [.int .i64 x7_2, .int .i64 t324] (fun _ => True) (fun _ => False) rfl rfl ?aP (fun _ hk => hk.elim) ?aF ?aO ?aB ?aS ?aL ?_; (case aP => exact k52_mkM _ _ _ (⟨x7_2, t324⟩ : S52)); (case aB => exact yhb); (case aF => exact (fun _ _ => trivial)); (case aO => exact (Kd.Yz HO_5.out)); (case aS => exact (below_size yhb)); (case aL => have := LMc27.out; omega); intro v326 w34 ho hb hg hat; rw [← Ny325.out] at ho; have n0_ := yam (Kd.R_over' (Kd.Yz HO_6.out) (Kd.R_typed (Kd.Yz HO_5.out)) (by decide) hg); have n1_ := yam (blk_grown (g := gb311) (o := .cells #[.int .i64 a0_0, .slice A0_1 l0_1.length c0_1, .slice A0_2 l0_2.length c0_2] 30 (0, 0)) (ybz BK311.out) hg (Kd.R_ne HO_5.out BK311.out (by decide))); have n2_ := yam (Kd.R_over' (Kd.Yz HO322.out) (Kd.R_typed (Kd.Yz HO_5.out)) (by decide) hg); have n3_ := yam (hb); have n4_ := yam (ho); clear HO_6; clear BK311; clear HO322; clear HB; clear HO_5; have HO_6 := n0_; have BK311 := n1_; have HO322 := n2_; have HB := n3_; have HO327 := n4_; clear n0_ n1_ n2_ n3_ n4_; clear ho hb hg hat))
     go_roundg k2
     case measure => have := HJ2.out; have := HK2.out; omega
     case rel => exact ⟨(y325), (t320), (1), yeq, H', ⟨by have := HJ2.out; have := HK2.out; omega⟩, ⟨yka HO327.out⟩, ⟨by (with_reducible repeat (first | apply Kd.Ya | apply Kd.Yn | apply Kd.Yd)); exact Kd.R_mono HO322.out (fun _ hk => trivial)⟩, ⟨by (with_reducible repeat (first | refine ybn ?_ _ | refine ybd ?_ | refine yba ?_ _)); exact BK311.out⟩, ⟨yhb⟩⟩
def laws_toIntS.l0 : Nat → List Int → List Int → Int → Option (List Int)
 | 0, _, _, _ => none
 | k + 1, x0, x3, x4 => if x4 < (x0.length : Int) then (if 0 ≤ x4 then (if x4 < (x3.length : Int) then (laws_toIntS.l0 k x0 (x3.set (x4 : Int).toNat (rd x0 x4)) (wrap64 (x4 + 1))) else (none)) else (none)) else (some x3)
def laws_toIntS.f (k : Nat) (l0 : List Int) : Option (List Int) := if 0 ≤ (l0.length : Int) then (if ((l0.length : Int) : Int).toNat ≤ 35184372088832 then (laws_toIntS.l0 k l0 (List.replicate ((l0.length : Int) : Int).toNat 0) 0) else (none)) else (none)
set_option maxHeartbeats 8000000 in
set_option maxRecDepth 100000 in
theorem laws_toIntS.calls (k : Nat) (A0 : Option Addr) (c0 : Nat) (l0 : List Int) (r : List Int) (w : World) (hr0 : Kd.C (Kd.int .i64) w A0 l0.length l0) (hc0 : l0.length ≤ c0) (h : laws_toIntS.f k l0 = some r) :
  Calls Try.prog 26 #[.slice A0 l0.length c0] w fun e w' => ∃ v0_ : Value, e = .returned (v0_) ∧ Kd.R (Kd.int .i64) 3 w' w.heap.size (fun _ => True) v0_ r ∧ Below w.heap.size w w' := by
 have HR0 := yam hr0
 have HC0 := yam hc0
 clear hr0 hc0
 have HB := yam (Below.refl w.heap.size w)
 have H : (if 0 ≤ (l0.length : Int) then (if ((l0.length : Int) : Int).toNat ≤ 35184372088832 then (laws_toIntS.l0 k l0 (List.replicate ((l0.length : Int) : Int).toNat 0) 0) else (none)) else (none)) = some r := h
 clear h
 by_cases c2 : 0 ≤ (l0.length : Int)
 rotate_left
 ·rw [if_neg c2] at H
  exact absurd H (by simp)

 rw [if_pos c2] at H
 have c2b0 := eq_true c2
 have c2b1 : decide (0 ≤ (l0.length : Int)) = true := decide_eq_true c2
 clear c2
 replace H := yig H
 obtain ⟨c3, H⟩ := H
 have c3b0 := eq_true c3
 have c3b1 : decide (((l0.length : Int) : Int).toNat ≤ 35184372088832) = true := decide_eq_true c3
 clear c3
 obtain ⟨y343, hy343⟩ : ∃ y_ : List Int, y_ = (List.replicate ((l0.length : Int) : Int).toNat 0) := ⟨_, rfl⟩
 replace H : (laws_toIntS.l0 k l0 y343 0) = some r := by first | (rw [hy343]; with_reducible exact H) | (have H2_ := (Option.bind_some _ _).symm.trans H; rw [hy343]; with_reducible exact H2_) | (have H2_ := (Option.bind_some _ _).symm.trans H; with_reducible exact H2_) | with_reducible exact H | (rw [hy343]; exact H) | exact H
 have Ny343 := yam hy343
 clear hy343
 have H' := yam H
 clear H
 go_enter Try.func26, Try.ntmps26
 go_wp2_with (first | ((with_reducible refine gate_dst (N := 7) rfl ?_); refine Kd.R_make (Kd.int .i64) _ 3 rfl (N := 7) rfl 22 _ _ rfl (l0.length : Int) rfl rfl Try.underlying22 (.int .i64 0) 8 info3 rfl (by decide) (by omega) 0 (ok := fun _ => True) (okp := fun _ => True) rfl (fun _ hk => hk) trivial (ydt) (Nat.le_trans (Nat.mul_le_mul_right _ (ydt : (l0.length : Int).toNat ≤ 35184372088832)) (by omega)) (Below.refl _ _) (Nat.le_refl _) ?_; intro v344 w4 ho5 hb hg_ hnew_; clear hg_ hnew_; (first | rw [← Ny343.out] at ho5 | (simp only [Int.reduceToNat] at ho5; rw [← Ny343.out] at ho5)); have n0_ := yam (Kd.R_lower ho5 (below_size (yez HB.out))); have n1_ := yam (below_step (yez HB.out) hb); clear HB; have HO345 := n0_; have HB := n1_; clear n0_ n1_; clear hb ho5))
 go_loopg [4] k (fun kq v4 w' => ∃ (x3_1 : List Int) (x4_1 : Int), v4 = .int .i64 x4_1 ∧ Aside0 (laws_toIntS.l0 kq l0 x3_1 x4_1 = some r) ∧ Aside0 (kq ≤ k) ∧ Aside0 (Kd.R (Kd.int .i64) 3 w' w.heap.size (fun _ => True) v344 x3_1) ∧ Aside0 (Below w.heap.size w w'))
 case atStart => exact ⟨(y343), (0), yeq, H', ⟨Nat.le_refl _⟩, ⟨yka HO345.out⟩, ⟨yhb⟩⟩
 case round =>
  clear H'
  try clear c2
  try clear c2b0
  try clear c2b1
  try clear p2
  try clear c3
  try clear c3b0
  try clear c3b1
  obtain ⟨x3_1, x4_1, rfl, HA, HK1, HO_3, HB⟩ := hrel
  cases gk with
  | zero => exact absurd HA.out (by simp [laws_toIntS.l0])
  | succ k1 =>
   have H := HA.out
   clear HA
   simp only [laws_toIntS.l0] at H
   by_cases c6 : x4_1 < (l0.length : Int)
   rotate_left
   ·rw [if_neg c6] at H
    have c6b0 : decide (x4_1 < (l0.length : Int)) = false := decide_eq_false c6
    clear c6
    obtain rfl := Option.some.inj H
    go_wp2
    go_ret
    exact ⟨_, yer, yka HO_3.out, yhb⟩
   rw [if_pos c6] at H
   have c6b0 : decide (x4_1 < (l0.length : Int)) = true := decide_eq_true c6
   clear c6
   replace H := yif H
   obtain ⟨c7b0, H⟩ := H
   replace H := yif H
   obtain ⟨c8b0, H⟩ := H
   obtain ⟨y347, hy347⟩ : ∃ y_ : List Int, y_ = (x3_1.set (x4_1 : Int).toNat (rd l0 x4_1)) := ⟨_, rfl⟩
   replace H : (laws_toIntS.l0 k1 l0 y347 (wrap64 (x4_1 + 1))) = some r := by first | (rw [hy347]; with_reducible exact H) | (have H2_ := (Option.bind_some _ _).symm.trans H; rw [hy347]; with_reducible exact H2_) | (have H2_ := (Option.bind_some _ _).symm.trans H; with_reducible exact H2_) | with_reducible exact H | (rw [hy347]; exact H) | exact H
   have Ny347 := yam hy347
   clear hy347
   have H' := yam H
   clear H
   have p346 : 0 ≤ (x4_1 : Int) := ydt
   have q346 : x4_1 < (l0.length : Int) := ydt
   obtain ⟨ad346, e346, hx346_0⟩ := Kd.at_int HR0.out x4_1 p346 q346
   cases e346
   replace hx346_0 := ybx HB.out hx346_0
   replace p346 := eq_true p346
   replace q346 := eq_true q346
   have p9 : 0 ≤ (x4_1 : Int) := ydt
   have q9 : (x4_1 : Int) < ((x3_1.length : Int) : Int) := ydt
   obtain ⟨go9, co9, eo9, gb9, gl9, cl9, HG9⟩ := Kd.R_form HO_3.out (by omega)
   (first | cases eo9 | (injection eo9 with ea_ en_ ec_; (first | subst ea_ | (injection ea_ with ea_; subst ea_)); subst ec_; clear en_))
   have GB9 := yam gb9
   have GG9 := yam HG9
   clear gb9 gl9 HG9
   obtain ⟨hx9_0, hf9_0⟩ := Kd.R_celln 0 HO_3.out (x4_1 : Int) p9 q9
   replace p9 := eq_true p9
   replace q9 := eq_true q9
   have HP10 := Kd.R_putg HO_3.out (x4_1 : Int) (rd l0 x4_1)
   go_wp2_with (first | ((with_reducible refine gate_store (t := 3) (p := 20) rfl ?_); refine store_event (t := 3) (p := 20) (v := ?vo_w11) (w1 := (wr.setCell ⟨go9, (x4_1 : Int).toNat, none⟩ (.int .i64 (rd l0 x4_1)))) ?hg ?ho ?hn ?hr ?_; (case ho => rfl); (case hg => rfl); (case hn => rfl); (case hr => first | (go_simp; done) | (go_simp; rfl)); intro w11 hw; have hg : wr.grownBy w11 (some go9) := (by rw [hw]; exact HP10.2); have hp_ : Kd.R (Kd.int .i64) 3 w11 w.heap.size (fun _ => True) (.slice (some ⟨go9, 0, none⟩) x3_1.length co9) y347 := (by rw [hw, Ny347.out]; exact HP10.1); clear HP10; have n0_ := yam (hp_); have n1_ := yam ((by rw [hw]; exact below_set (HB.out) GB9.out : Below w.heap.size w w11)); clear HO_3; clear HB; have HO_3 := n0_; have HB := n1_; clear n0_ n1_; clear hg hw hp_))
   go_roundg k1
   case measure => have := HK1.out; omega
   case rel => exact ⟨(y347), (wrap64 (x4_1 + 1)), yeq, H', ⟨by have := HK1.out; omega⟩, ⟨yka HO_3.out⟩, ⟨yhb⟩⟩
def laws_toRule.f (k : Nat) (a0_0 : Int) (l0_1 : List Int) (a0_2 : Int) : Option (Int × List Int × Int) := (laws_toIntS.f k l0_1).bind fun t351 => (some (a0_0, t351, a0_2))
set_option maxHeartbeats 8000000 in
set_option maxRecDepth 100000 in
theorem laws_toRule.calls (k : Nat) (a0_0 : Int) (A0_1 : Option Addr) (c0_1 : Nat) (l0_1 : List Int) (a0_2 : Int) (r1 : Int) (r2 : List Int) (r3 : Int) (w : World) (hr0_1 : Kd.C (Kd.int .i64) w A0_1 l0_1.length l0_1) (hc0_1 : l0_1.length ≤ c0_1) (h : laws_toRule.f k a0_0 l0_1 a0_2 = some (r1, r2, r3)) :
  Calls Try.prog 68 #[.agg #[.int .i64 a0_0, .slice A0_1 l0_1.length c0_1, .int .i64 a0_2]] w fun e w' => ∃ v1_ : Value, e = .returned (.agg #[.int .i64 r1, v1_, .int .i64 r3]) ∧ Kd.R (Kd.int .i64) 3 w' w.heap.size (fun _ => True) v1_ r2 ∧ Below w.heap.size w w' := by
 have hu65 := Try.underlying65
 have hu67 := Try.underlying67
 have HR0_1 := yam hr0_1
 have HC0_1 := yam hc0_1
 clear hr0_1 hc0_1
 have HB := yam (Below.refl w.heap.size w)
 have H : ((laws_toIntS.f k l0_1).bind fun t351 => (some (a0_0, t351, a0_2))) = some (r1, r2, r3) := h
 clear h
 replace H := Option.bind_eq_some_iff.mp H
 obtain ⟨t351, A20, H⟩ := H
 replace H : (some (a0_0, t351, a0_2)) = some (r1, r2, r3) := H
 have A2 := yam A20
 clear A20
 simp only [Option.some.injEq, Prod.mk.injEq] at H
 obtain ⟨rfl, rfl, rfl⟩ := H
 go_enter Try.func68, Try.ntmps68
 go_wp2_with (first | (refine ybe 1 #[.int .i64 a0_0, .slice A0_1 l0_1.length c0_1, .int .i64 a0_2] 65 ?_; intro gb348 hg w3 hbox hb; have n0_ := yam (below_step (yez HB.out) hb); have n1_ := yam (hbox); have n2_ := yam ((by rw [hg]; exact (below_size (yez HB.out)) : w.heap.size ≤ gb348)); have n3_ := n2_; clear HB; have HB := n0_; have BK348 := n1_; have GW348 := n2_; have GE348 := n3_; clear n0_ n1_ n2_ n3_; clear hb hbox hg) | (refine ybe 2 #[.int .i64 0, .slice none 0 0, .int .i64 0] 67 ?_; intro gb349 hg w4 hbox hb; have n0_ := yam (blk_below (g := gb348) (o := .cells #[.int .i64 a0_0, .slice A0_1 l0_1.length c0_1, .int .i64 a0_2] 65 (0, 0)) (ybz BK348.out) hb); have n1_ := yam (below_step yhb hb); have n2_ := yam (hbox); have n3_ := yam ((by rw [hg]; exact (below_size yhb) : w.heap.size ≤ gb349)); have n4_ := n3_; have n5_ := yam ((by rw [hg]; exact Nat.ne_of_lt (blk_lt (g := gb348) (o := .cells #[.int .i64 a0_0, .slice A0_1 l0_1.length c0_1, .int .i64 a0_2] 65 (0, 0)) (ybz BK348.out)) : gb348 ≠ gb349)); have n6_ := yam ((by rw [hg]; exact Nat.ne_of_gt (blk_lt (g := gb348) (o := .cells #[.int .i64 a0_0, .slice A0_1 l0_1.length c0_1, .int .i64 a0_2] 65 (0, 0)) (ybz BK348.out)) : gb349 ≠ gb348)); clear BK348; clear HB; have BK348 := n0_; have HB := n1_; have BK349 := n2_; have GW349 := n3_; have GE349 := n4_; have NB348_349 := n5_; have NB349_348 := n6_; clear n0_ n1_ n2_ n3_ n4_ n5_ n6_; clear hb hbox hg) | (refine ybe 3 #[.int .i64 0, .slice none 0 0, .int .i64 0] 67 ?_; intro gb350 hg w5 hbox hb; have n0_ := yam (blk_below (g := gb348) (o := .cells #[.int .i64 a0_0, .slice A0_1 l0_1.length c0_1, .int .i64 a0_2] 65 (0, 0)) (ybz BK348.out) hb); have n1_ := yam (blk_below (g := gb349) (o := .cells #[.int .i64 0, .slice none 0 0, .int .i64 0] 67 (0, 0)) (ybz BK349.out) hb); have n2_ := yam (below_step yhb hb); have n3_ := yam (hbox); have n4_ := yam ((by rw [hg]; exact (below_size yhb) : w.heap.size ≤ gb350)); have n5_ := n4_; have n6_ := yam ((by rw [hg]; exact Nat.ne_of_lt (blk_lt (g := gb348) (o := .cells #[.int .i64 a0_0, .slice A0_1 l0_1.length c0_1, .int .i64 a0_2] 65 (0, 0)) (ybz BK348.out)) : gb348 ≠ gb350)); have n7_ := yam ((by rw [hg]; exact Nat.ne_of_gt (blk_lt (g := gb348) (o := .cells #[.int .i64 a0_0, .slice A0_1 l0_1.length c0_1, .int .i64 a0_2] 65 (0, 0)) (ybz BK348.out)) : gb350 ≠ gb348)); have n8_ := yam ((by rw [hg]; exact Nat.ne_of_lt (blk_lt (g := gb349) (o := .cells #[.int .i64 0, .slice none 0 0, .int .i64 0] 67 (0, 0)) (ybz BK349.out)) : gb349 ≠ gb350)); have n9_ := yam ((by rw [hg]; exact Nat.ne_of_gt (blk_lt (g := gb349) (o := .cells #[.int .i64 0, .slice none 0 0, .int .i64 0] 67 (0, 0)) (ybz BK349.out)) : gb350 ≠ gb349)); clear BK348; clear BK349; clear HB; have BK348 := n0_; have BK349 := n1_; have HB := n2_; have BK350 := n3_; have GW350 := n4_; have GE350 := n5_; have NB348_350 := n6_; have NB350_348 := n7_; have NB349_350 := n8_; have NB350_349 := n9_; clear n0_ n1_ n2_ n3_ n4_ n5_ n6_ n7_ n8_ n9_; clear hb hbox hg; have hnb6 := NB348_349.out; have hnc6 := NB349_348.out; have hnb7 := NB348_350.out; have hnc7 := NB350_348.out; obtain ⟨hcz8_0, hcz8_1, hcz8_2, hfz8_0, hfz8_1, hfz8_2⟩ := ybc BK348.out; have hnb9 := NB350_349.out; have hnc9 := NB349_350.out; obtain ⟨hcz10_0, hcz10_1, hcz10_2, hfz10_0, hfz10_1, hfz10_2⟩ := ybc BK350.out) | (refine goesL_ (some 9) rfl rfl Try.func26 (by kernel_rfl) rfl #[.slice A0_1 l0_1.length c0_1] rfl ymd ?_; (with_reducible refine (laws_toIntS.calls k _ _ l0_1 t351 _ ?side1 ?side2 A2.out).mono ?_); (case side1 => exact Kd.C_below HR0_1.out yhb); (case side2 => exact HC0_1.out); rintro e w11 ⟨v352, rfl, ho0, hb⟩; refine ⟨_, rfl, ?_⟩; have n0_ := yam (Kd.R_lower ho0 (below_size yhb)); have n1_ := yam (blk_below (g := gb348) (o := .cells #[.int .i64 a0_0, .slice A0_1 l0_1.length c0_1, .int .i64 a0_2] 65 (0, 0)) (by (with_reducible repeat (first | refine ybn ?_ _ | refine ybd ?_ | refine yba ?_ _)); refine blk_far ?_ NB348_350.out _; (with_reducible repeat (first | refine ybn ?_ _ | refine ybd ?_ | refine yba ?_ _)); exact BK348.out) hb); have n2_ := yam (blk_below (g := gb349) (o := .cells #[.int .i64 0, .slice none 0 0, .int .i64 0] 67 (0, 0)) (by (with_reducible repeat (first | refine ybn ?_ _ | refine ybd ?_ | refine yba ?_ _)); refine blk_far ?_ NB349_350.out _; (with_reducible repeat (first | refine ybn ?_ _ | refine ybd ?_ | refine yba ?_ _)); exact BK349.out) hb); have n3_ := yam (blk_below (g := gb350) (o := .cells #[.int .i64 a0_0, .slice none 0 0, .int .i64 0] 67 (0, 0)) (by (with_reducible repeat (first | refine ybn ?_ _ | refine ybd ?_ | refine yba ?_ _)); refine blk_put (cs := #[.int .i64 0, .slice none 0 0, .int .i64 0]) ?_ 0 _ rfl; (with_reducible repeat (first | refine ybn ?_ _ | refine ybd ?_ | refine yba ?_ _)); exact BK350.out) hb); have n4_ := yam (below_step yhb hb); clear BK348; clear BK349; clear BK350; clear HB; have HO353 := n0_; have BK348 := n1_; have BK349 := n2_; have BK350 := n3_; have HB := n4_; clear n0_ n1_ n2_ n3_ n4_; (try clear hb); (try clear hb2); (try clear hk); (try clear hi); (try clear ho0); obtain ⟨Ao12, co12, eo12⟩ := Kd.R_slice HO353.out; subst eo12; obtain ⟨hcz13_0, hcz13_1, hcz13_2, hfz13_0, hfz13_1, hfz13_2⟩ := ybc BK350.out; obtain ⟨hcz14_0, hcz14_1, hcz14_2, hfz14_0, hfz14_1, hfz14_2⟩ := ybc BK348.out; obtain ⟨hcz15_0, hcz15_1, hcz15_2, hfz15_0, hfz15_1, hfz15_2⟩ := ybc BK349.out))
 refine bodyPost_ret (results_cell_row rfl _ _ gb349 67 #[.int .i64 a0_0, .slice Ao12 t351.length co12, .int .i64 a0_2] (0, 0) _ rfl (by (with_reducible repeat (first | refine ybn ?_ _ | refine ybd ?_ | refine yba ?_ _)); refine blk_put (cs := #[.int .i64 a0_0, .slice Ao12 t351.length co12, .int .i64 0]) ?_ 2 _ rfl; (with_reducible repeat (first | refine ybn ?_ _ | refine ybd ?_ | refine yba ?_ _)); refine blk_put (cs := #[.int .i64 a0_0, .slice none 0 0, .int .i64 0]) ?_ 1 _ rfl; (with_reducible repeat (first | refine ybn ?_ _ | refine ybd ?_ | refine yba ?_ _)); refine blk_put (cs := #[.int .i64 0, .slice none 0 0, .int .i64 0]) ?_ 0 _ rfl; (with_reducible repeat (first | refine ybn ?_ _ | refine ybd ?_ | refine yba ?_ _)); refine blk_far ?_ NB349_350.out _; (with_reducible repeat (first | refine ybn ?_ _ | refine ybd ?_ | refine yba ?_ _)); refine blk_far ?_ NB349_350.out _; (with_reducible repeat (first | refine ybn ?_ _ | refine ybd ?_ | refine yba ?_ _)); exact BK349.out) Try.underlying67 rfl (by kernel_rfl)) rfl ?_
 exact ⟨_, yer, by (with_reducible repeat (first | apply Kd.Ya | apply Kd.Yn | apply Kd.Yd)); exact Kd.R_mono (Kd.R_far (p := ⟨gb349, 2, none⟩) (Kd.R_far (p := ⟨gb349, 1, none⟩) (Kd.R_far (p := ⟨gb349, 0, none⟩) (Kd.R_far (p := ⟨gb350, 2, none⟩) (Kd.R_far (p := ⟨gb350, 1, none⟩) (Kd.R_types (Kd.R_types HO353.out BK350.out (by decide)) BK349.out (by decide)) (fun _ hk => hk.1.2) (.slice Ao12 t351.length co12)) (fun _ hk => hk.1.2) (.int .i64 a0_2)) (fun _ hk => hk.2) (.int .i64 a0_0)) (fun _ hk => hk.2) (.slice Ao12 t351.length co12)) (fun _ hk => hk.2) (.int .i64 a0_2)) (fun _ hk => trivial), yhb⟩
def laws_toRuleS.l0 : Nat → List (S65) → List (S67) → Int → Option ((List (S67)))
 | 0, _, _, _ => none
 | k + 1, x0, x3, x4 => if x4 < (x0.length : Int) then (if 0 ≤ x4 then ((laws_toRule.f k ((rd_T65 x0 x4).f0) ((rd_T65 x0 x4).f1) ((rd_T65 x0 x4).f2)).bind fun bt358 => (if x4 < (x3.length : Int) then (laws_toRuleS.l0 k x0 (x3.set (x4 : Int).toNat (⟨bt358.1, bt358.2.1, bt358.2.2⟩ : S67)) (wrap64 (x4 + 1))) else (none))) else (none)) else (some x3)
def laws_toRuleS.f (k : Nat) (l0 : List (S65)) : Option ((List (S67))) := if 0 ≤ (l0.length : Int) then (if ((l0.length : Int) : Int).toNat ≤ 7036874417766 then (laws_toRuleS.l0 k l0 (List.replicate ((l0.length : Int) : Int).toNat z67) 0) else (none)) else (none)
set_option maxHeartbeats 8000000 in
set_option maxRecDepth 100000 in
theorem laws_toRuleS.calls (k : Nat) (A0 : Option Addr) (c0 : Nat) (l0 : List (S65)) (r : List (S67)) (w : World) (hr0 : Kd.C k65 w A0 l0.length l0) (hc0 : l0.length ≤ c0) (h : laws_toRuleS.f k l0 = some r) :
  Calls Try.prog 35 #[.slice A0 l0.length c0] w fun e w' => ∃ v0_ : Value, e = .returned (v0_) ∧ Kd.S k67 67 w' w.heap.size (fun _ => True) v0_ r ∧ Below w.heap.size w w' := by
 have hu65 := Try.underlying65
 have hu67 := Try.underlying67
 have HR0 := yam hr0
 have HC0 := yam hc0
 clear hr0 hc0
 have HB := yam (Below.refl w.heap.size w)
 have H : (if 0 ≤ (l0.length : Int) then (if ((l0.length : Int) : Int).toNat ≤ 7036874417766 then (laws_toRuleS.l0 k l0 (List.replicate ((l0.length : Int) : Int).toNat z67) 0) else (none)) else (none)) = some r := h
 clear h
 by_cases c2 : 0 ≤ (l0.length : Int)
 rotate_left
 ·rw [if_neg c2] at H
  exact absurd H (by simp)

 rw [if_pos c2] at H
 have c2b0 := eq_true c2
 have c2b1 : decide (0 ≤ (l0.length : Int)) = true := decide_eq_true c2
 clear c2
 replace H := yig H
 obtain ⟨c3, H⟩ := H
 have c3b0 := eq_true c3
 have c3b1 : decide (((l0.length : Int) : Int).toNat ≤ 7036874417766) = true := decide_eq_true c3
 clear c3
 obtain ⟨y354, hy354⟩ : ∃ y_ : List (S67), y_ = (List.replicate ((l0.length : Int) : Int).toNat z67) := ⟨_, rfl⟩
 replace H : (laws_toRuleS.l0 k l0 y354 0) = some r := by first | (rw [hy354]; with_reducible exact H) | (have H2_ := (Option.bind_some _ _).symm.trans H; rw [hy354]; with_reducible exact H2_) | (have H2_ := (Option.bind_some _ _).symm.trans H; with_reducible exact H2_) | with_reducible exact H | (rw [hy354]; exact H) | exact H
 have Ny354 := yam hy354
 clear hy354
 have H' := yam H
 clear H
 go_enter Try.func35, Try.ntmps35
 go_wp2_with (first | ((with_reducible refine gate_dst (N := 7) rfl ?_); refine Kd.S_make k67 _ 67 rfl (N := 7) rfl 28 _ _ rfl (l0.length : Int) rfl rfl Try.underlying28 (.agg #[(.int .i64 0), (.slice none 0 0), (.int .i64 0)]) 40 info67 rfl (by decide) (by omega) z67 (ok := fun _ => True) (okp := fun _ => True) (k67_mkM _ _ _ z67 (Kd.R_nil _ _ _ _ _)) (fun _ hk => hk) trivial (ydt) (Nat.le_trans (Nat.mul_le_mul_right _ (ydt : (l0.length : Int).toNat ≤ 7036874417766)) (by omega)) (Below.refl _ _) (Nat.le_refl _) ?_; intro v355 w4 ho5 hb hg_ hnew_; clear hg_ hnew_; (first | rw [← Ny354.out] at ho5 | (simp only [Int.reduceToNat] at ho5; rw [← Ny354.out] at ho5)); have n0_ := yam (Kd.S_lower ho5 (below_size (yez HB.out))); have n1_ := yam (below_step (yez HB.out) hb); clear HB; have HO356 := n0_; have HB := n1_; clear n0_ n1_; clear hb ho5))
 go_loopg [4] k (fun kq v4 w' => ∃ (x3_1 : List (S67)) (x4_1 : Int), v4 = .int .i64 x4_1 ∧ Aside0 (laws_toRuleS.l0 kq l0 x3_1 x4_1 = some r) ∧ Aside0 (kq ≤ k) ∧ Aside0 (Kd.S k67 67 w' w.heap.size (fun _ => True) v355 x3_1) ∧ Aside0 (Below w.heap.size w w'))
 case atStart => exact ⟨(y354), (0), yeq, H', ⟨Nat.le_refl _⟩, ⟨by (with_reducible repeat (first | apply Kd.S_alloc | apply Kd.S_drewN | apply Kd.S_drew)); exact HO356.out⟩, ⟨yhb⟩⟩
 case round =>
  clear H'
  try clear c2
  try clear c2b0
  try clear c2b1
  try clear p2
  try clear c3
  try clear c3b0
  try clear c3b1
  obtain ⟨x3_1, x4_1, rfl, HA, HK1, HO_3, HB⟩ := hrel
  cases gk with
  | zero => exact absurd HA.out (by simp [laws_toRuleS.l0])
  | succ k1 =>
   have H := HA.out
   clear HA
   simp only [laws_toRuleS.l0] at H
   by_cases c6 : x4_1 < (l0.length : Int)
   rotate_left
   ·rw [if_neg c6] at H
    have c6b0 : decide (x4_1 < (l0.length : Int)) = false := decide_eq_false c6
    clear c6
    obtain rfl := Option.some.inj H
    go_wp2
    go_ret
    exact ⟨_, yer, by (with_reducible repeat (first | apply Kd.S_alloc | apply Kd.S_drewN | apply Kd.S_drew)); exact HO_3.out, yhb⟩
   rw [if_pos c6] at H
   have c6b0 : decide (x4_1 < (l0.length : Int)) = true := decide_eq_true c6
   clear c6
   replace H := yif H
   obtain ⟨c7b0, H⟩ := H
   replace H := Option.bind_eq_some_iff.mp H
   obtain ⟨⟨t358, t359, t362⟩, A80, H⟩ := H
   try dsimp only at H
   have A8 := yam A80
   clear A80
   replace H := yif H
   obtain ⟨c9b0, H⟩ := H
   obtain ⟨y363, hy363⟩ : ∃ y_ : List (S67), y_ = (x3_1.set (x4_1 : Int).toNat (⟨t358, t359, t362⟩ : S67)) := ⟨_, rfl⟩
   replace H : (laws_toRuleS.l0 k1 l0 y363 (wrap64 (x4_1 + 1))) = some r := by first | (rw [hy363]; with_reducible exact H) | (have H2_ := (Option.bind_some _ _).symm.trans H; rw [hy363]; with_reducible exact H2_) | (have H2_ := (Option.bind_some _ _).symm.trans H; with_reducible exact H2_) | with_reducible exact H | (rw [hy363]; exact H) | exact H
   have Ny363 := yam hy363
   clear hy363
   have H' := yam H
   clear H
   have p357 : 0 ≤ (x4_1 : Int) := ydt
   have q357 : x4_1 < (l0.length : Int) := ydt
   obtain ⟨ad357, A357_1, c357_1, e357, hx357_0, hx357_1, hx357_2, hl357_1, hi357_1⟩ := at_T65 HR0.out x4_1 p357 q357
   cases e357
   replace hx357_0 := ybx HB.out hx357_0
   replace hx357_1 := ybx HB.out hx357_1
   replace hx357_2 := ybx HB.out hx357_2
   have HR357_1 := yam hi357_1
   have HC357_1 := yam hl357_1
   clear hi357_1 hl357_1
   replace p357 := eq_true p357
   replace q357 := eq_true q357
   go_wp2_with (first | (refine goesL_ (some 20) rfl rfl Try.func68 (by kernel_rfl) rfl #[.agg #[.int .i64 ((rd_T65 l0 x4_1).f0), .slice A357_1 ((rd_T65 l0 x4_1).f1).length c357_1, .int .i64 ((rd_T65 l0 x4_1).f2)]] rfl ymd ?_; (with_reducible refine (laws_toRule.calls k1 ((rd_T65 l0 x4_1).f0) _ _ ((rd_T65 l0 x4_1).f1) ((rd_T65 l0 x4_1).f2) t358 t359 t362 _ ?side1 ?side2 A8.out).mono ?_); (case side1 => exact Kd.Cz ((Kd.C_below HR357_1.out HB.out))); (case side2 => exact HC357_1.out); rintro e w11 ⟨v360, rfl, ho0, hb⟩; obtain ⟨Aq_v360, cq_v360, eq_v360⟩ := Kd.R_slice ho0; subst eq_v360; refine ⟨_, rfl, ?_⟩; have n0_ := yam (Kd.S_elder' (by (with_reducible repeat (first | apply Kd.S_alloc | apply Kd.S_drewN | apply Kd.S_drew)); exact HO_3.out) (Kd.Yb ho0) hb); have n1_ := yam (Kd.R_lower ho0 (below_size (yez HB.out))); have n2_ := yam (below_step (yez HB.out) hb); clear HO_3; clear HB; have HO_3 := n0_; have HO361 := n1_; have HB := n2_; clear n0_ n1_ n2_; (try clear hb); (try clear hb2); (try clear hk); (try clear hi); (try clear ho0); have p10 : 0 ≤ (x4_1 : Int) := ydt; have q10 : (x4_1 : Int) < ((x3_1.length : Int) : Int) := ydt; obtain ⟨go10, co10, eo10, gb10, gl10, cl10, HG10⟩ := Kd.S_form HO_3.out (by omega); (first | cases eo10 | (injection eo10 with ea_ en_ ec_; (first | subst ea_ | (injection ea_ with ea_; subst ea_)); subst ec_; clear en_)); have GB10 := yam gb10; have GG10 := yam HG10; clear gb10 gl10 HG10; obtain ⟨_, ce10, hcl10, hM10, hcc10, hfr10, _, _⟩ := Kd.S_elem HO_3.out z67 (x4_1 : Int) p10 q10; obtain ⟨ve10_1, rfl, ge10_1⟩ := k67_openM hM10; have hx10_0 : w11.cell? ⟨go10, (x4_1 : Int).toNat * 3, none⟩ = some (.int .i64 ((rd_T67 x3_1 x4_1).f0)) := hcc10 0 _ rfl; have hx10_1 : w11.cell? ⟨go10, (x4_1 : Int).toNat * 3 + 1, none⟩ = some (ve10_1) := hcc10 1 _ rfl; have hx10_2 : w11.cell? ⟨go10, (x4_1 : Int).toNat * 3 + 2, none⟩ = some (.int .i64 ((rd_T67 x3_1 x4_1).f2)) := hcc10 2 _ rfl; have hf10_0 : w11.frozen? ⟨go10, (x4_1 : Int).toNat * 3, none⟩ = false := hfr10 0; have hf10_1 : w11.frozen? ⟨go10, (x4_1 : Int).toNat * 3 + 1, none⟩ = false := hfr10 1; have hf10_2 : w11.frozen? ⟨go10, (x4_1 : Int).toNat * 3 + 2, none⟩ = false := hfr10 2; clear hcl10 hcc10 hfr10 hM10; replace p10 := eq_true p10; replace q10 := eq_true q10; have n_ := yam (Kd.S_mono (ok' := (fun k_ => some k_ ≠ ((.slice Aq_v360 (t359).length cq_v360) : Value).ownBlock)) HO_3.out (fun k_ hk => hk.2)); clear HO_3; have HO_3 := n_; clear n_; have HX12 := yam (show Kd.S k67 67 w11 w.heap.size (fun k_ => ((fun _ => True)) k_ ∧ ¬ ((fun k_ => some k_ = ((.slice Aq_v360 (t359).length cq_v360) : Value).ownBlock)) k_) (.slice (some ⟨go10, 0, none⟩) x3_1.length co10) x3_1 from (by (with_reducible repeat (first | apply Kd.S_alloc | apply Kd.S_drewN | apply Kd.S_drew)); exact Kd.S_mono HO_3.out (fun k_ hk => ⟨trivial, fun e_ => hk e_⟩))); obtain ⟨oki12, ce12, hcl12, hM12, hcc12, hfr12, hoki12, hH12⟩ := Kd.S_elem HX12.out z67 (x4_1 : Int) (ydt) (by have h_ : (x4_1 : Int) < ((x3_1.length : Int) : Int) := ydt; first | exact h_ | (have e_ := (Kd.S_reads' HO_3.out).1; omega) | simpa using h_); obtain ⟨ve12_1, rfl, ge12_1⟩ := k67_openM hM12; have HP12 := Kd.S_seg hH12 (ydt) (by have h_ : (x4_1 : Int) < ((x3_1.length : Int) : Int) := ydt; first | exact h_ | (have e_ := (Kd.S_reads' HO_3.out).1; omega) | simpa using h_) (seg := [.int .i64 t358, (.slice Aq_v360 (t359).length cq_v360), .int .i64 t362]) (j := 0) (show 3 ≤ 3 from by decide) (x' := (⟨t358, t359, t362⟩ : S67)) (k67_mkM _ _ _ (⟨t358, t359, t362⟩ : S67) (Kd.R_mono (Kd.R_tight rfl (Kd.R_mono (ok' := fun k_ => ((fun _ => True)) k_ ∧ k_ ≠ go10) (Kd.R_apart' (HO361.out) (Kd.S_typed HO_3.out) (by decide)) (fun k_ hk => ⟨trivial, fun e_ => (hk.2) (by rw [e_]; rfl)⟩))) (fun _ h_ => Or.inr (h_)))) (fun _ hk => hk) (fun k_ hk_ => ((Kd.R_mono (ok' := fun k_ => ((fun _ => True)) k_ ∧ k_ ≠ go10) (Kd.R_apart' (HO361.out) (Kd.S_typed HO_3.out) (by decide)) (fun k_ hk => ⟨trivial, fun e_ => (hk.2) (by rw [e_]; rfl)⟩))).1 k_ hk_.symm); have hx12_0 := hcc12 0 _ rfl; (try simp only [show (k67).sz = 3 from rfl, Nat.mul_one, Nat.add_zero] at hx12_0); have hf12_0 := hfr12 0; (try simp only [show (k67).sz = 3 from rfl, Nat.mul_one, Nat.add_zero] at hf12_0); have hx12_1 := hcc12 1 _ rfl; (try simp only [show (k67).sz = 3 from rfl, Nat.mul_one, Nat.add_zero] at hx12_1); have hf12_1 := hfr12 1; (try simp only [show (k67).sz = 3 from rfl, Nat.mul_one, Nat.add_zero] at hf12_1); have hx12_2 := hcc12 2 _ rfl; (try simp only [show (k67).sz = 3 from rfl, Nat.mul_one, Nat.add_zero] at hx12_2); have hf12_2 := hfr12 2; (try simp only [show (k67).sz = 3 from rfl, Nat.mul_one, Nat.add_zero] at hf12_2); clear hcl12 hcc12 hfr12 hM12 hoki12 hH12) | ((with_reducible refine gate_store (t := 67) (p := 21) rfl ?_); refine store_event (t := 67) (p := 21) (v := ?vo_w13) (w1 := (((w11.setCell ⟨go10, (x4_1 : Int).toNat * 3, none⟩ (.int .i64 t358)).setCell ⟨go10, (x4_1 : Int).toNat * 3 + 1, none⟩ ((.slice Aq_v360 (t359).length cq_v360))).setCell ⟨go10, (x4_1 : Int).toNat * 3 + 2, none⟩ (.int .i64 t362))) ?hg ?ho ?hn ?hr ?_; (case ho => rfl); (case hg => rfl); (case hn => rfl); (case hr => first | (go_simp; done) | (go_simp; rfl)); intro w13 hw; have hg : w11.grownBy w13 (some go10) := (by rw [hw]; exact HP12.2); have hp_ : Kd.S k67 67 w13 w.heap.size (fun _ => True) (.slice (some ⟨go10, 0, none⟩) x3_1.length co10) y363 := (by rw [hw, Ny363.out]; exact HP12.1); clear HP12; have n0_ := yam (hp_); have n1_ := yam ((by rw [hw]; exact below_set (below_set (below_set (HB.out) GB10.out) GB10.out) GB10.out : Below w.heap.size w w13)); clear HO_3; clear HB; clear HO361; have HO_3 := n0_; have HB := n1_; clear n0_ n1_; clear hg hw hp_))
   go_roundg k1
   case measure => have := HK1.out; omega
   case rel => exact ⟨(y363), (wrap64 (x4_1 + 1)), yeq, H', ⟨by have := HK1.out; omega⟩, ⟨by (with_reducible repeat (first | apply Kd.S_alloc | apply Kd.S_drewN | apply Kd.S_drew)); exact HO_3.out⟩, ⟨yhb⟩⟩
def laws_toPuzzle.f (k : Nat) (a0_0 : Int) (l0_1 : List Int) (l0_2 : List (S65)) : Option (Int × List Int × (List (S67))) := (laws_toIntS.f k l0_1).bind fun t367 => ((laws_toRuleS.f k l0_2).bind fun t370 => (some (a0_0, t367, t370)))
set_option maxHeartbeats 8000000 in
set_option maxRecDepth 100000 in
theorem laws_toPuzzle.calls (k : Nat) (a0_0 : Int) (A0_1 : Option Addr) (c0_1 : Nat) (l0_1 : List Int) (A0_2 : Option Addr) (c0_2 : Nat) (l0_2 : List (S65)) (r1 : Int) (r2 : List Int) (r3 : List (S67)) (w : World) (hr0_1 : Kd.C (Kd.int .i64) w A0_1 l0_1.length l0_1) (hc0_1 : l0_1.length ≤ c0_1) (hr0_2 : Kd.C k65 w A0_2 l0_2.length l0_2) (hc0_2 : l0_2.length ≤ c0_2) (h : laws_toPuzzle.f k a0_0 l0_1 l0_2 = some (r1, r2, r3)) :
  Calls Try.prog 11 #[.agg #[.int .i64 a0_0, .slice A0_1 l0_1.length c0_1, .slice A0_2 l0_2.length c0_2]] w fun e w' => ∃ v1_ v2_ : Value, e = .returned (.agg #[.int .i64 r1, v1_, v2_]) ∧ Kd.R (Kd.int .i64) 3 w' w.heap.size (fun _ => True) v1_ r2 ∧ Kd.S k67 67 w' w.heap.size (fun k_ => some k_ ≠ (v1_ : Value).ownBlock) v2_ r3 ∧ Below w.heap.size w w' := by
 have hu25 := Try.underlying25
 have hu30 := Try.underlying30
 have HR0_1 := yam hr0_1
 have HC0_1 := yam hc0_1
 clear hr0_1 hc0_1
 have HR0_2 := yam hr0_2
 have HC0_2 := yam hc0_2
 clear hr0_2 hc0_2
 have HB := yam (Below.refl w.heap.size w)
 have H : ((laws_toIntS.f k l0_1).bind fun t367 => ((laws_toRuleS.f k l0_2).bind fun t370 => (some (a0_0, t367, t370)))) = some (r1, r2, r3) := h
 clear h
 replace H := Option.bind_eq_some_iff.mp H
 obtain ⟨t367, A20, H⟩ := H
 replace H : ((laws_toRuleS.f k l0_2).bind fun t370 => (some (a0_0, t367, t370))) = some (r1, r2, r3) := H
 have A2 := yam A20
 clear A20
 replace H := Option.bind_eq_some_iff.mp H
 obtain ⟨t370, A30, H⟩ := H
 replace H : (some (a0_0, t367, t370)) = some (r1, r2, r3) := H
 have A3 := yam A30
 clear A30
 simp only [Option.some.injEq, Prod.mk.injEq] at H
 obtain ⟨rfl, rfl, rfl⟩ := H
 go_enter Try.func11, Try.ntmps11
 go_wp2_with (first | (refine ybe 1 #[.int .i64 a0_0, .slice A0_1 l0_1.length c0_1, .slice A0_2 l0_2.length c0_2] 25 ?_; intro gb364 hg w4 hbox hb; have n0_ := yam (below_step (yez HB.out) hb); have n1_ := yam (hbox); have n2_ := yam ((by rw [hg]; exact (below_size (yez HB.out)) : w.heap.size ≤ gb364)); have n3_ := n2_; clear HB; have HB := n0_; have BK364 := n1_; have GW364 := n2_; have GE364 := n3_; clear n0_ n1_ n2_ n3_; clear hb hbox hg) | (refine ybe 2 #[.int .i64 0, .slice none 0 0, .slice none 0 0] 30 ?_; intro gb365 hg w5 hbox hb; have n0_ := yam (blk_below (g := gb364) (o := .cells #[.int .i64 a0_0, .slice A0_1 l0_1.length c0_1, .slice A0_2 l0_2.length c0_2] 25 (0, 0)) (ybz BK364.out) hb); have n1_ := yam (below_step yhb hb); have n2_ := yam (hbox); have n3_ := yam ((by rw [hg]; exact (below_size yhb) : w.heap.size ≤ gb365)); have n4_ := n3_; have n5_ := yam ((by rw [hg]; exact Nat.ne_of_lt (blk_lt (g := gb364) (o := .cells #[.int .i64 a0_0, .slice A0_1 l0_1.length c0_1, .slice A0_2 l0_2.length c0_2] 25 (0, 0)) (ybz BK364.out)) : gb364 ≠ gb365)); have n6_ := yam ((by rw [hg]; exact Nat.ne_of_gt (blk_lt (g := gb364) (o := .cells #[.int .i64 a0_0, .slice A0_1 l0_1.length c0_1, .slice A0_2 l0_2.length c0_2] 25 (0, 0)) (ybz BK364.out)) : gb365 ≠ gb364)); clear BK364; clear HB; have BK364 := n0_; have HB := n1_; have BK365 := n2_; have GW365 := n3_; have GE365 := n4_; have NB364_365 := n5_; have NB365_364 := n6_; clear n0_ n1_ n2_ n3_ n4_ n5_ n6_; clear hb hbox hg) | (refine ybe 3 #[.int .i64 0, .slice none 0 0, .slice none 0 0] 30 ?_; intro gb366 hg w6 hbox hb; have n0_ := yam (blk_below (g := gb364) (o := .cells #[.int .i64 a0_0, .slice A0_1 l0_1.length c0_1, .slice A0_2 l0_2.length c0_2] 25 (0, 0)) (ybz BK364.out) hb); have n1_ := yam (blk_below (g := gb365) (o := .cells #[.int .i64 0, .slice none 0 0, .slice none 0 0] 30 (0, 0)) (ybz BK365.out) hb); have n2_ := yam (below_step yhb hb); have n3_ := yam (hbox); have n4_ := yam ((by rw [hg]; exact (below_size yhb) : w.heap.size ≤ gb366)); have n5_ := n4_; have n6_ := yam ((by rw [hg]; exact Nat.ne_of_lt (blk_lt (g := gb364) (o := .cells #[.int .i64 a0_0, .slice A0_1 l0_1.length c0_1, .slice A0_2 l0_2.length c0_2] 25 (0, 0)) (ybz BK364.out)) : gb364 ≠ gb366)); have n7_ := yam ((by rw [hg]; exact Nat.ne_of_gt (blk_lt (g := gb364) (o := .cells #[.int .i64 a0_0, .slice A0_1 l0_1.length c0_1, .slice A0_2 l0_2.length c0_2] 25 (0, 0)) (ybz BK364.out)) : gb366 ≠ gb364)); have n8_ := yam ((by rw [hg]; exact Nat.ne_of_lt (blk_lt (g := gb365) (o := .cells #[.int .i64 0, .slice none 0 0, .slice none 0 0] 30 (0, 0)) (ybz BK365.out)) : gb365 ≠ gb366)); have n9_ := yam ((by rw [hg]; exact Nat.ne_of_gt (blk_lt (g := gb365) (o := .cells #[.int .i64 0, .slice none 0 0, .slice none 0 0] 30 (0, 0)) (ybz BK365.out)) : gb366 ≠ gb365)); clear BK364; clear BK365; clear HB; have BK364 := n0_; have BK365 := n1_; have HB := n2_; have BK366 := n3_; have GW366 := n4_; have GE366 := n5_; have NB364_366 := n6_; have NB366_364 := n7_; have NB365_366 := n8_; have NB366_365 := n9_; clear n0_ n1_ n2_ n3_ n4_ n5_ n6_ n7_ n8_ n9_; clear hb hbox hg; have hnb7 := NB364_365.out; have hnc7 := NB365_364.out; have hnb8 := NB364_366.out; have hnc8 := NB366_364.out; obtain ⟨hcz9_0, hcz9_1, hcz9_2, hfz9_0, hfz9_1, hfz9_2⟩ := ybc BK364.out; have hnb10 := NB366_365.out; have hnc10 := NB365_366.out; obtain ⟨hcz11_0, hcz11_1, hcz11_2, hfz11_0, hfz11_1, hfz11_2⟩ := ybc BK366.out) | (refine goesL_ (some 9) rfl rfl Try.func26 (by kernel_rfl) rfl #[.slice A0_1 l0_1.length c0_1] rfl ymd ?_; (with_reducible refine (laws_toIntS.calls k _ _ l0_1 t367 _ ?side1 ?side2 A2.out).mono ?_); (case side1 => exact Kd.C_below HR0_1.out yhb); (case side2 => exact HC0_1.out); rintro e w12 ⟨v368, rfl, ho0, hb⟩; refine ⟨_, rfl, ?_⟩; have n0_ := yam (Kd.R_lower ho0 (below_size yhb)); have n1_ := yam (blk_below (g := gb364) (o := .cells #[.int .i64 a0_0, .slice A0_1 l0_1.length c0_1, .slice A0_2 l0_2.length c0_2] 25 (0, 0)) (by (with_reducible repeat (first | refine ybn ?_ _ | refine ybd ?_ | refine yba ?_ _)); refine blk_far ?_ NB364_366.out _; (with_reducible repeat (first | refine ybn ?_ _ | refine ybd ?_ | refine yba ?_ _)); exact BK364.out) hb); have n2_ := yam (blk_below (g := gb365) (o := .cells #[.int .i64 0, .slice none 0 0, .slice none 0 0] 30 (0, 0)) (by (with_reducible repeat (first | refine ybn ?_ _ | refine ybd ?_ | refine yba ?_ _)); refine blk_far ?_ NB365_366.out _; (with_reducible repeat (first | refine ybn ?_ _ | refine ybd ?_ | refine yba ?_ _)); exact BK365.out) hb); have n3_ := yam (blk_below (g := gb366) (o := .cells #[.int .i64 a0_0, .slice none 0 0, .slice none 0 0] 30 (0, 0)) (by (with_reducible repeat (first | refine ybn ?_ _ | refine ybd ?_ | refine yba ?_ _)); refine blk_put (cs := #[.int .i64 0, .slice none 0 0, .slice none 0 0]) ?_ 0 _ rfl; (with_reducible repeat (first | refine ybn ?_ _ | refine ybd ?_ | refine yba ?_ _)); exact BK366.out) hb); have n4_ := yam (below_step yhb hb); clear BK364; clear BK365; clear BK366; clear HB; have HO369 := n0_; have BK364 := n1_; have BK365 := n2_; have BK366 := n3_; have HB := n4_; clear n0_ n1_ n2_ n3_ n4_; (try clear hb); (try clear hb2); (try clear hk); (try clear hi); (try clear ho0); obtain ⟨Ao13, co13, eo13⟩ := Kd.R_slice HO369.out; subst eo13; obtain ⟨hcz14_0, hcz14_1, hcz14_2, hfz14_0, hfz14_1, hfz14_2⟩ := ybc BK366.out; obtain ⟨hcz15_0, hcz15_1, hcz15_2, hfz15_0, hfz15_1, hfz15_2⟩ := ybc BK364.out) | (refine goesL_ (some 13) rfl rfl Try.func35 (by kernel_rfl) rfl #[.slice A0_2 l0_2.length c0_2] rfl ymd ?_; (with_reducible refine (laws_toRuleS.calls k _ _ l0_2 t370 _ ?side1 ?side2 A3.out).mono ?_); (case side1 => exact Kd.C_below HR0_2.out yhb); (case side2 => exact HC0_2.out); rintro e w16 ⟨v371, rfl, ho0, hb⟩; refine ⟨_, rfl, ?_⟩; have n0_ := yam (Kd.R_below (by (with_reducible repeat (first | apply Kd.Ya | apply Kd.Yn | apply Kd.Yd)); exact (Kd.R_mono (Kd.R_far (p := ⟨gb366, 1, none⟩) (Kd.R_types HO369.out BK366.out (by decide)) (fun _ hk => hk.2) (.slice Ao13 t367.length co13)) (fun _ h_ => h_.1))) hb); have n1_ := yam (Kd.S_lower (Kd.S_new' ho0 (Kd.R_lt (by (with_reducible repeat (first | apply Kd.Ya | apply Kd.Yn | apply Kd.Yd)); exact (Kd.R_mono (Kd.R_far (p := ⟨gb366, 1, none⟩) (Kd.R_types HO369.out BK366.out (by decide)) (fun _ hk => hk.2) (.slice Ao13 t367.length co13)) (fun _ h_ => h_.1))))) (below_size yhb)); have n2_ := yam (blk_below (g := gb364) (o := .cells #[.int .i64 a0_0, .slice A0_1 l0_1.length c0_1, .slice A0_2 l0_2.length c0_2] 25 (0, 0)) (by (with_reducible repeat (first | refine ybn ?_ _ | refine ybd ?_ | refine yba ?_ _)); refine blk_far ?_ NB364_366.out _; (with_reducible repeat (first | refine ybn ?_ _ | refine ybd ?_ | refine yba ?_ _)); exact BK364.out) hb); have n3_ := yam (blk_below (g := gb365) (o := .cells #[.int .i64 0, .slice none 0 0, .slice none 0 0] 30 (0, 0)) (by (with_reducible repeat (first | refine ybn ?_ _ | refine ybd ?_ | refine yba ?_ _)); refine blk_far ?_ NB365_366.out _; (with_reducible repeat (first | refine ybn ?_ _ | refine ybd ?_ | refine yba ?_ _)); exact BK365.out) hb); have n4_ := yam (blk_below (g := gb366) (o := .cells #[.int .i64 a0_0, .slice Ao13 t367.length co13, .slice none 0 0] 30 (0, 0)) (by (with_reducible repeat (first | refine ybn ?_ _ | refine ybd ?_ | refine yba ?_ _)); refine blk_put (cs := #[.int .i64 a0_0, .slice none 0 0, .slice none 0 0]) ?_ 1 _ rfl; (with_reducible repeat (first | refine ybn ?_ _ | refine ybd ?_ | refine yba ?_ _)); exact BK366.out) hb); have n5_ := yam (below_step yhb hb); clear HO369; clear BK364; clear BK365; clear BK366; clear HB; have HO369 := n0_; have HO372 := n1_; have BK364 := n2_; have BK365 := n3_; have BK366 := n4_; have HB := n5_; clear n0_ n1_ n2_ n3_ n4_ n5_; (try clear hb); (try clear hb2); (try clear hk); (try clear hi); (try clear ho0); obtain ⟨Ao17, co17, eo17⟩ := Kd.S_slice HO372.out; subst eo17; obtain ⟨hcz18_0, hcz18_1, hcz18_2, hfz18_0, hfz18_1, hfz18_2⟩ := ybc BK366.out; obtain ⟨hcz19_0, hcz19_1, hcz19_2, hfz19_0, hfz19_1, hfz19_2⟩ := ybc BK365.out))
 refine bodyPost_ret (results_cell_row rfl _ _ gb365 30 #[.int .i64 a0_0, .slice Ao13 t367.length co13, .slice Ao17 t370.length co17] (0, 0) _ rfl (by (with_reducible repeat (first | refine ybn ?_ _ | refine ybd ?_ | refine yba ?_ _)); refine blk_put (cs := #[.int .i64 a0_0, .slice Ao13 t367.length co13, .slice none 0 0]) ?_ 2 _ rfl; (with_reducible repeat (first | refine ybn ?_ _ | refine ybd ?_ | refine yba ?_ _)); refine blk_put (cs := #[.int .i64 a0_0, .slice none 0 0, .slice none 0 0]) ?_ 1 _ rfl; (with_reducible repeat (first | refine ybn ?_ _ | refine ybd ?_ | refine yba ?_ _)); refine blk_put (cs := #[.int .i64 0, .slice none 0 0, .slice none 0 0]) ?_ 0 _ rfl; (with_reducible repeat (first | refine ybn ?_ _ | refine ybd ?_ | refine yba ?_ _)); refine blk_far ?_ NB365_366.out _; (with_reducible repeat (first | refine ybn ?_ _ | refine ybd ?_ | refine yba ?_ _)); exact BK365.out) Try.underlying30 rfl (by kernel_rfl)) rfl ?_
 exact ⟨_, _, yer, by (with_reducible repeat (first | apply Kd.Ya | apply Kd.Yn | apply Kd.Yd)); exact Kd.R_mono (Kd.R_far (p := ⟨gb365, 2, none⟩) (Kd.R_far (p := ⟨gb365, 1, none⟩) (Kd.R_far (p := ⟨gb365, 0, none⟩) (Kd.R_far (p := ⟨gb366, 2, none⟩) (Kd.R_types (Kd.R_types HO369.out BK366.out (by decide)) BK365.out (by decide)) (fun _ hk => hk.1.2) (.slice Ao17 t370.length co17)) (fun _ hk => hk.2) (.int .i64 a0_0)) (fun _ hk => hk.2) (.slice Ao13 t367.length co13)) (fun _ hk => hk.2) (.slice Ao17 t370.length co17)) (fun _ hk => trivial), by (with_reducible repeat (first | apply Kd.S_alloc | apply Kd.S_drewN | apply Kd.S_drew)); exact Kd.S_mono (Kd.S_far (p := ⟨gb365, 2, none⟩) (Kd.S_far (p := ⟨gb365, 1, none⟩) (Kd.S_far (p := ⟨gb365, 0, none⟩) (Kd.S_far (p := ⟨gb366, 2, none⟩) (Kd.S_types (Kd.S_types HO372.out BK366.out (by decide)) BK365.out (by decide)) (fun _ hk => hk.1.2) (.slice Ao17 t370.length co17)) (fun _ hk => hk.2) (.int .i64 a0_0)) (fun _ hk => hk.2) (.slice Ao13 t367.length co13)) (fun _ hk => hk.2) (.slice Ao17 t370.length co17)) (fun _ hk => hk.1.1.2), yhb⟩
def impl_sizeOk.f (a0 : Int) : Option (Bool) := if a0 ≥ 2 then (some (decide (a0 ≤ 4))) else (some false)
set_option maxHeartbeats 8000000 in
set_option maxRecDepth 100000 in
theorem impl_sizeOk.calls (a0 : Int) (r : Bool) (w : World) (h : impl_sizeOk.f a0 = some r) :
  Calls Try.prog 84 #[.int .i64 a0] w fun e w' => e = .returned (.bool r) ∧ Drawn0 w w' := by
 have H : (if a0 ≥ 2 then (some (decide (a0 ≤ 4))) else (some false)) = some r := h
 clear h
 by_cases c2 : a0 ≥ 2
 ·rw [if_pos c2] at H
  have c2b0 : decide (2 ≤ a0) = true := decide_eq_true c2
  clear c2
  obtain rfl := Option.some.inj H
  go_enter Try.func84, Try.ntmps84
  go_wp2
  go_ret
  exact ⟨yeq, by repeat (first | exact Drawn0.refl _ | apply Drawn0.step)⟩
 rw [if_neg c2] at H
 have c2b0 : decide (2 ≤ a0) = false := decide_eq_false c2
 clear c2
 obtain rfl := Option.some.inj H
 go_enter Try.func84, Try.ntmps84
 go_wp2
 go_ret
 exact ⟨yeq, by repeat (first | exact Drawn0.refl _ | apply Drawn0.step)⟩
mutual
def impl_GridValid.j0 : Nat → List Int → Int → Bool → Option (Bool)
 | 0, _, _, _ => none
 | k + 1, x0, x1, x17 => if x17 = true then (some false) else (impl_GridValid.l0 k x1 x0 (x0.length : Int) 0)
def impl_GridValid.l0 : Nat → Int → List Int → Int → Int → Option (Bool)
 | 0, _, _, _, _ => none
 | k + 1, x1, x18, x19, x20 => if x20 < x19 then (if 0 ≤ x20 then (if x20 < (x18.length : Int) then (if (rd x18 x20) < 0 then (some false) else (if (rd x18 x20) > x1 then (some false) else (impl_GridValid.l0 k x1 x18 x19 (wrap64 (x20 + 1))))) else (none)) else (none)) else (some true)
end
def impl_GridValid.f (k : Nat) (l0 : List Int) (a1 : Int) : Option (Bool) := (impl_sizeOk.f a1).bind fun t373 => (if t373 = true then (impl_GridValid.j0 k l0 a1 ((l0.length : Int) != (wrap64 (a1 * a1)))) else (impl_GridValid.j0 k l0 a1 true))
set_option maxHeartbeats 8000000 in
set_option maxRecDepth 100000 in
theorem impl_GridValid.calls (k : Nat) (A0 : Option Addr) (c0 : Nat) (l0 : List Int) (a1 : Int) (r : Bool) (w : World) (hr0 : Kd.C (Kd.int .i64) w A0 l0.length l0) (hc0 : l0.length ≤ c0) (h : impl_GridValid.f k l0 a1 = some r) :
  Calls Try.prog 69 #[.slice A0 l0.length c0, .int .i64 a1] w fun e w' => e = .returned (.bool r) ∧ Drawn0 w w' := by
 have HR0 := yam hr0
 have HC0 := yam hc0
 clear hr0 hc0
 have H : ((impl_sizeOk.f a1).bind fun t373 => (if t373 = true then (impl_GridValid.j0 k l0 a1 ((l0.length : Int) != (wrap64 (a1 * a1)))) else (impl_GridValid.j0 k l0 a1 true))) = some r := h
 clear h
 have HC3 := yam H
 clear H
 go_enter Try.func69, Try.ntmps69
 go_upto_region 1 with (fail)
 go_cut [17] (fun v17 wc => ∃ (kq : Nat) (x17_2 : Bool), v17 = .bool x17_2 ∧ Aside0 (impl_GridValid.j0 kq l0 a1 x17_2 = some r) ∧ Aside0 (kq ≤ k) ∧ Drawn0 w wc)
 case first =>
  have H := HC3.out
  clear HC3
  replace H := Option.bind_eq_some_iff.mp H
  obtain ⟨t373, A40, H⟩ := H
  try dsimp only at H
  have A4 := yam A40
  clear A40
  by_cases c5 : t373 = true
  ·subst c5
   have H1 : (impl_GridValid.j0 k l0 a1 ((l0.length : Int) != (wrap64 (a1 * a1)))) = some r := by rw [if_pos rfl] at H; exact H
   clear H
   have H := H1
   clear H1
   have H' := yam H
   clear H
   go_wp2_with (first | (refine goesL_ (some 8) rfl rfl Try.func84 (by kernel_rfl) rfl #[.int .i64 a1] rfl ymd ?_; (with_reducible refine (impl_sizeOk.calls a1 true _ A4.out).mono ?_); rintro e w' ⟨rfl, ⟨nd, rfl⟩⟩; refine ⟨_, rfl, ?_⟩))
   go_meet
   case rel => exact ⟨_, (((l0.length : Int) != (wrap64 (a1 * a1)))), yeq, H', ⟨by first | omega | exact Nat.le_refl _⟩, by repeat (first | exact Drawn0.refl _ | apply Drawn0.step)⟩
  replace c5 := Bool.eq_false_iff.mpr c5
  subst c5
  have H1 : (impl_GridValid.j0 k l0 a1 true) = some r := by rw [if_neg (show ¬ (false = true) by decide)] at H; exact H
  clear H
  have H := H1
  clear H1
  have H' := yam H
  clear H
  go_wp2_with (first | (refine goesL_ (some 8) rfl rfl Try.func84 (by kernel_rfl) rfl #[.int .i64 a1] rfl ymd ?_; (with_reducible refine (impl_sizeOk.calls a1 false _ A4.out).mono ?_); rintro e w' ⟨rfl, ⟨nd, rfl⟩⟩; refine ⟨_, rfl, ?_⟩))
  go_meet
  case rel => exact ⟨_, (true), yeq, H', ⟨by first | omega | exact Nat.le_refl _⟩, by repeat (first | exact Drawn0.refl _ | apply Drawn0.step)⟩
 case rest =>
  clear HC3
  try clear p2
  try clear c5
  obtain ⟨kq, x17_2, rfl, HA, HJ2, ⟨mc2, rfl⟩⟩ := hcut
  cases kq with
  | zero => exact absurd HA.out (by simp [impl_GridValid.j0])
  | succ kj2 =>
   have H := HA.out
   clear HA
   simp only [impl_GridValid.j0] at H
   by_cases c6 : x17_2 = true
   ·subst c6
    have H1 : (some false) = some r := by rw [if_pos rfl] at H; exact H
    clear H
    have H := H1
    clear H1
    obtain rfl := Option.some.inj H
    go_wp2
    go_ret
    exact ⟨yeq, by repeat (first | exact Drawn0.refl _ | apply Drawn0.step)⟩
   replace c6 := Bool.eq_false_iff.mpr c6
   subst c6
   have H1 : (impl_GridValid.l0 kj2 a1 l0 (l0.length : Int) 0) = some r := by rw [if_neg (show ¬ (false = true) by decide)] at H; exact H
   clear H
   have H := H1
   clear H1
   have H' := yam H
   clear H
   go_wp2
   go_loopg [20] kj2 (fun kq v20 w' => ∃ (x20_2 : Int), v20 = .int .i64 x20_2 ∧ Aside0 (impl_GridValid.l0 kq a1 l0 (l0.length : Int) x20_2 = some r) ∧ Aside0 (kq ≤ kj2) ∧ Drawn0 w w')
   case atStart => exact ⟨(0), yeq, H', ⟨Nat.le_refl _⟩, by repeat (first | exact Drawn0.refl _ | apply Drawn0.step)⟩
   case round =>
    clear H'
    try clear c2
    try clear p2
    try clear c5
    try clear c6
    try clear p6
    try clear p2
    obtain ⟨x20_2, rfl, HA, HK2, ⟨m2, rfl⟩⟩ := hrel
    cases gk with
    | zero => exact absurd HA.out (by simp [impl_GridValid.l0])
    | succ k2 =>
     have H := HA.out
     clear HA
     simp only [impl_GridValid.l0] at H
     by_cases c7 : x20_2 < (l0.length : Int)
     rotate_left
     ·rw [if_neg c7] at H
      have c7b0 : decide (x20_2 < (l0.length : Int)) = false := decide_eq_false c7
      clear c7
      obtain rfl := Option.some.inj H
      go_wp2
      go_ret
      exact ⟨yeq, by repeat (first | exact Drawn0.refl _ | apply Drawn0.step)⟩

     rw [if_pos c7] at H
     have c7b0 : decide (x20_2 < (l0.length : Int)) = true := decide_eq_true c7
     clear c7
     replace H := yif H
     obtain ⟨c8b0, H⟩ := H
     replace H := yif H
     obtain ⟨c9b0, H⟩ := H
     by_cases c10 : (rd l0 x20_2) < 0
     ·rw [if_pos c10] at H
      have c10b0 : decide ((rd l0 x20_2) < 0) = true := decide_eq_true c10
      clear c10
      obtain rfl := Option.some.inj H
      have p374 : 0 ≤ (x20_2 : Int) := ydt
      have q374 : x20_2 < (l0.length : Int) := ydt
      obtain ⟨ad374, e374, hx374_0⟩ := Kd.at_int HR0.out x20_2 p374 q374
      cases e374
      replace p374 := eq_true p374
      replace q374 := eq_true q374
      go_wp2
      go_ret
      exact ⟨yeq, by repeat (first | exact Drawn0.refl _ | apply Drawn0.step)⟩
     rw [if_neg c10] at H
     have c10b0 : decide ((rd l0 x20_2) < 0) = false := decide_eq_false c10
     clear c10
     by_cases c11 : (rd l0 x20_2) > a1
     ·rw [if_pos c11] at H
      have c11b0 : decide (a1 < (rd l0 x20_2)) = true := decide_eq_true c11
      clear c11
      obtain rfl := Option.some.inj H
      have p374 : 0 ≤ (x20_2 : Int) := ydt
      have q374 : x20_2 < (l0.length : Int) := ydt
      obtain ⟨ad374, e374, hx374_0⟩ := Kd.at_int HR0.out x20_2 p374 q374
      cases e374
      replace p374 := eq_true p374
      replace q374 := eq_true q374
      go_wp2
      go_ret
      exact ⟨yeq, by repeat (first | exact Drawn0.refl _ | apply Drawn0.step)⟩
     rw [if_neg c11] at H
     have c11b0 : decide (a1 < (rd l0 x20_2)) = false := decide_eq_false c11
     clear c11
     have H' := yam H
     clear H
     have p374 : 0 ≤ (x20_2 : Int) := ydt
     have q374 : x20_2 < (l0.length : Int) := ydt
     obtain ⟨ad374, e374, hx374_0⟩ := Kd.at_int HR0.out x20_2 p374 q374
     cases e374
     replace p374 := eq_true p374
     replace q374 := eq_true q374
     go_wp2
     go_roundg k2
     case measure => have := HJ2.out; have := HK2.out; omega
     case rel => exact ⟨(wrap64 (x20_2 + 1)), yeq, H', ⟨by have := HJ2.out; have := HK2.out; omega⟩, by repeat (first | exact Drawn0.refl _ | apply Drawn0.step)⟩
def slices_Index_int_int.l0 : Nat → List Int → Int → Int → Int → Option (Int)
 | 0, _, _, _, _ => none
 | k + 1, x0, x1, x7, x8 => if x8 < x7 then (if 0 ≤ x8 then (if x8 < (x0.length : Int) then (if x1 = (rd x0 x8) then (some x8) else (slices_Index_int_int.l0 k x0 x1 x7 (wrap64 (x8 + 1)))) else (none)) else (none)) else (some (-1))
def slices_Index_int_int.f (k : Nat) (l0 : List Int) (a1 : Int) : Option (Int) := slices_Index_int_int.l0 k l0 a1 (l0.length : Int) 0
set_option maxHeartbeats 8000000 in
set_option maxRecDepth 100000 in
theorem slices_Index_int_int.calls (k : Nat) (A0 : Option Addr) (c0 : Nat) (l0 : List Int) (a1 : Int) (r : Int) (w : World) (hr0 : Kd.C (Kd.int .i64) w A0 l0.length l0) (hc0 : l0.length ≤ c0) (h : slices_Index_int_int.f k l0 a1 = some r) :
  Calls Try.prog 92 #[.slice A0 l0.length c0, .int .i64 a1] w fun e w' => e = .returned (.int .i64 r) ∧ Drawn0 w w' := by
 have HR0 := yam hr0
 have HC0 := yam hc0
 clear hr0 hc0
 have H : (slices_Index_int_int.l0 k l0 a1 (l0.length : Int) 0) = some r := h
 clear h
 have H' := yam H
 clear H
 go_enter Try.func92, Try.ntmps92
 go_wp2
 go_loopg [8] k (fun kq v8 w' => ∃ (x8_1 : Int), v8 = .int .i64 x8_1 ∧ Aside0 (slices_Index_int_int.l0 kq l0 a1 (l0.length : Int) x8_1 = some r) ∧ Aside0 (kq ≤ k) ∧ Drawn0 w w')
 case atStart => exact ⟨(0), yeq, H', ⟨Nat.le_refl _⟩, by repeat (first | exact Drawn0.refl _ | apply Drawn0.step)⟩
 case round =>
  clear H'
  try clear p2
  obtain ⟨x8_1, rfl, HA, HK1, ⟨m1, rfl⟩⟩ := hrel
  cases gk with
  | zero => exact absurd HA.out (by simp [slices_Index_int_int.l0])
  | succ k1 =>
   have H := HA.out
   clear HA
   simp only [slices_Index_int_int.l0] at H
   by_cases c3 : x8_1 < (l0.length : Int)
   rotate_left
   ·rw [if_neg c3] at H
    have c3b0 : decide (x8_1 < (l0.length : Int)) = false := decide_eq_false c3
    clear c3
    obtain rfl := Option.some.inj H
    go_wp2
    go_ret
    exact ⟨yeq, by repeat (first | exact Drawn0.refl _ | apply Drawn0.step)⟩

   rw [if_pos c3] at H
   have c3b0 : decide (x8_1 < (l0.length : Int)) = true := decide_eq_true c3
   clear c3
   replace H := yif H
   obtain ⟨c4b0, H⟩ := H
   replace H := yif H
   obtain ⟨c5b0, H⟩ := H
   by_cases c6 : a1 = (rd l0 x8_1)
   ·rw [if_pos c6] at H
    have c6b0 : (a1 == (rd l0 x8_1)) = true := beq_iff_eq.mpr c6
    have c6b1 : (a1 != (rd l0 x8_1)) = false := bne_eq_false_iff_eq.mpr c6
    clear c6
    obtain rfl := Option.some.inj H
    have p375 : 0 ≤ (x8_1 : Int) := ydt
    have q375 : x8_1 < (l0.length : Int) := ydt
    obtain ⟨ad375, e375, hx375_0⟩ := Kd.at_int HR0.out x8_1 p375 q375
    cases e375
    replace p375 := eq_true p375
    replace q375 := eq_true q375
    go_wp2
    go_ret
    exact ⟨yeq, by repeat (first | exact Drawn0.refl _ | apply Drawn0.step)⟩
   rw [if_neg c6] at H
   have c6b0 : (a1 == (rd l0 x8_1)) = false := beq_eq_false_iff_ne.mpr c6
   have c6b1 : (a1 != (rd l0 x8_1)) = true := bne_iff_ne.mpr c6
   have H' := yam H
   clear H
   have p375 : 0 ≤ (x8_1 : Int) := ydt
   have q375 : x8_1 < (l0.length : Int) := ydt
   obtain ⟨ad375, e375, hx375_0⟩ := Kd.at_int HR0.out x8_1 p375 q375
   cases e375
   replace p375 := eq_true p375
   replace q375 := eq_true q375
   go_wp2
   go_roundg k1
   case measure => have := HK1.out; omega
   case rel => exact ⟨(wrap64 (x8_1 + 1)), yeq, H', ⟨by have := HK1.out; omega⟩, by repeat (first | exact Drawn0.refl _ | apply Drawn0.step)⟩
def slices_Contains_int_int.f (k : Nat) (l0 : List Int) (a1 : Int) : Option (Bool) := (slices_Index_int_int.f k l0 a1).bind fun t376 => (some (decide (t376 ≥ 0)))
set_option maxHeartbeats 8000000 in
set_option maxRecDepth 100000 in
theorem slices_Contains_int_int.calls (k : Nat) (A0 : Option Addr) (c0 : Nat) (l0 : List Int) (a1 : Int) (r : Bool) (w : World) (hr0 : Kd.C (Kd.int .i64) w A0 l0.length l0) (hc0 : l0.length ≤ c0) (h : slices_Contains_int_int.f k l0 a1 = some r) :
  Calls Try.prog 85 #[.slice A0 l0.length c0, .int .i64 a1] w fun e w' => e = .returned (.bool r) ∧ Drawn0 w w' := by
 have HR0 := yam hr0
 have HC0 := yam hc0
 clear hr0 hc0
 have H : ((slices_Index_int_int.f k l0 a1).bind fun t376 => (some (decide (t376 ≥ 0)))) = some r := h
 clear h
 replace H := Option.bind_eq_some_iff.mp H
 obtain ⟨t376, A30, H⟩ := H
 try dsimp only at H
 have A3 := yam A30
 clear A30
 obtain rfl := Option.some.inj H
 go_enter Try.func85, Try.ntmps85
 go_wp2_with (first | (refine goesL_ (some 7) rfl rfl Try.func92 (by kernel_rfl) rfl #[.slice A0 l0.length c0, .int .i64 a1] rfl ymd ?_; (with_reducible refine (slices_Index_int_int.calls k _ _ l0 a1 t376 _ ?side1 ?side2 A3.out).mono ?_); (case side1 => exact Kd.Cz (HR0.out)); (case side2 => exact HC0.out); rintro e w' ⟨rfl, ⟨nd, rfl⟩⟩; refine ⟨_, rfl, ?_⟩))
 go_ret
 exact ⟨yeq, by repeat (first | exact Drawn0.refl _ | apply Drawn0.step)⟩
mutual
def impl_RuleValid.l0 : Nat → Int → List Int → Int → Int → Int → List Int → Int → Option (Bool)
 | 0, _, _, _, _, _, _, _ => none
 | k + 1, x1, x12, x13, x14, x378000, x378001, x378002 => if x14 < x13 then (if 0 ≤ x14 then (if x14 < (x12.length : Int) then (if (rd x12 x14) < 0 then (some false) else (if (rd x12 x14) ≥ (wrap64 (x1 * x1)) then (some false) else (if x14 ≤ (x378001.length : Int) then ((slices_Contains_int_int.f k (x378001.take (x14 : Int).toNat) (rd x12 x14)).bind fun t381 => (if t381 = true then (some false) else (impl_RuleValid.l0 k x1 x12 x13 (wrap64 (x14 + 1)) x378000 x378001 x378002))) else (none)))) else (none)) else (none)) else (if x378000 = 1 then (if (x378001.length : Int) ≥ 2 then (if (x378001.length : Int) ≤ 4 then (some (x378002 == 0)) else (some false)) else (some false)) else (if x378000 = 2 then (impl_RuleValid.j1 k x1 (x378001.length : Int) x378000 (x378000 == 2) x378000 x378001 x378002) else (impl_RuleValid.j1 k x1 (x378001.length : Int) x378000 (x378000 == 3) x378000 x378001 x378002)))
def impl_RuleValid.j1 : Nat → Int → Int → Int → Bool → Int → List Int → Int → Option (Bool)
 | 0, _, _, _, _, _, _, _ => none
 | k + 1, x1, x7, x41, x55, x378000, x378001, x378002 => if x55 = true then (if x7 ≥ 1 then (if x7 ≤ 4 then (if x378002 ≥ 1 then (some (decide (x378002 ≤ (wrap64 ((wrap64 ((wrap64 (x1 * x1)) * x1)) * x1))))) else (some false)) else (some false)) else (some false)) else (if x41 = 4 then (if x7 = 2 then (some (x378002 == 0)) else (some false)) else (if x41 = 5 then (if x7 = 2 then (if x378002 ≥ 0 then (some (decide (x378002 < x1))) else (some false)) else (some false)) else (some false)))
end
def impl_RuleValid.f (k : Nat) (a0_0 : Int) (l0_1 : List Int) (a0_2 : Int) (a1 : Int) : Option (Bool) := (impl_sizeOk.f a1).bind fun t378 => (if t378 = true then (impl_RuleValid.l0 k a1 l0_1 (l0_1.length : Int) 0 a0_0 l0_1 a0_2) else (some false))
set_option maxHeartbeats 8000000 in
set_option maxRecDepth 100000 in
theorem impl_RuleValid.calls (k : Nat) (a0_0 : Int) (A0_1 : Option Addr) (c0_1 : Nat) (l0_1 : List Int) (a0_2 : Int) (a1 : Int) (r : Bool) (w : World) (hr0_1 : Kd.C (Kd.int .i64) w A0_1 l0_1.length l0_1) (hc0_1 : l0_1.length ≤ c0_1) (h : impl_RuleValid.f k a0_0 l0_1 a0_2 a1 = some r) :
  Calls Try.prog 70 #[.agg #[.int .i64 a0_0, .slice A0_1 l0_1.length c0_1, .int .i64 a0_2], .int .i64 a1] w fun e w' => e = .returned (.bool r) ∧ Below w.heap.size w w' := by
 have hu67 := Try.underlying67
 have HR0_1 := yam hr0_1
 have HC0_1 := yam hc0_1
 clear hr0_1 hc0_1
 have HB := yam (Below.refl w.heap.size w)
 have H : ((impl_sizeOk.f a1).bind fun t378 => (if t378 = true then (impl_RuleValid.l0 k a1 l0_1 (l0_1.length : Int) 0 a0_0 l0_1 a0_2) else (some false))) = some r := h
 clear h
 replace H := Option.bind_eq_some_iff.mp H
 obtain ⟨t378, A30, H⟩ := H
 try dsimp only at H
 have A3 := yam A30
 clear A30
 by_cases c4 : t378 = true
 rotate_left
 ·replace c4 := Bool.eq_false_iff.mpr c4
  subst c4
  have H1 : (some false) = some r := by rw [if_neg (show ¬ (false = true) by decide)] at H; exact H
  clear H
  have H := H1
  clear H1
  obtain rfl := Option.some.inj H
  go_enter Try.func70, Try.ntmps70
  go_wp2_with (first | (refine ybe 2 #[.int .i64 a0_0, .slice A0_1 l0_1.length c0_1, .int .i64 a0_2] 67 ?_; intro gb377 hg w43 hbox hb; have n0_ := yam (below_step (yez HB.out) hb); have n1_ := yam (hbox); have n2_ := yam ((by rw [hg]; exact (below_size (yez HB.out)) : w.heap.size ≤ gb377)); have n3_ := n2_; clear HB; have HB := n0_; have BK377 := n1_; have GW377 := n2_; have GE377 := n3_; clear n0_ n1_ n2_ n3_; clear hb hbox hg) | (refine goesL_ (some 9) rfl rfl Try.func84 (by kernel_rfl) rfl #[.int .i64 a1] rfl ymd ?_; (with_reducible refine (impl_sizeOk.calls a1 false _ A3.out).mono ?_); rintro e w' ⟨rfl, ⟨nd, rfl⟩⟩; refine ⟨_, rfl, ?_⟩))
  go_ret
  exact ⟨yer, yhb⟩

 subst c4
 have H1 : (impl_RuleValid.l0 k a1 l0_1 (l0_1.length : Int) 0 a0_0 l0_1 a0_2) = some r := by rw [if_pos rfl] at H; exact H
 clear H
 have H := H1
 clear H1
 have H' := yam H
 clear H
 go_enter Try.func70, Try.ntmps70
 go_wp2_with (first | (refine ybe 2 #[.int .i64 a0_0, .slice A0_1 l0_1.length c0_1, .int .i64 a0_2] 67 ?_; intro gb377 hg w5 hbox hb; have n0_ := yam (below_step (yez HB.out) hb); have n1_ := yam (hbox); have n2_ := yam ((by rw [hg]; exact (below_size (yez HB.out)) : w.heap.size ≤ gb377)); have n3_ := n2_; clear HB; have HB := n0_; have BK377 := n1_; have GW377 := n2_; have GE377 := n3_; clear n0_ n1_ n2_ n3_; clear hb hbox hg) | (refine goesL_ (some 9) rfl rfl Try.func84 (by kernel_rfl) rfl #[.int .i64 a1] rfl ymd ?_; (with_reducible refine (impl_sizeOk.calls a1 true _ A3.out).mono ?_); rintro e w' ⟨rfl, ⟨nd, rfl⟩⟩; refine ⟨_, rfl, ?_⟩; obtain ⟨hcz6_0, hcz6_1, hcz6_2, hfz6_0, hfz6_1, hfz6_2⟩ := ybc BK377.out))
 go_loopg [14] k (fun kq v14 w' => ∃ (x14_1 : Int), v14 = .int .i64 x14_1 ∧ Aside0 (impl_RuleValid.l0 kq a1 l0_1 (l0_1.length : Int) x14_1 a0_0 l0_1 a0_2 = some r) ∧ Aside0 (kq ≤ k) ∧ Aside0 (w'.heap[gb377]? = some (.cells #[.int .i64 a0_0, (.slice A0_1 l0_1.length c0_1), .int .i64 a0_2] 67 (0, 0))) ∧ Aside0 (Below w.heap.size w w'))
 case atStart => exact ⟨(0), yeq, H', ⟨Nat.le_refl _⟩, ⟨by (with_reducible repeat (first | refine ybn ?_ _ | refine ybd ?_ | refine yba ?_ _)); exact BK377.out⟩, ⟨yhb⟩⟩
 case round =>
  clear H'
  try clear p2
  try clear c4
  try clear hcz6_0
  try clear hcz6_1
  try clear hcz6_2
  try clear hfz6_0
  try clear hfz6_1
  try clear hfz6_2
  obtain ⟨x14_1, rfl, HA, HK1, BK377, HB⟩ := hrel
  cases gk with
  | zero => exact absurd HA.out (by simp [impl_RuleValid.l0])
  | succ k1 =>
   have H := HA.out
   clear HA
   simp only [impl_RuleValid.l0] at H
   by_cases c7 : x14_1 < (l0_1.length : Int)
   ·rw [if_pos c7] at H
    have c7b0 : decide (x14_1 < (l0_1.length : Int)) = true := decide_eq_true c7
    clear c7
    replace H := yif H
    obtain ⟨c8b0, H⟩ := H
    replace H := yif H
    obtain ⟨c9b0, H⟩ := H
    by_cases c10 : (rd l0_1 x14_1) < 0
    ·rw [if_pos c10] at H
     have c10b0 : decide ((rd l0_1 x14_1) < 0) = true := decide_eq_true c10
     clear c10
     obtain rfl := Option.some.inj H
     have p379 : 0 ≤ (x14_1 : Int) := ydt
     have q379 : x14_1 < (l0_1.length : Int) := ydt
     obtain ⟨ad379, e379, hx379_0⟩ := Kd.at_int HR0_1.out x14_1 p379 q379
     cases e379
     replace hx379_0 := ybx HB.out hx379_0
     replace p379 := eq_true p379
     replace q379 := eq_true q379
     go_wp2
     go_ret
     exact ⟨yer, yhb⟩
    rw [if_neg c10] at H
    have c10b0 : decide ((rd l0_1 x14_1) < 0) = false := decide_eq_false c10
    clear c10
    by_cases c11 : (rd l0_1 x14_1) ≥ (wrap64 (a1 * a1))
    ·rw [if_pos c11] at H
     have c11b0 : decide ((wrap64 (a1 * a1)) ≤ (rd l0_1 x14_1)) = true := decide_eq_true c11
     clear c11
     obtain rfl := Option.some.inj H
     have p379 : 0 ≤ (x14_1 : Int) := ydt
     have q379 : x14_1 < (l0_1.length : Int) := ydt
     obtain ⟨ad379, e379, hx379_0⟩ := Kd.at_int HR0_1.out x14_1 p379 q379
     cases e379
     replace hx379_0 := ybx HB.out hx379_0
     replace p379 := eq_true p379
     replace q379 := eq_true q379
     go_wp2
     go_ret
     exact ⟨yer, yhb⟩
    rw [if_neg c11] at H
    have c11b0 : decide ((wrap64 (a1 * a1)) ≤ (rd l0_1 x14_1)) = false := decide_eq_false c11
    clear c11
    have c12b0 := eq_true (ydt : 0 ≤ x14_1)
    replace H := yig H
    obtain ⟨c13, H⟩ := H
    have c13b0 := eq_true c13
    have c13b1 : decide (x14_1 ≤ (l0_1.length : Int)) = true := decide_eq_true c13
    clear c13
    replace H := Option.bind_eq_some_iff.mp H
    obtain ⟨t381, A140, H⟩ := H
    try dsimp only at H
    have A14 := yam A140
    clear A140
    by_cases c15 : t381 = true
    ·subst c15
     have H1 : (some false) = some r := by rw [if_pos rfl] at H; exact H
     clear H
     have H := H1
     clear H1
     obtain rfl := Option.some.inj H
     have p379 : 0 ≤ (x14_1 : Int) := ydt
     have q379 : x14_1 < (l0_1.length : Int) := ydt
     obtain ⟨ad379, e379, hx379_0⟩ := Kd.at_int HR0_1.out x14_1 p379 q379
     cases e379
     replace hx379_0 := ybx HB.out hx379_0
     replace p379 := eq_true p379
     replace q379 := eq_true q379
     obtain ⟨hcz16_0, hcz16_1, hcz16_2, hfz16_0, hfz16_1, hfz16_2⟩ := ybc BK377.out
     obtain ⟨i017, hi017, _, hsz17, _⟩ := info_parts info3
     obtain ⟨hcut17, hA17, hC17⟩ := print_take_of (P := Try.prog) (Value.int .i64) 0 22 3 .i64 Try.underlying22 hi017 hsz17 (some ad379) c0_1 l0_1 x14_1 (ydt) (ydt) HC0_1.out
     have hl17_ : (l0_1.take (x14_1 : Int).toNat).length = (x14_1 : Int).toNat := by
      have e0_ : 0 ≤ (x14_1 : Int) := ydt
      have e1_ : (x14_1 : Int) ≤ (l0_1.length : Int) := ydt
      rw [List.length_take]; omega
     have HR380 := yam (Kd.C_of_reads (h1 := fun _ => rfl) (hA17 _ (Kd.reads_of_C HR0_1.out)))
     have HC380 := yam hC17
     clear hA17 hC17 hi017 hsz17
     go_wp2_with (first | (go_at_call 85; (first | (with_reducible refine (slices_Contains_int_int.calls k1 _ _ (l0_1.take (x14_1 : Int).toNat) (rd l0_1 x14_1) true _ ?side1 ?side2 A14.out).mono ?_) | (rw [← hl17_]; (with_reducible refine (slices_Contains_int_int.calls k1 _ _ (l0_1.take (x14_1 : Int).toNat) (rd l0_1 x14_1) true _ ?side1 ?side2 A14.out).mono ?_))); (case side1 => exact Kd.Cz ((Kd.C_below HR380.out HB.out))); (case side2 => exact HC380.out); rintro e w' ⟨rfl, ⟨nd, rfl⟩⟩))
     go_ret
     exact ⟨yer, yhb⟩
    replace c15 := Bool.eq_false_iff.mpr c15
    subst c15
    have H1 : (impl_RuleValid.l0 k1 a1 l0_1 (l0_1.length : Int) (wrap64 (x14_1 + 1)) a0_0 l0_1 a0_2) = some r := by rw [if_neg (show ¬ (false = true) by decide)] at H; exact H
    clear H
    have H := H1
    clear H1
    have H' := yam H
    clear H
    have p379 : 0 ≤ (x14_1 : Int) := ydt
    have q379 : x14_1 < (l0_1.length : Int) := ydt
    obtain ⟨ad379, e379, hx379_0⟩ := Kd.at_int HR0_1.out x14_1 p379 q379
    cases e379
    replace hx379_0 := ybx HB.out hx379_0
    replace p379 := eq_true p379
    replace q379 := eq_true q379
    obtain ⟨hcz18_0, hcz18_1, hcz18_2, hfz18_0, hfz18_1, hfz18_2⟩ := ybc BK377.out
    obtain ⟨i019, hi019, _, hsz19, _⟩ := info_parts info3
    obtain ⟨hcut19, hA19, hC19⟩ := print_take_of (P := Try.prog) (Value.int .i64) 0 22 3 .i64 Try.underlying22 hi019 hsz19 (some ad379) c0_1 l0_1 x14_1 (ydt) (ydt) HC0_1.out
    have hl19_ : (l0_1.take (x14_1 : Int).toNat).length = (x14_1 : Int).toNat := by
     have e0_ : 0 ≤ (x14_1 : Int) := ydt
     have e1_ : (x14_1 : Int) ≤ (l0_1.length : Int) := ydt
     rw [List.length_take]; omega
    have HR380 := yam (Kd.C_of_reads (h1 := fun _ => rfl) (hA19 _ (Kd.reads_of_C HR0_1.out)))
    have HC380 := yam hC19
    clear hA19 hC19 hi019 hsz19
    go_wp2_with (first | (go_at_call 85; (first | (with_reducible refine (slices_Contains_int_int.calls k1 _ _ (l0_1.take (x14_1 : Int).toNat) (rd l0_1 x14_1) false _ ?side1 ?side2 A14.out).mono ?_) | (rw [← hl19_]; (with_reducible refine (slices_Contains_int_int.calls k1 _ _ (l0_1.take (x14_1 : Int).toNat) (rd l0_1 x14_1) false _ ?side1 ?side2 A14.out).mono ?_))); (case side1 => exact Kd.Cz ((Kd.C_below HR380.out HB.out))); (case side2 => exact HC380.out); rintro e w' ⟨rfl, ⟨nd, rfl⟩⟩))
    go_roundg k1
    case measure => have := HK1.out; omega
    case rel => exact ⟨(wrap64 (x14_1 + 1)), yeq, H', ⟨by have := HK1.out; omega⟩, ⟨by (with_reducible repeat (first | refine ybn ?_ _ | refine ybd ?_ | refine yba ?_ _)); exact BK377.out⟩, ⟨yhb⟩⟩
   rw [if_neg c7] at H
   have c7b0 : decide (x14_1 < (l0_1.length : Int)) = false := decide_eq_false c7
   clear c7
   by_cases c20 : a0_0 = 1
   ·rw [if_pos c20] at H
    have c20b0 : (a0_0 == 1) = true := beq_iff_eq.mpr c20
    have c20b1 : (a0_0 != 1) = false := bne_eq_false_iff_eq.mpr c20
    clear c20
    by_cases c21 : (l0_1.length : Int) ≥ 2
    rotate_left
    ·rw [if_neg c21] at H
     have c21b0 : decide (2 ≤ (l0_1.length : Int)) = false := decide_eq_false c21
     have c21b1 : decide (2 ≤ l0_1.length) = false := decide_eq_false (by omega)
     clear c21
     obtain rfl := Option.some.inj H
     obtain ⟨hcz25_0, hcz25_1, hcz25_2, hfz25_0, hfz25_1, hfz25_2⟩ := ybc BK377.out
     go_wp2
     go_ret
     exact ⟨yer, yhb⟩
    rw [if_pos c21] at H
    have c21b0 : decide (2 ≤ (l0_1.length : Int)) = true := decide_eq_true c21
    have c21b1 : decide (2 ≤ l0_1.length) = true := decide_eq_true (by omega)
    clear c21
    by_cases c22 : (l0_1.length : Int) ≤ 4
    ·rw [if_pos c22] at H
     have c22b0 : decide ((l0_1.length : Int) ≤ 4) = true := decide_eq_true c22
     have c22b1 : decide (l0_1.length ≤ 4) = true := decide_eq_true (by omega)
     clear c22
     obtain rfl := Option.some.inj H
     obtain ⟨hcz23_0, hcz23_1, hcz23_2, hfz23_0, hfz23_1, hfz23_2⟩ := ybc BK377.out
     go_wp2
     go_ret
     exact ⟨yer, yhb⟩
    rw [if_neg c22] at H
    have c22b0 : decide ((l0_1.length : Int) ≤ 4) = false := decide_eq_false c22
    have c22b1 : decide (l0_1.length ≤ 4) = false := decide_eq_false (by omega)
    clear c22
    obtain rfl := Option.some.inj H
    obtain ⟨hcz24_0, hcz24_1, hcz24_2, hfz24_0, hfz24_1, hfz24_2⟩ := ybc BK377.out
    go_wp2
    go_ret
    exact ⟨yer, yhb⟩
   rw [if_neg c20] at H
   have c20b0 : (a0_0 == 1) = false := beq_eq_false_iff_ne.mpr c20
   have c20b1 : (a0_0 != 1) = true := bne_iff_ne.mpr c20
   have HC26 := yam H
   clear H
   obtain ⟨hcz27_0, hcz27_1, hcz27_2, hfz27_0, hfz27_1, hfz27_2⟩ := ybc BK377.out
   go_upto_if 55 with (fail)
   go_cut [55] (fun v55 wc => ∃ (kq : Nat) (x55_25 : Bool), v55 = .bool x55_25 ∧ Aside0 (impl_RuleValid.j1 kq a1 (l0_1.length : Int) a0_0 x55_25 a0_0 l0_1 a0_2 = some r) ∧ Aside0 (kq ≤ k1) ∧ Aside0 (wc.heap[gb377]? = some (.cells #[.int .i64 a0_0, (.slice A0_1 l0_1.length c0_1), .int .i64 a0_2] 67 (0, 0))) ∧ Aside0 (Below w.heap.size w wc))
   case first =>
    have H := HC26.out
    clear HC26
    by_cases c28 : a0_0 = 2
    rotate_left
    ·rw [if_neg c28] at H
     have c28b0 : (a0_0 == 2) = false := beq_eq_false_iff_ne.mpr c28
     have c28b1 : (a0_0 != 2) = true := bne_iff_ne.mpr c28
     (first | rw [c28b0] | (simp only [i64_w, i32_w]; rw [c28b0]) | skip)
     have H' := yam H
     clear H
     go_wp2
     go_meet
     case rel => exact ⟨_, ((a0_0 == 3)), yeq, H', ⟨by have := HK1.out; first | omega | exact Nat.le_refl _⟩, ⟨by (with_reducible repeat (first | refine ybn ?_ _ | refine ybd ?_ | refine yba ?_ _)); exact BK377.out⟩, ⟨yhb⟩⟩
    rw [if_pos c28] at H
    have c28b0 : (a0_0 == 2) = true := beq_iff_eq.mpr c28
    have c28b1 : (a0_0 != 2) = false := bne_eq_false_iff_eq.mpr c28
    clear c28
    (first | rw [c28b0] | (simp only [i64_w, i32_w]; rw [c28b0]) | skip)
    have H' := yam H
    clear H
    go_wp2
    go_meet
    case rel => exact ⟨_, ((a0_0 == 2)), yeq, H', ⟨by have := HK1.out; first | omega | exact Nat.le_refl _⟩, ⟨by (with_reducible repeat (first | refine ybn ?_ _ | refine ybd ?_ | refine yba ?_ _)); exact BK377.out⟩, ⟨yhb⟩⟩
   case rest =>
    clear HC26
    try clear c1
    try clear c2
    try clear p2
    try clear p3
    try clear q3
    try clear hx3
    try clear c4
    try clear p6
    try clear c7
    try clear c7b0
    try clear c8
    try clear c8b0
    try clear c9
    try clear c9b0
    try clear c10
    try clear c10b0
    try clear c11
    try clear c11b0
    try clear c12
    try clear c12b0
    try clear c13
    try clear c13b0
    try clear c13b1
    try clear c15
    try clear c20
    try clear c20b0
    try clear c20b1
    try clear c21
    try clear c21b0
    try clear c21b1
    try clear c22
    try clear c22b0
    try clear c22b1
    try clear c28
    try clear c28b0
    try clear c28b1
    try clear hcz16_0
    try clear hcz16_1
    try clear hcz16_2
    try clear hcz18_0
    try clear hcz18_1
    try clear hcz18_2
    try clear hcz23_0
    try clear hcz23_1
    try clear hcz23_2
    try clear hcz24_0
    try clear hcz24_1
    try clear hcz24_2
    try clear hcz25_0
    try clear hcz25_1
    try clear hcz25_2
    try clear hcz27_0
    try clear hcz27_1
    try clear hcz27_2
    try clear hcz6_0
    try clear hcz6_1
    try clear hcz6_2
    try clear hfz16_0
    try clear hfz16_1
    try clear hfz16_2
    try clear hfz18_0
    try clear hfz18_1
    try clear hfz18_2
    try clear hfz23_0
    try clear hfz23_1
    try clear hfz23_2
    try clear hfz24_0
    try clear hfz24_1
    try clear hfz24_2
    try clear hfz25_0
    try clear hfz25_1
    try clear hfz25_2
    try clear hfz27_0
    try clear hfz27_1
    try clear hfz27_2
    try clear hfz6_0
    try clear hfz6_1
    try clear hfz6_2
    try clear hx379_0
    try clear p2
    try clear p379
    try clear q379
    obtain ⟨kq, x55_25, rfl, HA, HJ25, BK377, HB⟩ := hcut
    cases kq with
    | zero => exact absurd HA.out (by simp [impl_RuleValid.j1])
    | succ kj25 =>
     have H := HA.out
     clear HA
     simp only [impl_RuleValid.j1] at H
     by_cases c29 : x55_25 = true
     ·subst c29
      have H1 : (if (l0_1.length : Int) ≥ 1 then (if (l0_1.length : Int) ≤ 4 then (if a0_2 ≥ 1 then (some (decide (a0_2 ≤ (wrap64 ((wrap64 ((wrap64 (a1 * a1)) * a1)) * a1))))) else (some false)) else (some false)) else (some false)) = some r := by rw [if_pos rfl] at H; exact H
      clear H
      have H := H1
      clear H1
      by_cases c30 : (l0_1.length : Int) ≥ 1
      rotate_left
      ·rw [if_neg c30] at H
       have c30b0 : decide (1 ≤ (l0_1.length : Int)) = false := decide_eq_false c30
       have c30b1 : decide (1 ≤ l0_1.length) = false := decide_eq_false (by omega)
       clear c30
       obtain rfl := Option.some.inj H
       go_wp2
       go_ret
       exact ⟨yer, yhb⟩
      rw [if_pos c30] at H
      have c30b0 : decide (1 ≤ (l0_1.length : Int)) = true := decide_eq_true c30
      have c30b1 : decide (1 ≤ l0_1.length) = true := decide_eq_true (by omega)
      clear c30
      by_cases c31 : (l0_1.length : Int) ≤ 4
      rotate_left
      ·rw [if_neg c31] at H
       have c31b0 : decide ((l0_1.length : Int) ≤ 4) = false := decide_eq_false c31
       have c31b1 : decide (l0_1.length ≤ 4) = false := decide_eq_false (by omega)
       clear c31
       obtain rfl := Option.some.inj H
       go_wp2
       go_ret
       exact ⟨yer, yhb⟩
      rw [if_pos c31] at H
      have c31b0 : decide ((l0_1.length : Int) ≤ 4) = true := decide_eq_true c31
      have c31b1 : decide (l0_1.length ≤ 4) = true := decide_eq_true (by omega)
      clear c31
      by_cases c32 : a0_2 ≥ 1
      ·rw [if_pos c32] at H
       have c32b0 : decide (1 ≤ a0_2) = true := decide_eq_true c32
       clear c32
       obtain rfl := Option.some.inj H
       obtain ⟨hcz33_0, hcz33_1, hcz33_2, hfz33_0, hfz33_1, hfz33_2⟩ := ybc BK377.out
       go_wp2
       go_ret
       exact ⟨yer, yhb⟩
      rw [if_neg c32] at H
      have c32b0 : decide (1 ≤ a0_2) = false := decide_eq_false c32
      clear c32
      obtain rfl := Option.some.inj H
      obtain ⟨hcz34_0, hcz34_1, hcz34_2, hfz34_0, hfz34_1, hfz34_2⟩ := ybc BK377.out
      go_wp2
      go_ret
      exact ⟨yer, yhb⟩
     replace c29 := Bool.eq_false_iff.mpr c29
     subst c29
     have H1 : (if a0_0 = 4 then (if (l0_1.length : Int) = 2 then (some (a0_2 == 0)) else (some false)) else (if a0_0 = 5 then (if (l0_1.length : Int) = 2 then (if a0_2 ≥ 0 then (some (decide (a0_2 < a1))) else (some false)) else (some false)) else (some false))) = some r := by rw [if_neg (show ¬ (false = true) by decide)] at H; exact H
     clear H
     have H := H1
     clear H1
     by_cases c35 : a0_0 = 4
     ·rw [if_pos c35] at H
      have c35b0 : (a0_0 == 4) = true := beq_iff_eq.mpr c35
      have c35b1 : (a0_0 != 4) = false := bne_eq_false_iff_eq.mpr c35
      clear c35
      by_cases c36 : (l0_1.length : Int) = 2
      rotate_left
      ·rw [if_neg c36] at H
       have c36b0 : ((l0_1.length : Int) == 2) = false := beq_eq_false_iff_ne.mpr c36
       have c36b1 : ((l0_1.length : Int) != 2) = true := bne_iff_ne.mpr c36
       obtain rfl := Option.some.inj H
       go_wp2
       go_ret
       exact ⟨yer, yhb⟩
      rw [if_pos c36] at H
      have c36b0 : ((l0_1.length : Int) == 2) = true := beq_iff_eq.mpr c36
      have c36b1 : ((l0_1.length : Int) != 2) = false := bne_eq_false_iff_eq.mpr c36
      clear c36
      obtain rfl := Option.some.inj H
      obtain ⟨hcz37_0, hcz37_1, hcz37_2, hfz37_0, hfz37_1, hfz37_2⟩ := ybc BK377.out
      go_wp2
      go_ret
      exact ⟨yer, yhb⟩
     rw [if_neg c35] at H
     have c35b0 : (a0_0 == 4) = false := beq_eq_false_iff_ne.mpr c35
     have c35b1 : (a0_0 != 4) = true := bne_iff_ne.mpr c35
     by_cases c38 : a0_0 = 5
     rotate_left
     ·rw [if_neg c38] at H
      have c38b0 : (a0_0 == 5) = false := beq_eq_false_iff_ne.mpr c38
      have c38b1 : (a0_0 != 5) = true := bne_iff_ne.mpr c38
      obtain rfl := Option.some.inj H
      go_wp2
      go_ret
      exact ⟨yer, yhb⟩
     rw [if_pos c38] at H
     have c38b0 : (a0_0 == 5) = true := beq_iff_eq.mpr c38
     have c38b1 : (a0_0 != 5) = false := bne_eq_false_iff_eq.mpr c38
     clear c38
     by_cases c39 : (l0_1.length : Int) = 2
     rotate_left
     ·rw [if_neg c39] at H
      have c39b0 : ((l0_1.length : Int) == 2) = false := beq_eq_false_iff_ne.mpr c39
      have c39b1 : ((l0_1.length : Int) != 2) = true := bne_iff_ne.mpr c39
      obtain rfl := Option.some.inj H
      go_wp2
      go_ret
      exact ⟨yer, yhb⟩
     rw [if_pos c39] at H
     have c39b0 : ((l0_1.length : Int) == 2) = true := beq_iff_eq.mpr c39
     have c39b1 : ((l0_1.length : Int) != 2) = false := bne_eq_false_iff_eq.mpr c39
     clear c39
     by_cases c40 : a0_2 ≥ 0
     ·rw [if_pos c40] at H
      have c40b0 : decide (0 ≤ a0_2) = true := decide_eq_true c40
      clear c40
      obtain rfl := Option.some.inj H
      obtain ⟨hcz41_0, hcz41_1, hcz41_2, hfz41_0, hfz41_1, hfz41_2⟩ := ybc BK377.out
      go_wp2
      go_ret
      exact ⟨yer, yhb⟩
     rw [if_neg c40] at H
     have c40b0 : decide (0 ≤ a0_2) = false := decide_eq_false c40
     clear c40
     obtain rfl := Option.some.inj H
     obtain ⟨hcz42_0, hcz42_1, hcz42_2, hfz42_0, hfz42_1, hfz42_2⟩ := ybc BK377.out
     go_wp2
     go_ret
     exact ⟨yer, yhb⟩
end Go.Proofs.Ytdemlminhkhonaa.P
