/- The machine's side: each Go function as a plain Lean function and the proof that the machine's call does what that function says; written by this session's own program over the kit's print. -/
import Derived.Test.YtdemlminhkhonaaZP1
import Derived.Test.YtdemlminhkhonaaZP5
import Derived.Test.YtdemlminhkhonaaZP6
namespace Go.Proofs.Ytdemlminhkhonaa.P
open Go.RowKit Go.Proofs.YtdemlminhkhonaaW.PrintWords Go.Proofs.YtdemlminhkhonaaW.PrintLast Go.Proofs.YtdemlminhkhonaaW.PrintMore
attribute [local go_sem] max2_int min2_int max_two min_two max_three min_three max_four min_four   -- for this text's walks alone
set_option linter.unusedVariables false
set_option linter.unusedSimpArgs false
def impl_ruleMasks.orFrom (vals : List Int) : Nat → Int → List Int → List Int
 | 0, _, out => out
 | d + 1, i, out => impl_ruleMasks.orFrom vals d (i + 1) (out.set i.toNat (Go.bits .or .i64 (rd out i) (shl .i64 1 (rd vals i))))
def impl_ruleMasks.tryV (f : List Int → List Int → Option (List Int × List Int)) (m : Int) (i : Nat) : Nat → Int → List Int → List Int → Option (List Int × List Int)
 | 0, _, vals, out => some (vals, out)
 | n + 1, v, vals, out => if Go.bits .and .i64 (shr .i64 m v) 1 = 1 then (f (vals.set i v) out).bind fun t => impl_ruleMasks.tryV f m i n (v + 1) t.1 t.2 else impl_ruleMasks.tryV f m i n (v + 1) vals out
def impl_ruleMasks.try_ (k : Nat) (a0_0 : Int) (l0_1 : List Int) (a0_2 : Int) (own : List Int) : Nat → List Int → List Int → Option (List Int × List Int)
 | 0, vals, out => (impl_valuesHold.f k a0_0 l0_1 a0_2 vals).bind fun b => if b = true then (if ∀ x ∈ vals, 0 ≤ x then some (vals, impl_ruleMasks.orFrom vals own.length 0 out) else none) else some (vals, out)
 | d + 1, vals, out => impl_ruleMasks.tryV (impl_ruleMasks.try_ k a0_0 l0_1 a0_2 own d) (rd own ((own.length : Int) - (d + 1 : Nat))) ((own.length : Int) - (d + 1 : Nat)).toNat 4 1 vals out
def impl_ruleMasks.Boxes (W : World) (gown gr gval gout gtry gv go cv cu : Nat) (Ao : Option Addr) (co n : Nat) (a0_0 : Int) (Ac : Option Addr) (cc nc : Nat) (a0_2 : Int) : Prop :=
 W.heap[gown]? = some (.cells #[.slice Ao n co] 22 (0, 0)) ∧ W.heap[gr]? = some (.cells #[.int .i64 a0_0, .slice Ac nc cc, .int .i64 a0_2] 67 (0, 0)) ∧ W.heap[gval]? = some (.cells #[.slice (some ⟨gv, 0, none⟩) n cv] 22 (0, 0)) ∧ W.heap[gout]? = some (.cells #[.slice (some ⟨go, 0, none⟩) n cu] 22 (0, 0)) ∧ W.heap[gtry]? = some (.cells #[.func (.func 98) #[] #[.pointer (some ⟨gown, 0, none⟩), .pointer (some ⟨gr, 0, none⟩), .pointer (some ⟨gval, 0, none⟩), .pointer (some ⟨gout, 0, none⟩), .pointer (some ⟨gtry, 0, none⟩)]] 91 (0, 0))
theorem impl_ruleMasks.Boxes.below {W W1 : World} {gown gr gval gout gtry gv go cv cu : Nat} {Ao : Option Addr} {co n : Nat} {a0_0 : Int} {Ac : Option Addr} {cc nc : Nat} {a0_2 : Int} (h : impl_ruleMasks.Boxes W gown gr gval gout gtry gv go cv cu Ao co n a0_0 Ac cc nc a0_2) (hb : Below W.heap.size W W1) : impl_ruleMasks.Boxes W1 gown gr gval gout gtry gv go cv cu Ao co n a0_0 Ac cc nc a0_2 :=
 ⟨blk_below h.1 hb, blk_below h.2.1 hb, blk_below h.2.2.1 hb, blk_below h.2.2.2.1 hb, blk_below h.2.2.2.2 hb⟩
theorem impl_ruleMasks.Boxes.drewN {W : World} {gown gr gval gout gtry gv go cv cu : Nat} {Ao : Option Addr} {co n : Nat} {a0_0 : Int} {Ac : Option Addr} {cc nc : Nat} {a0_2 : Int} (h : impl_ruleMasks.Boxes W gown gr gval gout gtry gv go cv cu Ao co n a0_0 Ac cc nc a0_2) (m : Nat) : impl_ruleMasks.Boxes (W.drewN m) gown gr gval gout gtry gv go cv cu Ao co n a0_0 Ac cc nc a0_2 := h
theorem impl_ruleMasks.Boxes.grown {W W1 : World} {gown gr gval gout gtry gv go cv cu : Nat} {Ao : Option Addr} {co n : Nat} {a0_0 : Int} {Ac : Option Addr} {cc nc : Nat} {a0_2 : Int} (h : impl_ruleMasks.Boxes W gown gr gval gout gtry gv go cv cu Ao co n a0_0 Ac cc nc a0_2) {α : Type} {d : Kd α} {base : Nat} {ok : Nat → Prop} {v : Value} {xs : List α} (ho : d.R 3 W base ok v xs) (hg : W.grownBy W1 v.ownBlock) : impl_ruleMasks.Boxes W1 gown gr gval gout gtry gv go cv cu Ao co n a0_0 Ac cc nc a0_2 :=
 ⟨blk_grown h.1 hg (Kd.R_ne ho h.1 (by decide)), blk_grown h.2.1 hg (Kd.R_ne ho h.2.1 (by decide)), blk_grown h.2.2.1 hg (Kd.R_ne ho h.2.2.1 (by decide)), blk_grown h.2.2.2.1 hg (Kd.R_ne ho h.2.2.2.1 (by decide)), blk_grown h.2.2.2.2 hg (Kd.R_ne ho h.2.2.2.2 (by decide))⟩
theorem impl_ruleMasks.R_other {W W1 : World} {base : Nat} {g g2 : Nat} {n c n2 c2 : Nat} {xs : List Int} (h : Kd.R (Kd.int .i64) 3 W base (fun k => k = g) (.slice (some ⟨g, 0, none⟩) n c) xs) (hne : g ≠ g2) (hg : W.grownBy W1 (some g2)) : Kd.R (Kd.int .i64) 3 W1 base (fun k => k = g) (.slice (some ⟨g, 0, none⟩) n c) xs :=
 Kd.R_mono (Kd.R_after (v := .slice (some ⟨g2, 0, none⟩) n2 c2) (v1 := .slice (some ⟨g2, 0, none⟩) n2 c2) (ok := fun k => k = g) (Kd.R_mono h (fun k hk => ⟨hk, by subst hk; simpa [Value.ownBlock] using hne⟩)) hg (.inl rfl)) (fun k hk => hk.1)
set_option maxHeartbeats 8000000 in
set_option maxRecDepth 100000 in
theorem impl_ruleMasks.clo (k : Nat) (a0_0 : Int) (Ac : Option Addr) (cc : Nat) (l0_1 : List Int) (a0_2 : Int) (Ao : Option Addr) (co : Nat) (own : List Int) (gown gr gval gout gtry gv go cv cu : Nat) (w0 : World) (hne : gv ≠ go) (hbv : w0.heap.size ≤ gv) (hbo : w0.heap.size ≤ go) (hrC : Kd.C (Kd.int .i64) w0 Ac l0_1.length l0_1) (hcC : l0_1.length ≤ cc) (hrO : Kd.C (Kd.int .i64) w0 Ao own.length own) :
  ∀ (d : Nat) (a : Int) (vals out vals' out' : List Int) (w : World) (_ : (own.length : Int) - d = a) (_ : d ≤ own.length) (_ : own.length ≤ 100000) (_ : vals.length = own.length) (_ : out.length = own.length) (_ : Kd.R (Kd.int .i64) 3 w w0.heap.size (fun k => k = gv) (.slice (some ⟨gv, 0, none⟩) own.length cv) vals) (_ : Kd.R (Kd.int .i64) 3 w w0.heap.size (fun k => k = go) (.slice (some ⟨go, 0, none⟩) own.length cu) out) (_ : impl_ruleMasks.Boxes w gown gr gval gout gtry gv go cv cu Ao co own.length a0_0 Ac cc l0_1.length a0_2) (_ : Below w0.heap.size w0 w) (_ : impl_ruleMasks.try_ k a0_0 l0_1 a0_2 own d vals out = some (vals', out')),
  Calls Try.prog 98 #[.int .i64 a, .pointer (some ⟨gown, 0, none⟩), .pointer (some ⟨gr, 0, none⟩), .pointer (some ⟨gval, 0, none⟩), .pointer (some ⟨gout, 0, none⟩), .pointer (some ⟨gtry, 0, none⟩)] w fun e w' => e = .returned (.tuple #[]) ∧ vals'.length = own.length ∧ out'.length = own.length ∧ Kd.R (Kd.int .i64) 3 w' w0.heap.size (fun k => k = gv) (.slice (some ⟨gv, 0, none⟩) own.length cv) vals' ∧ Kd.R (Kd.int .i64) 3 w' w0.heap.size (fun k => k = go) (.slice (some ⟨go, 0, none⟩) own.length cu) out' ∧ impl_ruleMasks.Boxes w' gown gr gval gout gtry gv go cv cu Ao co own.length a0_0 Ac cc l0_1.length a0_2 ∧ Below w0.heap.size w0 w' := by
 intro d
 have HRC := yam hrC
 have HCC := yam hcC
 have HRO := yam hrO
 clear hrC hcC hrO
 induction d with
 | zero =>
  intro a vals out vals' out' w ha hd hn hlv hlo hV hO hX hB h
  have ha0 : a = (own.length : Int) := by omega
  have hae : (a == (own.length : Int)) = true := beq_iff_eq.mpr ha0
  clear ha ha0 hd
  have HN := yam hn
  have HLV := yam hlv
  have HLO := yam hlo
  have HV := yam hV
  have HO := yam hO
  have HX := yam hX
  have HB := yam hB
  clear hn hlv hlo hV hO hB
  unfold impl_ruleMasks.try_ at h
  obtain ⟨b, hb, h⟩ := Option.bind_eq_some_iff.1 h
  have HVH := yam hb
  have H := yam h
  clear hb h
  have hcO : w.cell? ⟨gown, 0, none⟩ = some (.slice Ao own.length co) := (blk_cell hX.1 0).trans rfl
  have hcR0 : w.cell? ⟨gr, 0, none⟩ = some (.int .i64 a0_0) := (blk_cell hX.2.1 0).trans rfl
  have hcR1 : w.cell? ⟨gr, 1, none⟩ = some (.slice Ac l0_1.length cc) := (blk_cell hX.2.1 1).trans rfl
  have hcR2 : w.cell? ⟨gr, 2, none⟩ = some (.int .i64 a0_2) := (blk_cell hX.2.1 2).trans rfl
  have hcV : w.cell? ⟨gval, 0, none⟩ = some (.slice (some ⟨gv, 0, none⟩) own.length cv) := (blk_cell hX.2.2.1 0).trans rfl
  clear hX
  cases b with
  | false =>
   have H2 := H.out
   simp only [Bool.false_eq_true, if_false, Option.some.injEq, Prod.mk.injEq] at H2
   obtain ⟨rfl, rfl⟩ := H2
   clear H
   go_enter Try.func98, Try.ntmps98
   go_wp2_with (first | ((with_reducible refine gate_callee (f := 99) rfl ?_); refine goesL_ (some 16) rfl rfl Try.func99 (by kernel_rfl) rfl #[.agg #[.int .i64 a0_0, .slice Ac l0_1.length cc, .int .i64 a0_2], .slice (some ⟨gv, 0, none⟩) vals.length cv] rfl (by (try simp only [List.map_toArray, List.map_cons, List.map_nil]); rw [HLV.out]; rfl) ?_; (with_reducible refine (impl_valuesHold.calls k a0_0 _ _ l0_1 a0_2 _ _ vals false _ (Kd.C_below HRC.out HB.out) HCC.out (Kd.R_reads' HV.out).2.2 (by rw [HLV.out]; exact (Kd.R_reads' HV.out).2.1) HVH.out).mono ?_); rintro e w' ⟨rfl, hb⟩; refine ⟨_, rfl, ?_⟩; have n0_ := yam (Kd.R_below HV.out hb); have n1_ := yam (Kd.R_below HO.out hb); have n2_ := yam (impl_ruleMasks.Boxes.below HX.out hb); have n3_ := yam (below_step HB.out hb); clear HV HO HX HB hb hcO hcR0 hcR1 hcR2 hcV; have HV := n0_; have HO := n1_; have HX := n2_; have HB := n3_; clear n0_ n1_ n2_ n3_))
   first | go_end0 | ((try simp only [Exit.inBlock, Exit.then]); refine bodyPost_ret (results_none rfl _ _ _) rfl ?_)
   exact ⟨rfl, HLV.out, HLO.out, HV.out, HO.out, HX.out, HB.out⟩
  | true =>
   have H2 := H.out
   simp only [if_true] at H2
   by_cases hpos : ∀ x ∈ vals, 0 ≤ x
   ·rw [if_pos hpos] at H2
    simp only [Option.some.injEq, Prod.mk.injEq] at H2
    obtain ⟨rfl, rfl⟩ := H2
    clear H
    have HP := yam hpos
    clear hpos
    go_enter Try.func98, Try.ntmps98
    go_wp2_with (first | ((with_reducible refine gate_callee (f := 99) rfl ?_); refine goesL_ (some 16) rfl rfl Try.func99 (by kernel_rfl) rfl #[.agg #[.int .i64 a0_0, .slice Ac l0_1.length cc, .int .i64 a0_2], .slice (some ⟨gv, 0, none⟩) vals.length cv] rfl (by (try simp only [List.map_toArray, List.map_cons, List.map_nil]); rw [HLV.out]; rfl) ?_; (with_reducible refine (impl_valuesHold.calls k a0_0 _ _ l0_1 a0_2 _ _ vals true _ (Kd.C_below HRC.out HB.out) HCC.out (Kd.R_reads' HV.out).2.2 (by rw [HLV.out]; exact (Kd.R_reads' HV.out).2.1) HVH.out).mono ?_); rintro e w' ⟨rfl, hb⟩; refine ⟨_, rfl, ?_⟩; have n0_ := yam (Kd.R_below HV.out hb); have n1_ := yam (Kd.R_below HO.out hb); have n2_ := yam (impl_ruleMasks.Boxes.below HX.out hb); have n3_ := yam (below_step HB.out hb); clear HV HO HX HB hb hcO hcR0 hcR1 hcR2 hcV; have HV := n0_; have HO := n1_; have HX := n2_; have HB := n3_; clear n0_ n1_ n2_ n3_; have hcV := (blk_cell HX.out.2.2.1 0).trans (rfl : _ = some (Value.slice (some ⟨gv, 0, none⟩) own.length cv))))
    go_loopg [19] own.length (fun kq v19 w' => ∃ (x : Int) (o : List Int), v19 = .int .i64 x ∧ Aside0 (0 ≤ x ∧ x + (kq : Int) = (own.length : Int)) ∧ Aside0 (impl_ruleMasks.orFrom vals own.length 0 out = impl_ruleMasks.orFrom vals kq x o) ∧ Aside0 (o.length = own.length) ∧ Aside0 (Kd.R (Kd.int .i64) 3 w' w0.heap.size (fun k => k = gv) (.slice (some ⟨gv, 0, none⟩) own.length cv) vals) ∧ Aside0 (Kd.R (Kd.int .i64) 3 w' w0.heap.size (fun k => k = go) (.slice (some ⟨go, 0, none⟩) own.length cu) o) ∧ Aside0 (impl_ruleMasks.Boxes w' gown gr gval gout gtry gv go cv cu Ao co own.length a0_0 Ac cc l0_1.length a0_2) ∧ Aside0 (Below w0.heap.size w0 w'))
    case atStart => exact ⟨0, out, rfl, ⟨by omega⟩, ⟨rfl⟩, HLO, HV, HO, HX, HB⟩
    case round =>
     clear hcV HV HO HX HB HLO
     obtain ⟨x, o, rfl, HK, HE, HLO, HV, HO, HX, HB⟩ := hrel
     cases gk with
     | zero =>
      have h1b : decide ((x : Int) < (own.length : Int)) = false := decide_eq_false (by have := HK.out; omega)
      go_wp2
      first | go_end0 | ((try simp only [Exit.inBlock, Exit.then]); refine bodyPost_ret (results_none rfl _ _ _) rfl ?_)
      have HE2 := HE.out
      unfold impl_ruleMasks.orFrom at HE2
      exact ⟨rfl, HLV.out, by rw [HE.out]; exact HLO.out, HV.out, by rw [HE.out]; exact HO.out, HX.out, HB.out⟩
     | succ k1 =>
      have h0 : 0 ≤ x := HK.out.1
      have h1 : x < (own.length : Int) := by have := HK.out.2; omega
      have h1b : decide ((x : Int) < (own.length : Int)) = true := decide_eq_true h1
      have hcU := (blk_cell HX.out.2.2.2.1 0).trans (rfl : _ = some (Value.slice (some ⟨go, 0, none⟩) own.length cu))
      obtain ⟨hxV0, hfV⟩ := Kd.R_celln 0 HV.out x h0 h1
      obtain ⟨hxO0, hfO⟩ := Kd.R_celln 0 HO.out x h0 h1
      have hxV := hxV0.trans (rfl : _ = some (Value.int .i64 (rd vals x)))
      have hxO := hxO0.trans (rfl : _ = some (Value.int .i64 (rd o x)))
      clear hxV0 hxO0
      have hpv : 0 ≤ rd vals x := HP.out _ (by
       have hl := HLV.out
       obtain ⟨n, rfl⟩ := Int.eq_ofNat_of_zero_le h0
       have hn : n < vals.length := by omega
       have e : rd vals (n : Int) = vals[n] := by simp [rd, hn]
       rw [e]; exact List.getElem_mem hn)
      have hpvb : decide (0 ≤ rd vals x) = true := decide_eq_true hpv
      have HES : impl_ruleMasks.orFrom vals (k1 + 1) x o = impl_ruleMasks.orFrom vals k1 (x + 1) (o.set x.toNat (Go.bits .or .i64 (rd o x) (shl .i64 1 (rd vals x)))) := rfl
      obtain ⟨ji, hji⟩ : ∃ j_ : Int, (shl .i64 1 (rd vals x)) = j_ := ⟨_, rfl⟩
      rw [hji] at HES
      have hji_ : (IntKind.i64.wrap (1 * 2 ^ min (rd vals x).toNat 64)) = ji := hji
      have hjiu : (IntKind.i64.wrap (2 ^ min (rd vals x).toNat 64)) = ji := by have h_ := hji_; rw [Int.one_mul] at h_; exact h_
      have hjiy : (wrap64 (1 * 2 ^ min (rd vals x).toNat 64)) = ji := (i64_w _).symm.trans hji_
      have hjiw : (wrap64 (2 ^ min (rd vals x).toNat 64)) = ji := (i64_w _).symm.trans hjiu
      have HES2 := yam HES
      clear HES hji
      have HPO := yam (Kd.R_putg HO.out x (Go.bits .or .i64 (rd o x) ji))
      have hnw : wrap64 (x + 1) = x + 1 := by have := HN.out; unfold wrap64; omega
      have hnw2 : IntKind.i64.wrap (x + 1) = x + 1 := by rw [i64_w]; exact hnw
      have p0 := eq_true h0
      have p1 := eq_true h1
      have p2 := eq_true hpv
      clear h0 h1 hpv
      go_wp2
      refine start_ (n := 9) (S := fun w' => w'.cell? ⟨gout, 0, none⟩ = some (.slice (some ⟨go, 0, none⟩) own.length cu) ∧ w'.cell? ⟨go, (x : Int).toNat, none⟩ = some (.int .i64 (rd o x))) (ds := [8]) #[false, false, false, false, false, false, false, false, false] (by kernel_rfl) rfl rfl ⟨hcU, hxO⟩ (fun hHeld => ?_)
      refine pure_ (i := 1) (N := some 25) (v := ?_) (a' := ?_) #[false, true, false, false, false, false, false, false, false] rfl rfl (by kernel_rfl) (fun _ _ _ h => h) (Or.inl ⟨by rfl, ?_⟩) ?_ ?_
      rotate_left
      ·intro w'
       go_simp
       with_reducible rfl
      rotate_left
      ·simp only [Act.put, List.setIfInBounds_toArray, List.set_cons_zero, List.set_cons_succ, i64_w, i32_w]
       rfl
      refine pure_ (i := 4) (N := some 28) (v := ?_) (a' := ?_) #[false, true, false, false, true, false, false, false, false] rfl rfl (by kernel_rfl) (fun _ _ _ h => h) (Or.inl ⟨by rfl, ?_⟩) ?_ ?_
      rotate_left
      ·intro w'
       go_simp
       with_reducible rfl
      rotate_left
      ·simp only [Act.put, List.setIfInBounds_toArray, List.set_cons_zero, List.set_cons_succ, i64_w, i32_w]
       rfl
      refine pure_ (i := 5) (N := some 29) (v := ?_) (a' := ?_) #[false, true, false, false, true, true, false, false, false] rfl rfl (by kernel_rfl) (fun _ _ _ h => h) (Or.inl ⟨by rfl, ?_⟩) ?_ ?_
      rotate_left
      ·intro w'
       go_simp
       with_reducible rfl
      rotate_left
      ·simp only [Act.put, List.setIfInBounds_toArray, List.set_cons_zero, List.set_cons_succ, i64_w, i32_w]
       rfl
      refine take_ (i := 0) (N := some 24) (v := ?_) (a' := ?_) #[true, true, false, false, true, true, false, false, false] rfl rfl (by kernel_rfl) (fun _ _ _ h => h) (Or.inl ⟨by rfl, ?_⟩) hHeld ?_ ?_
      rotate_left
      ·rintro w' ⟨s0, s1⟩
       go_simp
       with_reducible rfl
      rotate_left
      ·simp only [Act.put, List.setIfInBounds_toArray, List.set_cons_zero, List.set_cons_succ, i64_w, i32_w]
       rfl
      refine pure_ (i := 2) (N := some 26) (v := ?_) (a' := ?_) #[true, true, true, false, true, true, false, false, false] rfl rfl (by kernel_rfl) (fun _ _ _ h => h) (Or.inl ⟨by rfl, ?_⟩) ?_ ?_
      rotate_left
      ·intro w'
       go_simp
       with_reducible rfl
      rotate_left
      ·simp only [Act.put, List.setIfInBounds_toArray, List.set_cons_zero, List.set_cons_succ, i64_w, i32_w]
       rfl
      refine take_ (i := 3) (N := some 27) (v := ?_) (a' := ?_) #[true, true, true, true, true, true, false, false, false] rfl rfl (by kernel_rfl) (fun _ _ _ h => h) (Or.inl ⟨by rfl, ?_⟩) hHeld ?_ ?_
      rotate_left
      ·rintro w' ⟨s0, s1⟩
       go_simp
       with_reducible rfl
      rotate_left
      ·simp only [Act.put, List.setIfInBounds_toArray, List.set_cons_zero, List.set_cons_succ, i64_w, i32_w]
       rfl
      refine pure_ (i := 6) (N := some 30) (v := ?_) (a' := ?_) #[true, true, true, true, true, true, true, false, false] rfl rfl (by kernel_rfl) (fun _ _ _ h => h) (Or.inl ⟨by rfl, ?_⟩) ?_ ?_
      rotate_left
      ·intro w'
       go_simp
       with_reducible rfl
      rotate_left
      ·simp only [Act.put, List.setIfInBounds_toArray, List.set_cons_zero, List.set_cons_succ, i64_w, i32_w]
       rfl
      refine pure_ (i := 7) (N := some 31) (v := ?_) (a' := ?_) #[true, true, true, true, true, true, true, true, false] rfl rfl (by kernel_rfl) (fun _ _ _ h => h) (Or.inl ⟨by rfl, ?_⟩) ?_ ?_
      rotate_left
      ·intro w'
       go_simp
       with_reducible rfl
      rotate_left
      ·simp only [Act.put, List.setIfInBounds_toArray, List.set_cons_zero, List.set_cons_succ, i64_w, i32_w]
       rfl
      refine last_ (i := 8) (N := none) #[true, true, true, true, true, true, true, true, true] rfl rfl (by kernel_rfl) (by decide) (fun K hK => ?_)
      refine skip_ (w1 := ?_) (by rfl) rfl ?_ ?_
      rotate_left
      ·go_simp
       rfl
      refine hK.out _ _ ?_
      clear hK K
      refine done_ (by kernel_rfl) ?_
      go_wp2
      go_roundg k1
      case measure => omega
      case rel => exact ⟨x + 1, o.set x.toNat (Go.bits .or .i64 (rd o x) ji), by first | rfl | (rw [hnw]) | (rw [hnw2]), ⟨by have := HK.out; omega⟩, ⟨by rw [HE.out]; exact HES2.out⟩, ⟨by rw [List.length_set]; exact HLO.out⟩, ⟨Kd.R_drew (impl_ruleMasks.R_other (n2 := own.length) (c2 := own.length) HV.out hne HPO.out.2)⟩, ⟨Kd.R_drew HPO.out.1⟩, ⟨(impl_ruleMasks.Boxes.grown HX.out HO.out HPO.out.2).drewN 1⟩, ⟨below_drew1 (below_set HB.out hbo)⟩⟩
   ·rw [if_neg hpos] at H2
    exact absurd H2 (by simp)
 | succ d ih =>
  intro a vals out vals' out' w ha hd hn hlv hlo hV hO hX hB h
  have ha1 : ¬ a = (own.length : Int) := by omega
  have hae : (a == (own.length : Int)) = false := beq_eq_false_iff_ne.mpr ha1
  have HA := yam (show (own.length : Int) - (d + 1 : Nat) = a ∧ 0 ≤ a ∧ a < (own.length : Int) from ⟨ha, by omega, by omega⟩)
  have HD := yam (show d ≤ own.length by omega)
  have HN := yam hn
  have HLV := yam hlv
  have HLO := yam hlo
  have HV := yam hV
  have HO := yam hO
  have HX := yam hX
  have HB := yam hB
  unfold impl_ruleMasks.try_ at h
  rw [ha] at h
  have H := yam h
  have hcO : w.cell? ⟨gown, 0, none⟩ = some (.slice Ao own.length co) := (blk_cell hX.1 0).trans rfl
  clear ha ha1 hd hn hlv hlo hV hO hX hB h
  have IH := yam ih
  clear ih
  go_enter Try.func98, Try.ntmps98
  go_wp2
  go_loopg [9] 4 (fun kq v9 w' => ∃ (x : Int) (vs o : List Int), v9 = .int .i64 x ∧ Aside0 (1 ≤ x ∧ x + (kq : Int) = 5) ∧ Aside0 (impl_ruleMasks.tryV (impl_ruleMasks.try_ k a0_0 l0_1 a0_2 own d) (rd own a) a.toNat kq x vs o = some (vals', out')) ∧ Aside0 (vs.length = own.length) ∧ Aside0 (o.length = own.length) ∧ Aside0 (Kd.R (Kd.int .i64) 3 w' w0.heap.size (fun k => k = gv) (.slice (some ⟨gv, 0, none⟩) own.length cv) vs) ∧ Aside0 (Kd.R (Kd.int .i64) 3 w' w0.heap.size (fun k => k = go) (.slice (some ⟨go, 0, none⟩) own.length cu) o) ∧ Aside0 (impl_ruleMasks.Boxes w' gown gr gval gout gtry gv go cv cu Ao co own.length a0_0 Ac cc l0_1.length a0_2) ∧ Aside0 (Below w0.heap.size w0 w'))
  case atStart => exact ⟨1, vals, out, rfl, ⟨by omega⟩, H, HLV, HLO, HV, HO, HX, HB⟩
  case round =>
   clear hcO HV HO HX HB HLO HLV H
   obtain ⟨x, vs, o, rfl, HK, HE, HLV, HLO, HV, HO, HX, HB⟩ := hrel
   cases gk with
   | zero =>
    have h1b : decide ((x : Int) ≤ 4) = false := decide_eq_false (by have := HK.out; omega)
    have HE2 := HE.out
    unfold impl_ruleMasks.tryV at HE2
    simp only [Option.some.injEq, Prod.mk.injEq] at HE2
    obtain ⟨rfl, rfl⟩ := HE2
    go_wp2
    first | go_end0 | ((try simp only [Exit.inBlock, Exit.then]); refine bodyPost_ret (results_none rfl _ _ _) rfl ?_)
    exact ⟨rfl, HLV.out, HLO.out, HV.out, HO.out, HX.out, HB.out⟩
   | succ k1 =>
    have h1b : decide ((x : Int) ≤ 4) = true := decide_eq_true (by have := HK.out; omega)
    have h0 : 0 ≤ a := HA.out.2.1
    have h1 : a < (own.length : Int) := HA.out.2.2
    have hx0 : 0 ≤ x := by have := HK.out; omega
    have hcO := (blk_cell HX.out.1 0).trans (rfl : _ = some (Value.slice Ao own.length co))
    obtain ⟨ad, eA, hxA⟩ := Kd.at_int (Kd.C_below HRO.out HB.out) a h0 h1
    have hnw : wrap64 (x + 1) = x + 1 := by have := HK.out; unfold wrap64; omega
    have hnw2 : IntKind.i64.wrap (x + 1) = x + 1 := by rw [i64_w]; exact hnw
    have p0 := eq_true h0
    have p1 := eq_true h1
    have p2 := eq_true hx0
    have p2b : decide (0 ≤ x) = true := decide_eq_true hx0
    have HE2 := HE.out
    rw [impl_ruleMasks.tryV] at HE2
    obtain ⟨ji, hji⟩ : ∃ j_ : Int, (shr .i64 (rd own a) x) = j_ := ⟨_, rfl⟩
    rw [hji] at HE2
    have hji_ : ((rd own a) / 2 ^ min x.toNat 64) = ji := hji
    clear hji
    by_cases hbit : Go.bits .and .i64 ji 1 = 1
    ·rw [if_pos hbit] at HE2
     obtain ⟨⟨t1, t2⟩, hT, HE3⟩ := Option.bind_eq_some_iff.1 HE2
     have hbb : (Go.bits .and .i64 ji 1 == 1) = true := beq_iff_eq.mpr hbit
     have HT := yam hT
     have HE4 := yam HE3
     have hcV := (blk_cell HX.out.2.2.1 0).trans (rfl : _ = some (Value.slice (some ⟨gv, 0, none⟩) own.length cv))
     obtain ⟨hxV, hfV⟩ := Kd.R_celln 0 HV.out a h0 h1
     have HPV := yam (Kd.R_putg HV.out a x)
     have HX2 := yam (impl_ruleMasks.Boxes.grown HX.out HV.out HPV.out.2)
     have HO2 := yam (impl_ruleMasks.R_other (n2 := own.length) (c2 := own.length) HO.out (fun e => hne e.symm) HPV.out.2)
     have HB2 := yam (below_set (j := a.toNat) (v := .int .i64 x) HB.out hbv)
     have hcT := (blk_cell HX2.out.2.2.2.2 0).trans (rfl : _ = some (Value.func (.func 98) #[] #[.pointer (some ⟨gown, 0, none⟩), .pointer (some ⟨gr, 0, none⟩), .pointer (some ⟨gval, 0, none⟩), .pointer (some ⟨gout, 0, none⟩), .pointer (some ⟨gtry, 0, none⟩)]))
     have haw : wrap64 (a + 1) = a + 1 := by have := HN.out; unfold wrap64; omega
     have haw2 : IntKind.i64.wrap (a + 1) = a + 1 := by rw [i64_w]; exact haw
     clear h0 h1 hx0 HE2 HE3 hT hbit HE
     cases eA
     go_wp2_with (first | (go_at_call 98; (refine (IH.out (a + 1) (vs.set a.toNat x) o t1 t2 _ (by have := HA.out.1; omega) HD.out HN.out (by rw [List.length_set]; exact HLV.out) HLO.out HPV.out.1 HO2.out HX2.out HB2.out HT.out).mono ?_); rintro e w' ⟨rfl, HL1, HL2, hV, hO, hX, hB⟩; have HV3 := yam hV; have HO3 := yam hO; have HX3 := yam hX; have HB3 := yam hB; have HLV3 := yam HL1; have HLO3 := yam HL2; clear hV hO hX hB HL1 HL2))
     go_roundg k1
     case measure => omega
     case rel => exact ⟨x + 1, t1, t2, by first | rfl | (rw [hnw]) | (rw [hnw2]), ⟨by have := HK.out; omega⟩, HE4, HLV3, HLO3, HV3, HO3, HX3, HB3⟩
    ·rw [if_neg hbit] at HE2
     have hbb : (Go.bits .and .i64 ji 1 == 1) = false := beq_eq_false_iff_ne.mpr hbit
     have HE4 := yam HE2
     clear h0 h1 hx0 HE2 hbit HE
     cases eA
     go_wp2
     go_roundg k1
     case measure => omega
     case rel => exact ⟨x + 1, vs, o, by first | rfl | (rw [hnw]) | (rw [hnw2]), ⟨by have := HK.out; omega⟩, HE4, HLV, HLO, HV, HO, HX, HB⟩
theorem impl_ruleMasks.newBox (W : World) (z v : Value) (t : TypeId) : Below W.heap.size W ((W.alloc (.cells #[z] t)).setCell ⟨W.heap.size, 0, none⟩ v) ∧ ((W.alloc (.cells #[z] t)).setCell ⟨W.heap.size, 0, none⟩ v).heap[W.heap.size]? = some (.cells #[v] t (0, 0)) ∧ (W.alloc (.cells #[z] t)).cell? ⟨W.heap.size, 0, none⟩ = some z ∧ (W.alloc (.cells #[z] t)).frozen? ⟨W.heap.size, 0, none⟩ = false :=
 ⟨below_set (below_alloc (Below.refl _ _) _) (Nat.le_refl _), by simpa using blk_set (heap_alloc_new W (.cells #[z] t)) 0 v, (blk_cell (heap_alloc_new W (.cells #[z] t)) 0).trans rfl, blk_frozen (heap_alloc_new W (.cells #[z] t)) 0⟩
def impl_ruleMasks.f (k : Nat) (a0_0 : Int) (l0_1 : List Int) (a0_2 : Int) (l1 : List Int) : Option (List Int) :=
 if 0 < l1.length ∧ l1.length ≤ 100000 then (impl_ruleMasks.try_ k a0_0 l0_1 a0_2 l1 l1.length (List.replicate l1.length 0) (List.replicate l1.length 0)).bind fun t => some t.2 else none
set_option maxHeartbeats 8000000 in
set_option maxRecDepth 100000 in
theorem impl_ruleMasks.calls (k : Nat) (a0_0 : Int) (A0_1 : Option Addr) (c0_1 : Nat) (l0_1 : List Int) (a0_2 : Int) (A1 : Option Addr) (c1 : Nat) (l1 : List Int) (r : List Int) (w : World) (hr0_1 : Kd.C (Kd.int .i64) w A0_1 l0_1.length l0_1) (hc0_1 : l0_1.length ≤ c0_1) (hr1 : Kd.C (Kd.int .i64) w A1 l1.length l1) (hc1 : l1.length ≤ c1) (h : impl_ruleMasks.f k a0_0 l0_1 a0_2 l1 = some r) :
  Calls Try.prog 91 #[.agg #[.int .i64 a0_0, .slice A0_1 l0_1.length c0_1, .int .i64 a0_2], .slice A1 l1.length c1] w fun e w' => ∃ v0_ : Value, e = .returned (v0_) ∧ Kd.R (Kd.int .i64) 3 w' w.heap.size (fun _ => True) v0_ r ∧ Below w.heap.size w w' := by
 unfold impl_ruleMasks.f at h
 by_cases hc : 0 < l1.length ∧ l1.length ≤ 100000
 ·rw [if_pos hc] at h
  obtain ⟨⟨t1, t2⟩, hT, h⟩ := Option.bind_eq_some_iff.1 h
  obtain rfl := Option.some.inj h
  have HT := yam hT
  have HN := yam hc
  have HR0 := yam hr0_1
  have HC0 := yam hc0_1
  have HR1 := yam hr1
  have hu32 := Try.underlying67
  clear h hT hc hr0_1 hc0_1 hr1 hc1
  have HB := yam (Below.refl w.heap.size w)
  go_enter Try.func91, Try.ntmps91
  go_upto_region 1 with (first
   | ((with_reducible refine gate_dst (N := 2) rfl ?_); refine ybe 2 #[.int .i64 a0_0, .slice A0_1 l0_1.length c0_1, .int .i64 a0_2] 67 ?_; intro gr hg w5 hbox hb; have n0_ := yam (below_step HB.out hb); have BR := yam hbox; clear HB; have HB := n0_; clear n0_ hb hbox hg)
   | ((with_reducible refine gate_dst (N := 3) rfl ?_); refine ybe 3 #[.slice A1 l1.length c1] 22 ?_; intro gown hg w6 hbox hb; have n0_ := yam (below_step HB.out hb); have BO := yam hbox; have n1_ := yam (blk_below BR.out hb); clear HB BR; have HB := n0_; have BR := n1_; clear n0_ n1_ hb hbox hg))
  (try simp only [Act.put, List.setIfInBounds_toArray, List.set_cons_zero, List.set_cons_succ])
  have hcO := (blk_cell BO.out 0).trans (rfl : _ = some (Value.slice A1 l1.length c1))
  go_upto_region 2 with (first
   | ((with_reducible refine gate_dst (N := 10) rfl ?_); refine Kd.R_make (Kd.int .i64) _ 3 rfl (N := 10) rfl 22 _ _ rfl (l1.length : Int) rfl rfl Try.underlying22 (.int .i64 0) 8 info3 rfl (by decide) (by omega) 0 (ok := fun _ => True) (okp := fun _ => False) rfl (fun _ hk => hk.elim) trivial (by omega) (by have := HN.out; omega) (Below.refl _ _) (Nat.le_refl _) ?_; intro v10 w10 ho10 hb hg_ hnew_; clear hg_ hnew_; obtain ⟨go, cu, e10, _, _, _⟩ := Kd.R_form ho10 (by have := HN.out; simp; omega); simp only [List.length_replicate, Int.toNat_natCast] at e10 ho10; subst e10; have n0_ := yam (below_step HB.out hb); have n1_ := yam (blk_below BR.out hb); have n2_ := yam (blk_below BO.out hb); have n3_ := yam (Kd.R_lower ho10 (below_size HB.out)); clear HB BR BO hcO ho10 hb; have HB := n0_; have BR := n1_; have BO := n2_; have HO := n3_; clear n0_ n1_ n2_ n3_; have hcz := (impl_ruleMasks.newBox w10 (.slice none 0 0) (.int .i64 0) 22).2.2.1; have hfz := (impl_ruleMasks.newBox w10 (.slice none 0 0) (.int .i64 0) 22).2.2.2))
  have n0_ := yam (show Below w.heap.size w (w10.alloc (Obj.cells #[Value.slice (some ⟨go, 0, none⟩) l1.length cu] 22)) from below_alloc HB.out _)
  have n1_ := yam (show (w10.alloc (Obj.cells #[Value.slice (some ⟨go, 0, none⟩) l1.length cu] 22)).heap[gr]? = _ from blk_alloc BR.out _)
  have n2_ := yam (show (w10.alloc (Obj.cells #[Value.slice (some ⟨go, 0, none⟩) l1.length cu] 22)).heap[gown]? = _ from blk_alloc BO.out _)
  have n3_ := yam (show Kd.R (Kd.int .i64) 3 (w10.alloc (Obj.cells #[Value.slice (some ⟨go, 0, none⟩) l1.length cu] 22)) w.heap.size _ _ _ from Kd.R_alloc HO.out _)
  have n4_ := yam (show (w10.alloc (Obj.cells #[Value.slice (some ⟨go, 0, none⟩) l1.length cu] 22)).heap[w10.heap.size]? = _ from heap_alloc_new w10 _)
  clear HB BR BO HO hcz hfz
  have HB := n0_
  have BR := n1_
  have BO := n2_
  have HO := n3_
  have BU := n4_
  clear n0_ n1_ n2_ n3_ n4_
  generalize w10.alloc (Obj.cells #[Value.slice (some ⟨go, 0, none⟩) l1.length cu] 22) = W1 at HB BR BO HO BU ⊢
  generalize w10.heap.size = gout at BU ⊢
  have hcO := (blk_cell BO.out 0).trans (rfl : _ = some (Value.slice A1 l1.length c1))
  go_upto_region 3 with (first
   | ((with_reducible refine gate_dst (N := 13) rfl ?_); refine Kd.R_make (Kd.int .i64) _ 3 rfl (N := 13) rfl 22 _ _ rfl (l1.length : Int) rfl rfl Try.underlying22 (.int .i64 0) 8 info3 rfl (by decide) (by omega) 0 (ok := fun _ => True) (okp := fun _ => False) rfl (fun _ hk => hk.elim) trivial (by omega) (by have := HN.out; omega) (Below.refl _ _) (Nat.le_refl _) ?_; intro v13 w13 ho13 hb hg_ hnew_; clear hg_; obtain ⟨gv, cv, e13, _, _, _⟩ := Kd.R_form ho13 (by have := HN.out; simp; omega); simp only [List.length_replicate, Int.toNat_natCast] at e13 ho13; subst e13; have HNE := yam (show go < W1.heap.size ∧ W1.heap.size ≤ gv from ⟨Kd.R_lt HO.out go rfl, by obtain ⟨b_, e_, l_⟩ := hnew_; simp [Value.ownBlock] at e_; omega⟩); have n0_ := yam (below_step HB.out hb); have n1_ := yam (blk_below BR.out hb); have n2_ := yam (blk_below BO.out hb); have n3_ := yam (Kd.R_lower ho13 (below_size HB.out)); have n4_ := yam (Kd.R_below HO.out hb); have n5_ := yam (blk_below BU.out hb); clear HB BR BO HO BU hcO ho13 hb hnew_; have HB := n0_; have BR := n1_; have BO := n2_; have HV := n3_; have HO := n4_; have BU := n5_; clear n0_ n1_ n2_ n3_ n4_ n5_; have hcz := (impl_ruleMasks.newBox w13 (.slice none 0 0) (.int .i64 0) 22).2.2.1; have hfz := (impl_ruleMasks.newBox w13 (.slice none 0 0) (.int .i64 0) 22).2.2.2))
  have n0_ := yam (show Below w.heap.size w (w13.alloc (Obj.cells #[Value.slice (some ⟨gv, 0, none⟩) l1.length cv] 22)) from below_alloc HB.out _)
  have n1_ := yam (show (w13.alloc (Obj.cells #[Value.slice (some ⟨gv, 0, none⟩) l1.length cv] 22)).heap[gr]? = _ from blk_alloc BR.out _)
  have n2_ := yam (show (w13.alloc (Obj.cells #[Value.slice (some ⟨gv, 0, none⟩) l1.length cv] 22)).heap[gown]? = _ from blk_alloc BO.out _)
  have n3_ := yam (show Kd.R (Kd.int .i64) 3 (w13.alloc (Obj.cells #[Value.slice (some ⟨gv, 0, none⟩) l1.length cv] 22)) w.heap.size _ _ _ from Kd.R_alloc HO.out _)
  have n4_ := yam (show (w13.alloc (Obj.cells #[Value.slice (some ⟨gv, 0, none⟩) l1.length cv] 22)).heap[gout]? = _ from blk_alloc BU.out _)
  have n5_ := yam (show (w13.alloc (Obj.cells #[Value.slice (some ⟨gv, 0, none⟩) l1.length cv] 22)).heap[w13.heap.size]? = _ from heap_alloc_new w13 _)
  have n6_ := yam (show Kd.R (Kd.int .i64) 3 (w13.alloc (Obj.cells #[Value.slice (some ⟨gv, 0, none⟩) l1.length cv] 22)) w.heap.size _ _ _ from Kd.R_alloc HV.out _)
  clear HB BR BO HO BU HV hcz hfz
  have HB := n0_
  have BR := n1_
  have BO := n2_
  have HO := n3_
  have BU := n4_
  have BV := n5_
  have HV := n6_
  clear n0_ n1_ n2_ n3_ n4_ n5_ n6_
  generalize w13.alloc (Obj.cells #[Value.slice (some ⟨gv, 0, none⟩) l1.length cv] 22) = W2 at HB BR BO HO BU BV HV ⊢
  generalize w13.heap.size = gval at BV ⊢
  have hcz := (impl_ruleMasks.newBox W2 .nilFunc (.int .i64 0) 91).2.2.1
  have hfz := (impl_ruleMasks.newBox W2 .nilFunc (.int .i64 0) 91).2.2.2
  have hsf := fun (a : Addr) (c : Array Value) (w : World) => run_store Try.prog w a (.func (.func 98) #[] c) .plain rfl
  go_upto_region 5 with (fail)
  clear hsf
  clear hcz hfz
  have n0_ := yam (show Below w.heap.size w (W2.alloc (Obj.cells #[(Value.func (.func 98) #[] #[.pointer (some ⟨gown, 0, none⟩), .pointer (some ⟨gr, 0, none⟩), .pointer (some ⟨gval, 0, none⟩), .pointer (some ⟨gout, 0, none⟩), .pointer (some ⟨W2.heap.size, 0, none⟩)])] 91)) from below_alloc HB.out _)
  have n3_ := yam (show Kd.R (Kd.int .i64) 3 (W2.alloc (Obj.cells #[(Value.func (.func 98) #[] #[.pointer (some ⟨gown, 0, none⟩), .pointer (some ⟨gr, 0, none⟩), .pointer (some ⟨gval, 0, none⟩), .pointer (some ⟨gout, 0, none⟩), .pointer (some ⟨W2.heap.size, 0, none⟩)])] 91)) w.heap.size (fun k_ => k_ = go) _ _ from Kd.R_alloc (Kd.R_mono (Kd.R_tight rfl HO.out) (fun k_ hk_ => by simpa [Value.ownBlock] using hk_)) _)
  have n6_ := yam (show Kd.R (Kd.int .i64) 3 (W2.alloc (Obj.cells #[(Value.func (.func 98) #[] #[.pointer (some ⟨gown, 0, none⟩), .pointer (some ⟨gr, 0, none⟩), .pointer (some ⟨gval, 0, none⟩), .pointer (some ⟨gout, 0, none⟩), .pointer (some ⟨W2.heap.size, 0, none⟩)])] 91)) w.heap.size (fun k_ => k_ = gv) _ _ from Kd.R_alloc (Kd.R_mono (Kd.R_tight rfl HV.out) (fun k_ hk_ => by simpa [Value.ownBlock] using hk_)) _)
  have n7_ := yam (show impl_ruleMasks.Boxes (W2.alloc (Obj.cells #[(Value.func (.func 98) #[] #[.pointer (some ⟨gown, 0, none⟩), .pointer (some ⟨gr, 0, none⟩), .pointer (some ⟨gval, 0, none⟩), .pointer (some ⟨gout, 0, none⟩), .pointer (some ⟨W2.heap.size, 0, none⟩)])] 91)) gown gr gval gout W2.heap.size gv go cv cu A1 c1 l1.length a0_0 A0_1 c0_1 l0_1.length a0_2 from ⟨blk_alloc BO.out _, blk_alloc BR.out _, blk_alloc BV.out _, blk_alloc BU.out _, heap_alloc_new W2 _⟩)
  have gv0 := Kd.R_base HV.out gv rfl
  have go0 := Kd.R_base HO.out go rfl
  clear HB HO HV BR BO BU BV
  have HB := n0_
  have HO := n3_
  have HV := n6_
  have HX := n7_
  clear n0_ n3_ n6_ n7_
  generalize (W2.alloc (Obj.cells #[(Value.func (.func 98) #[] #[.pointer (some ⟨gown, 0, none⟩), .pointer (some ⟨gr, 0, none⟩), .pointer (some ⟨gval, 0, none⟩), .pointer (some ⟨gout, 0, none⟩), .pointer (some ⟨W2.heap.size, 0, none⟩)])] 91)) = W3 at HB HO HV HX ⊢
  generalize W2.heap.size = gtry at HX ⊢
  have hcT := (blk_cell HX.out.2.2.2.2 0).trans (rfl : _ = some (Value.func (.func 98) #[] #[.pointer (some ⟨gown, 0, none⟩), .pointer (some ⟨gr, 0, none⟩), .pointer (some ⟨gval, 0, none⟩), .pointer (some ⟨gout, 0, none⟩), .pointer (some ⟨gtry, 0, none⟩)]))
  go_wp2_with (first | (go_at_call 98; (refine (impl_ruleMasks.clo k a0_0 A0_1 c0_1 l0_1 a0_2 A1 c1 l1 gown gr gval gout gtry gv go cv cu w (by have := HNE.out; omega) gv0 go0 HR0.out HC0.out HR1.out l1.length 0 (List.replicate l1.length 0) (List.replicate l1.length 0) t1 t2 _ (by omega) (Nat.le_refl _) HN.out.2 (by simp) (by simp) HV.out HO.out HX.out HB.out HT.out).mono ?_); rintro e w' ⟨rfl, HL1, HL2, hV, hO, hX, hB⟩; clear HV HO HX HB hcT hV HL1; have HO := yam hO; have HB := yam hB; have HL := yam HL2; have hcU := (blk_cell hX.2.2.2.1 0).trans (rfl : _ = some (Value.slice (some ⟨go, 0, none⟩) l1.length cu)); clear hO hB hX HL2))
  go_ret
  exact ⟨_, rfl, Kd.R_mono HO.out (fun _ _ => trivial), HB.out⟩
 ·rw [if_neg hc] at h; cases h
mutual
def impl_RuleMasks.j0 : Nat → List Int → Bool → Int → List Int → Int → Option (List Int)
 | 0, _, _, _, _, _ => none
 | k + 1, x1, x19, x465000, x465001, x465002 => if x19 = true then (some ([] : List Int)) else (impl_RuleMasks.l0 k x1 (([] : List Int)) x465001 (x465001.length : Int) 0 x465000 x465001 x465002)
def impl_RuleMasks.l0 : Nat → List Int → List Int → List Int → Int → Int → Int → List Int → Int → Option (List Int)
 | 0, _, _, _, _, _, _, _, _ => none
 | k + 1, x1, x7, x22, x23, x24, x465000, x465001, x465002 => if x24 < x23 then (if 0 ≤ x24 then (if x24 < (x22.length : Int) then (if 0 ≤ (rd x22 x24) then (if (rd x22 x24) < (x1.length : Int) then (if x7.length < 17592186044416 then (impl_RuleMasks.l0 k x1 (x7 ++ [rd x1 (rd x22 x24)]) x22 x23 (wrap64 (x24 + 1)) x465000 x465001 x465002) else (none)) else (none)) else (none)) else (none)) else (none)) else ((impl_ruleMasks.f k x465000 x465001 x465002 x7).bind fun t475 => (some t475))
end
def impl_RuleMasks.f (k : Nat) (a0_0 : Int) (l0_1 : List Int) (a0_2 : Int) (l1 : List Int) (a2 : Int) : Option (List Int) := (impl_RuleValid.f k a0_0 l0_1 a0_2 a2).bind fun t465 => (if t465 = true then ((impl_MasksValid.f k l1 a2).bind fun t466 => (impl_RuleMasks.j0 k l1 (!t466) a0_0 l0_1 a0_2)) else (impl_RuleMasks.j0 k l1 true a0_0 l0_1 a0_2))
set_option maxHeartbeats 8000000 in
set_option maxRecDepth 100000 in
theorem impl_RuleMasks.calls (k : Nat) (a0_0 : Int) (A0_1 : Option Addr) (c0_1 : Nat) (l0_1 : List Int) (a0_2 : Int) (A1 : Option Addr) (c1 : Nat) (l1 : List Int) (a2 : Int) (r : List Int) (w : World) (hr0_1 : Kd.C (Kd.int .i64) w A0_1 l0_1.length l0_1) (hc0_1 : l0_1.length ≤ c0_1) (hr1 : Kd.C (Kd.int .i64) w A1 l1.length l1) (hc1 : l1.length ≤ c1) (h : impl_RuleMasks.f k a0_0 l0_1 a0_2 l1 a2 = some r) :
  Calls Try.prog 83 #[.agg #[.int .i64 a0_0, .slice A0_1 l0_1.length c0_1, .int .i64 a0_2], .slice A1 l1.length c1, .int .i64 a2] w fun e w' => ∃ v0_ : Value, e = .returned (v0_) ∧ Kd.R (Kd.int .i64) 3 w' w.heap.size (fun _ => True) v0_ r ∧ Below w.heap.size w w' := by
 have hu67 := Try.underlying67
 have HR0_1 := yam hr0_1
 have HC0_1 := yam hc0_1
 clear hr0_1 hc0_1
 have HR1 := yam hr1
 have HC1 := yam hc1
 clear hr1 hc1
 have HB := yam (Below.refl w.heap.size w)
 have H : ((impl_RuleValid.f k a0_0 l0_1 a0_2 a2).bind fun t465 => (if t465 = true then ((impl_MasksValid.f k l1 a2).bind fun t466 => (impl_RuleMasks.j0 k l1 (!t466) a0_0 l0_1 a0_2)) else (impl_RuleMasks.j0 k l1 true a0_0 l0_1 a0_2))) = some r := h
 clear h
 have HC4 := yam H
 clear H
 go_enter Try.func83, Try.ntmps83
 go_upto_region 1 with (first | ((with_reducible refine gate_dst (N := 3) rfl ?_); refine ybe 3 #[.int .i64 a0_0, .slice A0_1 l0_1.length c0_1, .int .i64 a0_2] 67 ?_; intro gb464 hg w5 hbox hb; have n0_ := yam (below_step (yez HB.out) hb); have n1_ := yam (hbox); have n2_ := yam ((by rw [hg]; exact (below_size (yez HB.out)) : w.heap.size ≤ gb464)); have n3_ := n2_; clear HB; have HB := n0_; have BK464 := n1_; have GW464 := n2_; have GE464 := n3_; clear n0_ n1_ n2_ n3_; clear hb hbox hg))
 (try simp only [Act.put, yps])
 go_cut [19] (fun v19 wc => ∃ (kq : Nat) (x19_3 : Bool), v19 = .bool x19_3 ∧ Aside0 (impl_RuleMasks.j0 kq l1 x19_3 a0_0 l0_1 a0_2 = some r) ∧ Aside0 (kq ≤ k) ∧ Aside0 (wc.heap[gb464]? = some (.cells #[.int .i64 a0_0, (.slice A0_1 l0_1.length c0_1), .int .i64 a0_2] 67 (0, 0))) ∧ Aside0 (Below w.heap.size w wc))
 case first =>
  have H := HC4.out
  clear HC4
  replace H := Option.bind_eq_some_iff.mp H
  obtain ⟨t465, A60, H⟩ := H
  try dsimp only at H
  have A6 := yam A60
  clear A60
  by_cases c7 : t465 = true
  rotate_left
  ·replace c7 := Bool.eq_false_iff.mpr c7
   subst c7
   have H1 : (impl_RuleMasks.j0 k l1 true a0_0 l0_1 a0_2) = some r := by rw [if_neg (show ¬ (false = true) by decide)] at H; exact H
   clear H
   have H := H1
   clear H1
   have H' := yam H
   clear H
   obtain ⟨hcz11_0, hcz11_1, hcz11_2, hfz11_0, hfz11_1, hfz11_2⟩ := ybc BK464.out
   go_wp2_with (first | ((with_reducible refine gate_callee (f := 70) rfl ?_); refine goesL_ (some 12) rfl rfl Try.func70 (by kernel_rfl) rfl #[.agg #[.int .i64 a0_0, .slice A0_1 l0_1.length c0_1, .int .i64 a0_2], .int .i64 a2] rfl (by (try simp only [List.map_toArray, List.map_cons, List.map_nil]); first | done | rfl | (simp only [List.length_drop, List.length_take]; rfl)) ?_; (with_reducible refine (impl_RuleValid.calls k a0_0 _ _ l0_1 a0_2 a2 false _ ?side1 ?side2 A6.out).mono ?_); (case side1 => exact Kd.Cz ((Kd.C_below HR0_1.out HB.out))); (case side2 => exact HC0_1.out); rintro e w12 ⟨rfl, hb⟩; refine ⟨_, rfl, ?_⟩; have n0_ := yam (blk_below (g := gb464) (o := .cells #[.int .i64 a0_0, .slice A0_1 l0_1.length c0_1, .int .i64 a0_2] 67 (0, 0)) (ybz BK464.out) hb); have n1_ := yam (below_step yhb hb); clear BK464; clear HB; have BK464 := n0_; have HB := n1_; clear n0_ n1_; (try clear hb); (try clear hb2); (try clear hk); (try clear hi)))
   go_meet
   case rel => exact ⟨_, (true), yeq, H', ⟨by first | omega | exact Nat.le_refl _⟩, ⟨by (with_reducible repeat (first | refine ybn ?_ _ | refine ybd ?_ | refine yba ?_ _)); exact BK464.out⟩, ⟨yhb⟩⟩
  subst c7
  have H1 : ((impl_MasksValid.f k l1 a2).bind fun t466 => (impl_RuleMasks.j0 k l1 (!t466) a0_0 l0_1 a0_2)) = some r := by rw [if_pos rfl] at H; exact H
  clear H
  have H := H1
  clear H1
  replace H := Option.bind_eq_some_iff.mp H
  obtain ⟨t466, A80, H⟩ := H
  try dsimp only at H
  have A8 := yam A80
  clear A80
  have H' := yam H
  clear H
  obtain ⟨hcz9_0, hcz9_1, hcz9_2, hfz9_0, hfz9_1, hfz9_2⟩ := ybc BK464.out
  go_wp2_with (first | ((with_reducible refine gate_callee (f := 70) rfl ?_); refine goesL_ (some 12) rfl rfl Try.func70 (by kernel_rfl) rfl #[.agg #[.int .i64 a0_0, .slice A0_1 l0_1.length c0_1, .int .i64 a0_2], .int .i64 a2] rfl (by (try simp only [List.map_toArray, List.map_cons, List.map_nil]); first | done | rfl | (simp only [List.length_drop, List.length_take]; rfl)) ?_; (with_reducible refine (impl_RuleValid.calls k a0_0 _ _ l0_1 a0_2 a2 true _ ?side1 ?side2 A6.out).mono ?_); (case side1 => exact Kd.Cz ((Kd.C_below HR0_1.out HB.out))); (case side2 => exact HC0_1.out); rintro e w10 ⟨rfl, hb⟩; refine ⟨_, rfl, ?_⟩; have n0_ := yam (blk_below (g := gb464) (o := .cells #[.int .i64 a0_0, .slice A0_1 l0_1.length c0_1, .int .i64 a0_2] 67 (0, 0)) (ybz BK464.out) hb); have n1_ := yam (below_step yhb hb); clear BK464; clear HB; have BK464 := n0_; have HB := n1_; clear n0_ n1_; (try clear hb); (try clear hb2); (try clear hk); (try clear hi)) | (go_at_call 63; (with_reducible refine (impl_MasksValid.calls k _ _ l1 a2 t466 _ ?side1 ?side2 A8.out).mono ?_); (case side1 => exact Kd.Cz ((Kd.C_below HR1.out HB.out))); (case side2 => exact HC1.out); rintro e w' ⟨rfl, ⟨nd, rfl⟩⟩))
  go_meet
  case rel => exact ⟨_, (!t466), yeq, H', ⟨by first | omega | exact Nat.le_refl _⟩, ⟨by (with_reducible repeat (first | refine ybn ?_ _ | refine ybd ?_ | refine yba ?_ _)); exact BK464.out⟩, ⟨yhb⟩⟩
 case rest =>
  clear HC4
  try clear c1
  try clear p2
  try clear c7
  try clear c8
  try clear hcz11_0
  try clear hcz11_1
  try clear hcz11_2
  try clear hcz9_0
  try clear hcz9_1
  try clear hcz9_2
  try clear hfz11_0
  try clear hfz11_1
  try clear hfz11_2
  try clear hfz9_0
  try clear hfz9_1
  try clear hfz9_2
  obtain ⟨kq, x19_3, rfl, HA, HJ3, BK464, HB⟩ := hcut
  cases kq with
  | zero => exact absurd HA.out (by simp [impl_RuleMasks.j0])
  | succ kj3 =>
   have H := HA.out
   clear HA
   simp only [impl_RuleMasks.j0] at H
   by_cases c13 : x19_3 = true
   ·subst c13
    have H1 : (some ([] : List Int)) = some r := by rw [if_pos rfl] at H; exact H
    clear H
    have H := H1
    clear H1
    obtain rfl := Option.some.inj H
    go_wp2
    go_ret
    exact ⟨_, yer, by first | exact Kd.R_nil _ _ _ _ _ | exact Kd.N_nil _ _ _ _ _ | exact Kd.V_nil _ _ _ _ _ | exact Kd.Q_nil _ _ _ _ _ | exact Kd.S_nil _ _ _ _ _, yhb⟩
   replace c13 := Bool.eq_false_iff.mpr c13
   subst c13
   have H1 : (impl_RuleMasks.l0 kj3 l1 (([] : List Int)) l0_1 (l0_1.length : Int) 0 a0_0 l0_1 a0_2) = some r := by rw [if_neg (show ¬ (false = true) by decide)] at H; exact H
   clear H
   have H := H1
   clear H1
   obtain ⟨y467, hy467⟩ : ∃ y_ : List Int, y_ = (([] : List Int)) := ⟨_, rfl⟩
   replace H : (impl_RuleMasks.l0 kj3 l1 y467 l0_1 (l0_1.length : Int) 0 a0_0 l0_1 a0_2) = some r := by first | (rw [hy467]; with_reducible exact H) | (have H2_ := (Option.bind_some _ _).symm.trans H; rw [hy467]; with_reducible exact H2_) | (have H2_ := (Option.bind_some _ _).symm.trans H; with_reducible exact H2_) | with_reducible exact H | (rw [hy467]; exact H) | exact H
   have Ny467 := yam hy467
   clear hy467
   have H' := yam H
   clear H
   go_wp2_with (first | ((with_reducible refine gate_dst (N := 20) rfl ?_); refine Kd.R_lit (Kd.int .i64) _ 3 ?hg (N := 20) ?hd (xs := ([] : List Int)) (inner := []) (ok := fun _ => True) (okp := fun _ => True) ?hr ?hp (fun _ hk => hk) trivial (Below.refl _ _) (Nat.le_refl _) (by simp) ?_; (case hd => rfl); (case hg => rfl); (case hr => first | (go_simp; done) | (go_simp; rfl)); (case hp => exact (Reps.none _ _)); intro v468 w14 ho15 hb hg_ hnew_; clear hg_ hnew_; (first | rw [← Ny467.out] at ho15 | (simp only [Int.reduceToNat] at ho15; rw [← Ny467.out] at ho15)); have n0_ := yam (Kd.R_lower ho15 (below_size yhb)); have n1_ := yam (blk_below (g := gb464) (o := .cells #[.int .i64 a0_0, .slice A0_1 l0_1.length c0_1, .int .i64 a0_2] 67 (0, 0)) (ybz BK464.out) hb); have n2_ := yam (below_step yhb hb); clear BK464; clear HB; have HO469 := n0_; have BK464 := n1_; have HB := n2_; clear n0_ n1_ n2_; clear hb ho15; obtain ⟨hcz16_0, hcz16_1, hcz16_2, hfz16_0, hfz16_1, hfz16_2⟩ := ybc BK464.out))
   go_loopg [7, 24] kj3 (fun kq v7 v24 w' => ∃ (x7_2 : List Int) (x24_2 : Int), v24 = .int .i64 x24_2 ∧ Aside0 (impl_RuleMasks.l0 kq l1 x7_2 l0_1 (l0_1.length : Int) x24_2 a0_0 l0_1 a0_2 = some r) ∧ Aside0 (kq ≤ kj3) ∧ Aside0 (Kd.R (Kd.int .i64) 3 w' w.heap.size (fun _ => True) v7 x7_2) ∧ Aside0 (w'.heap[gb464]? = some (.cells #[.int .i64 a0_0, (.slice A0_1 l0_1.length c0_1), .int .i64 a0_2] 67 (0, 0))) ∧ Aside0 (Below w.heap.size w w'))
   case atStart => exact ⟨(y467), (0), yeq, H', ⟨Nat.le_refl _⟩, ⟨yka HO469.out⟩, ⟨by (with_reducible repeat (first | refine ybn ?_ _ | refine ybd ?_ | refine yba ?_ _)); exact BK464.out⟩, ⟨yhb⟩⟩
   case round =>
    clear H'
    try clear c1
    try clear p2
    try clear c7
    try clear c8
    try clear c13
    try clear hcz11_0
    try clear hcz11_1
    try clear hcz11_2
    try clear hcz16_0
    try clear hcz16_1
    try clear hcz16_2
    try clear hcz9_0
    try clear hcz9_1
    try clear hcz9_2
    try clear hfz11_0
    try clear hfz11_1
    try clear hfz11_2
    try clear hfz16_0
    try clear hfz16_1
    try clear hfz16_2
    try clear hfz9_0
    try clear hfz9_1
    try clear hfz9_2
    try clear p2
    obtain ⟨x7_2, x24_2, rfl, HA, HK2, HO_7, BK464, HB⟩ := hrel
    cases gk with
    | zero => exact absurd HA.out (by simp [impl_RuleMasks.l0])
    | succ k2 =>
     have H := HA.out
     clear HA
     simp only [impl_RuleMasks.l0] at H
     by_cases c17 : x24_2 < (l0_1.length : Int)
     rotate_left
     ·rw [if_neg c17] at H
      have c17b0 : decide (x24_2 < (l0_1.length : Int)) = false := decide_eq_false c17
      clear c17
      replace H := Option.bind_eq_some_iff.mp H
      obtain ⟨t475, A240, H⟩ := H
      try dsimp only at H
      have A24 := yam A240
      clear A240
      obtain rfl := Option.some.inj H
      obtain ⟨hcz25_0, hcz25_1, hcz25_2, hfz25_0, hfz25_1, hfz25_2⟩ := ybc BK464.out
      obtain ⟨Ao26, co26, eo26⟩ := Kd.R_slice HO_7.out
      subst eo26
      go_wp2_with (first | ((with_reducible refine gate_callee (f := 91) rfl ?_); refine goesL_ (some 38) rfl rfl Try.func91 (by kernel_rfl) rfl #[.agg #[.int .i64 a0_0, .slice A0_1 l0_1.length c0_1, .int .i64 a0_2], .slice Ao26 x7_2.length co26] rfl (by (try simp only [List.map_toArray, List.map_cons, List.map_nil]); first | done | rfl | (simp only [List.length_drop, List.length_take]; rfl)) ?_; (with_reducible refine (impl_ruleMasks.calls k2 a0_0 _ _ l0_1 a0_2 _ _ x7_2 t475 _ ?side1 ?side2 ?side3 ?side4 A24.out).mono ?_); (case side1 => exact Kd.Cz ((Kd.C_below HR0_1.out HB.out))); (case side2 => exact HC0_1.out); (case side3 => repeat (first | exact (Kd.Yr HO_7.out).2.2 | (with_reducible refine Kd.C_alloc ?_ _) | (with_reducible refine Kd.C_drewN ?_ _) | (with_reducible refine Kd.C_drew ?_))); (case side4 => exact (Kd.Yr HO_7.out).2.1); rintro e w27 ⟨v476, rfl, ho0, hb⟩; refine ⟨_, rfl, ?_⟩; have n0_ := yam (Kd.Ye (Kd.Yz HO_7.out) (Kd.Yb ho0) hb); have n1_ := yam (Kd.R_lower (Kd.Yw ho0 (Kd.R_lt (Kd.Yz HO_7.out))) (below_size yhb)); have n2_ := yam (blk_below (g := gb464) (o := .cells #[.int .i64 a0_0, .slice A0_1 l0_1.length c0_1, .int .i64 a0_2] 67 (0, 0)) (ybz BK464.out) hb); have n3_ := yam (below_step yhb hb); clear HO_7; clear BK464; clear HB; have HO_7 := n0_; have HO477 := n1_; have BK464 := n2_; have HB := n3_; clear n0_ n1_ n2_ n3_; (try clear hb); (try clear hb2); (try clear hk); (try clear hi); (try clear ho0)))
      go_ret
      exact ⟨_, yer, by (with_reducible repeat (first | apply Kd.Ya | apply Kd.Yn | apply Kd.Yd)); exact Kd.R_mono HO477.out (fun _ hk => trivial), yhb⟩

     rw [if_pos c17] at H
     have c17b0 : decide (x24_2 < (l0_1.length : Int)) = true := decide_eq_true c17
     clear c17
     replace H := yif H
     obtain ⟨c18b0, H⟩ := H
     replace H := yif H
     obtain ⟨c19b0, H⟩ := H
     replace H := yif H
     obtain ⟨c20b0, H⟩ := H
     replace H := yif H
     obtain ⟨c21b0, H⟩ := H
     replace H := yig H
     obtain ⟨c22, H⟩ := H
     have LMc22 := yam c22
     clear c22
     obtain ⟨y472, hy472⟩ : ∃ y_ : List Int, y_ = (x7_2 ++ [rd l1 (rd l0_1 x24_2)]) := ⟨_, rfl⟩
     replace H : (impl_RuleMasks.l0 k2 l1 y472 l0_1 (l0_1.length : Int) (wrap64 (x24_2 + 1)) a0_0 l0_1 a0_2) = some r := by first | (rw [hy472]; with_reducible exact H) | (have H2_ := (Option.bind_some _ _).symm.trans H; rw [hy472]; with_reducible exact H2_) | (have H2_ := (Option.bind_some _ _).symm.trans H; with_reducible exact H2_) | with_reducible exact H | (rw [hy472]; exact H) | exact H
     have Ny472 := yam hy472
     clear hy472
     have H' := yam H
     clear H
     have p470 : 0 ≤ (x24_2 : Int) := ydt
     have q470 : x24_2 < (l0_1.length : Int) := ydt
     obtain ⟨ad470, e470, hx470_0⟩ := Kd.at_int HR0_1.out x24_2 p470 q470
     cases e470
     replace hx470_0 := ybx HB.out hx470_0
     replace p470 := eq_true p470
     replace q470 := eq_true q470
     have p471 : 0 ≤ ((rd l0_1 x24_2) : Int) := ydt
     have q471 : (rd l0_1 x24_2) < (l1.length : Int) := ydt
     obtain ⟨ad471, e471, hx471_0⟩ := Kd.at_int HR1.out (rd l0_1 x24_2) p471 q471
     cases e471
     replace hx471_0 := ybx HB.out hx471_0
     replace p471 := eq_true p471
     replace q471 := eq_true q471
     go_wp2_with (first | ((with_reducible refine gate_builtin (b := .append) (xs := #[.tmp 28, .tmp 33]) rfl ?_); at_builtin; refine Kd.R_append (Kd.int .i64) (w0 := w) w.heap.size rfl (.tmp 28) (.tmp 33) 22 3 (.int .i64 0) 8 rfl Try.underlying22 info3 rfl (by decide) (by omega) u7 x7_2 (rd l1 (rd l0_1 x24_2)) [.int .i64 (rd l1 (rd l0_1 x24_2))] (fun _ => True) (fun _ => False) rfl rfl ?aP (fun _ hk => hk.elim) ?aF ?aO ?aB ?aS ?aL ?_; (case aP => exact rfl); (case aB => exact yhb); (case aF => exact (fun _ _ => trivial)); (case aO => exact (Kd.Yz HO_7.out)); (case aS => exact (below_size yhb)); (case aL => have := LMc22.out; omega); intro v473 w23 ho hb hg hat; rw [← Ny472.out] at ho; have n0_ := yam (blk_grown (g := gb464) (o := .cells #[.int .i64 a0_0, .slice (some ad470) l0_1.length c0_1, .int .i64 a0_2] 67 (0, 0)) (ybz BK464.out) hg (Kd.R_ne HO_7.out BK464.out (by decide))); have n1_ := yam (hb); have n2_ := yam (ho); clear BK464; clear HB; clear HO_7; have BK464 := n0_; have HB := n1_; have HO474 := n2_; clear n0_ n1_ n2_; clear ho hb hg hat))
     go_roundg k2
     case measure => have := HJ3.out; have := HK2.out; omega
     case rel => exact ⟨(y472), (wrap64 (x24_2 + 1)), yeq, H', ⟨by have := HJ3.out; have := HK2.out; omega⟩, ⟨yka HO474.out⟩, ⟨by (with_reducible repeat (first | refine ybn ?_ _ | refine ybd ?_ | refine yba ?_ _)); exact BK464.out⟩, ⟨yhb⟩⟩
mutual
def impl_NarrowRules.j0 : Nat → List Int → Bool → Int → List Int → List (S67) → Option (List Int)
 | 0, _, _, _, _, _ => none
 | k + 1, x1, x19, x479000, x479001, x479002 => if x19 = true then (some ([] : List Int)) else ((slices_Clone_int_int.f x1).bind fun t481 => (impl_NarrowRules.l0 k t481 x479002 (x479002.length : Int) 0 x479000 x479001 x479002))
def impl_NarrowRules.l0 : Nat → List Int → List (S67) → Int → Int → Int → List Int → List (S67) → Option (List Int)
 | 0, _, _, _, _, _, _, _ => none
 | k + 1, x5, x23, x24, x25, x479000, x479001, x479002 => if x25 < x24 then (if 0 ≤ x25 then (if x25 < (x23.length : Int) then ((impl_RuleMasks.f k ((rd_T67 x23 x25).f0) ((rd_T67 x23 x25).f1) ((rd_T67 x23 x25).f2) x5 x479000).bind fun t486 => (impl_NarrowRules.l1 k x5 x23 x24 x25 t486 (t486.length : Int) 0 x479000 x479001 x479002 ((rd_T67 x23 x25).f0) ((rd_T67 x23 x25).f1) ((rd_T67 x23 x25).f2))) else (none)) else (none)) else (some x5)
def impl_NarrowRules.l1 : Nat → List Int → List (S67) → Int → Int → List Int → Int → Int → Int → List Int → List (S67) → Int → List Int → Int → Option (List Int)
 | 0, _, _, _, _, _, _, _, _, _, _, _, _, _ => none
 | k + 1, x5, x23, x24, x25, x33, x34, x35, x479000, x479001, x479002, x486000, x486001, x486002 => if x35 < x34 then (if 0 ≤ x35 then (if x35 < (x33.length : Int) then (if x35 < (x486001.length : Int) then (if 0 ≤ (rd x486001 x35) then (if (rd x486001 x35) < (x5.length : Int) then (impl_NarrowRules.l1 k (x5.set ((rd x486001 x35) : Int).toNat (rd x33 x35)) x23 x24 x25 x33 x34 (wrap64 (x35 + 1)) x479000 x479001 x479002 x486000 x486001 x486002) else (none)) else (none)) else (none)) else (none)) else (none)) else (impl_NarrowRules.l0 k x5 x23 x24 (wrap64 (x25 + 1)) x479000 x479001 x479002)
end
def impl_NarrowRules.f (k : Nat) (a0_0 : Int) (l0_1 : List Int) (l0_2 : List (S67)) (l1 : List Int) : Option (List Int) := (impl_PuzzleValid.f k a0_0 l0_1 l0_2).bind fun t479 => (if t479 = true then ((impl_MasksValid.f k l1 a0_0).bind fun t480 => (impl_NarrowRules.j0 k l1 (!t480) a0_0 l0_1 l0_2)) else (impl_NarrowRules.j0 k l1 true a0_0 l0_1 l0_2))
set_option maxHeartbeats 8000000 in
set_option maxRecDepth 100000 in
theorem impl_NarrowRules.calls (k : Nat) (a0_0 : Int) (A0_1 : Option Addr) (c0_1 : Nat) (l0_1 : List Int) (A0_2 : Option Addr) (c0_2 : Nat) (l0_2 : List (S67)) (A1 : Option Addr) (c1 : Nat) (l1 : List Int) (r : List Int) (w : World) (hr0_1 : Kd.C (Kd.int .i64) w A0_1 l0_1.length l0_1) (hc0_1 : l0_1.length ≤ c0_1) (hr0_2 : Kd.C k67 w A0_2 l0_2.length l0_2) (hc0_2 : l0_2.length ≤ c0_2) (hr1 : Kd.C (Kd.int .i64) w A1 l1.length l1) (hc1 : l1.length ≤ c1) (h : impl_NarrowRules.f k a0_0 l0_1 l0_2 l1 = some r) :
  Calls Try.prog 61 #[.agg #[.int .i64 a0_0, .slice A0_1 l0_1.length c0_1, .slice A0_2 l0_2.length c0_2], .slice A1 l1.length c1] w fun e w' => ∃ v0_ : Value, e = .returned (v0_) ∧ Kd.R (Kd.int .i64) 3 w' w.heap.size (fun _ => True) v0_ r ∧ Below w.heap.size w w' := by
 have hu30 := Try.underlying30
 have hu67 := Try.underlying67
 have HR0_1 := yam hr0_1
 have HC0_1 := yam hc0_1
 clear hr0_1 hc0_1
 have HR0_2 := yam hr0_2
 have HC0_2 := yam hc0_2
 clear hr0_2 hc0_2
 have HR1 := yam hr1
 have HC1 := yam hc1
 clear hr1 hc1
 have HB := yam (Below.refl w.heap.size w)
 have H : ((impl_PuzzleValid.f k a0_0 l0_1 l0_2).bind fun t479 => (if t479 = true then ((impl_MasksValid.f k l1 a0_0).bind fun t480 => (impl_NarrowRules.j0 k l1 (!t480) a0_0 l0_1 l0_2)) else (impl_NarrowRules.j0 k l1 true a0_0 l0_1 l0_2))) = some r := h
 clear h
 have HC3 := yam H
 clear H
 go_enter Try.func61, Try.ntmps61
 go_upto_region 1 with (first | ((with_reducible refine gate_dst (N := 2) rfl ?_); refine ybe 2 #[.int .i64 a0_0, .slice A0_1 l0_1.length c0_1, .slice A0_2 l0_2.length c0_2] 30 ?_; intro gb478 hg w4 hbox hb; have n0_ := yam (below_step (yez HB.out) hb); have n1_ := yam (hbox); have n2_ := yam ((by rw [hg]; exact (below_size (yez HB.out)) : w.heap.size ≤ gb478)); have n3_ := n2_; clear HB; have HB := n0_; have BK478 := n1_; have GW478 := n2_; have GE478 := n3_; clear n0_ n1_ n2_ n3_; clear hb hbox hg))
 (try simp only [Act.put, yps])
 go_cut [19] (fun v19 wc => ∃ (kq : Nat) (x19_2 : Bool), v19 = .bool x19_2 ∧ Aside0 (impl_NarrowRules.j0 kq l1 x19_2 a0_0 l0_1 l0_2 = some r) ∧ Aside0 (kq ≤ k) ∧ Aside0 (wc.heap[gb478]? = some (.cells #[.int .i64 a0_0, (.slice A0_1 l0_1.length c0_1), (.slice A0_2 l0_2.length c0_2)] 30 (0, 0))) ∧ Aside0 (Below w.heap.size w wc))
 case first =>
  have H := HC3.out
  clear HC3
  replace H := Option.bind_eq_some_iff.mp H
  obtain ⟨t479, A50, H⟩ := H
  try dsimp only at H
  have A5 := yam A50
  clear A50
  by_cases c6 : t479 = true
  rotate_left
  ·replace c6 := Bool.eq_false_iff.mpr c6
   subst c6
   have H1 : (impl_NarrowRules.j0 k l1 true a0_0 l0_1 l0_2) = some r := by rw [if_neg (show ¬ (false = true) by decide)] at H; exact H
   clear H
   have H := H1
   clear H1
   have H' := yam H
   clear H
   obtain ⟨hcz11_0, hcz11_1, hcz11_2, hfz11_0, hfz11_1, hfz11_2⟩ := ybc BK478.out
   go_wp2_with (first | ((with_reducible refine gate_callee (f := 36) rfl ?_); refine goesL_ (some 11) rfl rfl Try.func36 (by kernel_rfl) rfl #[.agg #[.int .i64 a0_0, .slice A0_1 l0_1.length c0_1, .slice A0_2 l0_2.length c0_2]] rfl (by (try simp only [List.map_toArray, List.map_cons, List.map_nil]); first | done | rfl | (simp only [List.length_drop, List.length_take]; rfl)) ?_; (with_reducible refine (impl_PuzzleValid.calls k a0_0 _ _ l0_1 _ _ l0_2 false _ ?side1 ?side2 ?side3 ?side4 A5.out).mono ?_); (case side1 => exact Kd.Cz ((Kd.C_below HR0_1.out HB.out))); (case side2 => exact HC0_1.out); (case side3 => exact Kd.Cz ((Kd.C_below HR0_2.out HB.out))); (case side4 => exact HC0_2.out); rintro e w12 ⟨rfl, hb⟩; refine ⟨_, rfl, ?_⟩; have n0_ := yam (blk_below (g := gb478) (o := .cells #[.int .i64 a0_0, .slice A0_1 l0_1.length c0_1, .slice A0_2 l0_2.length c0_2] 30 (0, 0)) (ybz BK478.out) hb); have n1_ := yam (below_step yhb hb); clear BK478; clear HB; have BK478 := n0_; have HB := n1_; clear n0_ n1_; (try clear hb); (try clear hb2); (try clear hk); (try clear hi)))
   go_meet
   case rel => exact ⟨_, (true), yeq, H', ⟨by first | omega | exact Nat.le_refl _⟩, ⟨by (with_reducible repeat (first | refine ybn ?_ _ | refine ybd ?_ | refine yba ?_ _)); exact BK478.out⟩, ⟨yhb⟩⟩
  subst c6
  have H1 : ((impl_MasksValid.f k l1 a0_0).bind fun t480 => (impl_NarrowRules.j0 k l1 (!t480) a0_0 l0_1 l0_2)) = some r := by rw [if_pos rfl] at H; exact H
  clear H
  have H := H1
  clear H1
  replace H := Option.bind_eq_some_iff.mp H
  obtain ⟨t480, A70, H⟩ := H
  try dsimp only at H
  have A7 := yam A70
  clear A70
  have H' := yam H
  clear H
  obtain ⟨hcz8_0, hcz8_1, hcz8_2, hfz8_0, hfz8_1, hfz8_2⟩ := ybc BK478.out
  go_wp2_with (first | ((with_reducible refine gate_callee (f := 36) rfl ?_); refine goesL_ (some 11) rfl rfl Try.func36 (by kernel_rfl) rfl #[.agg #[.int .i64 a0_0, .slice A0_1 l0_1.length c0_1, .slice A0_2 l0_2.length c0_2]] rfl (by (try simp only [List.map_toArray, List.map_cons, List.map_nil]); first | done | rfl | (simp only [List.length_drop, List.length_take]; rfl)) ?_; (with_reducible refine (impl_PuzzleValid.calls k a0_0 _ _ l0_1 _ _ l0_2 true _ ?side1 ?side2 ?side3 ?side4 A5.out).mono ?_); (case side1 => exact Kd.Cz ((Kd.C_below HR0_1.out HB.out))); (case side2 => exact HC0_1.out); (case side3 => exact Kd.Cz ((Kd.C_below HR0_2.out HB.out))); (case side4 => exact HC0_2.out); rintro e w9 ⟨rfl, hb⟩; refine ⟨_, rfl, ?_⟩; have n0_ := yam (blk_below (g := gb478) (o := .cells #[.int .i64 a0_0, .slice A0_1 l0_1.length c0_1, .slice A0_2 l0_2.length c0_2] 30 (0, 0)) (ybz BK478.out) hb); have n1_ := yam (below_step yhb hb); clear BK478; clear HB; have BK478 := n0_; have HB := n1_; clear n0_ n1_; (try clear hb); (try clear hb2); (try clear hk); (try clear hi); obtain ⟨hcz10_0, hcz10_1, hcz10_2, hfz10_0, hfz10_1, hfz10_2⟩ := ybc BK478.out) | (go_at_call 63; (with_reducible refine (impl_MasksValid.calls k _ _ l1 a0_0 t480 _ ?side1 ?side2 A7.out).mono ?_); (case side1 => exact Kd.Cz ((Kd.C_below HR1.out HB.out))); (case side2 => exact HC1.out); rintro e w' ⟨rfl, ⟨nd, rfl⟩⟩))
  go_meet
  case rel => exact ⟨_, (!t480), yeq, H', ⟨by first | omega | exact Nat.le_refl _⟩, ⟨by (with_reducible repeat (first | refine ybn ?_ _ | refine ybd ?_ | refine yba ?_ _)); exact BK478.out⟩, ⟨yhb⟩⟩
 case rest =>
  clear HC3
  try clear c1
  try clear p2
  try clear c3
  try clear c6
  try clear hcz10_0
  try clear hcz10_1
  try clear hcz10_2
  try clear hcz11_0
  try clear hcz11_1
  try clear hcz11_2
  try clear hcz8_0
  try clear hcz8_1
  try clear hcz8_2
  try clear hfz10_0
  try clear hfz10_1
  try clear hfz10_2
  try clear hfz11_0
  try clear hfz11_1
  try clear hfz11_2
  try clear hfz8_0
  try clear hfz8_1
  try clear hfz8_2
  obtain ⟨kq, x19_2, rfl, HA, HJ2, BK478, HB⟩ := hcut
  cases kq with
  | zero => exact absurd HA.out (by simp [impl_NarrowRules.j0])
  | succ kj2 =>
   have H := HA.out
   clear HA
   simp only [impl_NarrowRules.j0] at H
   by_cases c13 : x19_2 = true
   ·subst c13
    have H1 : (some ([] : List Int)) = some r := by rw [if_pos rfl] at H; exact H
    clear H
    have H := H1
    clear H1
    obtain rfl := Option.some.inj H
    go_wp2
    go_ret
    exact ⟨_, yer, by first | exact Kd.R_nil _ _ _ _ _ | exact Kd.N_nil _ _ _ _ _ | exact Kd.V_nil _ _ _ _ _ | exact Kd.Q_nil _ _ _ _ _ | exact Kd.S_nil _ _ _ _ _, yhb⟩
   replace c13 := Bool.eq_false_iff.mpr c13
   subst c13
   have H1 : ((slices_Clone_int_int.f l1).bind fun t481 => (impl_NarrowRules.l0 kj2 t481 l0_2 (l0_2.length : Int) 0 a0_0 l0_1 l0_2)) = some r := by rw [if_neg (show ¬ (false = true) by decide)] at H; exact H
   clear H
   have H := H1
   clear H1
   replace H := Option.bind_eq_some_iff.mp H
   obtain ⟨t481, A140, H⟩ := H
   try dsimp only at H
   have A14 := yam A140
   clear A140
   have H' := yam H
   clear H
   go_wp2_with (first | ((with_reducible refine gate_callee (f := 64) rfl ?_); refine goesL_ (some 21) rfl rfl Try.func64 (by kernel_rfl) rfl #[.slice A1 l1.length c1] rfl (by (try simp only [List.map_toArray, List.map_cons, List.map_nil]); first | done | rfl | (simp only [List.length_drop, List.length_take]; rfl)) ?_; (with_reducible refine (slices_Clone_int_int.calls _ _ l1 t481 _ ?side1 ?side2 A14.out).mono ?_); (case side1 => exact Kd.Cz ((Kd.C_below HR1.out HB.out))); (case side2 => exact HC1.out); rintro e w15 ⟨v482, rfl, ho0, hb⟩; refine ⟨_, rfl, ?_⟩; have n0_ := yam (Kd.R_lower ho0 (below_size yhb)); have n1_ := yam (blk_below (g := gb478) (o := .cells #[.int .i64 a0_0, .slice A0_1 l0_1.length c0_1, .slice A0_2 l0_2.length c0_2] 30 (0, 0)) (ybz BK478.out) hb); have n2_ := yam (below_step yhb hb); clear BK478; clear HB; have HO483 := n0_; have BK478 := n1_; have HB := n2_; clear n0_ n1_ n2_; (try clear hb); (try clear hb2); (try clear hk); (try clear hi); (try clear ho0); obtain ⟨hcz16_0, hcz16_1, hcz16_2, hfz16_0, hfz16_1, hfz16_2⟩ := ybc BK478.out))
   go_loopg [25] kj2 (fun kq v25 w' => ∃ (x5_2 : List Int) (x25_2 : Int), v25 = .int .i64 x25_2 ∧ Aside0 (impl_NarrowRules.l0 kq x5_2 l0_2 (l0_2.length : Int) x25_2 a0_0 l0_1 l0_2 = some r) ∧ Aside0 (kq ≤ kj2) ∧ Aside0 (Kd.R (Kd.int .i64) 3 w' w.heap.size (fun _ => True) v482 x5_2) ∧ Aside0 (w'.heap[gb478]? = some (.cells #[.int .i64 a0_0, (.slice A0_1 l0_1.length c0_1), (.slice A0_2 l0_2.length c0_2)] 30 (0, 0))) ∧ Aside0 (Below w.heap.size w w'))
   case atStart => exact ⟨(t481), (0), yeq, H', ⟨Nat.le_refl _⟩, ⟨yka HO483.out⟩, ⟨by (with_reducible repeat (first | refine ybn ?_ _ | refine ybd ?_ | refine yba ?_ _)); exact BK478.out⟩, ⟨yhb⟩⟩
   case round =>
    clear H'
    try clear c1
    try clear p2
    try clear c3
    try clear c6
    try clear c13
    try clear hcz10_0
    try clear hcz10_1
    try clear hcz10_2
    try clear hcz11_0
    try clear hcz11_1
    try clear hcz11_2
    try clear hcz16_0
    try clear hcz16_1
    try clear hcz16_2
    try clear hcz8_0
    try clear hcz8_1
    try clear hcz8_2
    try clear hfz10_0
    try clear hfz10_1
    try clear hfz10_2
    try clear hfz11_0
    try clear hfz11_1
    try clear hfz11_2
    try clear hfz16_0
    try clear hfz16_1
    try clear hfz16_2
    try clear hfz8_0
    try clear hfz8_1
    try clear hfz8_2
    try clear p2
    obtain ⟨x5_2, x25_2, rfl, HA, HK2, HO_5, BK478, HB⟩ := hrel
    cases gk with
    | zero => exact absurd HA.out (by simp [impl_NarrowRules.l0])
    | succ k2 =>
     have H := HA.out
     clear HA
     simp only [impl_NarrowRules.l0] at H
     by_cases c17 : x25_2 < (l0_2.length : Int)
     rotate_left
     ·rw [if_neg c17] at H
      have c17b0 : decide (x25_2 < (l0_2.length : Int)) = false := decide_eq_false c17
      clear c17
      obtain rfl := Option.some.inj H
      go_wp2
      go_ret
      exact ⟨_, yer, yka HO_5.out, yhb⟩

     rw [if_pos c17] at H
     have c17b0 : decide (x25_2 < (l0_2.length : Int)) = true := decide_eq_true c17
     clear c17
     replace H := yif H
     obtain ⟨c18b0, H⟩ := H
     replace H := yif H
     obtain ⟨c19b0, H⟩ := H
     replace H := Option.bind_eq_some_iff.mp H
     obtain ⟨t486, A200, H⟩ := H
     try dsimp only at H
     have A20 := yam A200
     clear A200
     have H' := yam H
     clear H
     have p484 : 0 ≤ (x25_2 : Int) := ydt
     have q484 : x25_2 < (l0_2.length : Int) := ydt
     obtain ⟨ad484, A484_1, c484_1, e484, hx484_0, hx484_1, hx484_2, hl484_1, hi484_1⟩ := at_T67 HR0_2.out x25_2 p484 q484
     cases e484
     replace hx484_0 := ybx HB.out hx484_0
     replace hx484_1 := ybx HB.out hx484_1
     replace hx484_2 := ybx HB.out hx484_2
     have HR484_1 := yam hi484_1
     have HC484_1 := yam hl484_1
     clear hi484_1 hl484_1
     replace p484 := eq_true p484
     replace q484 := eq_true q484
     go_wp2_with (first | ((with_reducible refine gate_dst (N := 7) rfl ?_); refine ybe 7 #[.int .i64 0, .slice none 0 0, .int .i64 0] 67 ?_; intro gb485 hg w21 hbox hb; have n0_ := yam (Kd.R_below (Kd.Yz HO_5.out) hb); have n1_ := yam (blk_below (g := gb478) (o := .cells #[.int .i64 a0_0, .slice A0_1 l0_1.length c0_1, .slice (some ad484) l0_2.length c0_2] 30 (0, 0)) (ybz BK478.out) hb); have n2_ := yam (below_step yhb hb); have n3_ := yam (hbox); have n4_ := yam ((by rw [hg]; exact (below_size yhb) : w.heap.size ≤ gb485)); have n5_ := n4_; have n6_ := yam ((by rw [hg]; exact Nat.ne_of_lt (blk_lt (g := gb478) (o := .cells #[.int .i64 a0_0, .slice A0_1 l0_1.length c0_1, .slice (some ad484) l0_2.length c0_2] 30 (0, 0)) (ybz BK478.out)) : gb478 ≠ gb485)); have n7_ := yam ((by rw [hg]; exact Nat.ne_of_gt (blk_lt (g := gb478) (o := .cells #[.int .i64 a0_0, .slice A0_1 l0_1.length c0_1, .slice (some ad484) l0_2.length c0_2] 30 (0, 0)) (ybz BK478.out)) : gb485 ≠ gb478)); clear HO_5; clear BK478; clear HB; have HO_5 := n0_; have BK478 := n1_; have HB := n2_; have BK485 := n3_; have GW485 := n4_; have GE485 := n5_; have NB478_485 := n6_; have NB485_478 := n7_; clear n0_ n1_ n2_ n3_ n4_ n5_ n6_ n7_; clear hb hbox hg; have hnb22 := NB485_478.out; have hnc22 := NB478_485.out; obtain ⟨hcz23_0, hcz23_1, hcz23_2, hfz23_0, hfz23_1, hfz23_2⟩ := ybc BK485.out; obtain ⟨hcz24_0, hcz24_1, hcz24_2, hfz24_0, hfz24_1, hfz24_2⟩ := ybc BK478.out; obtain ⟨Ao25, co25, eo25⟩ := Kd.R_slice HO_5.out; subst eo25) | ((with_reducible refine gate_callee (f := 83) rfl ?_); refine goesL_ (some 33) rfl rfl Try.func83 (by kernel_rfl) rfl #[.agg #[.int .i64 ((rd_T67 l0_2 x25_2).f0), .slice A484_1 ((rd_T67 l0_2 x25_2).f1).length c484_1, .int .i64 ((rd_T67 l0_2 x25_2).f2)], .slice Ao25 x5_2.length co25, .int .i64 a0_0] rfl (by (try simp only [List.map_toArray, List.map_cons, List.map_nil]); first | done | rfl | (simp only [List.length_drop, List.length_take]; rfl)) ?_; (with_reducible refine (impl_RuleMasks.calls k2 ((rd_T67 l0_2 x25_2).f0) _ _ ((rd_T67 l0_2 x25_2).f1) ((rd_T67 l0_2 x25_2).f2) _ _ x5_2 a0_0 t486 _ ?side1 ?side2 ?side3 ?side4 A20.out).mono ?_); (case side1 => exact Kd.C_below HR484_1.out yhb); (case side2 => exact HC484_1.out); (case side3 => refine (Kd.Yr (e := 3) (base := w.heap.size) (ok := fun k_ => True) (n := x5_2.length) (c := co25) ?_).2.2; exact (by (with_reducible repeat (first | apply Kd.Ya | apply Kd.Yn | apply Kd.Yd)); exact (Kd.R_mono (Kd.R_far (p := ⟨gb485, 2, none⟩) (Kd.R_far (p := ⟨gb485, 1, none⟩) (Kd.R_far (p := ⟨gb485, 0, none⟩) (Kd.R_types HO_5.out BK485.out (by decide)) (fun _ hk => hk.2) (.int .i64 ((rd_T67 l0_2 x25_2).f0))) (fun _ hk => hk.2) (.slice A484_1 ((rd_T67 l0_2 x25_2).f1).length c484_1)) (fun _ hk => hk.2) (.int .i64 ((rd_T67 l0_2 x25_2).f2))) (fun _ h_ => h_.1)))); (case side4 => exact (Kd.Yr HO_5.out).2.1); rintro e w26 ⟨v487, rfl, ho0, hb⟩; refine ⟨_, rfl, ?_⟩; have n0_ := yam (Kd.Ye (by (with_reducible repeat (first | apply Kd.Ya | apply Kd.Yn | apply Kd.Yd)); exact (Kd.R_mono (Kd.R_far (p := ⟨gb485, 2, none⟩) (Kd.R_far (p := ⟨gb485, 1, none⟩) (Kd.R_far (p := ⟨gb485, 0, none⟩) (Kd.R_types HO_5.out BK485.out (by decide)) (fun _ hk => hk.2) (.int .i64 ((rd_T67 l0_2 x25_2).f0))) (fun _ hk => hk.2) (.slice A484_1 ((rd_T67 l0_2 x25_2).f1).length c484_1)) (fun _ hk => hk.2) (.int .i64 ((rd_T67 l0_2 x25_2).f2))) (fun _ h_ => h_.1))) (Kd.Yb ho0) hb); have n1_ := yam (Kd.R_lower (Kd.Yw ho0 (Kd.R_lt (by (with_reducible repeat (first | apply Kd.Ya | apply Kd.Yn | apply Kd.Yd)); exact (Kd.R_mono (Kd.R_far (p := ⟨gb485, 2, none⟩) (Kd.R_far (p := ⟨gb485, 1, none⟩) (Kd.R_far (p := ⟨gb485, 0, none⟩) (Kd.R_types HO_5.out BK485.out (by decide)) (fun _ hk => hk.2) (.int .i64 ((rd_T67 l0_2 x25_2).f0))) (fun _ hk => hk.2) (.slice A484_1 ((rd_T67 l0_2 x25_2).f1).length c484_1)) (fun _ hk => hk.2) (.int .i64 ((rd_T67 l0_2 x25_2).f2))) (fun _ h_ => h_.1))))) (below_size yhb)); have n2_ := yam (blk_below (g := gb478) (o := .cells #[.int .i64 a0_0, .slice A0_1 l0_1.length c0_1, .slice (some ad484) l0_2.length c0_2] 30 (0, 0)) (by (with_reducible repeat (first | refine ybn ?_ _ | refine ybd ?_ | refine yba ?_ _)); refine blk_far ?_ NB478_485.out _; (with_reducible repeat (first | refine ybn ?_ _ | refine ybd ?_ | refine yba ?_ _)); refine blk_far ?_ NB478_485.out _; (with_reducible repeat (first | refine ybn ?_ _ | refine ybd ?_ | refine yba ?_ _)); refine blk_far ?_ NB478_485.out _; (with_reducible repeat (first | refine ybn ?_ _ | refine ybd ?_ | refine yba ?_ _)); exact BK478.out) hb); have n3_ := yam (blk_below (g := gb485) (o := .cells #[.int .i64 ((rd_T67 l0_2 x25_2).f0), .slice A484_1 ((rd_T67 l0_2 x25_2).f1).length c484_1, .int .i64 ((rd_T67 l0_2 x25_2).f2)] 67 (0, 0)) (by (with_reducible repeat (first | refine ybn ?_ _ | refine ybd ?_ | refine yba ?_ _)); refine blk_put (cs := #[.int .i64 ((rd_T67 l0_2 x25_2).f0), .slice A484_1 ((rd_T67 l0_2 x25_2).f1).length c484_1, .int .i64 0]) ?_ 2 _ rfl; (with_reducible repeat (first | refine ybn ?_ _ | refine ybd ?_ | refine yba ?_ _)); refine blk_put (cs := #[.int .i64 ((rd_T67 l0_2 x25_2).f0), .slice none 0 0, .int .i64 0]) ?_ 1 _ rfl; (with_reducible repeat (first | refine ybn ?_ _ | refine ybd ?_ | refine yba ?_ _)); refine blk_put (cs := #[.int .i64 0, .slice none 0 0, .int .i64 0]) ?_ 0 _ rfl; (with_reducible repeat (first | refine ybn ?_ _ | refine ybd ?_ | refine yba ?_ _)); exact BK485.out) hb); have n4_ := yam (below_step yhb hb); clear HO_5; clear BK478; clear BK485; clear HB; have HO_5 := n0_; have HO488 := n1_; have BK478 := n2_; have BK485 := n3_; have HB := n4_; clear n0_ n1_ n2_ n3_ n4_; (try clear hb); (try clear hb2); (try clear hk); (try clear hi); (try clear ho0); obtain ⟨Ao27, co27, eo27⟩ := Kd.R_slice HO488.out; subst eo27))
     go_loopg [35] k2 (fun kq v35 w' => ∃ (x5_3 : List Int) (x35_3 : Int), v35 = .int .i64 x35_3 ∧ Aside0 (impl_NarrowRules.l1 kq x5_3 l0_2 (l0_2.length : Int) x25_2 t486 (t486.length : Int) x35_3 a0_0 l0_1 l0_2 ((rd_T67 l0_2 x25_2).f0) ((rd_T67 l0_2 x25_2).f1) ((rd_T67 l0_2 x25_2).f2) = some r) ∧ Aside0 (kq ≤ k2) ∧ Aside0 (Kd.R (Kd.int .i64) 3 w' w.heap.size (fun k_ => some k_ ≠ ((.slice Ao27 t486.length co27) : Value).ownBlock) (.slice Ao25 x5_2.length co25) x5_3) ∧ Aside0 (Kd.R (Kd.int .i64) 3 w' w.heap.size (fun k_ => some k_ ≠ ((.slice Ao25 x5_2.length co25) : Value).ownBlock) (.slice Ao27 t486.length co27) t486) ∧ Aside0 (w'.heap[gb478]? = some (.cells #[.int .i64 a0_0, (.slice A0_1 l0_1.length c0_1), (.slice (some ad484) l0_2.length c0_2)] 30 (0, 0))) ∧ Aside0 (w'.heap[gb485]? = some (.cells #[.int .i64 ((rd_T67 l0_2 x25_2).f0), (.slice A484_1 ((rd_T67 l0_2 x25_2).f1).length c484_1), .int .i64 ((rd_T67 l0_2 x25_2).f2)] 67 (0, 0))) ∧ Aside0 (Below w.heap.size w w'))
     case atStart => exact ⟨(x5_2), (0), yeq, H', ⟨Nat.le_refl _⟩, ⟨by (with_reducible repeat (first | apply Kd.Ya | apply Kd.Yn | apply Kd.Yd)); exact Kd.R_mono HO_5.out (fun _ hk => hk.2)⟩, ⟨by (with_reducible repeat (first | apply Kd.Ya | apply Kd.Yn | apply Kd.Yd)); exact Kd.R_mono HO488.out (fun _ hk => hk.2)⟩, ⟨by (with_reducible repeat (first | refine ybn ?_ _ | refine ybd ?_ | refine yba ?_ _)); exact BK478.out⟩, ⟨by (with_reducible repeat (first | refine ybn ?_ _ | refine ybd ?_ | refine yba ?_ _)); exact BK485.out⟩, ⟨yhb⟩⟩
     case round =>
      clear H'
      try clear c1
      try clear c2
      try clear p2
      try clear c3
      try clear c4
      try clear p4
      try clear q4
      try clear hx4
      try clear c6
      try clear c8
      try clear c13
      try clear c17
      try clear c17b0
      try clear c18
      try clear c18b0
      try clear c19
      try clear c19b0
      try clear c22
      try clear hcz10_0
      try clear hcz10_1
      try clear hcz10_2
      try clear hcz11_0
      try clear hcz11_1
      try clear hcz11_2
      try clear hcz16_0
      try clear hcz16_1
      try clear hcz16_2
      try clear hcz23_0
      try clear hcz23_1
      try clear hcz23_2
      try clear hcz24_0
      try clear hcz24_1
      try clear hcz24_2
      try clear hcz8_0
      try clear hcz8_1
      try clear hcz8_2
      try clear hfz10_0
      try clear hfz10_1
      try clear hfz10_2
      try clear hfz11_0
      try clear hfz11_1
      try clear hfz11_2
      try clear hfz16_0
      try clear hfz16_1
      try clear hfz16_2
      try clear hfz23_0
      try clear hfz23_1
      try clear hfz23_2
      try clear hfz24_0
      try clear hfz24_1
      try clear hfz24_2
      try clear hfz8_0
      try clear hfz8_1
      try clear hfz8_2
      try clear hx484_0
      try clear hx484_1
      try clear hx484_2
      try clear p2
      try clear p484
      try clear q484
      obtain ⟨x5_3, x35_3, rfl, HA, HK3, HO_5, HO_33, BK478, BK485, HB⟩ := hrel
      have hl5_3 := (Kd.Yr HO_5.out).1
      rw [hl5_3] at HO_5
      (try simp only [hl5_3])
      (try simp only [hl5_3] at BK478)
      (try simp only [hl5_3] at BK485)
      (try simp only [hl5_3] at HO_33)
      cases gk with
      | zero => exact absurd HA.out (by simp [impl_NarrowRules.l1])
      | succ k3 =>
       have H := HA.out
       clear HA
       simp only [impl_NarrowRules.l1] at H
       by_cases c28 : x35_3 < (t486.length : Int)
       rotate_left
       ·rw [if_neg c28] at H
        have c28b0 : decide (x35_3 < (t486.length : Int)) = false := decide_eq_false c28
        clear c28
        have H' := yam H
        clear H
        go_wp2
        (try simp only [← hl5_3])
        go_roundg k3
        case measure => have := HJ2.out; have := HK2.out; have := HK3.out; omega
        case rel => exact ⟨(x5_3), (wrap64 (x25_2 + 1)), yeq, H', ⟨by have := HJ2.out; have := HK2.out; have := HK3.out; omega⟩, ⟨by (try simp only [hl5_3]); (with_reducible repeat (first | apply Kd.Ya | apply Kd.Yn | apply Kd.Yd)); exact Kd.R_mono HO_5.out (fun _ hk => trivial)⟩, ⟨by (try simp only [hl5_3]); (with_reducible repeat (first | refine ybn ?_ _ | refine ybd ?_ | refine yba ?_ _)); exact BK478.out⟩, ⟨yhb⟩⟩
       rw [if_pos c28] at H
       have c28b0 : decide (x35_3 < (t486.length : Int)) = true := decide_eq_true c28
       clear c28
       replace H := yif H
       obtain ⟨c29b0, H⟩ := H
       replace H := yif H
       obtain ⟨c30b0, H⟩ := H
       replace H := yif H
       obtain ⟨c31b0, H⟩ := H
       replace H := yif H
       obtain ⟨c32b0, H⟩ := H
       replace H := yif H
       obtain ⟨c33b0, H⟩ := H
       obtain ⟨y491, hy491⟩ : ∃ y_ : List Int, y_ = (x5_3.set ((rd ((rd_T67 l0_2 x25_2).f1) x35_3) : Int).toNat (rd t486 x35_3)) := ⟨_, rfl⟩
       replace H : (impl_NarrowRules.l1 k3 y491 l0_2 (l0_2.length : Int) x25_2 t486 (t486.length : Int) (wrap64 (x35_3 + 1)) a0_0 l0_1 l0_2 ((rd_T67 l0_2 x25_2).f0) ((rd_T67 l0_2 x25_2).f1) ((rd_T67 l0_2 x25_2).f2)) = some r := by first | (rw [hy491]; with_reducible exact H) | (have H2_ := (Option.bind_some _ _).symm.trans H; rw [hy491]; with_reducible exact H2_) | (have H2_ := (Option.bind_some _ _).symm.trans H; with_reducible exact H2_) | with_reducible exact H | (rw [hy491]; exact H) | exact H
       have Ny491 := yam hy491
       clear hy491
       have H' := yam H
       clear H
       have p489 : 0 ≤ (x35_3 : Int) := ydt
       have q489 : x35_3 < (t486.length : Int) := ydt
       obtain ⟨ad489, e489, hx489_0⟩ := Kd.at_int (Kd.Yr HO_33.out).2.2 x35_3 p489 q489
       cases e489
       replace p489 := eq_true p489
       replace q489 := eq_true q489
       have hnb35 := NB485_478.out
       have hnc35 := NB478_485.out
       obtain ⟨hcz36_0, hcz36_1, hcz36_2, hfz36_0, hfz36_1, hfz36_2⟩ := ybc BK485.out
       have p490 : 0 ≤ (x35_3 : Int) := ydt
       have q490 : x35_3 < (((rd_T67 l0_2 x25_2).f1).length : Int) := ydt
       obtain ⟨ad490, e490, hx490_0⟩ := Kd.at_int HR484_1.out x35_3 p490 q490
       cases e490
       replace hx490_0 := ybx HB.out hx490_0
       replace p490 := eq_true p490
       replace q490 := eq_true q490
       have p34 : 0 ≤ ((rd ((rd_T67 l0_2 x25_2).f1) x35_3) : Int) := ydt
       have q34 : ((rd ((rd_T67 l0_2 x25_2).f1) x35_3) : Int) < ((x5_3.length : Int) : Int) := ydt
       obtain ⟨go34, co34, eo34, gb34, gl34, cl34, HG34⟩ := Kd.R_form HO_5.out (by omega)
       (first | cases eo34 | (injection eo34 with ea_ en_ ec_; (first | subst ea_ | (injection ea_ with ea_; subst ea_)); subst ec_; clear en_))
       have GB34 := yam gb34
       have GG34 := yam HG34
       clear gb34 gl34 HG34
       obtain ⟨hx34_0, hf34_0⟩ := Kd.R_celln 0 HO_5.out ((rd ((rd_T67 l0_2 x25_2).f1) x35_3) : Int) p34 q34
       replace p34 := eq_true p34
       replace q34 := eq_true q34
       have HP37 := Kd.R_putg HO_5.out ((rd ((rd_T67 l0_2 x25_2).f1) x35_3) : Int) (rd t486 x35_3)
       go_wp2_with (first | ((with_reducible refine gate_store (t := 3) (p := 47) rfl ?_); refine store_event (t := 3) (p := 47) (v := ?vo_w38) (w1 := (wr.setCell ⟨go34, ((rd ((rd_T67 l0_2 x25_2).f1) x35_3) : Int).toNat, none⟩ (.int .i64 (rd t486 x35_3)))) ?hg ?ho ?hn ?hr ?_; (case ho => rfl); (case hg => rfl); (case hn => rfl); (case hr => first | (go_simp; done) | (go_simp; rfl)); intro w38 hw; have hg : wr.grownBy w38 (some go34) := (by rw [hw]; exact HP37.2); have hp_ : Kd.R (Kd.int .i64) 3 w38 w.heap.size (fun k_ => some k_ ≠ (.slice (some ad489) t486.length co27 : Value).ownBlock) (.slice (some ⟨go34, 0, none⟩) x5_3.length co25) y491 := (by rw [hw, Ny491.out]; exact HP37.1); clear HP37; have n0_ := yam (hp_); have n1_ := yam (Kd.R_after (v := (.slice (some ⟨go34, 0, none⟩) x5_3.length co25)) (v1 := (.slice (some ⟨go34, 0, none⟩) x5_3.length co25)) (ok := (fun _ => True)) (by (with_reducible repeat (first | apply Kd.Ya | apply Kd.Yn | apply Kd.Yd)); exact Kd.R_mono HO_33.out (fun _ hk => ⟨trivial, hk⟩)) hg (.inl rfl)); have n2_ := yam (blk_grown (g := gb478) (o := .cells #[.int .i64 a0_0, .slice A0_1 l0_1.length c0_1, .slice (some ad484) l0_2.length c0_2] 30 (0, 0)) (ybz BK478.out) hg (Kd.R_ne HO_5.out BK478.out (by decide))); have n3_ := yam (blk_grown (g := gb485) (o := .cells #[.int .i64 ((rd_T67 l0_2 x25_2).f0), .slice (some ad490) ((rd_T67 l0_2 x25_2).f1).length c484_1, .int .i64 ((rd_T67 l0_2 x25_2).f2)] 67 (0, 0)) (ybz BK485.out) hg (Kd.R_ne HO_5.out BK485.out (by decide))); have n4_ := yam ((by rw [hw]; exact below_set (HB.out) GB34.out : Below w.heap.size w w38)); clear HO_5; clear HO_33; clear BK478; clear BK485; clear HB; have HO_5 := n0_; have HO_33 := n1_; have BK478 := n2_; have BK485 := n3_; have HB := n4_; clear n0_ n1_ n2_ n3_ n4_; clear hg hw hp_))
       (try simp only [← hl5_3])
       go_roundg k3
       case measure => have := HJ2.out; have := HK2.out; have := HK3.out; omega
       case rel => exact ⟨(y491), (wrap64 (x35_3 + 1)), yeq, H', ⟨by have := HJ2.out; have := HK2.out; have := HK3.out; omega⟩, ⟨by (try simp only [hl5_3]); (with_reducible repeat (first | apply Kd.Ya | apply Kd.Yn | apply Kd.Yd)); exact HO_5.out⟩, ⟨by (try simp only [hl5_3]); (with_reducible repeat (first | apply Kd.Ya | apply Kd.Yn | apply Kd.Yd)); exact Kd.R_mono HO_33.out (fun _ hk => hk.2)⟩, ⟨by (try simp only [hl5_3]); (with_reducible repeat (first | refine ybn ?_ _ | refine ybd ?_ | refine yba ?_ _)); exact BK478.out⟩, ⟨by (try simp only [hl5_3]); (with_reducible repeat (first | refine ybn ?_ _ | refine ybd ?_ | refine yba ?_ _)); exact BK485.out⟩, ⟨yhb⟩⟩
def impl_NarrowBy.f (k : Nat) (a0_0 : Int) (l0_1 : List Int) (l0_2 : List (S67)) (l1 : List Int) (a2 : Int) : Option (List Int) := (impl_PuzzleValid.f k a0_0 l0_1 l0_2).bind fun t493 => (if t493 = true then (if a2 = 1 then ((impl_NarrowSingles.f k l1 a0_0).bind fun t494 => (some t494)) else (if a2 = 2 then ((impl_NarrowHidden.f k l1 a0_0).bind fun t497 => (some t497)) else (if a2 = 3 then ((impl_NarrowPairs.f k l1 a0_0).bind fun t500 => (some t500)) else (if a2 = 4 then ((impl_NarrowRules.f k a0_0 l0_1 l0_2 l1).bind fun t503 => (some t503)) else (some ([] : List Int)))))) else (some ([] : List Int)))
set_option maxHeartbeats 8000000 in
set_option maxRecDepth 100000 in
theorem impl_NarrowBy.calls (k : Nat) (a0_0 : Int) (A0_1 : Option Addr) (c0_1 : Nat) (l0_1 : List Int) (A0_2 : Option Addr) (c0_2 : Nat) (l0_2 : List (S67)) (A1 : Option Addr) (c1 : Nat) (l1 : List Int) (a2 : Int) (r : List Int) (w : World) (hr0_1 : Kd.C (Kd.int .i64) w A0_1 l0_1.length l0_1) (hc0_1 : l0_1.length ≤ c0_1) (hr0_2 : Kd.C k67 w A0_2 l0_2.length l0_2) (hc0_2 : l0_2.length ≤ c0_2) (hr1 : Kd.C (Kd.int .i64) w A1 l1.length l1) (hc1 : l1.length ≤ c1) (h : impl_NarrowBy.f k a0_0 l0_1 l0_2 l1 a2 = some r) :
  Calls Try.prog 27 #[.agg #[.int .i64 a0_0, .slice A0_1 l0_1.length c0_1, .slice A0_2 l0_2.length c0_2], .slice A1 l1.length c1, .int .i64 a2] w fun e w' => ∃ v0_ : Value, e = .returned (v0_) ∧ Kd.R (Kd.int .i64) 3 w' w.heap.size (fun _ => True) v0_ r ∧ Below w.heap.size w w' := by
 have hu30 := Try.underlying30
 have HR0_1 := yam hr0_1
 have HC0_1 := yam hc0_1
 clear hr0_1 hc0_1
 have HR0_2 := yam hr0_2
 have HC0_2 := yam hc0_2
 clear hr0_2 hc0_2
 have HR1 := yam hr1
 have HC1 := yam hc1
 clear hr1 hc1
 have HB := yam (Below.refl w.heap.size w)
 have H : ((impl_PuzzleValid.f k a0_0 l0_1 l0_2).bind fun t493 => (if t493 = true then (if a2 = 1 then ((impl_NarrowSingles.f k l1 a0_0).bind fun t494 => (some t494)) else (if a2 = 2 then ((impl_NarrowHidden.f k l1 a0_0).bind fun t497 => (some t497)) else (if a2 = 3 then ((impl_NarrowPairs.f k l1 a0_0).bind fun t500 => (some t500)) else (if a2 = 4 then ((impl_NarrowRules.f k a0_0 l0_1 l0_2 l1).bind fun t503 => (some t503)) else (some ([] : List Int)))))) else (some ([] : List Int)))) = some r := h
 clear h
 replace H := Option.bind_eq_some_iff.mp H
 obtain ⟨t493, A40, H⟩ := H
 try dsimp only at H
 have A4 := yam A40
 clear A40
 by_cases c5 : t493 = true
 rotate_left
 ·replace c5 := Bool.eq_false_iff.mpr c5
  subst c5
  have H1 : (some ([] : List Int)) = some r := by rw [if_neg (show ¬ (false = true) by decide)] at H; exact H
  clear H
  have H := H1
  clear H1
  obtain rfl := Option.some.inj H
  go_enter Try.func27, Try.ntmps27
  go_wp2_with (first | ((with_reducible refine gate_dst (N := 3) rfl ?_); refine ybe 3 #[.int .i64 a0_0, .slice A0_1 l0_1.length c0_1, .slice A0_2 l0_2.length c0_2] 30 ?_; intro gb492 hg w37 hbox hb; have n0_ := yam (below_step (yez HB.out) hb); have n1_ := yam (hbox); have n2_ := yam ((by rw [hg]; exact (below_size (yez HB.out)) : w.heap.size ≤ gb492)); have n3_ := n2_; clear HB; have HB := n0_; have BK492 := n1_; have GW492 := n2_; have GE492 := n3_; clear n0_ n1_ n2_ n3_; clear hb hbox hg; obtain ⟨hcz38_0, hcz38_1, hcz38_2, hfz38_0, hfz38_1, hfz38_2⟩ := ybc BK492.out) | ((with_reducible refine gate_callee (f := 36) rfl ?_); refine goesL_ (some 8) rfl rfl Try.func36 (by kernel_rfl) rfl #[.agg #[.int .i64 a0_0, .slice A0_1 l0_1.length c0_1, .slice A0_2 l0_2.length c0_2]] rfl (by (try simp only [List.map_toArray, List.map_cons, List.map_nil]); first | done | rfl | (simp only [List.length_drop, List.length_take]; rfl)) ?_; (with_reducible refine (impl_PuzzleValid.calls k a0_0 _ _ l0_1 _ _ l0_2 false _ ?side1 ?side2 ?side3 ?side4 A4.out).mono ?_); (case side1 => exact Kd.Cz ((Kd.C_below HR0_1.out HB.out))); (case side2 => exact HC0_1.out); (case side3 => exact Kd.Cz ((Kd.C_below HR0_2.out HB.out))); (case side4 => exact HC0_2.out); rintro e w39 ⟨rfl, hb⟩; refine ⟨_, rfl, ?_⟩; have n0_ := yam (blk_below (g := gb492) (o := .cells #[.int .i64 a0_0, .slice A0_1 l0_1.length c0_1, .slice A0_2 l0_2.length c0_2] 30 (0, 0)) (ybz BK492.out) hb); have n1_ := yam (below_step yhb hb); clear BK492; clear HB; have BK492 := n0_; have HB := n1_; clear n0_ n1_; (try clear hb); (try clear hb2); (try clear hk); (try clear hi)))
  go_ret
  exact ⟨_, yer, by first | exact Kd.R_nil _ _ _ _ _ | exact Kd.N_nil _ _ _ _ _ | exact Kd.V_nil _ _ _ _ _ | exact Kd.Q_nil _ _ _ _ _ | exact Kd.S_nil _ _ _ _ _, yhb⟩

 subst c5
 have H1 : (if a2 = 1 then ((impl_NarrowSingles.f k l1 a0_0).bind fun t494 => (some t494)) else (if a2 = 2 then ((impl_NarrowHidden.f k l1 a0_0).bind fun t497 => (some t497)) else (if a2 = 3 then ((impl_NarrowPairs.f k l1 a0_0).bind fun t500 => (some t500)) else (if a2 = 4 then ((impl_NarrowRules.f k a0_0 l0_1 l0_2 l1).bind fun t503 => (some t503)) else (some ([] : List Int)))))) = some r := by rw [if_pos rfl] at H; exact H
 clear H
 have H := H1
 clear H1
 by_cases c6 : a2 = 1
 ·rw [if_pos c6] at H
  have c6b0 : (a2 == 1) = true := beq_iff_eq.mpr c6
  have c6b1 : (a2 != 1) = false := bne_eq_false_iff_eq.mpr c6
  clear c6
  replace H := Option.bind_eq_some_iff.mp H
  obtain ⟨t494, A70, H⟩ := H
  try dsimp only at H
  have A7 := yam A70
  clear A70
  obtain rfl := Option.some.inj H
  go_enter Try.func27, Try.ntmps27
  go_wp2_with (first | ((with_reducible refine gate_dst (N := 3) rfl ?_); refine ybe 3 #[.int .i64 a0_0, .slice A0_1 l0_1.length c0_1, .slice A0_2 l0_2.length c0_2] 30 ?_; intro gb492 hg w8 hbox hb; have n0_ := yam (below_step (yez HB.out) hb); have n1_ := yam (hbox); have n2_ := yam ((by rw [hg]; exact (below_size (yez HB.out)) : w.heap.size ≤ gb492)); have n3_ := n2_; clear HB; have HB := n0_; have BK492 := n1_; have GW492 := n2_; have GE492 := n3_; clear n0_ n1_ n2_ n3_; clear hb hbox hg; obtain ⟨hcz9_0, hcz9_1, hcz9_2, hfz9_0, hfz9_1, hfz9_2⟩ := ybc BK492.out) | ((with_reducible refine gate_callee (f := 36) rfl ?_); refine goesL_ (some 8) rfl rfl Try.func36 (by kernel_rfl) rfl #[.agg #[.int .i64 a0_0, .slice A0_1 l0_1.length c0_1, .slice A0_2 l0_2.length c0_2]] rfl (by (try simp only [List.map_toArray, List.map_cons, List.map_nil]); first | done | rfl | (simp only [List.length_drop, List.length_take]; rfl)) ?_; (with_reducible refine (impl_PuzzleValid.calls k a0_0 _ _ l0_1 _ _ l0_2 true _ ?side1 ?side2 ?side3 ?side4 A4.out).mono ?_); (case side1 => exact Kd.Cz ((Kd.C_below HR0_1.out HB.out))); (case side2 => exact HC0_1.out); (case side3 => exact Kd.Cz ((Kd.C_below HR0_2.out HB.out))); (case side4 => exact HC0_2.out); rintro e w10 ⟨rfl, hb⟩; refine ⟨_, rfl, ?_⟩; have n0_ := yam (blk_below (g := gb492) (o := .cells #[.int .i64 a0_0, .slice A0_1 l0_1.length c0_1, .slice A0_2 l0_2.length c0_2] 30 (0, 0)) (ybz BK492.out) hb); have n1_ := yam (below_step yhb hb); clear BK492; clear HB; have BK492 := n0_; have HB := n1_; clear n0_ n1_; (try clear hb); (try clear hb2); (try clear hk); (try clear hi); obtain ⟨hcz11_0, hcz11_1, hcz11_2, hfz11_0, hfz11_1, hfz11_2⟩ := ybc BK492.out) | ((with_reducible refine gate_callee (f := 58) rfl ?_); refine goesL_ (some 16) rfl rfl Try.func58 (by kernel_rfl) rfl #[.slice A1 l1.length c1, .int .i64 a0_0] rfl (by (try simp only [List.map_toArray, List.map_cons, List.map_nil]); first | done | rfl | (simp only [List.length_drop, List.length_take]; rfl)) ?_; (with_reducible refine (impl_NarrowSingles.calls k _ _ l1 a0_0 t494 _ ?side1 ?side2 A7.out).mono ?_); (case side1 => exact Kd.Cz ((Kd.C_below HR1.out HB.out))); (case side2 => exact HC1.out); rintro e w12 ⟨v495, rfl, ho0, hb⟩; refine ⟨_, rfl, ?_⟩; have n0_ := yam (Kd.R_lower ho0 (below_size yhb)); have n1_ := yam (blk_below (g := gb492) (o := .cells #[.int .i64 a0_0, .slice A0_1 l0_1.length c0_1, .slice A0_2 l0_2.length c0_2] 30 (0, 0)) (ybz BK492.out) hb); have n2_ := yam (below_step yhb hb); clear BK492; clear HB; have HO496 := n0_; have BK492 := n1_; have HB := n2_; clear n0_ n1_ n2_; (try clear hb); (try clear hb2); (try clear hk); (try clear hi); (try clear ho0)))
  go_ret
  exact ⟨_, yer, yka HO496.out, yhb⟩
 rw [if_neg c6] at H
 have c6b0 : (a2 == 1) = false := beq_eq_false_iff_ne.mpr c6
 have c6b1 : (a2 != 1) = true := bne_iff_ne.mpr c6
 by_cases c13 : a2 = 2
 ·rw [if_pos c13] at H
  have c13b0 : (a2 == 2) = true := beq_iff_eq.mpr c13
  have c13b1 : (a2 != 2) = false := bne_eq_false_iff_eq.mpr c13
  clear c13
  replace H := Option.bind_eq_some_iff.mp H
  obtain ⟨t497, A140, H⟩ := H
  try dsimp only at H
  have A14 := yam A140
  clear A140
  obtain rfl := Option.some.inj H
  go_enter Try.func27, Try.ntmps27
  go_wp2_with (first | ((with_reducible refine gate_dst (N := 3) rfl ?_); refine ybe 3 #[.int .i64 a0_0, .slice A0_1 l0_1.length c0_1, .slice A0_2 l0_2.length c0_2] 30 ?_; intro gb492 hg w15 hbox hb; have n0_ := yam (below_step (yez HB.out) hb); have n1_ := yam (hbox); have n2_ := yam ((by rw [hg]; exact (below_size (yez HB.out)) : w.heap.size ≤ gb492)); have n3_ := n2_; clear HB; have HB := n0_; have BK492 := n1_; have GW492 := n2_; have GE492 := n3_; clear n0_ n1_ n2_ n3_; clear hb hbox hg; obtain ⟨hcz16_0, hcz16_1, hcz16_2, hfz16_0, hfz16_1, hfz16_2⟩ := ybc BK492.out) | ((with_reducible refine gate_callee (f := 36) rfl ?_); refine goesL_ (some 8) rfl rfl Try.func36 (by kernel_rfl) rfl #[.agg #[.int .i64 a0_0, .slice A0_1 l0_1.length c0_1, .slice A0_2 l0_2.length c0_2]] rfl (by (try simp only [List.map_toArray, List.map_cons, List.map_nil]); first | done | rfl | (simp only [List.length_drop, List.length_take]; rfl)) ?_; (with_reducible refine (impl_PuzzleValid.calls k a0_0 _ _ l0_1 _ _ l0_2 true _ ?side1 ?side2 ?side3 ?side4 A4.out).mono ?_); (case side1 => exact Kd.Cz ((Kd.C_below HR0_1.out HB.out))); (case side2 => exact HC0_1.out); (case side3 => exact Kd.Cz ((Kd.C_below HR0_2.out HB.out))); (case side4 => exact HC0_2.out); rintro e w17 ⟨rfl, hb⟩; refine ⟨_, rfl, ?_⟩; have n0_ := yam (blk_below (g := gb492) (o := .cells #[.int .i64 a0_0, .slice A0_1 l0_1.length c0_1, .slice A0_2 l0_2.length c0_2] 30 (0, 0)) (ybz BK492.out) hb); have n1_ := yam (below_step yhb hb); clear BK492; clear HB; have BK492 := n0_; have HB := n1_; clear n0_ n1_; (try clear hb); (try clear hb2); (try clear hk); (try clear hi); obtain ⟨hcz18_0, hcz18_1, hcz18_2, hfz18_0, hfz18_1, hfz18_2⟩ := ybc BK492.out) | ((with_reducible refine gate_callee (f := 59) rfl ?_); refine goesL_ (some 22) rfl rfl Try.func59 (by kernel_rfl) rfl #[.slice A1 l1.length c1, .int .i64 a0_0] rfl (by (try simp only [List.map_toArray, List.map_cons, List.map_nil]); first | done | rfl | (simp only [List.length_drop, List.length_take]; rfl)) ?_; (with_reducible refine (impl_NarrowHidden.calls k _ _ l1 a0_0 t497 _ ?side1 ?side2 A14.out).mono ?_); (case side1 => exact Kd.Cz ((Kd.C_below HR1.out HB.out))); (case side2 => exact HC1.out); rintro e w19 ⟨v498, rfl, ho0, hb⟩; refine ⟨_, rfl, ?_⟩; have n0_ := yam (Kd.R_lower ho0 (below_size yhb)); have n1_ := yam (blk_below (g := gb492) (o := .cells #[.int .i64 a0_0, .slice A0_1 l0_1.length c0_1, .slice A0_2 l0_2.length c0_2] 30 (0, 0)) (ybz BK492.out) hb); have n2_ := yam (below_step yhb hb); clear BK492; clear HB; have HO499 := n0_; have BK492 := n1_; have HB := n2_; clear n0_ n1_ n2_; (try clear hb); (try clear hb2); (try clear hk); (try clear hi); (try clear ho0)))
  go_ret
  exact ⟨_, yer, yka HO499.out, yhb⟩
 rw [if_neg c13] at H
 have c13b0 : (a2 == 2) = false := beq_eq_false_iff_ne.mpr c13
 have c13b1 : (a2 != 2) = true := bne_iff_ne.mpr c13
 by_cases c20 : a2 = 3
 ·rw [if_pos c20] at H
  have c20b0 : (a2 == 3) = true := beq_iff_eq.mpr c20
  have c20b1 : (a2 != 3) = false := bne_eq_false_iff_eq.mpr c20
  clear c20
  replace H := Option.bind_eq_some_iff.mp H
  obtain ⟨t500, A210, H⟩ := H
  try dsimp only at H
  have A21 := yam A210
  clear A210
  obtain rfl := Option.some.inj H
  go_enter Try.func27, Try.ntmps27
  go_wp2_with (first | ((with_reducible refine gate_dst (N := 3) rfl ?_); refine ybe 3 #[.int .i64 a0_0, .slice A0_1 l0_1.length c0_1, .slice A0_2 l0_2.length c0_2] 30 ?_; intro gb492 hg w22 hbox hb; have n0_ := yam (below_step (yez HB.out) hb); have n1_ := yam (hbox); have n2_ := yam ((by rw [hg]; exact (below_size (yez HB.out)) : w.heap.size ≤ gb492)); have n3_ := n2_; clear HB; have HB := n0_; have BK492 := n1_; have GW492 := n2_; have GE492 := n3_; clear n0_ n1_ n2_ n3_; clear hb hbox hg; obtain ⟨hcz23_0, hcz23_1, hcz23_2, hfz23_0, hfz23_1, hfz23_2⟩ := ybc BK492.out) | ((with_reducible refine gate_callee (f := 36) rfl ?_); refine goesL_ (some 8) rfl rfl Try.func36 (by kernel_rfl) rfl #[.agg #[.int .i64 a0_0, .slice A0_1 l0_1.length c0_1, .slice A0_2 l0_2.length c0_2]] rfl (by (try simp only [List.map_toArray, List.map_cons, List.map_nil]); first | done | rfl | (simp only [List.length_drop, List.length_take]; rfl)) ?_; (with_reducible refine (impl_PuzzleValid.calls k a0_0 _ _ l0_1 _ _ l0_2 true _ ?side1 ?side2 ?side3 ?side4 A4.out).mono ?_); (case side1 => exact Kd.Cz ((Kd.C_below HR0_1.out HB.out))); (case side2 => exact HC0_1.out); (case side3 => exact Kd.Cz ((Kd.C_below HR0_2.out HB.out))); (case side4 => exact HC0_2.out); rintro e w24 ⟨rfl, hb⟩; refine ⟨_, rfl, ?_⟩; have n0_ := yam (blk_below (g := gb492) (o := .cells #[.int .i64 a0_0, .slice A0_1 l0_1.length c0_1, .slice A0_2 l0_2.length c0_2] 30 (0, 0)) (ybz BK492.out) hb); have n1_ := yam (below_step yhb hb); clear BK492; clear HB; have BK492 := n0_; have HB := n1_; clear n0_ n1_; (try clear hb); (try clear hb2); (try clear hk); (try clear hi); obtain ⟨hcz25_0, hcz25_1, hcz25_2, hfz25_0, hfz25_1, hfz25_2⟩ := ybc BK492.out) | ((with_reducible refine gate_callee (f := 60) rfl ?_); refine goesL_ (some 28) rfl rfl Try.func60 (by kernel_rfl) rfl #[.slice A1 l1.length c1, .int .i64 a0_0] rfl (by (try simp only [List.map_toArray, List.map_cons, List.map_nil]); first | done | rfl | (simp only [List.length_drop, List.length_take]; rfl)) ?_; (with_reducible refine (impl_NarrowPairs.calls k _ _ l1 a0_0 t500 _ ?side1 ?side2 A21.out).mono ?_); (case side1 => exact Kd.Cz ((Kd.C_below HR1.out HB.out))); (case side2 => exact HC1.out); rintro e w26 ⟨v501, rfl, ho0, hb⟩; refine ⟨_, rfl, ?_⟩; have n0_ := yam (Kd.R_lower ho0 (below_size yhb)); have n1_ := yam (blk_below (g := gb492) (o := .cells #[.int .i64 a0_0, .slice A0_1 l0_1.length c0_1, .slice A0_2 l0_2.length c0_2] 30 (0, 0)) (ybz BK492.out) hb); have n2_ := yam (below_step yhb hb); clear BK492; clear HB; have HO502 := n0_; have BK492 := n1_; have HB := n2_; clear n0_ n1_ n2_; (try clear hb); (try clear hb2); (try clear hk); (try clear hi); (try clear ho0)))
  go_ret
  exact ⟨_, yer, yka HO502.out, yhb⟩
 rw [if_neg c20] at H
 have c20b0 : (a2 == 3) = false := beq_eq_false_iff_ne.mpr c20
 have c20b1 : (a2 != 3) = true := bne_iff_ne.mpr c20
 by_cases c27 : a2 = 4
 rotate_left
 ·rw [if_neg c27] at H
  have c27b0 : (a2 == 4) = false := beq_eq_false_iff_ne.mpr c27
  have c27b1 : (a2 != 4) = true := bne_iff_ne.mpr c27
  obtain rfl := Option.some.inj H
  go_enter Try.func27, Try.ntmps27
  go_wp2_with (first | ((with_reducible refine gate_dst (N := 3) rfl ?_); refine ybe 3 #[.int .i64 a0_0, .slice A0_1 l0_1.length c0_1, .slice A0_2 l0_2.length c0_2] 30 ?_; intro gb492 hg w34 hbox hb; have n0_ := yam (below_step (yez HB.out) hb); have n1_ := yam (hbox); have n2_ := yam ((by rw [hg]; exact (below_size (yez HB.out)) : w.heap.size ≤ gb492)); have n3_ := n2_; clear HB; have HB := n0_; have BK492 := n1_; have GW492 := n2_; have GE492 := n3_; clear n0_ n1_ n2_ n3_; clear hb hbox hg; obtain ⟨hcz35_0, hcz35_1, hcz35_2, hfz35_0, hfz35_1, hfz35_2⟩ := ybc BK492.out) | ((with_reducible refine gate_callee (f := 36) rfl ?_); refine goesL_ (some 8) rfl rfl Try.func36 (by kernel_rfl) rfl #[.agg #[.int .i64 a0_0, .slice A0_1 l0_1.length c0_1, .slice A0_2 l0_2.length c0_2]] rfl (by (try simp only [List.map_toArray, List.map_cons, List.map_nil]); first | done | rfl | (simp only [List.length_drop, List.length_take]; rfl)) ?_; (with_reducible refine (impl_PuzzleValid.calls k a0_0 _ _ l0_1 _ _ l0_2 true _ ?side1 ?side2 ?side3 ?side4 A4.out).mono ?_); (case side1 => exact Kd.Cz ((Kd.C_below HR0_1.out HB.out))); (case side2 => exact HC0_1.out); (case side3 => exact Kd.Cz ((Kd.C_below HR0_2.out HB.out))); (case side4 => exact HC0_2.out); rintro e w36 ⟨rfl, hb⟩; refine ⟨_, rfl, ?_⟩; have n0_ := yam (blk_below (g := gb492) (o := .cells #[.int .i64 a0_0, .slice A0_1 l0_1.length c0_1, .slice A0_2 l0_2.length c0_2] 30 (0, 0)) (ybz BK492.out) hb); have n1_ := yam (below_step yhb hb); clear BK492; clear HB; have BK492 := n0_; have HB := n1_; clear n0_ n1_; (try clear hb); (try clear hb2); (try clear hk); (try clear hi)))
  go_ret
  exact ⟨_, yer, by first | exact Kd.R_nil _ _ _ _ _ | exact Kd.N_nil _ _ _ _ _ | exact Kd.V_nil _ _ _ _ _ | exact Kd.Q_nil _ _ _ _ _ | exact Kd.S_nil _ _ _ _ _, yhb⟩
 rw [if_pos c27] at H
 have c27b0 : (a2 == 4) = true := beq_iff_eq.mpr c27
 have c27b1 : (a2 != 4) = false := bne_eq_false_iff_eq.mpr c27
 clear c27
 replace H := Option.bind_eq_some_iff.mp H
 obtain ⟨t503, A280, H⟩ := H
 try dsimp only at H
 have A28 := yam A280
 clear A280
 obtain rfl := Option.some.inj H
 go_enter Try.func27, Try.ntmps27
 go_wp2_with (first | ((with_reducible refine gate_dst (N := 3) rfl ?_); refine ybe 3 #[.int .i64 a0_0, .slice A0_1 l0_1.length c0_1, .slice A0_2 l0_2.length c0_2] 30 ?_; intro gb492 hg w29 hbox hb; have n0_ := yam (below_step (yez HB.out) hb); have n1_ := yam (hbox); have n2_ := yam ((by rw [hg]; exact (below_size (yez HB.out)) : w.heap.size ≤ gb492)); have n3_ := n2_; clear HB; have HB := n0_; have BK492 := n1_; have GW492 := n2_; have GE492 := n3_; clear n0_ n1_ n2_ n3_; clear hb hbox hg; obtain ⟨hcz30_0, hcz30_1, hcz30_2, hfz30_0, hfz30_1, hfz30_2⟩ := ybc BK492.out) | ((with_reducible refine gate_callee (f := 36) rfl ?_); refine goesL_ (some 8) rfl rfl Try.func36 (by kernel_rfl) rfl #[.agg #[.int .i64 a0_0, .slice A0_1 l0_1.length c0_1, .slice A0_2 l0_2.length c0_2]] rfl (by (try simp only [List.map_toArray, List.map_cons, List.map_nil]); first | done | rfl | (simp only [List.length_drop, List.length_take]; rfl)) ?_; (with_reducible refine (impl_PuzzleValid.calls k a0_0 _ _ l0_1 _ _ l0_2 true _ ?side1 ?side2 ?side3 ?side4 A4.out).mono ?_); (case side1 => exact Kd.Cz ((Kd.C_below HR0_1.out HB.out))); (case side2 => exact HC0_1.out); (case side3 => exact Kd.Cz ((Kd.C_below HR0_2.out HB.out))); (case side4 => exact HC0_2.out); rintro e w31 ⟨rfl, hb⟩; refine ⟨_, rfl, ?_⟩; have n0_ := yam (blk_below (g := gb492) (o := .cells #[.int .i64 a0_0, .slice A0_1 l0_1.length c0_1, .slice A0_2 l0_2.length c0_2] 30 (0, 0)) (ybz BK492.out) hb); have n1_ := yam (below_step yhb hb); clear BK492; clear HB; have BK492 := n0_; have HB := n1_; clear n0_ n1_; (try clear hb); (try clear hb2); (try clear hk); (try clear hi); obtain ⟨hcz32_0, hcz32_1, hcz32_2, hfz32_0, hfz32_1, hfz32_2⟩ := ybc BK492.out) | ((with_reducible refine gate_callee (f := 61) rfl ?_); refine goesL_ (some 33) rfl rfl Try.func61 (by kernel_rfl) rfl #[.agg #[.int .i64 a0_0, .slice A0_1 l0_1.length c0_1, .slice A0_2 l0_2.length c0_2], .slice A1 l1.length c1] rfl (by (try simp only [List.map_toArray, List.map_cons, List.map_nil]); first | done | rfl | (simp only [List.length_drop, List.length_take]; rfl)) ?_; (with_reducible refine (impl_NarrowRules.calls k a0_0 _ _ l0_1 _ _ l0_2 _ _ l1 t503 _ ?side1 ?side2 ?side3 ?side4 ?side5 ?side6 A28.out).mono ?_); (case side1 => exact Kd.Cz ((Kd.C_below HR0_1.out HB.out))); (case side2 => exact HC0_1.out); (case side3 => exact Kd.Cz ((Kd.C_below HR0_2.out HB.out))); (case side4 => exact HC0_2.out); (case side5 => exact Kd.Cz ((Kd.C_below HR1.out HB.out))); (case side6 => exact HC1.out); rintro e w33 ⟨v504, rfl, ho0, hb⟩; refine ⟨_, rfl, ?_⟩; have n0_ := yam (Kd.R_lower ho0 (below_size yhb)); have n1_ := yam (blk_below (g := gb492) (o := .cells #[.int .i64 a0_0, .slice A0_1 l0_1.length c0_1, .slice A0_2 l0_2.length c0_2] 30 (0, 0)) (ybz BK492.out) hb); have n2_ := yam (below_step yhb hb); clear BK492; clear HB; have HO505 := n0_; have BK492 := n1_; have HB := n2_; clear n0_ n1_ n2_; (try clear hb); (try clear hb2); (try clear hk); (try clear hi); (try clear ho0)))
 go_ret
 exact ⟨_, yer, yka HO505.out, yhb⟩
def slices_Equal_int_int.l0 : Nat → List Int → List Int → Int → Int → Option (Bool)
 | 0, _, _, _, _ => none
 | k + 1, x0, x1, x12, x13 => if x13 < x12 then (if 0 ≤ x13 then (if x13 < (x0.length : Int) then (if x13 < (x1.length : Int) then (if (rd x0 x13) = (rd x1 x13) then (slices_Equal_int_int.l0 k x0 x1 x12 (wrap64 (x13 + 1))) else (some false)) else (none)) else (none)) else (none)) else (some true)
def slices_Equal_int_int.f (k : Nat) (l0 : List Int) (l1 : List Int) : Option (Bool) := if (l0.length : Int) = (l1.length : Int) then (slices_Equal_int_int.l0 k l0 l1 (l0.length : Int) 0) else (some false)
set_option maxHeartbeats 8000000 in
set_option maxRecDepth 100000 in
theorem slices_Equal_int_int.calls (k : Nat) (A0 : Option Addr) (c0 : Nat) (l0 : List Int) (A1 : Option Addr) (c1 : Nat) (l1 : List Int) (r : Bool) (w : World) (hr0 : Kd.C (Kd.int .i64) w A0 l0.length l0) (hc0 : l0.length ≤ c0) (hr1 : Kd.C (Kd.int .i64) w A1 l1.length l1) (hc1 : l1.length ≤ c1) (h : slices_Equal_int_int.f k l0 l1 = some r) :
  Calls Try.prog 74 #[.slice A0 l0.length c0, .slice A1 l1.length c1] w fun e w' => e = .returned (.bool r) ∧ Drawn0 w w' := by
 have HR0 := yam hr0
 have HC0 := yam hc0
 clear hr0 hc0
 have HR1 := yam hr1
 have HC1 := yam hc1
 clear hr1 hc1
 have H : (if (l0.length : Int) = (l1.length : Int) then (slices_Equal_int_int.l0 k l0 l1 (l0.length : Int) 0) else (some false)) = some r := h
 clear h
 by_cases c3 : (l0.length : Int) = (l1.length : Int)
 rotate_left
 ·rw [if_neg c3] at H
  have c3b0 : ((l0.length : Int) == (l1.length : Int)) = false := beq_eq_false_iff_ne.mpr c3
  have c3b1 : ((l0.length : Int) != (l1.length : Int)) = true := bne_iff_ne.mpr c3
  have c3b2 : (l0.length == l1.length) = false := by first | simpa using c3 | (simp at c3 ⊢; omega)
  obtain rfl := Option.some.inj H
  go_enter Try.func74, Try.ntmps74
  go_wp2
  repeat (go_quiet (fail); try go_wp2)
  go_ret
  exact ⟨yeq, by repeat (first | exact Drawn0.refl _ | apply Drawn0.step)⟩

 rw [if_pos c3] at H
 have c3b0 : ((l0.length : Int) == (l1.length : Int)) = true := beq_iff_eq.mpr c3
 have c3b1 : ((l0.length : Int) != (l1.length : Int)) = false := bne_eq_false_iff_eq.mpr c3
 have c3b2 : (l0.length == l1.length) = true := by first | simpa using c3 | (simp at c3 ⊢; omega)
 clear c3
 have H' := yam H
 clear H
 go_enter Try.func74, Try.ntmps74
 go_wp2
 repeat (go_quiet (fail); try go_wp2)
 go_loopg [13] k (fun kq v13 w' => ∃ (x13_1 : Int), v13 = .int .i64 x13_1 ∧ Aside0 (slices_Equal_int_int.l0 kq l0 l1 (l0.length : Int) x13_1 = some r) ∧ Aside0 (kq ≤ k) ∧ Drawn0 w w')
 case atStart => exact ⟨(0), yeq, H', ⟨Nat.le_refl _⟩, by repeat (first | exact Drawn0.refl _ | apply Drawn0.step)⟩
 case round =>
  clear H'
  try clear c1
  try clear p2
  try clear c3
  try clear c3b0
  try clear c3b1
  try clear c3b2
  obtain ⟨x13_1, rfl, HA, HK1, ⟨m1, rfl⟩⟩ := hrel
  cases gk with
  | zero => exact absurd HA.out (by simp [slices_Equal_int_int.l0])
  | succ k1 =>
   have H := HA.out
   clear HA
   simp only [slices_Equal_int_int.l0] at H
   by_cases c4 : x13_1 < (l0.length : Int)
   rotate_left
   ·rw [if_neg c4] at H
    have c4b0 : decide (x13_1 < (l0.length : Int)) = false := decide_eq_false c4
    clear c4
    obtain rfl := Option.some.inj H
    go_wp2
    repeat (go_quiet (fail); try go_wp2)
    go_ret
    exact ⟨yeq, by repeat (first | exact Drawn0.refl _ | apply Drawn0.step)⟩
   rw [if_pos c4] at H
   have c4b0 : decide (x13_1 < (l0.length : Int)) = true := decide_eq_true c4
   clear c4
   replace H := yif H
   obtain ⟨c5b0, H⟩ := H
   replace H := yif H
   obtain ⟨c6b0, H⟩ := H
   replace H := yif H
   obtain ⟨c7b0, H⟩ := H
   by_cases c8 : (rd l0 x13_1) = (rd l1 x13_1)
   rotate_left
   ·rw [if_neg c8] at H
    have c8b0 : ((rd l0 x13_1) == (rd l1 x13_1)) = false := beq_eq_false_iff_ne.mpr c8
    have c8b1 : ((rd l0 x13_1) != (rd l1 x13_1)) = true := bne_iff_ne.mpr c8
    obtain rfl := Option.some.inj H
    have p506 : 0 ≤ (x13_1 : Int) := ydt
    have q506 : x13_1 < (l0.length : Int) := ydt
    obtain ⟨ad506, e506, hx506_0⟩ := Kd.at_int HR0.out x13_1 p506 q506
    cases e506
    replace p506 := eq_true p506
    replace q506 := eq_true q506
    have p507 : 0 ≤ (x13_1 : Int) := ydt
    have q507 : x13_1 < (l1.length : Int) := ydt
    obtain ⟨ad507, e507, hx507_0⟩ := Kd.at_int HR1.out x13_1 p507 q507
    cases e507
    replace p507 := eq_true p507
    replace q507 := eq_true q507
    go_wp2
    repeat (go_quiet (fail); try go_wp2)
    go_ret
    exact ⟨yeq, by repeat (first | exact Drawn0.refl _ | apply Drawn0.step)⟩
   rw [if_pos c8] at H
   have c8b0 : ((rd l0 x13_1) == (rd l1 x13_1)) = true := beq_iff_eq.mpr c8
   have c8b1 : ((rd l0 x13_1) != (rd l1 x13_1)) = false := bne_eq_false_iff_eq.mpr c8
   clear c8
   have H' := yam H
   clear H
   have p506 : 0 ≤ (x13_1 : Int) := ydt
   have q506 : x13_1 < (l0.length : Int) := ydt
   obtain ⟨ad506, e506, hx506_0⟩ := Kd.at_int HR0.out x13_1 p506 q506
   cases e506
   replace p506 := eq_true p506
   replace q506 := eq_true q506
   have p507 : 0 ≤ (x13_1 : Int) := ydt
   have q507 : x13_1 < (l1.length : Int) := ydt
   obtain ⟨ad507, e507, hx507_0⟩ := Kd.at_int HR1.out x13_1 p507 q507
   cases e507
   replace p507 := eq_true p507
   replace q507 := eq_true q507
   go_wp2
   repeat (go_quiet (fail); try go_wp2)
   go_roundg k1
   case measure => have := HK1.out; omega
   case rel => exact ⟨(wrap64 (x13_1 + 1)), yeq, H', ⟨by have := HK1.out; omega⟩, by repeat (first | exact Drawn0.refl _ | apply Drawn0.step)⟩
def impl_nextRound.l0 : Nat → List Int → Int → Int → Int → List Int → List (S67) → Option (List Int × Int)
 | 0, _, _, _, _, _, _ => none
 | k + 1, x1, x2, x8, x509000, x509001, x509002 => if x8 ≤ x2 then ((impl_NarrowBy.f k x509000 x509001 x509002 x1 x8).bind fun t509 => ((slices_Equal_int_int.f k t509 x1).bind fun t512 => (if t512 = true then (impl_nextRound.l0 k x1 x2 (wrap64 (x8 + 1)) x509000 x509001 x509002) else (some (t509, x8))))) else (some (([] : List Int), 0))
def impl_nextRound.f (k : Nat) (a0_0 : Int) (l0_1 : List Int) (l0_2 : List (S67)) (l1 : List Int) (a2 : Int) : Option (List Int × Int) := impl_nextRound.l0 k l1 a2 1 a0_0 l0_1 l0_2
set_option maxHeartbeats 8000000 in
set_option maxRecDepth 100000 in
theorem impl_nextRound.calls (k : Nat) (a0_0 : Int) (A0_1 : Option Addr) (c0_1 : Nat) (l0_1 : List Int) (A0_2 : Option Addr) (c0_2 : Nat) (l0_2 : List (S67)) (A1 : Option Addr) (c1 : Nat) (l1 : List Int) (a2 : Int) (r1 : List Int) (r2 : Int) (w : World) (hr0_1 : Kd.C (Kd.int .i64) w A0_1 l0_1.length l0_1) (hc0_1 : l0_1.length ≤ c0_1) (hr0_2 : Kd.C k67 w A0_2 l0_2.length l0_2) (hc0_2 : l0_2.length ≤ c0_2) (hr1 : Kd.C (Kd.int .i64) w A1 l1.length l1) (hc1 : l1.length ≤ c1) (h : impl_nextRound.f k a0_0 l0_1 l0_2 l1 a2 = some (r1, r2)) :
  Calls Try.prog 44 #[.agg #[.int .i64 a0_0, .slice A0_1 l0_1.length c0_1, .slice A0_2 l0_2.length c0_2], .slice A1 l1.length c1, .int .i64 a2] w fun e w' => ∃ v0_ : Value, e = .returned (.tuple #[v0_, .int .i64 r2]) ∧ Kd.R (Kd.int .i64) 3 w' w.heap.size (fun _ => True) v0_ r1 ∧ Below w.heap.size w w' := by
 have hu30 := Try.underlying30
 have HR0_1 := yam hr0_1
 have HC0_1 := yam hc0_1
 clear hr0_1 hc0_1
 have HR0_2 := yam hr0_2
 have HC0_2 := yam hc0_2
 clear hr0_2 hc0_2
 have HR1 := yam hr1
 have HC1 := yam hc1
 clear hr1 hc1
 have HB := yam (Below.refl w.heap.size w)
 have H : (impl_nextRound.l0 k l1 a2 1 a0_0 l0_1 l0_2) = some (r1, r2) := h
 clear h
 have H' := yam H
 clear H
 go_enter Try.func44, Try.ntmps44
 go_wp2_with (first | ((with_reducible refine gate_dst (N := 3) rfl ?_); refine ybe 3 #[.int .i64 a0_0, .slice A0_1 l0_1.length c0_1, .slice A0_2 l0_2.length c0_2] 30 ?_; intro gb508 hg w4 hbox hb; have n0_ := yam (below_step (yez HB.out) hb); have n1_ := yam (hbox); have n2_ := yam ((by rw [hg]; exact (below_size (yez HB.out)) : w.heap.size ≤ gb508)); have n3_ := n2_; clear HB; have HB := n0_; have BK508 := n1_; have GW508 := n2_; have GE508 := n3_; clear n0_ n1_ n2_ n3_; clear hb hbox hg))
 go_loopg [8] k (fun kq v8 w' => ∃ (x8_1 : Int), v8 = .int .i64 x8_1 ∧ Aside0 (impl_nextRound.l0 kq l1 a2 x8_1 a0_0 l0_1 l0_2 = some (r1, r2)) ∧ Aside0 (kq ≤ k) ∧ Aside0 (w'.heap[gb508]? = some (.cells #[.int .i64 a0_0, (.slice A0_1 l0_1.length c0_1), (.slice A0_2 l0_2.length c0_2)] 30 (0, 0))) ∧ Aside0 (Below w.heap.size w w'))
 case atStart => exact ⟨(1), yeq, H', ⟨Nat.le_refl _⟩, ⟨by (with_reducible repeat (first | refine ybn ?_ _ | refine ybd ?_ | refine yba ?_ _)); exact BK508.out⟩, ⟨yhb⟩⟩
 case round =>
  clear H'
  try clear c1
  try clear p2
  try clear c4
  obtain ⟨x8_1, rfl, HA, HK1, BK508, HB⟩ := hrel
  cases gk with
  | zero => exact absurd HA.out (by simp [impl_nextRound.l0])
  | succ k1 =>
   have H := HA.out
   clear HA
   simp only [impl_nextRound.l0] at H
   by_cases c5 : x8_1 ≤ a2
   rotate_left
   ·rw [if_neg c5] at H
    have c5b0 : decide (x8_1 ≤ a2) = false := decide_eq_false c5
    clear c5
    simp only [Option.some.injEq, Prod.mk.injEq] at H
    obtain ⟨rfl, rfl⟩ := H
    go_wp2
    go_ret2
    exact ⟨_, yer, by first | exact Kd.R_nil _ _ _ _ _ | exact Kd.N_nil _ _ _ _ _ | exact Kd.V_nil _ _ _ _ _ | exact Kd.Q_nil _ _ _ _ _ | exact Kd.S_nil _ _ _ _ _, yhb⟩

   rw [if_pos c5] at H
   have c5b0 : decide (x8_1 ≤ a2) = true := decide_eq_true c5
   clear c5
   replace H := Option.bind_eq_some_iff.mp H
   obtain ⟨t509, A60, H⟩ := H
   replace H : ((slices_Equal_int_int.f k1 t509 l1).bind fun t512 => (if t512 = true then (impl_nextRound.l0 k1 l1 a2 (wrap64 (x8_1 + 1)) a0_0 l0_1 l0_2) else (some (t509, x8_1)))) = some (r1, r2) := H
   have A6 := yam A60
   clear A60
   replace H := Option.bind_eq_some_iff.mp H
   obtain ⟨t512, A70, H⟩ := H
   replace H : (if t512 = true then (impl_nextRound.l0 k1 l1 a2 (wrap64 (x8_1 + 1)) a0_0 l0_1 l0_2) else (some (t509, x8_1))) = some (r1, r2) := H
   have A7 := yam A70
   clear A70
   by_cases c8 : t512 = true
   ·subst c8
    have H1 : (impl_nextRound.l0 k1 l1 a2 (wrap64 (x8_1 + 1)) a0_0 l0_1 l0_2) = some (r1, r2) := by rw [if_pos rfl] at H; exact H
    clear H
    have H := H1
    clear H1
    have H' := yam H
    clear H
    obtain ⟨hcz9_0, hcz9_1, hcz9_2, hfz9_0, hfz9_1, hfz9_2⟩ := ybc BK508.out
    go_wp2_with (first | ((with_reducible refine gate_callee (f := 27) rfl ?_); refine goesL_ (some 18) rfl rfl Try.func27 (by kernel_rfl) rfl #[.agg #[.int .i64 a0_0, .slice A0_1 l0_1.length c0_1, .slice A0_2 l0_2.length c0_2], .slice A1 l1.length c1, .int .i64 x8_1] rfl (by (try simp only [List.map_toArray, List.map_cons, List.map_nil]); first | done | rfl | (simp only [List.length_drop, List.length_take]; rfl)) ?_; (with_reducible refine (impl_NarrowBy.calls k1 a0_0 _ _ l0_1 _ _ l0_2 _ _ l1 x8_1 t509 _ ?side1 ?side2 ?side3 ?side4 ?side5 ?side6 A6.out).mono ?_); (case side1 => exact Kd.Cz ((Kd.C_below HR0_1.out HB.out))); (case side2 => exact HC0_1.out); (case side3 => exact Kd.Cz ((Kd.C_below HR0_2.out HB.out))); (case side4 => exact HC0_2.out); (case side5 => exact Kd.Cz ((Kd.C_below HR1.out HB.out))); (case side6 => exact HC1.out); rintro e w10 ⟨v510, rfl, ho0, hb⟩; refine ⟨_, rfl, ?_⟩; have n0_ := yam (Kd.R_lower ho0 (below_size yhb)); have n1_ := yam (blk_below (g := gb508) (o := .cells #[.int .i64 a0_0, .slice A0_1 l0_1.length c0_1, .slice A0_2 l0_2.length c0_2] 30 (0, 0)) (ybz BK508.out) hb); have n2_ := yam (below_step yhb hb); clear BK508; clear HB; have HO511 := n0_; have BK508 := n1_; have HB := n2_; clear n0_ n1_ n2_; (try clear hb); (try clear hb2); (try clear hk); (try clear hi); (try clear ho0); obtain ⟨Ao11, co11, eo11⟩ := Kd.R_slice HO511.out; subst eo11) | ((with_reducible refine gate_callee (f := 74) rfl ?_); refine goesL_ (some 21) rfl rfl Try.func74 (by kernel_rfl) rfl #[.slice Ao11 t509.length co11, .slice A1 l1.length c1] rfl (by (try simp only [List.map_toArray, List.map_cons, List.map_nil]); first | done | rfl | (simp only [List.length_drop, List.length_take]; rfl)) ?_; (with_reducible refine (slices_Equal_int_int.calls k1 _ _ t509 _ _ l1 true _ ?side1 ?side2 ?side3 ?side4 A7.out).mono ?_); (case side1 => repeat (first | exact (Kd.Yr HO511.out).2.2 | (with_reducible refine Kd.C_alloc ?_ _) | (with_reducible refine Kd.C_drewN ?_ _) | (with_reducible refine Kd.C_drew ?_))); (case side2 => exact (Kd.Yr HO511.out).2.1); (case side3 => exact Kd.Cz ((Kd.C_below HR1.out HB.out))); (case side4 => exact HC1.out); rintro e w' ⟨rfl, ⟨nd, rfl⟩⟩; refine ⟨_, rfl, ?_⟩))
    go_roundg k1
    case measure => have := HK1.out; omega
    case rel => exact ⟨(wrap64 (x8_1 + 1)), yeq, H', ⟨by have := HK1.out; omega⟩, ⟨by (with_reducible repeat (first | refine ybn ?_ _ | refine ybd ?_ | refine yba ?_ _)); exact BK508.out⟩, ⟨yhb⟩⟩
   replace c8 := Bool.eq_false_iff.mpr c8
   subst c8
   have H1 : (some (t509, x8_1)) = some (r1, r2) := by rw [if_neg (show ¬ (false = true) by decide)] at H; exact H
   clear H
   have H := H1
   clear H1
   simp only [Option.some.injEq, Prod.mk.injEq] at H
   obtain ⟨rfl, rfl⟩ := H
   obtain ⟨hcz12_0, hcz12_1, hcz12_2, hfz12_0, hfz12_1, hfz12_2⟩ := ybc BK508.out
   go_wp2_with (first | ((with_reducible refine gate_callee (f := 27) rfl ?_); refine goesL_ (some 18) rfl rfl Try.func27 (by kernel_rfl) rfl #[.agg #[.int .i64 a0_0, .slice A0_1 l0_1.length c0_1, .slice A0_2 l0_2.length c0_2], .slice A1 l1.length c1, .int .i64 x8_1] rfl (by (try simp only [List.map_toArray, List.map_cons, List.map_nil]); first | done | rfl | (simp only [List.length_drop, List.length_take]; rfl)) ?_; (with_reducible refine (impl_NarrowBy.calls k1 a0_0 _ _ l0_1 _ _ l0_2 _ _ l1 x8_1 t509 _ ?side1 ?side2 ?side3 ?side4 ?side5 ?side6 A6.out).mono ?_); (case side1 => exact Kd.Cz ((Kd.C_below HR0_1.out HB.out))); (case side2 => exact HC0_1.out); (case side3 => exact Kd.Cz ((Kd.C_below HR0_2.out HB.out))); (case side4 => exact HC0_2.out); (case side5 => exact Kd.Cz ((Kd.C_below HR1.out HB.out))); (case side6 => exact HC1.out); rintro e w13 ⟨v510, rfl, ho0, hb⟩; refine ⟨_, rfl, ?_⟩; have n0_ := yam (Kd.R_lower ho0 (below_size yhb)); have n1_ := yam (blk_below (g := gb508) (o := .cells #[.int .i64 a0_0, .slice A0_1 l0_1.length c0_1, .slice A0_2 l0_2.length c0_2] 30 (0, 0)) (ybz BK508.out) hb); have n2_ := yam (below_step yhb hb); clear BK508; clear HB; have HO511 := n0_; have BK508 := n1_; have HB := n2_; clear n0_ n1_ n2_; (try clear hb); (try clear hb2); (try clear hk); (try clear hi); (try clear ho0); obtain ⟨Ao14, co14, eo14⟩ := Kd.R_slice HO511.out; subst eo14) | ((with_reducible refine gate_callee (f := 74) rfl ?_); refine goesL_ (some 21) rfl rfl Try.func74 (by kernel_rfl) rfl #[.slice Ao14 t509.length co14, .slice A1 l1.length c1] rfl (by (try simp only [List.map_toArray, List.map_cons, List.map_nil]); first | done | rfl | (simp only [List.length_drop, List.length_take]; rfl)) ?_; (with_reducible refine (slices_Equal_int_int.calls k1 _ _ t509 _ _ l1 false _ ?side1 ?side2 ?side3 ?side4 A7.out).mono ?_); (case side1 => repeat (first | exact (Kd.Yr HO511.out).2.2 | (with_reducible refine Kd.C_alloc ?_ _) | (with_reducible refine Kd.C_drewN ?_ _) | (with_reducible refine Kd.C_drew ?_))); (case side2 => exact (Kd.Yr HO511.out).2.1); (case side3 => exact Kd.Cz ((Kd.C_below HR1.out HB.out))); (case side4 => exact HC1.out); rintro e w' ⟨rfl, ⟨nd, rfl⟩⟩; refine ⟨_, rfl, ?_⟩))
   go_ret2
   exact ⟨_, yer, yka HO511.out, yhb⟩
mutual
def impl_NarrowAll.j0 : Nat → List Int → Int → Bool → Int → List Int → List (S67) → Option (List Int × Int)
 | 0, _, _, _, _, _, _ => none
 | k + 1, x1, x2, x29, x679000, x679001, x679002 => if x29 = true then (some (([] : List Int), (-1))) else ((slices_Clone_int_int.f x1).bind fun t681 => (impl_NarrowAll.l0 k x2 t681 0 x679000 x679001 x679002))
def impl_NarrowAll.l0 : Nat → Int → List Int → Int → Int → List Int → List (S67) → Option (List Int × Int)
 | 0, _, _, _, _, _, _ => none
 | k + 1, x2, x8, x9, x679000, x679001, x679002 => (impl_nextRound.f k x679000 x679001 x679002 x8 x2).bind fun bt684 => (if bt684.2 = 0 then (some (x8, x9)) else (impl_NarrowAll.l0 k x2 bt684.1 (wrap64 (x9 + 1)) x679000 x679001 x679002))
end
def impl_NarrowAll.f (k : Nat) (a0_0 : Int) (l0_1 : List Int) (l0_2 : List (S67)) (l1 : List Int) (a2 : Int) : Option (List Int × Int) := (impl_PuzzleValid.f k a0_0 l0_1 l0_2).bind fun t679 => (if t679 = true then ((impl_MasksValid.f k l1 a0_0).bind fun t680 => (if t680 = true then (if a2 < 1 then (impl_NarrowAll.j0 k l1 a2 true a0_0 l0_1 l0_2) else (impl_NarrowAll.j0 k l1 a2 (decide (a2 > 4)) a0_0 l0_1 l0_2)) else (impl_NarrowAll.j0 k l1 a2 true a0_0 l0_1 l0_2))) else (impl_NarrowAll.j0 k l1 a2 true a0_0 l0_1 l0_2))
set_option maxHeartbeats 8000000 in
set_option maxRecDepth 100000 in
theorem impl_NarrowAll.calls (k : Nat) (a0_0 : Int) (A0_1 : Option Addr) (c0_1 : Nat) (l0_1 : List Int) (A0_2 : Option Addr) (c0_2 : Nat) (l0_2 : List (S67)) (A1 : Option Addr) (c1 : Nat) (l1 : List Int) (a2 : Int) (r1 : List Int) (r2 : Int) (w : World) (hr0_1 : Kd.C (Kd.int .i64) w A0_1 l0_1.length l0_1) (hc0_1 : l0_1.length ≤ c0_1) (hr0_2 : Kd.C k67 w A0_2 l0_2.length l0_2) (hc0_2 : l0_2.length ≤ c0_2) (hr1 : Kd.C (Kd.int .i64) w A1 l1.length l1) (hc1 : l1.length ≤ c1) (h : impl_NarrowAll.f k a0_0 l0_1 l0_2 l1 a2 = some (r1, r2)) :
  Calls Try.prog 29 #[.agg #[.int .i64 a0_0, .slice A0_1 l0_1.length c0_1, .slice A0_2 l0_2.length c0_2], .slice A1 l1.length c1, .int .i64 a2] w fun e w' => ∃ v0_ : Value, e = .returned (.tuple #[v0_, .int .i64 r2]) ∧ Kd.R (Kd.int .i64) 3 w' w.heap.size (fun _ => True) v0_ r1 ∧ Below w.heap.size w w' := by
 have hu30 := Try.underlying30
 have HR0_1 := yam hr0_1
 have HC0_1 := yam hc0_1
 clear hr0_1 hc0_1
 have HR0_2 := yam hr0_2
 have HC0_2 := yam hc0_2
 clear hr0_2 hc0_2
 have HR1 := yam hr1
 have HC1 := yam hc1
 clear hr1 hc1
 have HB := yam (Below.refl w.heap.size w)
 have H : ((impl_PuzzleValid.f k a0_0 l0_1 l0_2).bind fun t679 => (if t679 = true then ((impl_MasksValid.f k l1 a0_0).bind fun t680 => (if t680 = true then (if a2 < 1 then (impl_NarrowAll.j0 k l1 a2 true a0_0 l0_1 l0_2) else (impl_NarrowAll.j0 k l1 a2 (decide (a2 > 4)) a0_0 l0_1 l0_2)) else (impl_NarrowAll.j0 k l1 a2 true a0_0 l0_1 l0_2))) else (impl_NarrowAll.j0 k l1 a2 true a0_0 l0_1 l0_2))) = some (r1, r2) := h
 clear h
 have HC4 := yam H
 clear H
 go_enter Try.func29, Try.ntmps29
 go_upto_region 1 with (first | ((with_reducible refine gate_dst (N := 3) rfl ?_); refine ybe 3 #[.int .i64 a0_0, .slice A0_1 l0_1.length c0_1, .slice A0_2 l0_2.length c0_2] 30 ?_; intro gb678 hg w5 hbox hb; have n0_ := yam (below_step (yez HB.out) hb); have n1_ := yam (hbox); have n2_ := yam ((by rw [hg]; exact (below_size (yez HB.out)) : w.heap.size ≤ gb678)); have n3_ := n2_; clear HB; have HB := n0_; have BK678 := n1_; have GW678 := n2_; have GE678 := n3_; clear n0_ n1_ n2_ n3_; clear hb hbox hg))
 (try simp only [Act.put, yps])
 go_cut [29] (fun v29 wc => ∃ (kq : Nat) (x29_3 : Bool), v29 = .bool x29_3 ∧ Aside0 (impl_NarrowAll.j0 kq l1 a2 x29_3 a0_0 l0_1 l0_2 = some (r1, r2)) ∧ Aside0 (kq ≤ k) ∧ Aside0 (wc.heap[gb678]? = some (.cells #[.int .i64 a0_0, (.slice A0_1 l0_1.length c0_1), (.slice A0_2 l0_2.length c0_2)] 30 (0, 0))) ∧ Aside0 (Below w.heap.size w wc))
 case first =>
  have H := HC4.out
  clear HC4
  replace H := Option.bind_eq_some_iff.mp H
  obtain ⟨t679, A60, H⟩ := H
  replace H : (if t679 = true then ((impl_MasksValid.f k l1 a0_0).bind fun t680 => (if t680 = true then (if a2 < 1 then (impl_NarrowAll.j0 k l1 a2 true a0_0 l0_1 l0_2) else (impl_NarrowAll.j0 k l1 a2 (decide (a2 > 4)) a0_0 l0_1 l0_2)) else (impl_NarrowAll.j0 k l1 a2 true a0_0 l0_1 l0_2))) else (impl_NarrowAll.j0 k l1 a2 true a0_0 l0_1 l0_2)) = some (r1, r2) := H
  have A6 := yam A60
  clear A60
  by_cases c7 : t679 = true
  rotate_left
  ·replace c7 := Bool.eq_false_iff.mpr c7
   subst c7
   have H1 : (impl_NarrowAll.j0 k l1 a2 true a0_0 l0_1 l0_2) = some (r1, r2) := by rw [if_neg (show ¬ (false = true) by decide)] at H; exact H
   clear H
   have H := H1
   clear H1
   have H' := yam H
   clear H
   obtain ⟨hcz20_0, hcz20_1, hcz20_2, hfz20_0, hfz20_1, hfz20_2⟩ := ybc BK678.out
   go_wp2_with (first | ((with_reducible refine gate_callee (f := 36) rfl ?_); refine goesL_ (some 13) rfl rfl Try.func36 (by kernel_rfl) rfl #[.agg #[.int .i64 a0_0, .slice A0_1 l0_1.length c0_1, .slice A0_2 l0_2.length c0_2]] rfl (by (try simp only [List.map_toArray, List.map_cons, List.map_nil]); first | done | rfl | (simp only [List.length_drop, List.length_take]; rfl)) ?_; (with_reducible refine (impl_PuzzleValid.calls k a0_0 _ _ l0_1 _ _ l0_2 false _ ?side1 ?side2 ?side3 ?side4 A6.out).mono ?_); (case side1 => exact Kd.Cz ((Kd.C_below HR0_1.out HB.out))); (case side2 => exact HC0_1.out); (case side3 => exact Kd.Cz ((Kd.C_below HR0_2.out HB.out))); (case side4 => exact HC0_2.out); rintro e w21 ⟨rfl, hb⟩; refine ⟨_, rfl, ?_⟩; have n0_ := yam (blk_below (g := gb678) (o := .cells #[.int .i64 a0_0, .slice A0_1 l0_1.length c0_1, .slice A0_2 l0_2.length c0_2] 30 (0, 0)) (ybz BK678.out) hb); have n1_ := yam (below_step yhb hb); clear BK678; clear HB; have BK678 := n0_; have HB := n1_; clear n0_ n1_; (try clear hb); (try clear hb2); (try clear hk); (try clear hi)))
   go_meet
   case rel => exact ⟨_, (true), yeq, H', ⟨by first | omega | exact Nat.le_refl _⟩, ⟨by (with_reducible repeat (first | refine ybn ?_ _ | refine ybd ?_ | refine yba ?_ _)); exact BK678.out⟩, ⟨yhb⟩⟩
  subst c7
  have H1 : ((impl_MasksValid.f k l1 a0_0).bind fun t680 => (if t680 = true then (if a2 < 1 then (impl_NarrowAll.j0 k l1 a2 true a0_0 l0_1 l0_2) else (impl_NarrowAll.j0 k l1 a2 (decide (a2 > 4)) a0_0 l0_1 l0_2)) else (impl_NarrowAll.j0 k l1 a2 true a0_0 l0_1 l0_2))) = some (r1, r2) := by rw [if_pos rfl] at H; exact H
  clear H
  have H := H1
  clear H1
  replace H := Option.bind_eq_some_iff.mp H
  obtain ⟨t680, A80, H⟩ := H
  replace H : (if t680 = true then (if a2 < 1 then (impl_NarrowAll.j0 k l1 a2 true a0_0 l0_1 l0_2) else (impl_NarrowAll.j0 k l1 a2 (decide (a2 > 4)) a0_0 l0_1 l0_2)) else (impl_NarrowAll.j0 k l1 a2 true a0_0 l0_1 l0_2)) = some (r1, r2) := H
  have A8 := yam A80
  clear A80
  by_cases c9 : t680 = true
  rotate_left
  ·replace c9 := Bool.eq_false_iff.mpr c9
   subst c9
   have H1 : (impl_NarrowAll.j0 k l1 a2 true a0_0 l0_1 l0_2) = some (r1, r2) := by rw [if_neg (show ¬ (false = true) by decide)] at H; exact H
   clear H
   have H := H1
   clear H1
   have H' := yam H
   clear H
   obtain ⟨hcz17_0, hcz17_1, hcz17_2, hfz17_0, hfz17_1, hfz17_2⟩ := ybc BK678.out
   go_wp2_with (first | ((with_reducible refine gate_callee (f := 36) rfl ?_); refine goesL_ (some 13) rfl rfl Try.func36 (by kernel_rfl) rfl #[.agg #[.int .i64 a0_0, .slice A0_1 l0_1.length c0_1, .slice A0_2 l0_2.length c0_2]] rfl (by (try simp only [List.map_toArray, List.map_cons, List.map_nil]); first | done | rfl | (simp only [List.length_drop, List.length_take]; rfl)) ?_; (with_reducible refine (impl_PuzzleValid.calls k a0_0 _ _ l0_1 _ _ l0_2 true _ ?side1 ?side2 ?side3 ?side4 A6.out).mono ?_); (case side1 => exact Kd.Cz ((Kd.C_below HR0_1.out HB.out))); (case side2 => exact HC0_1.out); (case side3 => exact Kd.Cz ((Kd.C_below HR0_2.out HB.out))); (case side4 => exact HC0_2.out); rintro e w18 ⟨rfl, hb⟩; refine ⟨_, rfl, ?_⟩; have n0_ := yam (blk_below (g := gb678) (o := .cells #[.int .i64 a0_0, .slice A0_1 l0_1.length c0_1, .slice A0_2 l0_2.length c0_2] 30 (0, 0)) (ybz BK678.out) hb); have n1_ := yam (below_step yhb hb); clear BK678; clear HB; have BK678 := n0_; have HB := n1_; clear n0_ n1_; (try clear hb); (try clear hb2); (try clear hk); (try clear hi); obtain ⟨hcz19_0, hcz19_1, hcz19_2, hfz19_0, hfz19_1, hfz19_2⟩ := ybc BK678.out) | (go_at_call 63; (with_reducible refine (impl_MasksValid.calls k _ _ l1 a0_0 false _ ?side1 ?side2 A8.out).mono ?_); (case side1 => exact Kd.Cz ((Kd.C_below HR1.out HB.out))); (case side2 => exact HC1.out); rintro e w' ⟨rfl, ⟨nd, rfl⟩⟩))
   go_meet
   case rel => exact ⟨_, (true), yeq, H', ⟨by first | omega | exact Nat.le_refl _⟩, ⟨by (with_reducible repeat (first | refine ybn ?_ _ | refine ybd ?_ | refine yba ?_ _)); exact BK678.out⟩, ⟨yhb⟩⟩
  subst c9
  have H1 : (if a2 < 1 then (impl_NarrowAll.j0 k l1 a2 true a0_0 l0_1 l0_2) else (impl_NarrowAll.j0 k l1 a2 (decide (a2 > 4)) a0_0 l0_1 l0_2)) = some (r1, r2) := by rw [if_pos rfl] at H; exact H
  clear H
  have H := H1
  clear H1
  by_cases c10 : a2 < 1
  ·rw [if_pos c10] at H
   have c10b0 : decide (a2 < 1) = true := decide_eq_true c10
   clear c10
   (first | rw [c10b0] | (simp only [i64_w, i32_w]; rw [c10b0]) | skip)
   have H' := yam H
   clear H
   obtain ⟨hcz11_0, hcz11_1, hcz11_2, hfz11_0, hfz11_1, hfz11_2⟩ := ybc BK678.out
   go_wp2_with (first | ((with_reducible refine gate_callee (f := 36) rfl ?_); refine goesL_ (some 13) rfl rfl Try.func36 (by kernel_rfl) rfl #[.agg #[.int .i64 a0_0, .slice A0_1 l0_1.length c0_1, .slice A0_2 l0_2.length c0_2]] rfl (by (try simp only [List.map_toArray, List.map_cons, List.map_nil]); first | done | rfl | (simp only [List.length_drop, List.length_take]; rfl)) ?_; (with_reducible refine (impl_PuzzleValid.calls k a0_0 _ _ l0_1 _ _ l0_2 true _ ?side1 ?side2 ?side3 ?side4 A6.out).mono ?_); (case side1 => exact Kd.Cz ((Kd.C_below HR0_1.out HB.out))); (case side2 => exact HC0_1.out); (case side3 => exact Kd.Cz ((Kd.C_below HR0_2.out HB.out))); (case side4 => exact HC0_2.out); rintro e w12 ⟨rfl, hb⟩; refine ⟨_, rfl, ?_⟩; have n0_ := yam (blk_below (g := gb678) (o := .cells #[.int .i64 a0_0, .slice A0_1 l0_1.length c0_1, .slice A0_2 l0_2.length c0_2] 30 (0, 0)) (ybz BK678.out) hb); have n1_ := yam (below_step yhb hb); clear BK678; clear HB; have BK678 := n0_; have HB := n1_; clear n0_ n1_; (try clear hb); (try clear hb2); (try clear hk); (try clear hi); obtain ⟨hcz13_0, hcz13_1, hcz13_2, hfz13_0, hfz13_1, hfz13_2⟩ := ybc BK678.out) | (go_at_call 63; (with_reducible refine (impl_MasksValid.calls k _ _ l1 a0_0 true _ ?side1 ?side2 A8.out).mono ?_); (case side1 => exact Kd.Cz ((Kd.C_below HR1.out HB.out))); (case side2 => exact HC1.out); rintro e w' ⟨rfl, ⟨nd, rfl⟩⟩))
   go_meet
   case rel => exact ⟨_, (true), yeq, H', ⟨by first | omega | exact Nat.le_refl _⟩, ⟨by (with_reducible repeat (first | refine ybn ?_ _ | refine ybd ?_ | refine yba ?_ _)); exact BK678.out⟩, ⟨yhb⟩⟩
  rw [if_neg c10] at H
  have c10b0 : decide (a2 < 1) = false := decide_eq_false c10
  clear c10
  (first | rw [c10b0] | (simp only [i64_w, i32_w]; rw [c10b0]) | skip)
  have H' := yam H
  clear H
  obtain ⟨hcz14_0, hcz14_1, hcz14_2, hfz14_0, hfz14_1, hfz14_2⟩ := ybc BK678.out
  go_wp2_with (first | ((with_reducible refine gate_callee (f := 36) rfl ?_); refine goesL_ (some 13) rfl rfl Try.func36 (by kernel_rfl) rfl #[.agg #[.int .i64 a0_0, .slice A0_1 l0_1.length c0_1, .slice A0_2 l0_2.length c0_2]] rfl (by (try simp only [List.map_toArray, List.map_cons, List.map_nil]); first | done | rfl | (simp only [List.length_drop, List.length_take]; rfl)) ?_; (with_reducible refine (impl_PuzzleValid.calls k a0_0 _ _ l0_1 _ _ l0_2 true _ ?side1 ?side2 ?side3 ?side4 A6.out).mono ?_); (case side1 => exact Kd.Cz ((Kd.C_below HR0_1.out HB.out))); (case side2 => exact HC0_1.out); (case side3 => exact Kd.Cz ((Kd.C_below HR0_2.out HB.out))); (case side4 => exact HC0_2.out); rintro e w15 ⟨rfl, hb⟩; refine ⟨_, rfl, ?_⟩; have n0_ := yam (blk_below (g := gb678) (o := .cells #[.int .i64 a0_0, .slice A0_1 l0_1.length c0_1, .slice A0_2 l0_2.length c0_2] 30 (0, 0)) (ybz BK678.out) hb); have n1_ := yam (below_step yhb hb); clear BK678; clear HB; have BK678 := n0_; have HB := n1_; clear n0_ n1_; (try clear hb); (try clear hb2); (try clear hk); (try clear hi); obtain ⟨hcz16_0, hcz16_1, hcz16_2, hfz16_0, hfz16_1, hfz16_2⟩ := ybc BK678.out) | (go_at_call 63; (with_reducible refine (impl_MasksValid.calls k _ _ l1 a0_0 true _ ?side1 ?side2 A8.out).mono ?_); (case side1 => exact Kd.Cz ((Kd.C_below HR1.out HB.out))); (case side2 => exact HC1.out); rintro e w' ⟨rfl, ⟨nd, rfl⟩⟩))
  go_meet
  case rel => exact ⟨_, (decide (a2 > 4)), yeq, H', ⟨by first | omega | exact Nat.le_refl _⟩, ⟨by (with_reducible repeat (first | refine ybn ?_ _ | refine ybd ?_ | refine yba ?_ _)); exact BK678.out⟩, ⟨yhb⟩⟩
 case rest =>
  clear HC4
  try clear c1
  try clear c2
  try clear p2
  try clear c3
  try clear c7
  try clear c9
  try clear c10
  try clear c10b0
  try clear hcz11_0
  try clear hcz11_1
  try clear hcz11_2
  try clear hcz13_0
  try clear hcz13_1
  try clear hcz13_2
  try clear hcz14_0
  try clear hcz14_1
  try clear hcz14_2
  try clear hcz16_0
  try clear hcz16_1
  try clear hcz16_2
  try clear hcz17_0
  try clear hcz17_1
  try clear hcz17_2
  try clear hcz19_0
  try clear hcz19_1
  try clear hcz19_2
  try clear hcz20_0
  try clear hcz20_1
  try clear hcz20_2
  try clear hfz11_0
  try clear hfz11_1
  try clear hfz11_2
  try clear hfz13_0
  try clear hfz13_1
  try clear hfz13_2
  try clear hfz14_0
  try clear hfz14_1
  try clear hfz14_2
  try clear hfz16_0
  try clear hfz16_1
  try clear hfz16_2
  try clear hfz17_0
  try clear hfz17_1
  try clear hfz17_2
  try clear hfz19_0
  try clear hfz19_1
  try clear hfz19_2
  try clear hfz20_0
  try clear hfz20_1
  try clear hfz20_2
  obtain ⟨kq, x29_3, rfl, HA, HJ3, BK678, HB⟩ := hcut
  cases kq with
  | zero => exact absurd HA.out (by simp [impl_NarrowAll.j0])
  | succ kj3 =>
   have H := HA.out
   clear HA
   simp only [impl_NarrowAll.j0] at H
   by_cases c22 : x29_3 = true
   ·subst c22
    have H1 : (some (([] : List Int), (-1))) = some (r1, r2) := by rw [if_pos rfl] at H; exact H
    clear H
    have H := H1
    clear H1
    simp only [Option.some.injEq, Prod.mk.injEq] at H
    obtain ⟨rfl, rfl⟩ := H
    go_wp2
    go_ret2
    exact ⟨_, yer, by first | exact Kd.R_nil _ _ _ _ _ | exact Kd.N_nil _ _ _ _ _ | exact Kd.V_nil _ _ _ _ _ | exact Kd.Q_nil _ _ _ _ _ | exact Kd.S_nil _ _ _ _ _, yhb⟩
   replace c22 := Bool.eq_false_iff.mpr c22
   subst c22
   have H1 : ((slices_Clone_int_int.f l1).bind fun t681 => (impl_NarrowAll.l0 kj3 a2 t681 0 a0_0 l0_1 l0_2)) = some (r1, r2) := by rw [if_neg (show ¬ (false = true) by decide)] at H; exact H
   clear H
   have H := H1
   clear H1
   replace H := Option.bind_eq_some_iff.mp H
   obtain ⟨t681, A230, H⟩ := H
   replace H : (impl_NarrowAll.l0 kj3 a2 t681 0 a0_0 l0_1 l0_2) = some (r1, r2) := H
   have A23 := yam A230
   clear A230
   have H' := yam H
   clear H
   go_wp2_with (first | ((with_reducible refine gate_callee (f := 64) rfl ?_); refine goesL_ (some 31) rfl rfl Try.func64 (by kernel_rfl) rfl #[.slice A1 l1.length c1] rfl (by (try simp only [List.map_toArray, List.map_cons, List.map_nil]); first | done | rfl | (simp only [List.length_drop, List.length_take]; rfl)) ?_; (with_reducible refine (slices_Clone_int_int.calls _ _ l1 t681 _ ?side1 ?side2 A23.out).mono ?_); (case side1 => exact Kd.Cz ((Kd.C_below HR1.out HB.out))); (case side2 => exact HC1.out); rintro e w24 ⟨v682, rfl, ho0, hb⟩; refine ⟨_, rfl, ?_⟩; have n0_ := yam (Kd.R_lower ho0 (below_size yhb)); have n1_ := yam (blk_below (g := gb678) (o := .cells #[.int .i64 a0_0, .slice A0_1 l0_1.length c0_1, .slice A0_2 l0_2.length c0_2] 30 (0, 0)) (ybz BK678.out) hb); have n2_ := yam (below_step yhb hb); clear BK678; clear HB; have HO683 := n0_; have BK678 := n1_; have HB := n2_; clear n0_ n1_ n2_; (try clear hb); (try clear hb2); (try clear hk); (try clear hi); (try clear ho0)))
   go_loopg [8, 9] kj3 (fun kq v8 v9 w' => ∃ (x8_2 : List Int) (x9_2 : Int), v9 = .int .i64 x9_2 ∧ Aside0 (impl_NarrowAll.l0 kq a2 x8_2 x9_2 a0_0 l0_1 l0_2 = some (r1, r2)) ∧ Aside0 (kq ≤ kj3) ∧ Aside0 (Kd.R (Kd.int .i64) 3 w' w.heap.size (fun _ => True) v8 x8_2) ∧ Aside0 (w'.heap[gb678]? = some (.cells #[.int .i64 a0_0, (.slice A0_1 l0_1.length c0_1), (.slice A0_2 l0_2.length c0_2)] 30 (0, 0))) ∧ Aside0 (Below w.heap.size w w'))
   case atStart => exact ⟨(t681), (0), yeq, H', ⟨Nat.le_refl _⟩, ⟨yka HO683.out⟩, ⟨by (with_reducible repeat (first | refine ybn ?_ _ | refine ybd ?_ | refine yba ?_ _)); exact BK678.out⟩, ⟨yhb⟩⟩
   case round =>
    clear H'
    try clear c1
    try clear c2
    try clear p2
    try clear c3
    try clear c6
    try clear c7
    try clear c9
    try clear c10
    try clear c10b0
    try clear c22
    try clear hcz11_0
    try clear hcz11_1
    try clear hcz11_2
    try clear hcz13_0
    try clear hcz13_1
    try clear hcz13_2
    try clear hcz14_0
    try clear hcz14_1
    try clear hcz14_2
    try clear hcz16_0
    try clear hcz16_1
    try clear hcz16_2
    try clear hcz17_0
    try clear hcz17_1
    try clear hcz17_2
    try clear hcz19_0
    try clear hcz19_1
    try clear hcz19_2
    try clear hcz20_0
    try clear hcz20_1
    try clear hcz20_2
    try clear hfz11_0
    try clear hfz11_1
    try clear hfz11_2
    try clear hfz13_0
    try clear hfz13_1
    try clear hfz13_2
    try clear hfz14_0
    try clear hfz14_1
    try clear hfz14_2
    try clear hfz16_0
    try clear hfz16_1
    try clear hfz16_2
    try clear hfz17_0
    try clear hfz17_1
    try clear hfz17_2
    try clear hfz19_0
    try clear hfz19_1
    try clear hfz19_2
    try clear hfz20_0
    try clear hfz20_1
    try clear hfz20_2
    try clear p2
    obtain ⟨x8_2, x9_2, rfl, HA, HK2, HO_8, BK678, HB⟩ := hrel
    cases gk with
    | zero => exact absurd HA.out (by simp [impl_NarrowAll.l0])
    | succ k2 =>
     have H := HA.out
     clear HA
     simp only [impl_NarrowAll.l0] at H
     replace H := Option.bind_eq_some_iff.mp H
     obtain ⟨⟨t684, t687⟩, A250, H⟩ := H
     replace H : (if t687 = 0 then (some (x8_2, x9_2)) else (impl_NarrowAll.l0 k2 a2 t684 (wrap64 (x9_2 + 1)) a0_0 l0_1 l0_2)) = some (r1, r2) := H
     have A25 := yam A250
     clear A250
     by_cases c26 : t687 = 0
     ·rw [if_pos c26] at H
      have c26b0 : (t687 == 0) = true := beq_iff_eq.mpr c26
      have c26b1 : (t687 != 0) = false := bne_eq_false_iff_eq.mpr c26
      clear c26
      simp only [Option.some.injEq, Prod.mk.injEq] at H
      obtain ⟨rfl, rfl⟩ := H
      obtain ⟨hcz27_0, hcz27_1, hcz27_2, hfz27_0, hfz27_1, hfz27_2⟩ := ybc BK678.out
      obtain ⟨Ao28, co28, eo28⟩ := Kd.R_slice HO_8.out
      subst eo28
      go_wp2_with (first | ((with_reducible refine gate_callee (f := 44) rfl ?_); refine goesL_ (some 36) rfl rfl Try.func44 (by kernel_rfl) rfl #[.agg #[.int .i64 a0_0, .slice A0_1 l0_1.length c0_1, .slice A0_2 l0_2.length c0_2], .slice Ao28 x8_2.length co28, .int .i64 a2] rfl (by (try simp only [List.map_toArray, List.map_cons, List.map_nil]); first | done | rfl | (simp only [List.length_drop, List.length_take]; rfl)) ?_; (with_reducible refine (impl_nextRound.calls k2 a0_0 _ _ l0_1 _ _ l0_2 _ _ x8_2 a2 t684 t687 _ ?side1 ?side2 ?side3 ?side4 ?side5 ?side6 A25.out).mono ?_); (case side1 => exact Kd.Cz ((Kd.C_below HR0_1.out HB.out))); (case side2 => exact HC0_1.out); (case side3 => exact Kd.Cz ((Kd.C_below HR0_2.out HB.out))); (case side4 => exact HC0_2.out); (case side5 => repeat (first | exact (Kd.Yr HO_8.out).2.2 | (with_reducible refine Kd.C_alloc ?_ _) | (with_reducible refine Kd.C_drewN ?_ _) | (with_reducible refine Kd.C_drew ?_))); (case side6 => exact (Kd.Yr HO_8.out).2.1); rintro e w29 ⟨v685, rfl, ho0, hb⟩; refine ⟨_, rfl, ?_⟩; have n0_ := yam (Kd.Ye (Kd.Yz HO_8.out) (Kd.Yb ho0) hb); have n1_ := yam (Kd.R_lower (Kd.Yw ho0 (Kd.R_lt (Kd.Yz HO_8.out))) (below_size yhb)); have n2_ := yam (blk_below (g := gb678) (o := .cells #[.int .i64 a0_0, .slice A0_1 l0_1.length c0_1, .slice A0_2 l0_2.length c0_2] 30 (0, 0)) (ybz BK678.out) hb); have n3_ := yam (below_step yhb hb); clear HO_8; clear BK678; clear HB; have HO_8 := n0_; have HO686 := n1_; have BK678 := n2_; have HB := n3_; clear n0_ n1_ n2_ n3_; (try clear hb); (try clear hb2); (try clear hk); (try clear hi); (try clear ho0)))
      go_ret2
      exact ⟨_, yer, by (with_reducible repeat (first | apply Kd.Ya | apply Kd.Yn | apply Kd.Yd)); exact Kd.R_mono HO_8.out (fun _ hk => trivial), yhb⟩
     rw [if_neg c26] at H
     have c26b0 : (t687 == 0) = false := beq_eq_false_iff_ne.mpr c26
     have c26b1 : (t687 != 0) = true := bne_iff_ne.mpr c26
     have H' := yam H
     clear H
     obtain ⟨hcz30_0, hcz30_1, hcz30_2, hfz30_0, hfz30_1, hfz30_2⟩ := ybc BK678.out
     obtain ⟨Ao31, co31, eo31⟩ := Kd.R_slice HO_8.out
     subst eo31
     go_wp2_with (first | ((with_reducible refine gate_callee (f := 44) rfl ?_); refine goesL_ (some 36) rfl rfl Try.func44 (by kernel_rfl) rfl #[.agg #[.int .i64 a0_0, .slice A0_1 l0_1.length c0_1, .slice A0_2 l0_2.length c0_2], .slice Ao31 x8_2.length co31, .int .i64 a2] rfl (by (try simp only [List.map_toArray, List.map_cons, List.map_nil]); first | done | rfl | (simp only [List.length_drop, List.length_take]; rfl)) ?_; (with_reducible refine (impl_nextRound.calls k2 a0_0 _ _ l0_1 _ _ l0_2 _ _ x8_2 a2 t684 t687 _ ?side1 ?side2 ?side3 ?side4 ?side5 ?side6 A25.out).mono ?_); (case side1 => exact Kd.Cz ((Kd.C_below HR0_1.out HB.out))); (case side2 => exact HC0_1.out); (case side3 => exact Kd.Cz ((Kd.C_below HR0_2.out HB.out))); (case side4 => exact HC0_2.out); (case side5 => repeat (first | exact (Kd.Yr HO_8.out).2.2 | (with_reducible refine Kd.C_alloc ?_ _) | (with_reducible refine Kd.C_drewN ?_ _) | (with_reducible refine Kd.C_drew ?_))); (case side6 => exact (Kd.Yr HO_8.out).2.1); rintro e w32 ⟨v685, rfl, ho0, hb⟩; refine ⟨_, rfl, ?_⟩; have n0_ := yam (Kd.Ye (Kd.Yz HO_8.out) (Kd.Yb ho0) hb); have n1_ := yam (Kd.R_lower (Kd.Yw ho0 (Kd.R_lt (Kd.Yz HO_8.out))) (below_size yhb)); have n2_ := yam (blk_below (g := gb678) (o := .cells #[.int .i64 a0_0, .slice A0_1 l0_1.length c0_1, .slice A0_2 l0_2.length c0_2] 30 (0, 0)) (ybz BK678.out) hb); have n3_ := yam (below_step yhb hb); clear HO_8; clear BK678; clear HB; have HO_8 := n0_; have HO686 := n1_; have BK678 := n2_; have HB := n3_; clear n0_ n1_ n2_ n3_; (try clear hb); (try clear hb2); (try clear hk); (try clear hi); (try clear ho0)))
     go_roundg k2
     case measure => have := HJ3.out; have := HK2.out; omega
     case rel => exact ⟨(t684), (wrap64 (x9_2 + 1)), yeq, H', ⟨by have := HJ3.out; have := HK2.out; omega⟩, ⟨by (with_reducible repeat (first | apply Kd.Ya | apply Kd.Yn | apply Kd.Yd)); exact Kd.R_mono HO686.out (fun _ hk => trivial)⟩, ⟨by (with_reducible repeat (first | refine ybn ?_ _ | refine ybd ?_ | refine yba ?_ _)); exact BK678.out⟩, ⟨yhb⟩⟩
end Go.Proofs.Ytdemlminhkhonaa.P
