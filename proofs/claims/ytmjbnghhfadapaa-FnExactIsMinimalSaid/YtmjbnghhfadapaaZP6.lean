/- The machine's side: each Go function as a plain Lean function and the proof that the machine's call does what that function says; written by this session's own program over the kit's print. -/
import Derived.Test.YtmjbnghhfadapaaZP1
import Derived.Test.YtmjbnghhfadapaaZP5
namespace Go.Proofs.Ytmjbnghhfadapaa.P
open Go.RowKit Go.Proofs.YtmjbnghhfadapaaW.PrintWords Go.Proofs.YtmjbnghhfadapaaW.PrintLast Go.Proofs.YtmjbnghhfadapaaW.PrintMore
attribute [local go_sem] max2_int min2_int max_two min_two max_three min_three max_four min_four   -- for this text's walks alone
set_option linter.unusedVariables false
set_option linter.unusedSimpArgs false
/-! ### impl_ruleMasks: function 92 -/
/-- The values of a way, marked in the masks: cells i, i + 1, .. -/
def impl_ruleMasks.orFrom (vals : List Int) : Nat → Int → List Int → List Int
 | 0, _, out => out
 | d + 1, i, out => impl_ruleMasks.orFrom vals d (i + 1) (out.set i.toNat (Go.bits .or .i64 (rd out i) (shl .i64 1 (rd vals i))))
/-- The values v, v + 1, .. (n of them) tried for a cell. -/
def impl_ruleMasks.tryV (f : List Int → List Int → Option (List Int × List Int)) (m : Int) (i : Nat) : Nat → Int → List Int → List Int → Option (List Int × List Int)
 | 0, _, vals, out => some (vals, out)
 | n + 1, v, vals, out => if Go.bits .and .i64 (shr .i64 m v) 1 = 1 then (f (vals.set i v) out).bind fun t => impl_ruleMasks.tryV f m i n (v + 1) t.1 t.2 else impl_ruleMasks.tryV f m i n (v + 1) vals out
def impl_ruleMasks.try_ (k : Nat) (a0_0 : Int) (l0_1 : List Int) (a0_2 : Int) (own : List Int) : Nat → List Int → List Int → Option (List Int × List Int)
 | 0, vals, out => (impl_valuesHold.f k a0_0 l0_1 a0_2 vals).bind fun b => if b = true then (if ∀ x ∈ vals, 0 ≤ x then some (vals, impl_ruleMasks.orFrom vals own.length 0 out) else none) else some (vals, out)
 | d + 1, vals, out => impl_ruleMasks.tryV (impl_ruleMasks.try_ k a0_0 l0_1 a0_2 own d) (rd own ((own.length : Int) - (d + 1 : Nat))) ((own.length : Int) - (d + 1 : Nat)).toNat 4 1 vals out
/-- The boxes of the variables that the literal shares. -/
def impl_ruleMasks.Boxes (W : World) (gown gr gval gout gtry gv go cv cu : Nat) (Ao : Option Addr) (co n : Nat) (a0_0 : Int) (Ac : Option Addr) (cc nc : Nat) (a0_2 : Int) : Prop :=
 W.heap[gown]? = some (.cells #[.slice Ao n co] 22 (0, 0)) ∧ W.heap[gr]? = some (.cells #[.int .i64 a0_0, .slice Ac nc cc, .int .i64 a0_2] 73 (0, 0)) ∧ W.heap[gval]? = some (.cells #[.slice (some ⟨gv, 0, none⟩) n cv] 22 (0, 0)) ∧ W.heap[gout]? = some (.cells #[.slice (some ⟨go, 0, none⟩) n cu] 22 (0, 0)) ∧ W.heap[gtry]? = some (.cells #[.func (.func 95) #[] #[.pointer (some ⟨gown, 0, none⟩), .pointer (some ⟨gr, 0, none⟩), .pointer (some ⟨gval, 0, none⟩), .pointer (some ⟨gout, 0, none⟩), .pointer (some ⟨gtry, 0, none⟩)]] 93 (0, 0))
theorem impl_ruleMasks.Boxes.below {W W1 : World} {gown gr gval gout gtry gv go cv cu : Nat} {Ao : Option Addr} {co n : Nat} {a0_0 : Int} {Ac : Option Addr} {cc nc : Nat} {a0_2 : Int} (h : impl_ruleMasks.Boxes W gown gr gval gout gtry gv go cv cu Ao co n a0_0 Ac cc nc a0_2) (hb : Below W.heap.size W W1) : impl_ruleMasks.Boxes W1 gown gr gval gout gtry gv go cv cu Ao co n a0_0 Ac cc nc a0_2 :=
 ⟨blk_below h.1 hb, blk_below h.2.1 hb, blk_below h.2.2.1 hb, blk_below h.2.2.2.1 hb, blk_below h.2.2.2.2 hb⟩
theorem impl_ruleMasks.Boxes.drewN {W : World} {gown gr gval gout gtry gv go cv cu : Nat} {Ao : Option Addr} {co n : Nat} {a0_0 : Int} {Ac : Option Addr} {cc nc : Nat} {a0_2 : Int} (h : impl_ruleMasks.Boxes W gown gr gval gout gtry gv go cv cu Ao co n a0_0 Ac cc nc a0_2) (m : Nat) : impl_ruleMasks.Boxes (W.drewN m) gown gr gval gout gtry gv go cv cu Ao co n a0_0 Ac cc nc a0_2 := h
theorem impl_ruleMasks.Boxes.grown {W W1 : World} {gown gr gval gout gtry gv go cv cu : Nat} {Ao : Option Addr} {co n : Nat} {a0_0 : Int} {Ac : Option Addr} {cc nc : Nat} {a0_2 : Int} (h : impl_ruleMasks.Boxes W gown gr gval gout gtry gv go cv cu Ao co n a0_0 Ac cc nc a0_2) {α : Type} {d : Kd α} {base : Nat} {ok : Nat → Prop} {v : Value} {xs : List α} (ho : d.R 3 W base ok v xs) (hg : W.grownBy W1 v.ownBlock) : impl_ruleMasks.Boxes W1 gown gr gval gout gtry gv go cv cu Ao co n a0_0 Ac cc nc a0_2 :=
 ⟨blk_grown h.1 hg (Kd.R_ne ho h.1 (by decide)), blk_grown h.2.1 hg (Kd.R_ne ho h.2.1 (by decide)), blk_grown h.2.2.1 hg (Kd.R_ne ho h.2.2.1 (by decide)), blk_grown h.2.2.2.1 hg (Kd.R_ne ho h.2.2.2.1 (by decide)), blk_grown h.2.2.2.2 hg (Kd.R_ne ho h.2.2.2.2 (by decide))⟩
theorem impl_ruleMasks.R_other {W W1 : World} {base : Nat} {g g2 : Nat} {n c n2 c2 : Nat} {xs : List Int} (h : Kd.R (Kd.int .i64) 3 W base (fun k => k = g) (.slice (some ⟨g, 0, none⟩) n c) xs) (hne : g ≠ g2) (hg : W.grownBy W1 (some g2)) : Kd.R (Kd.int .i64) 3 W1 base (fun k => k = g) (.slice (some ⟨g, 0, none⟩) n c) xs :=
 Kd.R_mono (Kd.R_after (v := .slice (some ⟨g2, 0, none⟩) n2 c2) (v1 := .slice (some ⟨g2, 0, none⟩) n2 c2) (ok := fun k => k = g) (Kd.R_mono h (fun k hk => ⟨hk, by subst hk; simpa [Value.ownBlock] using hne⟩)) hg (.inl rfl)) (fun k hk => hk.1)
set_option maxHeartbeats 8000000 in
set_option maxRecDepth 100000 in
theorem impl_ruleMasks.clo (k : Nat) (a0_0 : Int) (Ac : Option Addr) (cc : Nat) (l0_1 : List Int) (a0_2 : Int) (Ao : Option Addr) (co : Nat) (own : List Int) (gown gr gval gout gtry gv go cv cu : Nat) (w0 : World) (hne : gv ≠ go) (hbv : w0.heap.size ≤ gv) (hbo : w0.heap.size ≤ go) (hrC : Kd.C (Kd.int .i64) w0 Ac l0_1.length l0_1) (hcC : l0_1.length ≤ cc) (hrO : Kd.C (Kd.int .i64) w0 Ao own.length own) :
  ∀ (d : Nat) (a : Int) (vals out vals' out' : List Int) (w : World) (_ : (own.length : Int) - d = a) (_ : d ≤ own.length) (_ : own.length ≤ 100000) (_ : vals.length = own.length) (_ : out.length = own.length) (_ : Kd.R (Kd.int .i64) 3 w w0.heap.size (fun k => k = gv) (.slice (some ⟨gv, 0, none⟩) own.length cv) vals) (_ : Kd.R (Kd.int .i64) 3 w w0.heap.size (fun k => k = go) (.slice (some ⟨go, 0, none⟩) own.length cu) out) (_ : impl_ruleMasks.Boxes w gown gr gval gout gtry gv go cv cu Ao co own.length a0_0 Ac cc l0_1.length a0_2) (_ : Below w0.heap.size w0 w) (_ : impl_ruleMasks.try_ k a0_0 l0_1 a0_2 own d vals out = some (vals', out')),
  Calls Try.prog 95 #[.int .i64 a, .pointer (some ⟨gown, 0, none⟩), .pointer (some ⟨gr, 0, none⟩), .pointer (some ⟨gval, 0, none⟩), .pointer (some ⟨gout, 0, none⟩), .pointer (some ⟨gtry, 0, none⟩)] w fun e w' => e = .returned (.tuple #[]) ∧ vals'.length = own.length ∧ out'.length = own.length ∧ Kd.R (Kd.int .i64) 3 w' w0.heap.size (fun k => k = gv) (.slice (some ⟨gv, 0, none⟩) own.length cv) vals' ∧ Kd.R (Kd.int .i64) 3 w' w0.heap.size (fun k => k = go) (.slice (some ⟨go, 0, none⟩) own.length cu) out' ∧ impl_ruleMasks.Boxes w' gown gr gval gout gtry gv go cv cu Ao co own.length a0_0 Ac cc l0_1.length a0_2 ∧ Below w0.heap.size w0 w' := by
 intro d
 have HRC := Aside0.mk hrC
 have HCC := Aside0.mk hcC
 have HRO := Aside0.mk hrO
 clear hrC hcC hrO
 induction d with
 | zero =>
  intro a vals out vals' out' w ha hd hn hlv hlo hV hO hX hB h
  have ha0 : a = (own.length : Int) := by omega
  have hae : (a == (own.length : Int)) = true := beq_iff_eq.mpr ha0
  clear ha ha0 hd
  have HN := Aside0.mk hn
  have HLV := Aside0.mk hlv
  have HLO := Aside0.mk hlo
  have HV := Aside0.mk hV
  have HO := Aside0.mk hO
  have HX := Aside0.mk hX
  have HB := Aside0.mk hB
  clear hn hlv hlo hV hO hB
  unfold impl_ruleMasks.try_ at h
  obtain ⟨b, hb, h⟩ := Option.bind_eq_some_iff.1 h
  have HVH := Aside0.mk hb
  have H := Aside0.mk h
  clear hb h
  have hcO : w.cell? ⟨gown, 0, none⟩ = some (.slice Ao own.length co) := (blk_cell hX.1 0).trans rfl
  have hcR0 : w.cell? ⟨gr, 0, none⟩ = some (.int .i64 a0_0) := (blk_cell hX.2.1 0).trans rfl
  have hcR1 : w.cell? ⟨gr, 1, none⟩ = some (.slice Ac l0_1.length cc) := (blk_cell hX.2.1 1).trans rfl
  have hcR2 : w.cell? ⟨gr, 2, none⟩ = some (.int .i64 a0_2) := (blk_cell hX.2.1 2).trans rfl
  have hcV : w.cell? ⟨gval, 0, none⟩ = some (.slice (some ⟨gv, 0, none⟩) own.length cv) := (blk_cell hX.2.2.1 0).trans rfl
  clear hX
  cases b with
  | false =>
   have H2 := H.out
   simp only [Bool.false_eq_true, if_false, Option.some.injEq, Prod.mk.injEq] at H2
   obtain ⟨rfl, rfl⟩ := H2
   clear H
   go_enter Try.func95, Try.ntmps95
   go_wp2_with (first | ((with_reducible refine gate_callee (f := 82) rfl ?_); refine goesL_ (some 16) rfl rfl Try.func82 (by kernel_rfl) rfl #[.agg #[.int .i64 a0_0, .slice Ac l0_1.length cc, .int .i64 a0_2], .slice (some ⟨gv, 0, none⟩) vals.length cv] rfl (by (try simp only [List.map_toArray, List.map_cons, List.map_nil]); rw [HLV.out]; rfl) ?_; (with_reducible refine (impl_valuesHold.calls k a0_0 _ _ l0_1 a0_2 _ _ vals false _ (Kd.C_below HRC.out HB.out) HCC.out (Kd.R_reads' HV.out).2.2 (by rw [HLV.out]; exact (Kd.R_reads' HV.out).2.1) HVH.out).mono ?_); rintro e w' ⟨rfl, hb⟩; refine ⟨_, rfl, ?_⟩; have n0_ := Aside0.mk (Kd.R_below HV.out hb); have n1_ := Aside0.mk (Kd.R_below HO.out hb); have n2_ := Aside0.mk (impl_ruleMasks.Boxes.below HX.out hb); have n3_ := Aside0.mk (below_step HB.out hb); clear HV HO HX HB hb hcO hcR0 hcR1 hcR2 hcV; have HV := n0_; have HO := n1_; have HX := n2_; have HB := n3_; clear n0_ n1_ n2_ n3_))
   first | go_end0 | ((try simp only [Exit.inBlock, Exit.then]); refine bodyPost_ret (results_none rfl _ _ _) rfl ?_)
   exact ⟨rfl, HLV.out, HLO.out, HV.out, HO.out, HX.out, HB.out⟩
  | true =>
   have H2 := H.out
   simp only [if_true] at H2
   by_cases hpos : ∀ x ∈ vals, 0 ≤ x
   ·rw [if_pos hpos] at H2
    simp only [Option.some.injEq, Prod.mk.injEq] at H2
    obtain ⟨rfl, rfl⟩ := H2
    clear H
    have HP := Aside0.mk hpos
    clear hpos
    go_enter Try.func95, Try.ntmps95
    go_wp2_with (first | ((with_reducible refine gate_callee (f := 82) rfl ?_); refine goesL_ (some 16) rfl rfl Try.func82 (by kernel_rfl) rfl #[.agg #[.int .i64 a0_0, .slice Ac l0_1.length cc, .int .i64 a0_2], .slice (some ⟨gv, 0, none⟩) vals.length cv] rfl (by (try simp only [List.map_toArray, List.map_cons, List.map_nil]); rw [HLV.out]; rfl) ?_; (with_reducible refine (impl_valuesHold.calls k a0_0 _ _ l0_1 a0_2 _ _ vals true _ (Kd.C_below HRC.out HB.out) HCC.out (Kd.R_reads' HV.out).2.2 (by rw [HLV.out]; exact (Kd.R_reads' HV.out).2.1) HVH.out).mono ?_); rintro e w' ⟨rfl, hb⟩; refine ⟨_, rfl, ?_⟩; have n0_ := Aside0.mk (Kd.R_below HV.out hb); have n1_ := Aside0.mk (Kd.R_below HO.out hb); have n2_ := Aside0.mk (impl_ruleMasks.Boxes.below HX.out hb); have n3_ := Aside0.mk (below_step HB.out hb); clear HV HO HX HB hb hcO hcR0 hcR1 hcR2 hcV; have HV := n0_; have HO := n1_; have HX := n2_; have HB := n3_; clear n0_ n1_ n2_ n3_; have hcV := (blk_cell HX.out.2.2.1 0).trans (rfl : _ = some (Value.slice (some ⟨gv, 0, none⟩) own.length cv))))
    go_loopg [19] own.length (fun kq v19 w' => ∃ (x : Int) (o : List Int), v19 = .int .i64 x ∧ Aside0 (0 ≤ x ∧ x + (kq : Int) = (own.length : Int)) ∧ Aside0 (impl_ruleMasks.orFrom vals own.length 0 out = impl_ruleMasks.orFrom vals kq x o) ∧ Aside0 (o.length = own.length) ∧ Aside0 (Kd.R (Kd.int .i64) 3 w' w0.heap.size (fun k => k = gv) (.slice (some ⟨gv, 0, none⟩) own.length cv) vals) ∧ Aside0 (Kd.R (Kd.int .i64) 3 w' w0.heap.size (fun k => k = go) (.slice (some ⟨go, 0, none⟩) own.length cu) o) ∧ Aside0 (impl_ruleMasks.Boxes w' gown gr gval gout gtry gv go cv cu Ao co own.length a0_0 Ac cc l0_1.length a0_2) ∧ Aside0 (Below w0.heap.size w0 w'))
    case atStart => exact ⟨0, out, rfl, ⟨by omega⟩, ⟨rfl⟩, HLO, HV, HO, HX, HB⟩
    case round =>
     clear hcV HV HO HX HB HLO
     obtain ⟨x, o, rfl, HK, HE, HLO, HV, HO, HX, HB⟩ := hrel
     cases gk with
     | zero =>
      have h1b : decide ((x : Int) < (own.length : Int)) = false := decide_eq_false (by have := HK.out; omega)
      go_wp2
      first | go_end0 | ((try simp only [Exit.inBlock, Exit.then]); refine bodyPost_ret (results_none rfl _ _ _) rfl ?_)
      have HE2 := HE.out
      unfold impl_ruleMasks.orFrom at HE2
      exact ⟨rfl, HLV.out, by rw [HE.out]; exact HLO.out, HV.out, by rw [HE.out]; exact HO.out, HX.out, HB.out⟩
     | succ k1 =>
      have h0 : 0 ≤ x := HK.out.1
      have h1 : x < (own.length : Int) := by have := HK.out.2; omega
      have h1b : decide ((x : Int) < (own.length : Int)) = true := decide_eq_true h1
      have hcU := (blk_cell HX.out.2.2.2.1 0).trans (rfl : _ = some (Value.slice (some ⟨go, 0, none⟩) own.length cu))
      obtain ⟨hxV0, hfV⟩ := Kd.R_celln 0 HV.out x h0 h1
      obtain ⟨hxO0, hfO⟩ := Kd.R_celln 0 HO.out x h0 h1
      have hxV := hxV0.trans (rfl : _ = some (Value.int .i64 (rd vals x)))
      have hxO := hxO0.trans (rfl : _ = some (Value.int .i64 (rd o x)))
      clear hxV0 hxO0
      have hpv : 0 ≤ rd vals x := HP.out _ (by
       have hl := HLV.out
       obtain ⟨n, rfl⟩ := Int.eq_ofNat_of_zero_le h0
       have hn : n < vals.length := by omega
       have e : rd vals (n : Int) = vals[n] := by simp [rd, hn]
       rw [e]; exact List.getElem_mem hn)
      have hpvb : decide (0 ≤ rd vals x) = true := decide_eq_true hpv
      have HES : impl_ruleMasks.orFrom vals (k1 + 1) x o = impl_ruleMasks.orFrom vals k1 (x + 1) (o.set x.toNat (Go.bits .or .i64 (rd o x) (shl .i64 1 (rd vals x)))) := rfl
      obtain ⟨ji, hji⟩ : ∃ j_ : Int, (shl .i64 1 (rd vals x)) = j_ := ⟨_, rfl⟩
      rw [hji] at HES
      have hji_ : (IntKind.i64.wrap (1 * 2 ^ min (rd vals x).toNat 64)) = ji := hji
      have hjiu : (IntKind.i64.wrap (2 ^ min (rd vals x).toNat 64)) = ji := by have h_ := hji_; rw [Int.one_mul] at h_; exact h_
      have hjiy : (wrap64 (1 * 2 ^ min (rd vals x).toNat 64)) = ji := (i64_w _).symm.trans hji_
      have hjiw : (wrap64 (2 ^ min (rd vals x).toNat 64)) = ji := (i64_w _).symm.trans hjiu
      have HES2 := Aside0.mk HES
      clear HES hji
      have HPO := Aside0.mk (Kd.R_putg HO.out x (Go.bits .or .i64 (rd o x) ji))
      have hnw : wrap64 (x + 1) = x + 1 := by have := HN.out; unfold wrap64; omega
      have hnw2 : IntKind.i64.wrap (x + 1) = x + 1 := by rw [i64_w]; exact hnw
      have p0 := eq_true h0
      have p1 := eq_true h1
      have p2 := eq_true hpv
      clear h0 h1 hpv
      go_wp2
      refine start_ (n := 9) (S := fun w' => w'.cell? ⟨gout, 0, none⟩ = some (.slice (some ⟨go, 0, none⟩) own.length cu) ∧ w'.cell? ⟨go, (x : Int).toNat, none⟩ = some (.int .i64 (rd o x))) (ds := [8]) #[false, false, false, false, false, false, false, false, false] (by kernel_rfl) rfl rfl ⟨hcU, hxO⟩ (fun hHeld => ?_)
      refine pure_ (i := 1) (N := some 25) (v := ?_) (a' := ?_) #[false, true, false, false, false, false, false, false, false] rfl rfl (by kernel_rfl) (fun _ _ _ h => h) (Or.inl ⟨by rfl, ?_⟩) ?_ ?_
      rotate_left
      ·intro w'
       go_simp
       with_reducible rfl
      rotate_left
      ·simp only [Act.put, List.setIfInBounds_toArray, List.set_cons_zero, List.set_cons_succ, i64_w, i32_w]
       rfl
      refine pure_ (i := 4) (N := some 28) (v := ?_) (a' := ?_) #[false, true, false, false, true, false, false, false, false] rfl rfl (by kernel_rfl) (fun _ _ _ h => h) (Or.inl ⟨by rfl, ?_⟩) ?_ ?_
      rotate_left
      ·intro w'
       go_simp
       with_reducible rfl
      rotate_left
      ·simp only [Act.put, List.setIfInBounds_toArray, List.set_cons_zero, List.set_cons_succ, i64_w, i32_w]
       rfl
      refine pure_ (i := 5) (N := some 29) (v := ?_) (a' := ?_) #[false, true, false, false, true, true, false, false, false] rfl rfl (by kernel_rfl) (fun _ _ _ h => h) (Or.inl ⟨by rfl, ?_⟩) ?_ ?_
      rotate_left
      ·intro w'
       go_simp
       with_reducible rfl
      rotate_left
      ·simp only [Act.put, List.setIfInBounds_toArray, List.set_cons_zero, List.set_cons_succ, i64_w, i32_w]
       rfl
      refine take_ (i := 0) (N := some 24) (v := ?_) (a' := ?_) #[true, true, false, false, true, true, false, false, false] rfl rfl (by kernel_rfl) (fun _ _ _ h => h) (Or.inl ⟨by rfl, ?_⟩) hHeld ?_ ?_
      rotate_left
      ·rintro w' ⟨s0, s1⟩
       go_simp
       with_reducible rfl
      rotate_left
      ·simp only [Act.put, List.setIfInBounds_toArray, List.set_cons_zero, List.set_cons_succ, i64_w, i32_w]
       rfl
      refine pure_ (i := 2) (N := some 26) (v := ?_) (a' := ?_) #[true, true, true, false, true, true, false, false, false] rfl rfl (by kernel_rfl) (fun _ _ _ h => h) (Or.inl ⟨by rfl, ?_⟩) ?_ ?_
      rotate_left
      ·intro w'
       go_simp
       with_reducible rfl
      rotate_left
      ·simp only [Act.put, List.setIfInBounds_toArray, List.set_cons_zero, List.set_cons_succ, i64_w, i32_w]
       rfl
      refine take_ (i := 3) (N := some 27) (v := ?_) (a' := ?_) #[true, true, true, true, true, true, false, false, false] rfl rfl (by kernel_rfl) (fun _ _ _ h => h) (Or.inl ⟨by rfl, ?_⟩) hHeld ?_ ?_
      rotate_left
      ·rintro w' ⟨s0, s1⟩
       go_simp
       with_reducible rfl
      rotate_left
      ·simp only [Act.put, List.setIfInBounds_toArray, List.set_cons_zero, List.set_cons_succ, i64_w, i32_w]
       rfl
      refine pure_ (i := 6) (N := some 30) (v := ?_) (a' := ?_) #[true, true, true, true, true, true, true, false, false] rfl rfl (by kernel_rfl) (fun _ _ _ h => h) (Or.inl ⟨by rfl, ?_⟩) ?_ ?_
      rotate_left
      ·intro w'
       go_simp
       with_reducible rfl
      rotate_left
      ·simp only [Act.put, List.setIfInBounds_toArray, List.set_cons_zero, List.set_cons_succ, i64_w, i32_w]
       rfl
      refine pure_ (i := 7) (N := some 31) (v := ?_) (a' := ?_) #[true, true, true, true, true, true, true, true, false] rfl rfl (by kernel_rfl) (fun _ _ _ h => h) (Or.inl ⟨by rfl, ?_⟩) ?_ ?_
      rotate_left
      ·intro w'
       go_simp
       with_reducible rfl
      rotate_left
      ·simp only [Act.put, List.setIfInBounds_toArray, List.set_cons_zero, List.set_cons_succ, i64_w, i32_w]
       rfl
      refine last_ (i := 8) (N := none) #[true, true, true, true, true, true, true, true, true] rfl rfl (by kernel_rfl) (by decide) (fun K hK => ?_)
      refine skip_ (w1 := ?_) (by rfl) rfl ?_ ?_
      rotate_left
      ·go_simp
       rfl
      refine hK.out _ _ ?_
      clear hK K
      refine done_ (by kernel_rfl) ?_
      go_wp2
      go_roundg k1
      case measure => omega
      case rel => exact ⟨x + 1, o.set x.toNat (Go.bits .or .i64 (rd o x) ji), by first | rfl | (rw [hnw]) | (rw [hnw2]), ⟨by have := HK.out; omega⟩, ⟨by rw [HE.out]; exact HES2.out⟩, ⟨by rw [List.length_set]; exact HLO.out⟩, ⟨Kd.R_drew (impl_ruleMasks.R_other (n2 := own.length) (c2 := own.length) HV.out hne HPO.out.2)⟩, ⟨Kd.R_drew HPO.out.1⟩, ⟨(impl_ruleMasks.Boxes.grown HX.out HO.out HPO.out.2).drewN 1⟩, ⟨below_drew1 (below_set HB.out hbo)⟩⟩
   ·rw [if_neg hpos] at H2
    exact absurd H2 (by simp)
 | succ d ih =>
  intro a vals out vals' out' w ha hd hn hlv hlo hV hO hX hB h
  have ha1 : ¬ a = (own.length : Int) := by omega
  have hae : (a == (own.length : Int)) = false := beq_eq_false_iff_ne.mpr ha1
  have HA := Aside0.mk (show (own.length : Int) - (d + 1 : Nat) = a ∧ 0 ≤ a ∧ a < (own.length : Int) from ⟨ha, by omega, by omega⟩)
  have HD := Aside0.mk (show d ≤ own.length by omega)
  have HN := Aside0.mk hn
  have HLV := Aside0.mk hlv
  have HLO := Aside0.mk hlo
  have HV := Aside0.mk hV
  have HO := Aside0.mk hO
  have HX := Aside0.mk hX
  have HB := Aside0.mk hB
  unfold impl_ruleMasks.try_ at h
  rw [ha] at h
  have H := Aside0.mk h
  have hcO : w.cell? ⟨gown, 0, none⟩ = some (.slice Ao own.length co) := (blk_cell hX.1 0).trans rfl
  clear ha ha1 hd hn hlv hlo hV hO hX hB h
  have IH := Aside0.mk ih
  clear ih
  go_enter Try.func95, Try.ntmps95
  go_wp2
  go_loopg [9] 4 (fun kq v9 w' => ∃ (x : Int) (vs o : List Int), v9 = .int .i64 x ∧ Aside0 (1 ≤ x ∧ x + (kq : Int) = 5) ∧ Aside0 (impl_ruleMasks.tryV (impl_ruleMasks.try_ k a0_0 l0_1 a0_2 own d) (rd own a) a.toNat kq x vs o = some (vals', out')) ∧ Aside0 (vs.length = own.length) ∧ Aside0 (o.length = own.length) ∧ Aside0 (Kd.R (Kd.int .i64) 3 w' w0.heap.size (fun k => k = gv) (.slice (some ⟨gv, 0, none⟩) own.length cv) vs) ∧ Aside0 (Kd.R (Kd.int .i64) 3 w' w0.heap.size (fun k => k = go) (.slice (some ⟨go, 0, none⟩) own.length cu) o) ∧ Aside0 (impl_ruleMasks.Boxes w' gown gr gval gout gtry gv go cv cu Ao co own.length a0_0 Ac cc l0_1.length a0_2) ∧ Aside0 (Below w0.heap.size w0 w'))
  case atStart => exact ⟨1, vals, out, rfl, ⟨by omega⟩, H, HLV, HLO, HV, HO, HX, HB⟩
  case round =>
   clear hcO HV HO HX HB HLO HLV H
   obtain ⟨x, vs, o, rfl, HK, HE, HLV, HLO, HV, HO, HX, HB⟩ := hrel
   cases gk with
   | zero =>
    have h1b : decide ((x : Int) ≤ 4) = false := decide_eq_false (by have := HK.out; omega)
    have HE2 := HE.out
    unfold impl_ruleMasks.tryV at HE2
    simp only [Option.some.injEq, Prod.mk.injEq] at HE2
    obtain ⟨rfl, rfl⟩ := HE2
    go_wp2
    first | go_end0 | ((try simp only [Exit.inBlock, Exit.then]); refine bodyPost_ret (results_none rfl _ _ _) rfl ?_)
    exact ⟨rfl, HLV.out, HLO.out, HV.out, HO.out, HX.out, HB.out⟩
   | succ k1 =>
    have h1b : decide ((x : Int) ≤ 4) = true := decide_eq_true (by have := HK.out; omega)
    have h0 : 0 ≤ a := HA.out.2.1
    have h1 : a < (own.length : Int) := HA.out.2.2
    have hx0 : 0 ≤ x := by have := HK.out; omega
    have hcO := (blk_cell HX.out.1 0).trans (rfl : _ = some (Value.slice Ao own.length co))
    obtain ⟨ad, eA, hxA⟩ := Kd.at_int (Kd.C_below HRO.out HB.out) a h0 h1
    have hnw : wrap64 (x + 1) = x + 1 := by have := HK.out; unfold wrap64; omega
    have hnw2 : IntKind.i64.wrap (x + 1) = x + 1 := by rw [i64_w]; exact hnw
    have p0 := eq_true h0
    have p1 := eq_true h1
    have p2 := eq_true hx0
    have p2b : decide (0 ≤ x) = true := decide_eq_true hx0
    have HE2 := HE.out
    rw [impl_ruleMasks.tryV] at HE2
    obtain ⟨ji, hji⟩ : ∃ j_ : Int, (shr .i64 (rd own a) x) = j_ := ⟨_, rfl⟩
    rw [hji] at HE2
    have hji_ : ((rd own a) / 2 ^ min x.toNat 64) = ji := hji
    clear hji
    by_cases hbit : Go.bits .and .i64 ji 1 = 1
    ·rw [if_pos hbit] at HE2
     obtain ⟨⟨t1, t2⟩, hT, HE3⟩ := Option.bind_eq_some_iff.1 HE2
     have hbb : (Go.bits .and .i64 ji 1 == 1) = true := beq_iff_eq.mpr hbit
     have HT := Aside0.mk hT
     have HE4 := Aside0.mk HE3
     have hcV := (blk_cell HX.out.2.2.1 0).trans (rfl : _ = some (Value.slice (some ⟨gv, 0, none⟩) own.length cv))
     obtain ⟨hxV, hfV⟩ := Kd.R_celln 0 HV.out a h0 h1
     have HPV := Aside0.mk (Kd.R_putg HV.out a x)
     have HX2 := Aside0.mk (impl_ruleMasks.Boxes.grown HX.out HV.out HPV.out.2)
     have HO2 := Aside0.mk (impl_ruleMasks.R_other (n2 := own.length) (c2 := own.length) HO.out (fun e => hne e.symm) HPV.out.2)
     have HB2 := Aside0.mk (below_set (j := a.toNat) (v := .int .i64 x) HB.out hbv)
     have hcT := (blk_cell HX2.out.2.2.2.2 0).trans (rfl : _ = some (Value.func (.func 95) #[] #[.pointer (some ⟨gown, 0, none⟩), .pointer (some ⟨gr, 0, none⟩), .pointer (some ⟨gval, 0, none⟩), .pointer (some ⟨gout, 0, none⟩), .pointer (some ⟨gtry, 0, none⟩)]))
     have haw : wrap64 (a + 1) = a + 1 := by have := HN.out; unfold wrap64; omega
     have haw2 : IntKind.i64.wrap (a + 1) = a + 1 := by rw [i64_w]; exact haw
     clear h0 h1 hx0 HE2 HE3 hT hbit HE
     cases eA
     go_wp2_with (first | (go_at_call 95; (refine (IH.out (a + 1) (vs.set a.toNat x) o t1 t2 _ (by have := HA.out.1; omega) HD.out HN.out (by rw [List.length_set]; exact HLV.out) HLO.out HPV.out.1 HO2.out HX2.out HB2.out HT.out).mono ?_); rintro e w' ⟨rfl, HL1, HL2, hV, hO, hX, hB⟩; have HV3 := Aside0.mk hV; have HO3 := Aside0.mk hO; have HX3 := Aside0.mk hX; have HB3 := Aside0.mk hB; have HLV3 := Aside0.mk HL1; have HLO3 := Aside0.mk HL2; clear hV hO hX hB HL1 HL2))
     go_roundg k1
     case measure => omega
     case rel => exact ⟨x + 1, t1, t2, by first | rfl | (rw [hnw]) | (rw [hnw2]), ⟨by have := HK.out; omega⟩, HE4, HLV3, HLO3, HV3, HO3, HX3, HB3⟩
    ·rw [if_neg hbit] at HE2
     have hbb : (Go.bits .and .i64 ji 1 == 1) = false := beq_eq_false_iff_ne.mpr hbit
     have HE4 := Aside0.mk HE2
     clear h0 h1 hx0 HE2 hbit HE
     cases eA
     go_wp2
     go_roundg k1
     case measure => omega
     case rel => exact ⟨x + 1, vs, o, by first | rfl | (rw [hnw]) | (rw [hnw2]), ⟨by have := HK.out; omega⟩, HE4, HLV, HLO, HV, HO, HX, HB⟩
/-- A new variable in memory, filled at once. -/
theorem impl_ruleMasks.newBox (W : World) (z v : Value) (t : TypeId) : Below W.heap.size W ((W.alloc (.cells #[z] t)).setCell ⟨W.heap.size, 0, none⟩ v) ∧ ((W.alloc (.cells #[z] t)).setCell ⟨W.heap.size, 0, none⟩ v).heap[W.heap.size]? = some (.cells #[v] t (0, 0)) ∧ (W.alloc (.cells #[z] t)).cell? ⟨W.heap.size, 0, none⟩ = some z ∧ (W.alloc (.cells #[z] t)).frozen? ⟨W.heap.size, 0, none⟩ = false :=
 ⟨below_set (below_alloc (Below.refl _ _) _) (Nat.le_refl _), by simpa using blk_set (heap_alloc_new W (.cells #[z] t)) 0 v, (blk_cell (heap_alloc_new W (.cells #[z] t)) 0).trans rfl, blk_frozen (heap_alloc_new W (.cells #[z] t)) 0⟩
def impl_ruleMasks.f (k : Nat) (a0_0 : Int) (l0_1 : List Int) (a0_2 : Int) (l1 : List Int) : Option (List Int) :=
 if 0 < l1.length ∧ l1.length ≤ 100000 then (impl_ruleMasks.try_ k a0_0 l0_1 a0_2 l1 l1.length (List.replicate l1.length 0) (List.replicate l1.length 0)).bind fun t => some t.2 else none
set_option maxHeartbeats 8000000 in
set_option maxRecDepth 100000 in
theorem impl_ruleMasks.calls (k : Nat) (a0_0 : Int) (A0_1 : Option Addr) (c0_1 : Nat) (l0_1 : List Int) (a0_2 : Int) (A1 : Option Addr) (c1 : Nat) (l1 : List Int) (r : List Int) (w : World) (hr0_1 : Kd.C (Kd.int .i64) w A0_1 l0_1.length l0_1) (hc0_1 : l0_1.length ≤ c0_1) (hr1 : Kd.C (Kd.int .i64) w A1 l1.length l1) (hc1 : l1.length ≤ c1) (h : impl_ruleMasks.f k a0_0 l0_1 a0_2 l1 = some r) :
  Calls Try.prog 92 #[.agg #[.int .i64 a0_0, .slice A0_1 l0_1.length c0_1, .int .i64 a0_2], .slice A1 l1.length c1] w fun e w' => ∃ v0_ : Value, e = .returned (v0_) ∧ Kd.R (Kd.int .i64) 3 w' w.heap.size (fun _ => True) v0_ r ∧ Below w.heap.size w w' := by
 unfold impl_ruleMasks.f at h
 by_cases hc : 0 < l1.length ∧ l1.length ≤ 100000
 ·rw [if_pos hc] at h
  obtain ⟨⟨t1, t2⟩, hT, h⟩ := Option.bind_eq_some_iff.1 h
  obtain rfl := Option.some.inj h
  have HT := Aside0.mk hT
  have HN := Aside0.mk hc
  have HR0 := Aside0.mk hr0_1
  have HC0 := Aside0.mk hc0_1
  have HR1 := Aside0.mk hr1
  have hu32 := Try.underlying73
  clear h hT hc hr0_1 hc0_1 hr1 hc1
  have HB := Aside0.mk (Below.refl w.heap.size w)
  go_enter Try.func92, Try.ntmps92
  go_upto_region 1 with (first
   | ((with_reducible refine gate_dst (N := 2) rfl ?_); refine box_event ?hg (N := 2) ?hd (cs := #[.int .i64 a0_0, .slice A0_1 l0_1.length c0_1, .int .i64 a0_2]) (t := 73) ?hr ?_; (case hd => rfl); (case hg => rfl); (case hr => first | (go_simp; done) | (go_simp; rfl)); intro gr hg w5 hbox hb; have n0_ := Aside0.mk (below_step HB.out hb); have BR := Aside0.mk hbox; clear HB; have HB := n0_; clear n0_ hb hbox hg)
   | ((with_reducible refine gate_dst (N := 3) rfl ?_); refine box_event ?hg (N := 3) ?hd (cs := #[.slice A1 l1.length c1]) (t := 22) ?hr ?_; (case hd => rfl); (case hg => rfl); (case hr => first | (go_simp; done) | (go_simp; rfl)); intro gown hg w6 hbox hb; have n0_ := Aside0.mk (below_step HB.out hb); have BO := Aside0.mk hbox; have n1_ := Aside0.mk (blk_below BR.out hb); clear HB BR; have HB := n0_; have BR := n1_; clear n0_ n1_ hb hbox hg))
  (try simp only [Act.put, List.setIfInBounds_toArray, List.set_cons_zero, List.set_cons_succ])
  have hcO := (blk_cell BO.out 0).trans (rfl : _ = some (Value.slice A1 l1.length c1))
  go_upto_region 2 with (first
   | ((with_reducible refine gate_dst (N := 10) rfl ?_); refine Kd.R_make (Kd.int .i64) _ 3 rfl (N := 10) rfl 22 _ _ rfl (l1.length : Int) rfl rfl Try.underlying22 (.int .i64 0) 8 info3 rfl (by decide) (by omega) 0 (ok := fun _ => True) (okp := fun _ => False) rfl (fun _ hk => hk.elim) trivial (by omega) (by have := HN.out; omega) (Below.refl _ _) (Nat.le_refl _) ?_; intro v10 w10 ho10 hb hg_ hnew_; clear hg_ hnew_; obtain ⟨go, cu, e10, _, _, _⟩ := Kd.R_form ho10 (by have := HN.out; simp; omega); simp only [List.length_replicate, Int.toNat_natCast] at e10 ho10; subst e10; have n0_ := Aside0.mk (below_step HB.out hb); have n1_ := Aside0.mk (blk_below BR.out hb); have n2_ := Aside0.mk (blk_below BO.out hb); have n3_ := Aside0.mk (Kd.R_lower ho10 (below_size HB.out)); clear HB BR BO hcO ho10 hb; have HB := n0_; have BR := n1_; have BO := n2_; have HO := n3_; clear n0_ n1_ n2_ n3_; have hcz := (impl_ruleMasks.newBox w10 (.slice none 0 0) (.int .i64 0) 22).2.2.1; have hfz := (impl_ruleMasks.newBox w10 (.slice none 0 0) (.int .i64 0) 22).2.2.2))
  have n0_ := Aside0.mk (show Below w.heap.size w (w10.alloc (Obj.cells #[Value.slice (some ⟨go, 0, none⟩) l1.length cu] 22)) from below_alloc HB.out _)
  have n1_ := Aside0.mk (show (w10.alloc (Obj.cells #[Value.slice (some ⟨go, 0, none⟩) l1.length cu] 22)).heap[gr]? = _ from blk_alloc BR.out _)
  have n2_ := Aside0.mk (show (w10.alloc (Obj.cells #[Value.slice (some ⟨go, 0, none⟩) l1.length cu] 22)).heap[gown]? = _ from blk_alloc BO.out _)
  have n3_ := Aside0.mk (show Kd.R (Kd.int .i64) 3 (w10.alloc (Obj.cells #[Value.slice (some ⟨go, 0, none⟩) l1.length cu] 22)) w.heap.size _ _ _ from Kd.R_alloc HO.out _)
  have n4_ := Aside0.mk (show (w10.alloc (Obj.cells #[Value.slice (some ⟨go, 0, none⟩) l1.length cu] 22)).heap[w10.heap.size]? = _ from heap_alloc_new w10 _)
  clear HB BR BO HO hcz hfz
  have HB := n0_
  have BR := n1_
  have BO := n2_
  have HO := n3_
  have BU := n4_
  clear n0_ n1_ n2_ n3_ n4_
  generalize w10.alloc (Obj.cells #[Value.slice (some ⟨go, 0, none⟩) l1.length cu] 22) = W1 at HB BR BO HO BU ⊢
  generalize w10.heap.size = gout at BU ⊢
  have hcO := (blk_cell BO.out 0).trans (rfl : _ = some (Value.slice A1 l1.length c1))
  go_upto_region 3 with (first
   | ((with_reducible refine gate_dst (N := 13) rfl ?_); refine Kd.R_make (Kd.int .i64) _ 3 rfl (N := 13) rfl 22 _ _ rfl (l1.length : Int) rfl rfl Try.underlying22 (.int .i64 0) 8 info3 rfl (by decide) (by omega) 0 (ok := fun _ => True) (okp := fun _ => False) rfl (fun _ hk => hk.elim) trivial (by omega) (by have := HN.out; omega) (Below.refl _ _) (Nat.le_refl _) ?_; intro v13 w13 ho13 hb hg_ hnew_; clear hg_; obtain ⟨gv, cv, e13, _, _, _⟩ := Kd.R_form ho13 (by have := HN.out; simp; omega); simp only [List.length_replicate, Int.toNat_natCast] at e13 ho13; subst e13; have HNE := Aside0.mk (show go < W1.heap.size ∧ W1.heap.size ≤ gv from ⟨Kd.R_lt HO.out go rfl, by obtain ⟨b_, e_, l_⟩ := hnew_; simp [Value.ownBlock] at e_; omega⟩); have n0_ := Aside0.mk (below_step HB.out hb); have n1_ := Aside0.mk (blk_below BR.out hb); have n2_ := Aside0.mk (blk_below BO.out hb); have n3_ := Aside0.mk (Kd.R_lower ho13 (below_size HB.out)); have n4_ := Aside0.mk (Kd.R_below HO.out hb); have n5_ := Aside0.mk (blk_below BU.out hb); clear HB BR BO HO BU hcO ho13 hb hnew_; have HB := n0_; have BR := n1_; have BO := n2_; have HV := n3_; have HO := n4_; have BU := n5_; clear n0_ n1_ n2_ n3_ n4_ n5_; have hcz := (impl_ruleMasks.newBox w13 (.slice none 0 0) (.int .i64 0) 22).2.2.1; have hfz := (impl_ruleMasks.newBox w13 (.slice none 0 0) (.int .i64 0) 22).2.2.2))
  have n0_ := Aside0.mk (show Below w.heap.size w (w13.alloc (Obj.cells #[Value.slice (some ⟨gv, 0, none⟩) l1.length cv] 22)) from below_alloc HB.out _)
  have n1_ := Aside0.mk (show (w13.alloc (Obj.cells #[Value.slice (some ⟨gv, 0, none⟩) l1.length cv] 22)).heap[gr]? = _ from blk_alloc BR.out _)
  have n2_ := Aside0.mk (show (w13.alloc (Obj.cells #[Value.slice (some ⟨gv, 0, none⟩) l1.length cv] 22)).heap[gown]? = _ from blk_alloc BO.out _)
  have n3_ := Aside0.mk (show Kd.R (Kd.int .i64) 3 (w13.alloc (Obj.cells #[Value.slice (some ⟨gv, 0, none⟩) l1.length cv] 22)) w.heap.size _ _ _ from Kd.R_alloc HO.out _)
  have n4_ := Aside0.mk (show (w13.alloc (Obj.cells #[Value.slice (some ⟨gv, 0, none⟩) l1.length cv] 22)).heap[gout]? = _ from blk_alloc BU.out _)
  have n5_ := Aside0.mk (show (w13.alloc (Obj.cells #[Value.slice (some ⟨gv, 0, none⟩) l1.length cv] 22)).heap[w13.heap.size]? = _ from heap_alloc_new w13 _)
  have n6_ := Aside0.mk (show Kd.R (Kd.int .i64) 3 (w13.alloc (Obj.cells #[Value.slice (some ⟨gv, 0, none⟩) l1.length cv] 22)) w.heap.size _ _ _ from Kd.R_alloc HV.out _)
  clear HB BR BO HO BU HV hcz hfz
  have HB := n0_
  have BR := n1_
  have BO := n2_
  have HO := n3_
  have BU := n4_
  have BV := n5_
  have HV := n6_
  clear n0_ n1_ n2_ n3_ n4_ n5_ n6_
  generalize w13.alloc (Obj.cells #[Value.slice (some ⟨gv, 0, none⟩) l1.length cv] 22) = W2 at HB BR BO HO BU BV HV ⊢
  generalize w13.heap.size = gval at BV ⊢
  have hcz := (impl_ruleMasks.newBox W2 .nilFunc (.int .i64 0) 93).2.2.1
  have hfz := (impl_ruleMasks.newBox W2 .nilFunc (.int .i64 0) 93).2.2.2
  have hsf := fun (a : Addr) (c : Array Value) (w : World) => run_store Try.prog w a (.func (.func 95) #[] c) .plain rfl
  go_upto_region 5 with (fail)
  clear hsf
  clear hcz hfz
  have n0_ := Aside0.mk (show Below w.heap.size w (W2.alloc (Obj.cells #[(Value.func (.func 95) #[] #[.pointer (some ⟨gown, 0, none⟩), .pointer (some ⟨gr, 0, none⟩), .pointer (some ⟨gval, 0, none⟩), .pointer (some ⟨gout, 0, none⟩), .pointer (some ⟨W2.heap.size, 0, none⟩)])] 93)) from below_alloc HB.out _)
  have n3_ := Aside0.mk (show Kd.R (Kd.int .i64) 3 (W2.alloc (Obj.cells #[(Value.func (.func 95) #[] #[.pointer (some ⟨gown, 0, none⟩), .pointer (some ⟨gr, 0, none⟩), .pointer (some ⟨gval, 0, none⟩), .pointer (some ⟨gout, 0, none⟩), .pointer (some ⟨W2.heap.size, 0, none⟩)])] 93)) w.heap.size (fun k_ => k_ = go) _ _ from Kd.R_alloc (Kd.R_mono (Kd.R_tight rfl HO.out) (fun k_ hk_ => by simpa [Value.ownBlock] using hk_)) _)
  have n6_ := Aside0.mk (show Kd.R (Kd.int .i64) 3 (W2.alloc (Obj.cells #[(Value.func (.func 95) #[] #[.pointer (some ⟨gown, 0, none⟩), .pointer (some ⟨gr, 0, none⟩), .pointer (some ⟨gval, 0, none⟩), .pointer (some ⟨gout, 0, none⟩), .pointer (some ⟨W2.heap.size, 0, none⟩)])] 93)) w.heap.size (fun k_ => k_ = gv) _ _ from Kd.R_alloc (Kd.R_mono (Kd.R_tight rfl HV.out) (fun k_ hk_ => by simpa [Value.ownBlock] using hk_)) _)
  have n7_ := Aside0.mk (show impl_ruleMasks.Boxes (W2.alloc (Obj.cells #[(Value.func (.func 95) #[] #[.pointer (some ⟨gown, 0, none⟩), .pointer (some ⟨gr, 0, none⟩), .pointer (some ⟨gval, 0, none⟩), .pointer (some ⟨gout, 0, none⟩), .pointer (some ⟨W2.heap.size, 0, none⟩)])] 93)) gown gr gval gout W2.heap.size gv go cv cu A1 c1 l1.length a0_0 A0_1 c0_1 l0_1.length a0_2 from ⟨blk_alloc BO.out _, blk_alloc BR.out _, blk_alloc BV.out _, blk_alloc BU.out _, heap_alloc_new W2 _⟩)
  have gv0 := Kd.R_base HV.out gv rfl
  have go0 := Kd.R_base HO.out go rfl
  clear HB HO HV BR BO BU BV
  have HB := n0_
  have HO := n3_
  have HV := n6_
  have HX := n7_
  clear n0_ n3_ n6_ n7_
  generalize (W2.alloc (Obj.cells #[(Value.func (.func 95) #[] #[.pointer (some ⟨gown, 0, none⟩), .pointer (some ⟨gr, 0, none⟩), .pointer (some ⟨gval, 0, none⟩), .pointer (some ⟨gout, 0, none⟩), .pointer (some ⟨W2.heap.size, 0, none⟩)])] 93)) = W3 at HB HO HV HX ⊢
  generalize W2.heap.size = gtry at HX ⊢
  have hcT := (blk_cell HX.out.2.2.2.2 0).trans (rfl : _ = some (Value.func (.func 95) #[] #[.pointer (some ⟨gown, 0, none⟩), .pointer (some ⟨gr, 0, none⟩), .pointer (some ⟨gval, 0, none⟩), .pointer (some ⟨gout, 0, none⟩), .pointer (some ⟨gtry, 0, none⟩)]))
  go_wp2_with (first | (go_at_call 95; (refine (impl_ruleMasks.clo k a0_0 A0_1 c0_1 l0_1 a0_2 A1 c1 l1 gown gr gval gout gtry gv go cv cu w (by have := HNE.out; omega) gv0 go0 HR0.out HC0.out HR1.out l1.length 0 (List.replicate l1.length 0) (List.replicate l1.length 0) t1 t2 _ (by omega) (Nat.le_refl _) HN.out.2 (by simp) (by simp) HV.out HO.out HX.out HB.out HT.out).mono ?_); rintro e w' ⟨rfl, HL1, HL2, hV, hO, hX, hB⟩; clear HV HO HX HB hcT hV HL1; have HO := Aside0.mk hO; have HB := Aside0.mk hB; have HL := Aside0.mk HL2; have hcU := (blk_cell hX.2.2.2.1 0).trans (rfl : _ = some (Value.slice (some ⟨go, 0, none⟩) l1.length cu)); clear hO hB hX HL2))
  go_ret
  exact ⟨_, rfl, Kd.R_mono HO.out (fun _ _ => trivial), HB.out⟩
 ·rw [if_neg hc] at h; cases h
/-! ### impl_canHold: function 88 -/
def impl_canHold.l0 : Nat → List Int → Int → List Int → List Int → Int → Int → Int → List Int → Int → Option (Bool)
 | 0, _, _, _, _, _, _, _, _, _ => none
 | k + 1, x1, x2, x7, x12, x13, x14, x164000, x164001, x164002 => if x14 < x13 then (if 0 ≤ x14 then (if x14 < (x12.length : Int) then (if 0 ≤ (rd x12 x14) then (if (rd x12 x14) < (x1.length : Int) then (if (rd x1 (rd x12 x14)) > 0 then (if 0 ≤ (rd x1 (rd x12 x14)) then (if x7.length < 17592186044416 then (impl_canHold.l0 k x1 x2 (x7 ++ [shl .i64 1 (rd x1 (rd x12 x14))]) x12 x13 (wrap64 (x14 + 1)) x164000 x164001 x164002) else (none)) else (none)) else ((impl_allValues.f x2).bind fun t173 => (if x7.length < 17592186044416 then (impl_canHold.l0 k x1 x2 (x7 ++ [t173]) x12 x13 (wrap64 (x14 + 1)) x164000 x164001 x164002) else (none)))) else (none)) else (none)) else (none)) else (none)) else ((impl_ruleMasks.f k x164000 x164001 x164002 x7).bind fun t177 => (if 0 < (t177.length : Int) then (some ((rd t177 0) != 0)) else (none)))
def impl_canHold.f (k : Nat) (a0_0 : Int) (l0_1 : List Int) (a0_2 : Int) (l1 : List Int) (a2 : Int) : Option (Bool) := impl_canHold.l0 k l1 a2 (([] : List Int)) l0_1 (l0_1.length : Int) 0 a0_0 l0_1 a0_2
set_option maxHeartbeats 8000000 in
set_option maxRecDepth 100000 in
theorem impl_canHold.calls (k : Nat) (a0_0 : Int) (A0_1 : Option Addr) (c0_1 : Nat) (l0_1 : List Int) (a0_2 : Int) (A1 : Option Addr) (c1 : Nat) (l1 : List Int) (a2 : Int) (r : Bool) (w : World) (hr0_1 : Kd.C (Kd.int .i64) w A0_1 l0_1.length l0_1) (hc0_1 : l0_1.length ≤ c0_1) (hr1 : Kd.C (Kd.int .i64) w A1 l1.length l1) (hc1 : l1.length ≤ c1) (h : impl_canHold.f k a0_0 l0_1 a0_2 l1 a2 = some r) :
  Calls Try.prog 88 #[.agg #[.int .i64 a0_0, .slice A0_1 l0_1.length c0_1, .int .i64 a0_2], .slice A1 l1.length c1, .int .i64 a2] w fun e w' => e = .returned (.bool r) ∧ Below w.heap.size w w' := by
 have hu73 := Try.underlying73
 have HR0_1 := yam hr0_1
 have HC0_1 := yam hc0_1
 clear hr0_1 hc0_1
 have HR1 := yam hr1
 have HC1 := yam hc1
 clear hr1 hc1
 have HB := yam (Below.refl w.heap.size w)
 have H : (impl_canHold.l0 k l1 a2 (([] : List Int)) l0_1 (l0_1.length : Int) 0 a0_0 l0_1 a0_2) = some r := h
 clear h
 obtain ⟨y164, hy164⟩ : ∃ y_ : List Int, y_ = (([] : List Int)) := ⟨_, rfl⟩
 replace H : (impl_canHold.l0 k l1 a2 y164 l0_1 (l0_1.length : Int) 0 a0_0 l0_1 a0_2) = some r := by first | (rw [hy164]; with_reducible exact H) | (have H2_ := (Option.bind_some _ _).symm.trans H; rw [hy164]; with_reducible exact H2_) | (have H2_ := (Option.bind_some _ _).symm.trans H; with_reducible exact H2_) | with_reducible exact H | (rw [hy164]; exact H) | exact H
 have Ny164 := yam hy164
 clear hy164
 have H' := yam H
 clear H
 go_enter Try.func88, Try.ntmps88
 go_wp2_with (first | ((with_reducible refine gate_dst (N := 3) rfl ?_); refine box_event ?hg (N := 3) ?hd (cs := #[.int .i64 a0_0, .slice A0_1 l0_1.length c0_1, .int .i64 a0_2]) (t := 73) ?hr ?_; (case hd => rfl); (case hg => rfl); (case hr => first | (go_simp; done) | (go_simp; rfl)); intro gb163 hg w4 hbox hb; have n0_ := yam (below_step (yez HB.out) hb); have n1_ := yam (hbox); have n2_ := yam ((by rw [hg]; exact (below_size (yez HB.out)) : w.heap.size ≤ gb163)); have n3_ := n2_; clear HB; have HB := n0_; have BK163 := n1_; have GW163 := n2_; have GE163 := n3_; clear n0_ n1_ n2_ n3_; clear hb hbox hg) | ((with_reducible refine gate_dst (N := 10) rfl ?_); refine Kd.R_lit (Kd.int .i64) _ 3 ?hg (N := 10) ?hd (xs := ([] : List Int)) (inner := []) (ok := fun _ => True) (okp := fun _ => True) ?hr ?hp (fun _ hk => hk) trivial (Below.refl _ _) (Nat.le_refl _) (by simp) ?_; (case hd => rfl); (case hg => rfl); (case hr => first | (go_simp; done) | (go_simp; rfl)); (case hp => exact (Reps.none _ _)); intro v165 w5 ho6 hb hg_ hnew_; clear hg_ hnew_; (first | rw [← Ny164.out] at ho6 | (simp only [Int.reduceToNat] at ho6; rw [← Ny164.out] at ho6)); have n0_ := yam (Kd.R_lower ho6 (below_size yhb)); have n1_ := yam (blk_below (g := gb163) (o := .cells #[.int .i64 a0_0, .slice A0_1 l0_1.length c0_1, .int .i64 a0_2] 73 (0, 0)) (ybz BK163.out) hb); have n2_ := yam (below_step yhb hb); clear BK163; clear HB; have HO166 := n0_; have BK163 := n1_; have HB := n2_; clear n0_ n1_ n2_; clear hb ho6; obtain ⟨hcz7_0, hcz7_1, hcz7_2, hfz7_0, hfz7_1, hfz7_2⟩ := ybc BK163.out))
 go_loopg [7, 14] k (fun kq v7 v14 w' => ∃ (x7_1 : List Int) (x14_1 : Int), v14 = .int .i64 x14_1 ∧ Aside0 (impl_canHold.l0 kq l1 a2 x7_1 l0_1 (l0_1.length : Int) x14_1 a0_0 l0_1 a0_2 = some r) ∧ Aside0 (kq ≤ k) ∧ Aside0 (Kd.R (Kd.int .i64) 3 w' w.heap.size (fun _ => True) v7 x7_1) ∧ Aside0 (w'.heap[gb163]? = some (.cells #[.int .i64 a0_0, (.slice A0_1 l0_1.length c0_1), .int .i64 a0_2] 73 (0, 0))) ∧ Aside0 (Below w.heap.size w w'))
 case atStart => exact ⟨(y164), (0), yeq, H', ⟨Nat.le_refl _⟩, ⟨by (with_reducible repeat (first | apply Kd.Ya | apply Kd.Yn | apply Kd.Yd)); exact HO166.out⟩, ⟨by (with_reducible repeat (first | refine ybn ?_ _ | refine ybd ?_ | refine yba ?_ _)); exact BK163.out⟩, ⟨yhb⟩⟩
 case round =>
  clear H'
  try clear c1
  try clear p2
  try clear hcz7_0
  try clear hcz7_1
  try clear hcz7_2
  try clear hfz7_0
  try clear hfz7_1
  try clear hfz7_2
  obtain ⟨x7_1, x14_1, rfl, HA, HK1, HO_7, BK163, HB⟩ := hrel
  cases gk with
  | zero => exact absurd HA.out (by simp [impl_canHold.l0])
  | succ k1 =>
   have H := HA.out
   clear HA
   simp only [impl_canHold.l0] at H
   by_cases c8 : x14_1 < (l0_1.length : Int)
   rotate_left
   ·rw [if_neg c8] at H
    have c8b0 : decide (x14_1 < (l0_1.length : Int)) = false := decide_eq_false c8
    clear c8
    replace H := Option.bind_eq_some_iff.mp H
    obtain ⟨t177, A210, H⟩ := H
    try dsimp only at H
    have A21 := yam A210
    clear A210
    by_cases c22 : 0 < (t177.length : Int)
    rotate_left
    ·rw [if_neg c22] at H
     exact absurd H (by simp)

    rw [if_pos c22] at H
    have c22b0 : decide (0 < (t177.length : Int)) = true := decide_eq_true c22
    have c22b1 : decide (0 < t177.length) = true := decide_eq_true (by omega)
    clear c22
    obtain rfl := Option.some.inj H
    obtain ⟨hcz23_0, hcz23_1, hcz23_2, hfz23_0, hfz23_1, hfz23_2⟩ := ybc BK163.out
    obtain ⟨Ao24, co24, eo24⟩ := Kd.R_slice HO_7.out
    subst eo24
    go_wp2_with (first | ((with_reducible refine gate_callee (f := 92) rfl ?_); refine goesL_ (some 39) rfl rfl Try.func92 (by kernel_rfl) rfl #[.agg #[.int .i64 a0_0, .slice A0_1 l0_1.length c0_1, .int .i64 a0_2], .slice Ao24 x7_1.length co24] rfl (by (try simp only [List.map_toArray, List.map_cons, List.map_nil]); first | done | rfl | (simp only [List.length_drop, List.length_take]; rfl)) ?_; (with_reducible refine (impl_ruleMasks.calls k1 a0_0 _ _ l0_1 a0_2 _ _ x7_1 t177 _ ?side1 ?side2 ?side3 ?side4 A21.out).mono ?_); (case side1 => exact Kd.Cz ((Kd.C_below HR0_1.out HB.out))); (case side2 => exact HC0_1.out); (case side3 => repeat (first | exact (Kd.Yr HO_7.out).2.2 | (with_reducible refine Kd.C_alloc ?_ _) | (with_reducible refine Kd.C_drewN ?_ _) | (with_reducible refine Kd.C_drew ?_))); (case side4 => exact (Kd.Yr HO_7.out).2.1); rintro e w25 ⟨v178, rfl, ho0, hb⟩; refine ⟨_, rfl, ?_⟩; have n0_ := yam (Kd.Ye (Kd.Yz HO_7.out) (Kd.Yb ho0) hb); have n1_ := yam (Kd.R_lower (Kd.Yw ho0 (Kd.R_lt (Kd.Yz HO_7.out))) (below_size yhb)); have n2_ := yam (blk_below (g := gb163) (o := .cells #[.int .i64 a0_0, .slice A0_1 l0_1.length c0_1, .int .i64 a0_2] 73 (0, 0)) (ybz BK163.out) hb); have n3_ := yam (below_step yhb hb); clear HO_7; clear BK163; clear HB; have HO_7 := n0_; have HO179 := n1_; have BK163 := n2_; have HB := n3_; clear n0_ n1_ n2_ n3_; (try clear hb); (try clear hb2); (try clear hk); (try clear hi); (try clear ho0); obtain ⟨Ao26, co26, eo26⟩ := Kd.R_slice HO179.out; subst eo26; have p180 : 0 ≤ (0 : Int) := (by omega); have q180 : 0 < (t177.length : Int) := of_decide_eq_true (by first | (with_reducible assumption) | assumption); obtain ⟨ad180, e180, hx180_0⟩ := Kd.at_int (Kd.Yr HO179.out).2.2 0 p180 q180; cases e180; have qi180 : (0 < t177.length) = True := eq_true (by omega); (try rw [show ((0 : Int)).toNat = 0 from rfl] at hx180_0); (try rw [Addr.add_zero'] at hx180_0); replace p180 := eq_true p180; replace q180 := eq_true q180))
    go_ret
    exact ⟨yer, yhb⟩
   rw [if_pos c8] at H
   have c8b0 : decide (x14_1 < (l0_1.length : Int)) = true := decide_eq_true c8
   clear c8
   by_cases c9 : 0 ≤ x14_1
   rotate_left
   ·rw [if_neg c9] at H
    exact absurd H (by simp)
   rw [if_pos c9] at H
   have c9b0 : decide (0 ≤ x14_1) = true := decide_eq_true c9
   clear c9
   by_cases c10 : x14_1 < (l0_1.length : Int)
   rotate_left
   ·rw [if_neg c10] at H
    exact absurd H (by simp)
   rw [if_pos c10] at H
   have c10b0 : decide (x14_1 < (l0_1.length : Int)) = true := decide_eq_true c10
   clear c10
   by_cases c11 : 0 ≤ (rd l0_1 x14_1)
   rotate_left
   ·rw [if_neg c11] at H
    exact absurd H (by simp)
   rw [if_pos c11] at H
   have c11b0 : decide (0 ≤ (rd l0_1 x14_1)) = true := decide_eq_true c11
   clear c11
   by_cases c12 : (rd l0_1 x14_1) < (l1.length : Int)
   rotate_left
   ·rw [if_neg c12] at H
    exact absurd H (by simp)
   rw [if_pos c12] at H
   have c12b0 : decide ((rd l0_1 x14_1) < (l1.length : Int)) = true := decide_eq_true c12
   clear c12
   by_cases c13 : (rd l1 (rd l0_1 x14_1)) > 0
   rotate_left
   ·rw [if_neg c13] at H
    have c13b0 : decide (0 < (rd l1 (rd l0_1 x14_1))) = false := decide_eq_false c13
    clear c13
    replace H := Option.bind_eq_some_iff.mp H
    obtain ⟨t173, A180, H⟩ := H
    try dsimp only at H
    have A18 := yam A180
    clear A180
    by_cases c19 : x7_1.length < 17592186044416
    rotate_left
    ·rw [if_neg c19] at H
     exact absurd H (by simp)
    rw [if_pos c19] at H
    have LMc19 := yam c19
    clear c19
    obtain ⟨y174, hy174⟩ : ∃ y_ : List Int, y_ = (x7_1 ++ [t173]) := ⟨_, rfl⟩
    replace H : (impl_canHold.l0 k1 l1 a2 y174 l0_1 (l0_1.length : Int) (wrap64 (x14_1 + 1)) a0_0 l0_1 a0_2) = some r := by first | (rw [hy174]; with_reducible exact H) | (have H2_ := (Option.bind_some _ _).symm.trans H; rw [hy174]; with_reducible exact H2_) | (have H2_ := (Option.bind_some _ _).symm.trans H; with_reducible exact H2_) | with_reducible exact H | (rw [hy174]; exact H) | exact H
    have Ny174 := yam hy174
    clear hy174
    have H' := yam H
    clear H
    have p167 : 0 ≤ (x14_1 : Int) := of_decide_eq_true (by first | (with_reducible assumption) | assumption)
    have q167 : x14_1 < (l0_1.length : Int) := of_decide_eq_true (by first | (with_reducible assumption) | assumption)
    obtain ⟨ad167, e167, hx167_0⟩ := Kd.at_int HR0_1.out x14_1 p167 q167
    cases e167
    replace hx167_0 := ybx HB.out hx167_0
    replace p167 := eq_true p167
    replace q167 := eq_true q167
    have p168 : 0 ≤ ((rd l0_1 x14_1) : Int) := of_decide_eq_true (by first | (with_reducible assumption) | assumption)
    have q168 : (rd l0_1 x14_1) < (l1.length : Int) := of_decide_eq_true (by first | (with_reducible assumption) | assumption)
    obtain ⟨ad168, e168, hx168_0⟩ := Kd.at_int HR1.out (rd l0_1 x14_1) p168 q168
    cases e168
    replace hx168_0 := ybx HB.out hx168_0
    replace p168 := eq_true p168
    replace q168 := eq_true q168
    go_wp2_with (first | ((with_reducible refine gate_callee (f := 91) rfl ?_); refine goesL_ (some 33) rfl rfl Try.func91 (by kernel_rfl) rfl #[.int .i64 a2] rfl (by (try simp only [List.map_toArray, List.map_cons, List.map_nil]); first | done | rfl | (simp only [List.length_drop, List.length_take]; rfl)) ?_; (with_reducible refine (impl_allValues.calls a2 t173 _ A18.out).mono ?_); rintro e w' ⟨rfl, ⟨nd, rfl⟩⟩; refine ⟨_, rfl, ?_⟩) | ((with_reducible refine gate_builtin (b := .append) (xs := #[.tmp 31, .tmp 34]) rfl ?_); at_builtin; refine Kd.R_append (Kd.int .i64) (w0 := w) w.heap.size rfl (.tmp 31) (.tmp 34) 22 3 (.int .i64 0) 8 rfl Try.underlying22 info3 rfl (by decide) (by omega) u7 x7_1 t173 [.int .i64 t173] (fun _ => True) (fun _ => False) rfl rfl ?aP (fun _ hk => hk.elim) ?aF ?aO ?aB ?aS ?aL ?_; (case aP => exact rfl); (case aB => exact yhb); (case aF => exact (fun _ _ => trivial)); (case aO => exact (Kd.Yz HO_7.out)); (case aS => exact (below_size yhb)); (case aL => have := LMc19.out; omega); intro v175 w20 ho hb hg hat; rw [← Ny174.out] at ho; have n0_ := yam (blk_grown (g := gb163) (o := .cells #[.int .i64 a0_0, .slice (some ad167) l0_1.length c0_1, .int .i64 a0_2] 73 (0, 0)) (ybz BK163.out) hg (Kd.R_ne HO_7.out BK163.out (by decide))); have n1_ := yam (hb); have n2_ := yam (ho); clear BK163; clear HB; clear HO_7; have BK163 := n0_; have HB := n1_; have HO176 := n2_; clear n0_ n1_ n2_; clear ho hb hg hat))
    go_roundg k1
    case measure => have := HK1.out; omega
    case rel => exact ⟨(y174), (wrap64 (x14_1 + 1)), yeq, H', ⟨by have := HK1.out; omega⟩, ⟨by (with_reducible repeat (first | apply Kd.Ya | apply Kd.Yn | apply Kd.Yd)); exact HO176.out⟩, ⟨by (with_reducible repeat (first | refine ybn ?_ _ | refine ybd ?_ | refine yba ?_ _)); exact BK163.out⟩, ⟨yhb⟩⟩
   rw [if_pos c13] at H
   have c13b0 : decide (0 < (rd l1 (rd l0_1 x14_1))) = true := decide_eq_true c13
   clear c13
   by_cases c14 : 0 ≤ (rd l1 (rd l0_1 x14_1))
   rotate_left
   ·rw [if_neg c14] at H
    exact absurd H (by simp)
   rw [if_pos c14] at H
   have c14b0 := eq_true c14
   have c14b1 : decide (0 ≤ (rd l1 (rd l0_1 x14_1))) = true := decide_eq_true c14
   clear c14
   obtain ⟨ji15, hji15⟩ : ∃ j_ : Int, (shl .i64 1 (rd l1 (rd l0_1 x14_1))) = j_ := ⟨_, rfl⟩
   replace H : (if x7_1.length < 17592186044416 then (impl_canHold.l0 k1 l1 a2 (x7_1 ++ [ji15]) l0_1 (l0_1.length : Int) (wrap64 (x14_1 + 1)) a0_0 l0_1 a0_2) else (none)) = some r := by first | (rw [hji15] at H; exact H) | (simp only [hji15] at H ⊢; exact H)
   have hji15_ : (IntKind.i64.wrap (1 * 2 ^ min (rd l1 (rd l0_1 x14_1)).toNat 64)) = ji15 := hji15
   have hji15z : (rd l1 (rd l0_1 x14_1)) ≤ 64 → (IntKind.i64.wrap (1 * 2 ^ (rd l1 (rd l0_1 x14_1)).toNat)) = ji15 := shl_small hji15
   have hji15u : (IntKind.i64.wrap (2 ^ min (rd l1 (rd l0_1 x14_1)).toNat 64)) = ji15 := by have h_ := hji15_; rw [Int.one_mul] at h_; exact h_
   have hji15v : (rd l1 (rd l0_1 x14_1)) ≤ 64 → (IntKind.i64.wrap (2 ^ (rd l1 (rd l0_1 x14_1)).toNat)) = ji15 := fun hle_ => by have h_ := hji15z hle_; rw [Int.one_mul] at h_; exact h_
   have hji15y : (wrap64 (1 * 2 ^ min (rd l1 (rd l0_1 x14_1)).toNat 64)) = ji15 := (i64_w _).symm.trans hji15_
   have hji15x : (rd l1 (rd l0_1 x14_1)) ≤ 64 → (wrap64 (1 * 2 ^ (rd l1 (rd l0_1 x14_1)).toNat)) = ji15 := fun h_ => (i64_w _).symm.trans (hji15z h_)
   by_cases c16 : x7_1.length < 17592186044416
   rotate_left
   ·rw [if_neg c16] at H
    exact absurd H (by simp)
   rw [if_pos c16] at H
   have LMc16 := yam c16
   clear c16
   obtain ⟨y170, hy170⟩ : ∃ y_ : List Int, y_ = (x7_1 ++ [ji15]) := ⟨_, rfl⟩
   replace H : (impl_canHold.l0 k1 l1 a2 y170 l0_1 (l0_1.length : Int) (wrap64 (x14_1 + 1)) a0_0 l0_1 a0_2) = some r := by first | (rw [hy170]; with_reducible exact H) | (have H2_ := (Option.bind_some _ _).symm.trans H; rw [hy170]; with_reducible exact H2_) | (have H2_ := (Option.bind_some _ _).symm.trans H; with_reducible exact H2_) | with_reducible exact H | (rw [hy170]; exact H) | exact H
   have Ny170 := yam hy170
   clear hy170
   have H' := yam H
   clear H
   have p167 : 0 ≤ (x14_1 : Int) := of_decide_eq_true (by first | (with_reducible assumption) | assumption)
   have q167 : x14_1 < (l0_1.length : Int) := of_decide_eq_true (by first | (with_reducible assumption) | assumption)
   obtain ⟨ad167, e167, hx167_0⟩ := Kd.at_int HR0_1.out x14_1 p167 q167
   cases e167
   replace hx167_0 := ybx HB.out hx167_0
   replace p167 := eq_true p167
   replace q167 := eq_true q167
   have p168 : 0 ≤ ((rd l0_1 x14_1) : Int) := of_decide_eq_true (by first | (with_reducible assumption) | assumption)
   have q168 : (rd l0_1 x14_1) < (l1.length : Int) := of_decide_eq_true (by first | (with_reducible assumption) | assumption)
   obtain ⟨ad168, e168, hx168_0⟩ := Kd.at_int HR1.out (rd l0_1 x14_1) p168 q168
   cases e168
   replace hx168_0 := ybx HB.out hx168_0
   replace p168 := eq_true p168
   replace q168 := eq_true q168
   have p169 : 0 ≤ ((rd l0_1 x14_1) : Int) := of_decide_eq_true (by first | (with_reducible assumption) | assumption)
   have q169 : (rd l0_1 x14_1) < (l1.length : Int) := of_decide_eq_true (by first | (with_reducible assumption) | assumption)
   obtain ⟨ad169, e169, hx169_0⟩ := Kd.at_int HR1.out (rd l0_1 x14_1) p169 q169
   obtain rfl : ad168 = ad169 := (by injection e169)
   replace hx169_0 := ybx HB.out hx169_0
   replace p169 := eq_true p169
   replace q169 := eq_true q169
   go_wp2_with (first | ((with_reducible refine gate_builtin (b := .append) (xs := #[.tmp 23, .tmp 29]) rfl ?_); at_builtin; refine Kd.R_append (Kd.int .i64) (w0 := w) w.heap.size rfl (.tmp 23) (.tmp 29) 22 3 (.int .i64 0) 8 rfl Try.underlying22 info3 rfl (by decide) (by omega) u7 x7_1 ji15 [.int .i64 ji15] (fun _ => True) (fun _ => False) rfl rfl ?aP (fun _ hk => hk.elim) ?aF ?aO ?aB ?aS ?aL ?_; (case aP => exact rfl); (case aB => exact yhb); (case aF => exact (fun _ _ => trivial)); (case aO => exact (Kd.Yz HO_7.out)); (case aS => exact (below_size yhb)); (case aL => have := LMc16.out; omega); intro v171 w17 ho hb hg hat; rw [← Ny170.out] at ho; have n0_ := yam (blk_grown (g := gb163) (o := .cells #[.int .i64 a0_0, .slice (some ad167) l0_1.length c0_1, .int .i64 a0_2] 73 (0, 0)) (ybz BK163.out) hg (Kd.R_ne HO_7.out BK163.out (by decide))); have n1_ := yam (hb); have n2_ := yam (ho); clear BK163; clear HB; clear HO_7; have BK163 := n0_; have HB := n1_; have HO172 := n2_; clear n0_ n1_ n2_; clear ho hb hg hat))
   go_roundg k1
   case measure => have := HK1.out; omega
   case rel => exact ⟨(y170), (wrap64 (x14_1 + 1)), yeq, H', ⟨by have := HK1.out; omega⟩, ⟨by (with_reducible repeat (first | apply Kd.Ya | apply Kd.Yn | apply Kd.Yd)); exact HO172.out⟩, ⟨by (with_reducible repeat (first | refine ybn ?_ _ | refine ybd ?_ | refine yba ?_ _)); exact BK163.out⟩, ⟨yhb⟩⟩
/-! ### impl_PuzzleFits: function 72 -/
mutual
def impl_PuzzleFits.j0 : Nat → List Int → Bool → Int → List Int → List (S73) → Option (Bool)
 | 0, _, _, _, _, _ => none
 | k + 1, x1, x18, x182000, x182001, x182002 => if x18 = true then (some false) else (impl_PuzzleFits.l0 k x1 x1 (x1.length : Int) 0 x182000 x182001 x182002)
def impl_PuzzleFits.l0 : Nat → List Int → List Int → Int → Int → Int → List Int → List (S73) → Option (Bool)
 | 0, _, _, _, _, _, _, _ => none
 | k + 1, x1, x19, x20, x21, x182000, x182001, x182002 => if x21 < x20 then (if 0 ≤ x21 then (if x21 < (x19.length : Int) then (if (rd x19 x21) > 0 then (if x21 < (x182001.length : Int) then (if (rd x182001 x21) > 0 then (if (rd x19 x21) = (rd x182001 x21) then (impl_PuzzleFits.l0 k x1 x19 x20 (wrap64 (x21 + 1)) x182000 x182001 x182002) else (some false)) else (impl_PuzzleFits.l0 k x1 x19 x20 (wrap64 (x21 + 1)) x182000 x182001 x182002)) else (none)) else (impl_PuzzleFits.l0 k x1 x19 x20 (wrap64 (x21 + 1)) x182000 x182001 x182002)) else (none)) else (none)) else (impl_PuzzleFits.l1 k x1 x182002 (x182002.length : Int) 0 x182000 x182001 x182002)
def impl_PuzzleFits.l1 : Nat → List Int → List (S73) → Int → Int → Int → List Int → List (S73) → Option (Bool)
 | 0, _, _, _, _, _, _, _ => none
 | k + 1, x1, x47, x48, x49, x182000, x182001, x182002 => if x49 < x48 then (if 0 ≤ x49 then (if x49 < (x47.length : Int) then ((impl_canHold.f k ((rd_T73 x47 x49).f0) ((rd_T73 x47 x49).f1) ((rd_T73 x47 x49).f2) x1 x182000).bind fun t189 => (if t189 = true then (impl_PuzzleFits.l1 k x1 x47 x48 (wrap64 (x49 + 1)) x182000 x182001 x182002) else (some false))) else (none)) else (none)) else (some true)
end
def impl_PuzzleFits.f (k : Nat) (a0_0 : Int) (l0_1 : List Int) (l0_2 : List (S73)) (l1 : List Int) : Option (Bool) := (impl_PuzzleValid.f k a0_0 l0_1 l0_2).bind fun t182 => (if t182 = true then ((impl_SquareFits.f k l1 a0_0).bind fun t183 => (impl_PuzzleFits.j0 k l1 (!t183) a0_0 l0_1 l0_2)) else (impl_PuzzleFits.j0 k l1 true a0_0 l0_1 l0_2))
set_option maxHeartbeats 8000000 in
set_option maxRecDepth 100000 in
theorem impl_PuzzleFits.calls (k : Nat) (a0_0 : Int) (A0_1 : Option Addr) (c0_1 : Nat) (l0_1 : List Int) (A0_2 : Option Addr) (c0_2 : Nat) (l0_2 : List (S73)) (A1 : Option Addr) (c1 : Nat) (l1 : List Int) (r : Bool) (w : World) (hr0_1 : Kd.C (Kd.int .i64) w A0_1 l0_1.length l0_1) (hc0_1 : l0_1.length ≤ c0_1) (hr0_2 : Kd.C k73 w A0_2 l0_2.length l0_2) (hc0_2 : l0_2.length ≤ c0_2) (hr1 : Kd.C (Kd.int .i64) w A1 l1.length l1) (hc1 : l1.length ≤ c1) (h : impl_PuzzleFits.f k a0_0 l0_1 l0_2 l1 = some r) :
  Calls Try.prog 72 #[.agg #[.int .i64 a0_0, .slice A0_1 l0_1.length c0_1, .slice A0_2 l0_2.length c0_2], .slice A1 l1.length c1] w fun e w' => e = .returned (.bool r) ∧ Below w.heap.size w w' := by
 have hu37 := Try.underlying37
 have hu73 := Try.underlying73
 have HR0_1 := yam hr0_1
 have HC0_1 := yam hc0_1
 clear hr0_1 hc0_1
 have HR0_2 := yam hr0_2
 have HC0_2 := yam hc0_2
 clear hr0_2 hc0_2
 have HR1 := yam hr1
 have HC1 := yam hc1
 clear hr1 hc1
 have HB := yam (Below.refl w.heap.size w)
 have H : ((impl_PuzzleValid.f k a0_0 l0_1 l0_2).bind fun t182 => (if t182 = true then ((impl_SquareFits.f k l1 a0_0).bind fun t183 => (impl_PuzzleFits.j0 k l1 (!t183) a0_0 l0_1 l0_2)) else (impl_PuzzleFits.j0 k l1 true a0_0 l0_1 l0_2))) = some r := h
 clear h
 have HC3 := yam H
 clear H
 go_enter Try.func72, Try.ntmps72
 go_upto_region 1 with (first | ((with_reducible refine gate_dst (N := 2) rfl ?_); refine box_event ?hg (N := 2) ?hd (cs := #[.int .i64 a0_0, .slice A0_1 l0_1.length c0_1, .slice A0_2 l0_2.length c0_2]) (t := 37) ?hr ?_; (case hd => rfl); (case hg => rfl); (case hr => first | (go_simp; done) | (go_simp; rfl)); intro gb181 hg w4 hbox hb; have n0_ := yam (below_step (yez HB.out) hb); have n1_ := yam (hbox); have n2_ := yam ((by rw [hg]; exact (below_size (yez HB.out)) : w.heap.size ≤ gb181)); have n3_ := n2_; clear HB; have HB := n0_; have BK181 := n1_; have GW181 := n2_; have GE181 := n3_; clear n0_ n1_ n2_ n3_; clear hb hbox hg))
 (try simp only [Act.put, yps])
 go_cut [18] (fun v18 wc => ∃ (kq : Nat) (x18_2 : Bool), v18 = .bool x18_2 ∧ Aside0 (impl_PuzzleFits.j0 kq l1 x18_2 a0_0 l0_1 l0_2 = some r) ∧ Aside0 (kq ≤ k) ∧ Aside0 (wc.heap[gb181]? = some (.cells #[.int .i64 a0_0, (.slice A0_1 l0_1.length c0_1), (.slice A0_2 l0_2.length c0_2)] 37 (0, 0))) ∧ Aside0 (Below w.heap.size w wc))
 case first =>
  have H := HC3.out
  clear HC3
  replace H := Option.bind_eq_some_iff.mp H
  obtain ⟨t182, A50, H⟩ := H
  try dsimp only at H
  have A5 := yam A50
  clear A50
  by_cases c6 : t182 = true
  rotate_left
  ·replace c6 := Bool.eq_false_iff.mpr c6
   subst c6
   have H1 : (impl_PuzzleFits.j0 k l1 true a0_0 l0_1 l0_2) = some r := by rw [if_neg (show ¬ (false = true) by decide)] at H; exact H
   clear H
   have H := H1
   clear H1
   have H' := yam H
   clear H
   obtain ⟨hcz12_0, hcz12_1, hcz12_2, hfz12_0, hfz12_1, hfz12_2⟩ := ybc BK181.out
   go_wp2_with (first | ((with_reducible refine gate_callee (f := 64) rfl ?_); refine goesL_ (some 10) rfl rfl Try.func64 (by kernel_rfl) rfl #[.agg #[.int .i64 a0_0, .slice A0_1 l0_1.length c0_1, .slice A0_2 l0_2.length c0_2]] rfl (by (try simp only [List.map_toArray, List.map_cons, List.map_nil]); first | done | rfl | (simp only [List.length_drop, List.length_take]; rfl)) ?_; (with_reducible refine (impl_PuzzleValid.calls k a0_0 _ _ l0_1 _ _ l0_2 false _ ?side1 ?side2 ?side3 ?side4 A5.out).mono ?_); (case side1 => exact Kd.Cz ((Kd.C_below HR0_1.out HB.out))); (case side2 => exact HC0_1.out); (case side3 => exact Kd.Cz ((Kd.C_below HR0_2.out HB.out))); (case side4 => exact HC0_2.out); rintro e w13 ⟨rfl, hb⟩; refine ⟨_, rfl, ?_⟩; have n0_ := yam (blk_below (g := gb181) (o := .cells #[.int .i64 a0_0, .slice A0_1 l0_1.length c0_1, .slice A0_2 l0_2.length c0_2] 37 (0, 0)) (ybz BK181.out) hb); have n1_ := yam (below_step yhb hb); clear BK181; clear HB; have BK181 := n0_; have HB := n1_; clear n0_ n1_; (try clear hb); (try clear hb2); (try clear hk); (try clear hi)))
   go_meet
   case rel => exact ⟨_, (true), yeq, H', ⟨by first | omega | exact Nat.le_refl _⟩, ⟨by (with_reducible repeat (first | refine ybn ?_ _ | refine ybd ?_ | refine yba ?_ _)); exact BK181.out⟩, ⟨yhb⟩⟩
  subst c6
  have H1 : ((impl_SquareFits.f k l1 a0_0).bind fun t183 => (impl_PuzzleFits.j0 k l1 (!t183) a0_0 l0_1 l0_2)) = some r := by rw [if_pos rfl] at H; exact H
  clear H
  have H := H1
  clear H1
  replace H := Option.bind_eq_some_iff.mp H
  obtain ⟨t183, A70, H⟩ := H
  try dsimp only at H
  have A7 := yam A70
  clear A70
  have H' := yam H
  clear H
  obtain ⟨hcz8_0, hcz8_1, hcz8_2, hfz8_0, hfz8_1, hfz8_2⟩ := ybc BK181.out
  go_wp2_with (first | ((with_reducible refine gate_callee (f := 64) rfl ?_); refine goesL_ (some 10) rfl rfl Try.func64 (by kernel_rfl) rfl #[.agg #[.int .i64 a0_0, .slice A0_1 l0_1.length c0_1, .slice A0_2 l0_2.length c0_2]] rfl (by (try simp only [List.map_toArray, List.map_cons, List.map_nil]); first | done | rfl | (simp only [List.length_drop, List.length_take]; rfl)) ?_; (with_reducible refine (impl_PuzzleValid.calls k a0_0 _ _ l0_1 _ _ l0_2 true _ ?side1 ?side2 ?side3 ?side4 A5.out).mono ?_); (case side1 => exact Kd.Cz ((Kd.C_below HR0_1.out HB.out))); (case side2 => exact HC0_1.out); (case side3 => exact Kd.Cz ((Kd.C_below HR0_2.out HB.out))); (case side4 => exact HC0_2.out); rintro e w9 ⟨rfl, hb⟩; refine ⟨_, rfl, ?_⟩; have n0_ := yam (blk_below (g := gb181) (o := .cells #[.int .i64 a0_0, .slice A0_1 l0_1.length c0_1, .slice A0_2 l0_2.length c0_2] 37 (0, 0)) (ybz BK181.out) hb); have n1_ := yam (below_step yhb hb); clear BK181; clear HB; have BK181 := n0_; have HB := n1_; clear n0_ n1_; (try clear hb); (try clear hb2); (try clear hk); (try clear hi); obtain ⟨hcz10_0, hcz10_1, hcz10_2, hfz10_0, hfz10_1, hfz10_2⟩ := ybc BK181.out) | (go_at_call 52; (with_reducible refine (impl_SquareFits.calls k _ _ l1 a0_0 t183 _ ?side1 ?side2 A7.out).mono ?_); (case side1 => exact Kd.Cz ((Kd.C_below HR1.out HB.out))); (case side2 => exact HC1.out); rintro e w11 ⟨rfl, hb⟩; have n0_ := yam (blk_below (g := gb181) (o := .cells #[.int .i64 a0_0, .slice A0_1 l0_1.length c0_1, .slice A0_2 l0_2.length c0_2] 37 (0, 0)) (ybz BK181.out) hb); have n1_ := yam (below_step yhb hb); clear BK181; clear HB; have BK181 := n0_; have HB := n1_; clear n0_ n1_; (try clear hb); (try clear hb2); (try clear hk); (try clear hi)))
  go_meet
  case rel => exact ⟨_, (!t183), yeq, H', ⟨by first | omega | exact Nat.le_refl _⟩, ⟨by (with_reducible repeat (first | refine ybn ?_ _ | refine ybd ?_ | refine yba ?_ _)); exact BK181.out⟩, ⟨yhb⟩⟩
 case rest =>
  clear HC3
  try clear c1
  try clear p2
  try clear c6
  try clear c7
  try clear hcz10_0
  try clear hcz10_1
  try clear hcz10_2
  try clear hcz12_0
  try clear hcz12_1
  try clear hcz12_2
  try clear hcz8_0
  try clear hcz8_1
  try clear hcz8_2
  try clear hfz10_0
  try clear hfz10_1
  try clear hfz10_2
  try clear hfz12_0
  try clear hfz12_1
  try clear hfz12_2
  try clear hfz8_0
  try clear hfz8_1
  try clear hfz8_2
  obtain ⟨kq, x18_2, rfl, HA, HJ2, BK181, HB⟩ := hcut
  cases kq with
  | zero => exact absurd HA.out (by simp [impl_PuzzleFits.j0])
  | succ kj2 =>
   have H := HA.out
   clear HA
   simp only [impl_PuzzleFits.j0] at H
   by_cases c14 : x18_2 = true
   ·subst c14
    have H1 : (some false) = some r := by rw [if_pos rfl] at H; exact H
    clear H
    have H := H1
    clear H1
    obtain rfl := Option.some.inj H
    go_wp2
    go_ret
    exact ⟨yer, yhb⟩
   replace c14 := Bool.eq_false_iff.mpr c14
   subst c14
   have H1 : (impl_PuzzleFits.l0 kj2 l1 l1 (l1.length : Int) 0 a0_0 l0_1 l0_2) = some r := by rw [if_neg (show ¬ (false = true) by decide)] at H; exact H
   clear H
   have H := H1
   clear H1
   have H' := yam H
   clear H
   go_wp2
   go_loopg [21] kj2 (fun kq v21 w' => ∃ (x21_2 : Int), v21 = .int .i64 x21_2 ∧ Aside0 (impl_PuzzleFits.l0 kq l1 l1 (l1.length : Int) x21_2 a0_0 l0_1 l0_2 = some r) ∧ Aside0 (kq ≤ kj2) ∧ Aside0 (w'.heap[gb181]? = some (.cells #[.int .i64 a0_0, (.slice A0_1 l0_1.length c0_1), (.slice A0_2 l0_2.length c0_2)] 37 (0, 0))) ∧ Aside0 (Below w.heap.size w w'))
   case atStart => exact ⟨(0), yeq, H', ⟨Nat.le_refl _⟩, ⟨by (with_reducible repeat (first | refine ybn ?_ _ | refine ybd ?_ | refine yba ?_ _)); exact BK181.out⟩, ⟨yhb⟩⟩
   case round =>
    clear H'
    try clear c1
    try clear p2
    try clear c6
    try clear c7
    try clear c14
    try clear hcz10_0
    try clear hcz10_1
    try clear hcz10_2
    try clear hcz12_0
    try clear hcz12_1
    try clear hcz12_2
    try clear hcz8_0
    try clear hcz8_1
    try clear hcz8_2
    try clear hfz10_0
    try clear hfz10_1
    try clear hfz10_2
    try clear hfz12_0
    try clear hfz12_1
    try clear hfz12_2
    try clear hfz8_0
    try clear hfz8_1
    try clear hfz8_2
    try clear p2
    obtain ⟨x21_2, rfl, HA, HK2, BK181, HB⟩ := hrel
    cases gk with
    | zero => exact absurd HA.out (by simp [impl_PuzzleFits.l0])
    | succ k2 =>
     have H := HA.out
     clear HA
     simp only [impl_PuzzleFits.l0] at H
     by_cases c15 : x21_2 < (l1.length : Int)
     ·rw [if_pos c15] at H
      have c15b0 : decide (x21_2 < (l1.length : Int)) = true := decide_eq_true c15
      clear c15
      by_cases c16 : 0 ≤ x21_2
      rotate_left
      ·rw [if_neg c16] at H
       exact absurd H (by simp)
      rw [if_pos c16] at H
      have c16b0 : decide (0 ≤ x21_2) = true := decide_eq_true c16
      clear c16
      by_cases c17 : x21_2 < (l1.length : Int)
      rotate_left
      ·rw [if_neg c17] at H
       exact absurd H (by simp)
      rw [if_pos c17] at H
      have c17b0 : decide (x21_2 < (l1.length : Int)) = true := decide_eq_true c17
      clear c17
      by_cases c18 : (rd l1 x21_2) > 0
      rotate_left
      ·rw [if_neg c18] at H
       have c18b0 : decide (0 < (rd l1 x21_2)) = false := decide_eq_false c18
       clear c18
       have H' := yam H
       clear H
       have p184 : 0 ≤ (x21_2 : Int) := of_decide_eq_true (by first | (with_reducible assumption) | assumption)
       have q184 : x21_2 < (l1.length : Int) := of_decide_eq_true (by first | (with_reducible assumption) | assumption)
       obtain ⟨ad184, e184, hx184_0⟩ := Kd.at_int HR1.out x21_2 p184 q184
       cases e184
       replace hx184_0 := ybx HB.out hx184_0
       replace p184 := eq_true p184
       replace q184 := eq_true q184
       go_wp2
       go_roundg k2
       case measure => have := HJ2.out; have := HK2.out; omega
       case rel => exact ⟨(wrap64 (x21_2 + 1)), yeq, H', ⟨by have := HJ2.out; have := HK2.out; omega⟩, ⟨by (with_reducible repeat (first | refine ybn ?_ _ | refine ybd ?_ | refine yba ?_ _)); exact BK181.out⟩, ⟨yhb⟩⟩
      rw [if_pos c18] at H
      have c18b0 : decide (0 < (rd l1 x21_2)) = true := decide_eq_true c18
      clear c18
      by_cases c19 : x21_2 < (l0_1.length : Int)
      rotate_left
      ·rw [if_neg c19] at H
       exact absurd H (by simp)
      rw [if_pos c19] at H
      have c19b0 : decide (x21_2 < (l0_1.length : Int)) = true := decide_eq_true c19
      clear c19
      by_cases c20 : (rd l0_1 x21_2) > 0
      rotate_left
      ·rw [if_neg c20] at H
       have c20b0 : decide (0 < (rd l0_1 x21_2)) = false := decide_eq_false c20
       clear c20
       have H' := yam H
       clear H
       have p184 : 0 ≤ (x21_2 : Int) := of_decide_eq_true (by first | (with_reducible assumption) | assumption)
       have q184 : x21_2 < (l1.length : Int) := of_decide_eq_true (by first | (with_reducible assumption) | assumption)
       obtain ⟨ad184, e184, hx184_0⟩ := Kd.at_int HR1.out x21_2 p184 q184
       cases e184
       replace hx184_0 := ybx HB.out hx184_0
       replace p184 := eq_true p184
       replace q184 := eq_true q184
       obtain ⟨hcz24_0, hcz24_1, hcz24_2, hfz24_0, hfz24_1, hfz24_2⟩ := ybc BK181.out
       have p185 : 0 ≤ (x21_2 : Int) := of_decide_eq_true (by first | (with_reducible assumption) | assumption)
       have q185 : x21_2 < (l0_1.length : Int) := of_decide_eq_true (by first | (with_reducible assumption) | assumption)
       obtain ⟨ad185, e185, hx185_0⟩ := Kd.at_int HR0_1.out x21_2 p185 q185
       cases e185
       replace hx185_0 := ybx HB.out hx185_0
       replace p185 := eq_true p185
       replace q185 := eq_true q185
       go_wp2
       go_roundg k2
       case measure => have := HJ2.out; have := HK2.out; omega
       case rel => exact ⟨(wrap64 (x21_2 + 1)), yeq, H', ⟨by have := HJ2.out; have := HK2.out; omega⟩, ⟨by (with_reducible repeat (first | refine ybn ?_ _ | refine ybd ?_ | refine yba ?_ _)); exact BK181.out⟩, ⟨yhb⟩⟩
      rw [if_pos c20] at H
      have c20b0 : decide (0 < (rd l0_1 x21_2)) = true := decide_eq_true c20
      clear c20
      by_cases c21 : (rd l1 x21_2) = (rd l0_1 x21_2)
      rotate_left
      ·rw [if_neg c21] at H
       have c21b0 : ((rd l1 x21_2) == (rd l0_1 x21_2)) = false := beq_eq_false_iff_ne.mpr c21
       have c21b1 : ((rd l1 x21_2) != (rd l0_1 x21_2)) = true := bne_iff_ne.mpr c21
       obtain rfl := Option.some.inj H
       have p184 : 0 ≤ (x21_2 : Int) := of_decide_eq_true (by first | (with_reducible assumption) | assumption)
       have q184 : x21_2 < (l1.length : Int) := of_decide_eq_true (by first | (with_reducible assumption) | assumption)
       obtain ⟨ad184, e184, hx184_0⟩ := Kd.at_int HR1.out x21_2 p184 q184
       cases e184
       replace hx184_0 := ybx HB.out hx184_0
       replace p184 := eq_true p184
       replace q184 := eq_true q184
       obtain ⟨hcz23_0, hcz23_1, hcz23_2, hfz23_0, hfz23_1, hfz23_2⟩ := ybc BK181.out
       have p185 : 0 ≤ (x21_2 : Int) := of_decide_eq_true (by first | (with_reducible assumption) | assumption)
       have q185 : x21_2 < (l0_1.length : Int) := of_decide_eq_true (by first | (with_reducible assumption) | assumption)
       obtain ⟨ad185, e185, hx185_0⟩ := Kd.at_int HR0_1.out x21_2 p185 q185
       cases e185
       replace hx185_0 := ybx HB.out hx185_0
       replace p185 := eq_true p185
       replace q185 := eq_true q185
       have p186 : 0 ≤ (x21_2 : Int) := of_decide_eq_true (by first | (with_reducible assumption) | assumption)
       have q186 : x21_2 < (l0_1.length : Int) := of_decide_eq_true (by first | (with_reducible assumption) | assumption)
       obtain ⟨ad186, e186, hx186_0⟩ := Kd.at_int HR0_1.out x21_2 p186 q186
       obtain rfl : ad185 = ad186 := (by injection e186)
       replace hx186_0 := ybx HB.out hx186_0
       replace p186 := eq_true p186
       replace q186 := eq_true q186
       go_wp2
       go_ret
       exact ⟨yer, yhb⟩
      rw [if_pos c21] at H
      have c21b0 : ((rd l1 x21_2) == (rd l0_1 x21_2)) = true := beq_iff_eq.mpr c21
      have c21b1 : ((rd l1 x21_2) != (rd l0_1 x21_2)) = false := bne_eq_false_iff_eq.mpr c21
      clear c21
      have H' := yam H
      clear H
      have p184 : 0 ≤ (x21_2 : Int) := of_decide_eq_true (by first | (with_reducible assumption) | assumption)
      have q184 : x21_2 < (l1.length : Int) := of_decide_eq_true (by first | (with_reducible assumption) | assumption)
      obtain ⟨ad184, e184, hx184_0⟩ := Kd.at_int HR1.out x21_2 p184 q184
      cases e184
      replace hx184_0 := ybx HB.out hx184_0
      replace p184 := eq_true p184
      replace q184 := eq_true q184
      obtain ⟨hcz22_0, hcz22_1, hcz22_2, hfz22_0, hfz22_1, hfz22_2⟩ := ybc BK181.out
      have p185 : 0 ≤ (x21_2 : Int) := of_decide_eq_true (by first | (with_reducible assumption) | assumption)
      have q185 : x21_2 < (l0_1.length : Int) := of_decide_eq_true (by first | (with_reducible assumption) | assumption)
      obtain ⟨ad185, e185, hx185_0⟩ := Kd.at_int HR0_1.out x21_2 p185 q185
      cases e185
      replace hx185_0 := ybx HB.out hx185_0
      replace p185 := eq_true p185
      replace q185 := eq_true q185
      have p186 : 0 ≤ (x21_2 : Int) := of_decide_eq_true (by first | (with_reducible assumption) | assumption)
      have q186 : x21_2 < (l0_1.length : Int) := of_decide_eq_true (by first | (with_reducible assumption) | assumption)
      obtain ⟨ad186, e186, hx186_0⟩ := Kd.at_int HR0_1.out x21_2 p186 q186
      obtain rfl : ad185 = ad186 := (by injection e186)
      replace hx186_0 := ybx HB.out hx186_0
      replace p186 := eq_true p186
      replace q186 := eq_true q186
      go_wp2
      go_roundg k2
      case measure => have := HJ2.out; have := HK2.out; omega
      case rel => exact ⟨(wrap64 (x21_2 + 1)), yeq, H', ⟨by have := HJ2.out; have := HK2.out; omega⟩, ⟨by (with_reducible repeat (first | refine ybn ?_ _ | refine ybd ?_ | refine yba ?_ _)); exact BK181.out⟩, ⟨yhb⟩⟩
     rw [if_neg c15] at H
     have c15b0 : decide (x21_2 < (l1.length : Int)) = false := decide_eq_false c15
     clear c15
     have H' := yam H
     clear H
     obtain ⟨hcz25_0, hcz25_1, hcz25_2, hfz25_0, hfz25_1, hfz25_2⟩ := ybc BK181.out
     go_wp2
     go_loopg [49] k2 (fun kq v49 w' => ∃ (x49_3 : Int), v49 = .int .i64 x49_3 ∧ Aside0 (impl_PuzzleFits.l1 kq l1 l0_2 (l0_2.length : Int) x49_3 a0_0 l0_1 l0_2 = some r) ∧ Aside0 (kq ≤ k2) ∧ Aside0 (w'.heap[gb181]? = some (.cells #[.int .i64 a0_0, (.slice A0_1 l0_1.length c0_1), (.slice A0_2 l0_2.length c0_2)] 37 (0, 0))) ∧ Aside0 (Below w.heap.size w w'))
     case atStart => exact ⟨(0), yeq, H', ⟨Nat.le_refl _⟩, ⟨by (with_reducible repeat (first | refine ybn ?_ _ | refine ybd ?_ | refine yba ?_ _)); exact BK181.out⟩, ⟨yhb⟩⟩
     case round =>
      clear H'
      try clear c1
      try clear p1
      try clear q1
      try clear hx1
      try clear c2
      try clear p2
      try clear c6
      try clear p6
      try clear c7
      try clear c14
      try clear c15
      try clear c15b0
      try clear c16
      try clear c16b0
      try clear c17
      try clear c17b0
      try clear c18
      try clear c18b0
      try clear p18
      try clear q18
      try clear hx18
      try clear c19
      try clear c19b0
      try clear c20
      try clear c20b0
      try clear c21
      try clear c21b0
      try clear c21b1
      try clear hcz10_0
      try clear hcz10_1
      try clear hcz10_2
      try clear hcz12_0
      try clear hcz12_1
      try clear hcz12_2
      try clear hcz22_0
      try clear hcz22_1
      try clear hcz22_2
      try clear hcz23_0
      try clear hcz23_1
      try clear hcz23_2
      try clear hcz24_0
      try clear hcz24_1
      try clear hcz24_2
      try clear hcz25_0
      try clear hcz25_1
      try clear hcz25_2
      try clear hcz8_0
      try clear hcz8_1
      try clear hcz8_2
      try clear hfz10_0
      try clear hfz10_1
      try clear hfz10_2
      try clear hfz12_0
      try clear hfz12_1
      try clear hfz12_2
      try clear hfz22_0
      try clear hfz22_1
      try clear hfz22_2
      try clear hfz23_0
      try clear hfz23_1
      try clear hfz23_2
      try clear hfz24_0
      try clear hfz24_1
      try clear hfz24_2
      try clear hfz25_0
      try clear hfz25_1
      try clear hfz25_2
      try clear hfz8_0
      try clear hfz8_1
      try clear hfz8_2
      try clear hx184_0
      try clear hx185_0
      try clear hx186_0
      try clear p184
      try clear p185
      try clear p186
      try clear p2
      try clear q184
      try clear q185
      try clear q186
      obtain ⟨x49_3, rfl, HA, HK3, BK181, HB⟩ := hrel
      cases gk with
      | zero => exact absurd HA.out (by simp [impl_PuzzleFits.l1])
      | succ k3 =>
       have H := HA.out
       clear HA
       simp only [impl_PuzzleFits.l1] at H
       by_cases c26 : x49_3 < (l0_2.length : Int)
       rotate_left
       ·rw [if_neg c26] at H
        have c26b0 : decide (x49_3 < (l0_2.length : Int)) = false := decide_eq_false c26
        clear c26
        obtain rfl := Option.some.inj H
        go_wp2
        go_ret
        exact ⟨yer, yhb⟩

       rw [if_pos c26] at H
       have c26b0 : decide (x49_3 < (l0_2.length : Int)) = true := decide_eq_true c26
       clear c26
       by_cases c27 : 0 ≤ x49_3
       rotate_left
       ·rw [if_neg c27] at H
        exact absurd H (by simp)
       rw [if_pos c27] at H
       have c27b0 : decide (0 ≤ x49_3) = true := decide_eq_true c27
       clear c27
       by_cases c28 : x49_3 < (l0_2.length : Int)
       rotate_left
       ·rw [if_neg c28] at H
        exact absurd H (by simp)
       rw [if_pos c28] at H
       have c28b0 : decide (x49_3 < (l0_2.length : Int)) = true := decide_eq_true c28
       clear c28
       replace H := Option.bind_eq_some_iff.mp H
       obtain ⟨t189, A290, H⟩ := H
       try dsimp only at H
       have A29 := yam A290
       clear A290
       by_cases c30 : t189 = true
       rotate_left
       ·replace c30 := Bool.eq_false_iff.mpr c30
        subst c30
        have H1 : (some false) = some r := by rw [if_neg (show ¬ (false = true) by decide)] at H; exact H
        clear H
        have H := H1
        clear H1
        obtain rfl := Option.some.inj H
        have p187 : 0 ≤ (x49_3 : Int) := of_decide_eq_true (by first | (with_reducible assumption) | assumption)
        have q187 : x49_3 < (l0_2.length : Int) := of_decide_eq_true (by first | (with_reducible assumption) | assumption)
        obtain ⟨ad187, A187_1, c187_1, e187, hx187_0, hx187_1, hx187_2, hl187_1, hi187_1⟩ := at_T73 HR0_2.out x49_3 p187 q187
        cases e187
        replace hx187_0 := ybx HB.out hx187_0
        replace hx187_1 := ybx HB.out hx187_1
        replace hx187_2 := ybx HB.out hx187_2
        have HR187_1 := yam hi187_1
        have HC187_1 := yam hl187_1
        clear hi187_1 hl187_1
        replace p187 := eq_true p187
        replace q187 := eq_true q187
        go_wp2_with (first | ((with_reducible refine gate_dst (N := 8) rfl ?_); refine box_event ?hg (N := 8) ?hd (cs := #[.int .i64 0, .slice none 0 0, .int .i64 0]) (t := 73) ?hr ?_; (case hd => rfl); (case hg => rfl); (case hr => first | (go_simp; done) | (go_simp; rfl)); intro gb188 hg w36 hbox hb; have n0_ := yam (blk_below (g := gb181) (o := .cells #[.int .i64 a0_0, .slice A0_1 l0_1.length c0_1, .slice (some ad187) l0_2.length c0_2] 37 (0, 0)) (ybz BK181.out) hb); have n1_ := yam (below_step yhb hb); have n2_ := yam (hbox); have n3_ := yam ((by rw [hg]; exact (below_size yhb) : w.heap.size ≤ gb188)); have n4_ := n3_; have n5_ := yam ((by rw [hg]; exact Nat.ne_of_lt (blk_lt (g := gb181) (o := .cells #[.int .i64 a0_0, .slice A0_1 l0_1.length c0_1, .slice (some ad187) l0_2.length c0_2] 37 (0, 0)) (ybz BK181.out)) : gb181 ≠ gb188)); have n6_ := yam ((by rw [hg]; exact Nat.ne_of_gt (blk_lt (g := gb181) (o := .cells #[.int .i64 a0_0, .slice A0_1 l0_1.length c0_1, .slice (some ad187) l0_2.length c0_2] 37 (0, 0)) (ybz BK181.out)) : gb188 ≠ gb181)); clear BK181; clear HB; have BK181 := n0_; have HB := n1_; have BK188 := n2_; have GW188 := n3_; have GE188 := n4_; have NB181_188 := n5_; have NB188_181 := n6_; clear n0_ n1_ n2_ n3_ n4_ n5_ n6_; clear hb hbox hg; have hnb37 := NB188_181.out; have hnc37 := NB181_188.out; obtain ⟨hcz38_0, hcz38_1, hcz38_2, hfz38_0, hfz38_1, hfz38_2⟩ := ybc BK188.out; obtain ⟨hcz39_0, hcz39_1, hcz39_2, hfz39_0, hfz39_1, hfz39_2⟩ := ybc BK181.out) | ((with_reducible refine gate_callee (f := 88) rfl ?_); refine goesL_ (some 57) rfl rfl Try.func88 (by kernel_rfl) rfl #[.agg #[.int .i64 ((rd_T73 l0_2 x49_3).f0), .slice A187_1 ((rd_T73 l0_2 x49_3).f1).length c187_1, .int .i64 ((rd_T73 l0_2 x49_3).f2)], .slice A1 l1.length c1, .int .i64 a0_0] rfl (by (try simp only [List.map_toArray, List.map_cons, List.map_nil]); first | done | rfl | (simp only [List.length_drop, List.length_take]; rfl)) ?_; (with_reducible refine (impl_canHold.calls k3 ((rd_T73 l0_2 x49_3).f0) _ _ ((rd_T73 l0_2 x49_3).f1) ((rd_T73 l0_2 x49_3).f2) _ _ l1 a0_0 false _ ?side1 ?side2 ?side3 ?side4 A29.out).mono ?_); (case side1 => exact Kd.C_below HR187_1.out yhb); (case side2 => exact HC187_1.out); (case side3 => exact Kd.C_below HR1.out yhb); (case side4 => exact HC1.out); rintro e w40 ⟨rfl, hb⟩; refine ⟨_, rfl, ?_⟩; have n0_ := yam (blk_below (g := gb181) (o := .cells #[.int .i64 a0_0, .slice A0_1 l0_1.length c0_1, .slice (some ad187) l0_2.length c0_2] 37 (0, 0)) (by (with_reducible repeat (first | refine ybn ?_ _ | refine ybd ?_ | refine yba ?_ _)); refine blk_far ?_ NB181_188.out _; (with_reducible repeat (first | refine ybn ?_ _ | refine ybd ?_ | refine yba ?_ _)); refine blk_far ?_ NB181_188.out _; (with_reducible repeat (first | refine ybn ?_ _ | refine ybd ?_ | refine yba ?_ _)); refine blk_far ?_ NB181_188.out _; (with_reducible repeat (first | refine ybn ?_ _ | refine ybd ?_ | refine yba ?_ _)); exact BK181.out) hb); have n1_ := yam (blk_below (g := gb188) (o := .cells #[.int .i64 ((rd_T73 l0_2 x49_3).f0), .slice A187_1 ((rd_T73 l0_2 x49_3).f1).length c187_1, .int .i64 ((rd_T73 l0_2 x49_3).f2)] 73 (0, 0)) (by (with_reducible repeat (first | refine ybn ?_ _ | refine ybd ?_ | refine yba ?_ _)); refine blk_put (cs := #[.int .i64 ((rd_T73 l0_2 x49_3).f0), .slice A187_1 ((rd_T73 l0_2 x49_3).f1).length c187_1, .int .i64 0]) ?_ 2 _ rfl; (with_reducible repeat (first | refine ybn ?_ _ | refine ybd ?_ | refine yba ?_ _)); refine blk_put (cs := #[.int .i64 ((rd_T73 l0_2 x49_3).f0), .slice none 0 0, .int .i64 0]) ?_ 1 _ rfl; (with_reducible repeat (first | refine ybn ?_ _ | refine ybd ?_ | refine yba ?_ _)); refine blk_put (cs := #[.int .i64 0, .slice none 0 0, .int .i64 0]) ?_ 0 _ rfl; (with_reducible repeat (first | refine ybn ?_ _ | refine ybd ?_ | refine yba ?_ _)); exact BK188.out) hb); have n2_ := yam (below_step yhb hb); clear BK181; clear BK188; clear HB; have BK181 := n0_; have BK188 := n1_; have HB := n2_; clear n0_ n1_ n2_; (try clear hb); (try clear hb2); (try clear hk); (try clear hi)))
        go_ret
        exact ⟨yer, yhb⟩
       subst c30
       have H1 : (impl_PuzzleFits.l1 k3 l1 l0_2 (l0_2.length : Int) (wrap64 (x49_3 + 1)) a0_0 l0_1 l0_2) = some r := by rw [if_pos rfl] at H; exact H
       clear H
       have H := H1
       clear H1
       have H' := yam H
       clear H
       have p187 : 0 ≤ (x49_3 : Int) := of_decide_eq_true (by first | (with_reducible assumption) | assumption)
       have q187 : x49_3 < (l0_2.length : Int) := of_decide_eq_true (by first | (with_reducible assumption) | assumption)
       obtain ⟨ad187, A187_1, c187_1, e187, hx187_0, hx187_1, hx187_2, hl187_1, hi187_1⟩ := at_T73 HR0_2.out x49_3 p187 q187
       cases e187
       replace hx187_0 := ybx HB.out hx187_0
       replace hx187_1 := ybx HB.out hx187_1
       replace hx187_2 := ybx HB.out hx187_2
       have HR187_1 := yam hi187_1
       have HC187_1 := yam hl187_1
       clear hi187_1 hl187_1
       replace p187 := eq_true p187
       replace q187 := eq_true q187
       go_wp2_with (first | ((with_reducible refine gate_dst (N := 8) rfl ?_); refine box_event ?hg (N := 8) ?hd (cs := #[.int .i64 0, .slice none 0 0, .int .i64 0]) (t := 73) ?hr ?_; (case hd => rfl); (case hg => rfl); (case hr => first | (go_simp; done) | (go_simp; rfl)); intro gb188 hg w31 hbox hb; have n0_ := yam (blk_below (g := gb181) (o := .cells #[.int .i64 a0_0, .slice A0_1 l0_1.length c0_1, .slice (some ad187) l0_2.length c0_2] 37 (0, 0)) (ybz BK181.out) hb); have n1_ := yam (below_step yhb hb); have n2_ := yam (hbox); have n3_ := yam ((by rw [hg]; exact (below_size yhb) : w.heap.size ≤ gb188)); have n4_ := n3_; have n5_ := yam ((by rw [hg]; exact Nat.ne_of_lt (blk_lt (g := gb181) (o := .cells #[.int .i64 a0_0, .slice A0_1 l0_1.length c0_1, .slice (some ad187) l0_2.length c0_2] 37 (0, 0)) (ybz BK181.out)) : gb181 ≠ gb188)); have n6_ := yam ((by rw [hg]; exact Nat.ne_of_gt (blk_lt (g := gb181) (o := .cells #[.int .i64 a0_0, .slice A0_1 l0_1.length c0_1, .slice (some ad187) l0_2.length c0_2] 37 (0, 0)) (ybz BK181.out)) : gb188 ≠ gb181)); clear BK181; clear HB; have BK181 := n0_; have HB := n1_; have BK188 := n2_; have GW188 := n3_; have GE188 := n4_; have NB181_188 := n5_; have NB188_181 := n6_; clear n0_ n1_ n2_ n3_ n4_ n5_ n6_; clear hb hbox hg; have hnb32 := NB188_181.out; have hnc32 := NB181_188.out; obtain ⟨hcz33_0, hcz33_1, hcz33_2, hfz33_0, hfz33_1, hfz33_2⟩ := ybc BK188.out; obtain ⟨hcz34_0, hcz34_1, hcz34_2, hfz34_0, hfz34_1, hfz34_2⟩ := ybc BK181.out) | ((with_reducible refine gate_callee (f := 88) rfl ?_); refine goesL_ (some 57) rfl rfl Try.func88 (by kernel_rfl) rfl #[.agg #[.int .i64 ((rd_T73 l0_2 x49_3).f0), .slice A187_1 ((rd_T73 l0_2 x49_3).f1).length c187_1, .int .i64 ((rd_T73 l0_2 x49_3).f2)], .slice A1 l1.length c1, .int .i64 a0_0] rfl (by (try simp only [List.map_toArray, List.map_cons, List.map_nil]); first | done | rfl | (simp only [List.length_drop, List.length_take]; rfl)) ?_; (with_reducible refine (impl_canHold.calls k3 ((rd_T73 l0_2 x49_3).f0) _ _ ((rd_T73 l0_2 x49_3).f1) ((rd_T73 l0_2 x49_3).f2) _ _ l1 a0_0 true _ ?side1 ?side2 ?side3 ?side4 A29.out).mono ?_); (case side1 => exact Kd.C_below HR187_1.out yhb); (case side2 => exact HC187_1.out); (case side3 => exact Kd.C_below HR1.out yhb); (case side4 => exact HC1.out); rintro e w35 ⟨rfl, hb⟩; refine ⟨_, rfl, ?_⟩; have n0_ := yam (blk_below (g := gb181) (o := .cells #[.int .i64 a0_0, .slice A0_1 l0_1.length c0_1, .slice (some ad187) l0_2.length c0_2] 37 (0, 0)) (by (with_reducible repeat (first | refine ybn ?_ _ | refine ybd ?_ | refine yba ?_ _)); refine blk_far ?_ NB181_188.out _; (with_reducible repeat (first | refine ybn ?_ _ | refine ybd ?_ | refine yba ?_ _)); refine blk_far ?_ NB181_188.out _; (with_reducible repeat (first | refine ybn ?_ _ | refine ybd ?_ | refine yba ?_ _)); refine blk_far ?_ NB181_188.out _; (with_reducible repeat (first | refine ybn ?_ _ | refine ybd ?_ | refine yba ?_ _)); exact BK181.out) hb); have n1_ := yam (blk_below (g := gb188) (o := .cells #[.int .i64 ((rd_T73 l0_2 x49_3).f0), .slice A187_1 ((rd_T73 l0_2 x49_3).f1).length c187_1, .int .i64 ((rd_T73 l0_2 x49_3).f2)] 73 (0, 0)) (by (with_reducible repeat (first | refine ybn ?_ _ | refine ybd ?_ | refine yba ?_ _)); refine blk_put (cs := #[.int .i64 ((rd_T73 l0_2 x49_3).f0), .slice A187_1 ((rd_T73 l0_2 x49_3).f1).length c187_1, .int .i64 0]) ?_ 2 _ rfl; (with_reducible repeat (first | refine ybn ?_ _ | refine ybd ?_ | refine yba ?_ _)); refine blk_put (cs := #[.int .i64 ((rd_T73 l0_2 x49_3).f0), .slice none 0 0, .int .i64 0]) ?_ 1 _ rfl; (with_reducible repeat (first | refine ybn ?_ _ | refine ybd ?_ | refine yba ?_ _)); refine blk_put (cs := #[.int .i64 0, .slice none 0 0, .int .i64 0]) ?_ 0 _ rfl; (with_reducible repeat (first | refine ybn ?_ _ | refine ybd ?_ | refine yba ?_ _)); exact BK188.out) hb); have n2_ := yam (below_step yhb hb); clear BK181; clear BK188; clear HB; have BK181 := n0_; have BK188 := n1_; have HB := n2_; clear n0_ n1_ n2_; (try clear hb); (try clear hb2); (try clear hk); (try clear hi)))
       go_roundg k3
       case measure => have := HJ2.out; have := HK2.out; have := HK3.out; omega
       case rel => exact ⟨(wrap64 (x49_3 + 1)), yeq, H', ⟨by have := HJ2.out; have := HK2.out; have := HK3.out; omega⟩, ⟨by (with_reducible repeat (first | refine ybn ?_ _ | refine ybd ?_ | refine yba ?_ _)); exact BK181.out⟩, ⟨yhb⟩⟩
/-! ### impl_cellFits: function 74 -/
mutual
def impl_cellFits.l0 : Nat → List Int → Int → Int → Int → Int → Int → List Int → List (S73) → Option (Bool)
 | 0, _, _, _, _, _, _, _, _ => none
 | k + 1, x1, x2, x7, x15, x16, x191000, x191001, x191002 => if x16 < x15 then (if x7 = 0 then (none) else ((some (([wrap64 ((wrap64 ((wrap64 (Int.tdiv x2 x7)) * x7)) + x16), wrap64 ((wrap64 (x16 * x7)) + (Int.tmod x2 x7))] : List Int) : List Int)).bind fun y191 => (impl_cellFits.l1 k x1 x2 x7 x15 x16 y191 (y191.length : Int) 0 x191000 x191001 x191002))) else (impl_cellFits.l2 k x1 x2 x7 x191002 (x191002.length : Int) 0)
def impl_cellFits.l1 : Nat → List Int → Int → Int → Int → Int → List Int → Int → Int → Int → List Int → List (S73) → Option (Bool)
 | 0, _, _, _, _, _, _, _, _, _, _, _ => none
 | k + 1, x1, x2, x7, x15, x16, x33, x34, x35, x191000, x191001, x191002 => if x35 < x34 then (if 0 ≤ x35 then (if x35 < (x33.length : Int) then (if (rd x33 x35) = x2 then (impl_cellFits.l1 k x1 x2 x7 x15 x16 x33 x34 (wrap64 (x35 + 1)) x191000 x191001 x191002) else (if 0 ≤ (rd x33 x35) then (if (rd x33 x35) < (x1.length : Int) then (if 0 ≤ x2 then (if x2 < (x1.length : Int) then (if (rd x1 (rd x33 x35)) = (rd x1 x2) then (some false) else (impl_cellFits.l1 k x1 x2 x7 x15 x16 x33 x34 (wrap64 (x35 + 1)) x191000 x191001 x191002)) else (none)) else (none)) else (none)) else (none))) else (none)) else (none)) else (impl_cellFits.l0 k x1 x2 x7 x15 (wrap64 (x16 + 1)) x191000 x191001 x191002)
def impl_cellFits.l2 : Nat → List Int → Int → Int → List (S73) → Int → Int → Option (Bool)
 | 0, _, _, _, _, _, _ => none
 | k + 1, x1, x2, x7, x56, x57, x58 => if x58 < x57 then (if 0 ≤ x58 then (if x58 < (x56.length : Int) then ((slices_Contains_int_int.f k ((rd_T73 x56 x58).f1) x2).bind fun t199 => (if t199 = true then ((impl_canHold.f k ((rd_T73 x56 x58).f0) ((rd_T73 x56 x58).f1) ((rd_T73 x56 x58).f2) x1 x7).bind fun t200 => (if t200 = true then (impl_cellFits.l2 k x1 x2 x7 x56 x57 (wrap64 (x58 + 1))) else (some false))) else (impl_cellFits.l2 k x1 x2 x7 x56 x57 (wrap64 (x58 + 1))))) else (none)) else (none)) else (some true)
end
def impl_cellFits.f (k : Nat) (a0_0 : Int) (l0_1 : List Int) (l0_2 : List (S73)) (l1 : List Int) (a2 : Int) : Option (Bool) := impl_cellFits.l0 k l1 a2 a0_0 a0_0 0 a0_0 l0_1 l0_2
def impl_cellFits.T5 : Bool × List (List Nat × List Nat) := (true, [([], []), ([], []), ([0, 1], [0, 1]), ([], []), ([2, 3], [2, 3]), ([], []), ([4, 5], [4, 5]), ([], []), ([], []), ([7, 8], [7, 8]), ([], []), ([], []), ([10, 11], [10, 11]), ([9, 12], [9, 12]), ([6, 13], [6, 13]), ([14], [14]), ([], [])])
def impl_cellFits.B5 : List Nat := [0, 0, 3, 0, 15, 0, 63, 0, 0, 384, 0, 0, 3072, 8064, 16383, 32767, 0]
theorem impl_cellFits.tab5 : rtab .any (opsOf Try.f74 5) = impl_cellFits.T5 := by kernel_rfl
theorem impl_cellFits.bits5 : waitsOk impl_cellFits.T5.2 impl_cellFits.B5 = true := by kernel_rfl
def impl_cellFits.T8 : Bool × List (List Nat × List Nat) := (true, [([], []), ([], []), ([0, 1], [0, 1]), ([2], [2]), ([3], [3]), ([3], [3]), ([4, 5, 3], [3, 4, 5]), ([6, 3], [3, 6]), ([3], [3]), ([3], [3]), ([8, 9, 3], [3, 8, 9]), ([10, 3], [3, 10]), ([7, 11, 3], [3, 7, 11]), ([3, 12], [3, 12])])
def impl_cellFits.B8 : List Nat := [0, 0, 3, 7, 15, 15, 63, 127, 15, 15, 783, 1807, 4095, 8191]
theorem impl_cellFits.tab8 : rtab .any (opsOf Try.f74 8) = impl_cellFits.T8 := by kernel_rfl
theorem impl_cellFits.bits8 : waitsOk impl_cellFits.T8.2 impl_cellFits.B8 = true := by kernel_rfl
set_option maxHeartbeats 8000000 in
set_option maxRecDepth 100000 in
theorem impl_cellFits.calls (k : Nat) (a0_0 : Int) (A0_1 : Option Addr) (c0_1 : Nat) (l0_1 : List Int) (A0_2 : Option Addr) (c0_2 : Nat) (l0_2 : List (S73)) (A1 : Option Addr) (c1 : Nat) (l1 : List Int) (a2 : Int) (r : Bool) (w : World) (hr0_1 : Kd.C (Kd.int .i64) w A0_1 l0_1.length l0_1) (hc0_1 : l0_1.length ≤ c0_1) (hr0_2 : Kd.C k73 w A0_2 l0_2.length l0_2) (hc0_2 : l0_2.length ≤ c0_2) (hr1 : Kd.C (Kd.int .i64) w A1 l1.length l1) (hc1 : l1.length ≤ c1) (h : impl_cellFits.f k a0_0 l0_1 l0_2 l1 a2 = some r) :
  Calls Try.prog 74 #[.agg #[.int .i64 a0_0, .slice A0_1 l0_1.length c0_1, .slice A0_2 l0_2.length c0_2], .slice A1 l1.length c1, .int .i64 a2] w fun e w' => e = .returned (.bool r) ∧ Below w.heap.size w w' := by
 have hu37 := Try.underlying37
 have hu73 := Try.underlying73
 have HR0_1 := yam hr0_1
 have HC0_1 := yam hc0_1
 clear hr0_1 hc0_1
 have HR0_2 := yam hr0_2
 have HC0_2 := yam hc0_2
 clear hr0_2 hc0_2
 have HR1 := yam hr1
 have HC1 := yam hc1
 clear hr1 hc1
 have HB := yam (Below.refl w.heap.size w)
 have H : (impl_cellFits.l0 k l1 a2 a0_0 a0_0 0 a0_0 l0_1 l0_2) = some r := h
 clear h
 have H' := yam H
 clear H
 go_enter Try.func74, Try.ntmps74
 go_wp2_with (first | ((with_reducible refine gate_dst (N := 3) rfl ?_); refine box_event ?hg (N := 3) ?hd (cs := #[.int .i64 a0_0, .slice A0_1 l0_1.length c0_1, .slice A0_2 l0_2.length c0_2]) (t := 37) ?hr ?_; (case hd => rfl); (case hg => rfl); (case hr => first | (go_simp; done) | (go_simp; rfl)); intro gb190 hg w4 hbox hb; have n0_ := yam (below_step (yez HB.out) hb); have n1_ := yam (hbox); have n2_ := yam ((by rw [hg]; exact (below_size (yez HB.out)) : w.heap.size ≤ gb190)); have n3_ := n2_; clear HB; have HB := n0_; have BK190 := n1_; have GW190 := n2_; have GE190 := n3_; clear n0_ n1_ n2_ n3_; clear hb hbox hg; obtain ⟨hcz5_0, hcz5_1, hcz5_2, hfz5_0, hfz5_1, hfz5_2⟩ := ybc BK190.out))
 go_loopg [16] k (fun kq v16 w' => ∃ (x16_1 : Int), v16 = .int .i64 x16_1 ∧ Aside0 (impl_cellFits.l0 kq l1 a2 a0_0 a0_0 x16_1 a0_0 l0_1 l0_2 = some r) ∧ Aside0 (kq ≤ k) ∧ Aside0 (w'.heap[gb190]? = some (.cells #[.int .i64 a0_0, (.slice A0_1 l0_1.length c0_1), (.slice A0_2 l0_2.length c0_2)] 37 (0, 0))) ∧ Aside0 (Below w.heap.size w w'))
 case atStart => exact ⟨(0), yeq, H', ⟨Nat.le_refl _⟩, ⟨by (with_reducible repeat (first | refine ybn ?_ _ | refine ybd ?_ | refine yba ?_ _)); exact BK190.out⟩, ⟨yhb⟩⟩
 case round =>
  clear H'
  try clear c1
  try clear p2
  try clear hcz5_0
  try clear hcz5_1
  try clear hcz5_2
  try clear hfz5_0
  try clear hfz5_1
  try clear hfz5_2
  obtain ⟨x16_1, rfl, HA, HK1, BK190, HB⟩ := hrel
  cases gk with
  | zero => exact absurd HA.out (by simp [impl_cellFits.l0])
  | succ k1 =>
   have H := HA.out
   clear HA
   simp only [impl_cellFits.l0] at H
   by_cases c6 : x16_1 < a0_0
   rotate_left
   ·rw [if_neg c6] at H
    have c6b0 : decide (x16_1 < a0_0) = false := decide_eq_false c6
    clear c6
    have H' := yam H
    clear H
    obtain ⟨hcz24_0, hcz24_1, hcz24_2, hfz24_0, hfz24_1, hfz24_2⟩ := ybc BK190.out
    go_wp2
    go_loopg [58] k1 (fun kq v58 w' => ∃ (x58_2 : Int), v58 = .int .i64 x58_2 ∧ Aside0 (impl_cellFits.l2 kq l1 a2 a0_0 l0_2 (l0_2.length : Int) x58_2 = some r) ∧ Aside0 (kq ≤ k1) ∧ Aside0 (w'.heap[gb190]? = some (.cells #[.int .i64 a0_0, (.slice A0_1 l0_1.length c0_1), (.slice A0_2 l0_2.length c0_2)] 37 (0, 0))) ∧ Aside0 (Below w.heap.size w w'))
    case atStart => exact ⟨(0), yeq, H', ⟨Nat.le_refl _⟩, ⟨by (with_reducible repeat (first | refine ybn ?_ _ | refine ybd ?_ | refine yba ?_ _)); exact BK190.out⟩, ⟨yhb⟩⟩
    case round =>
     clear H'
     try clear c1
     try clear p1
     try clear q1
     try clear hx1
     try clear c2
     try clear p2
     try clear c6
     try clear c6b0
     try clear p6
     try clear c7
     try clear c7b0
     try clear c7b1
     try clear c12
     try clear c12b0
     try clear c13
     try clear c13b0
     try clear c14
     try clear c14b0
     try clear c15
     try clear c15b0
     try clear c15b1
     try clear c17
     try clear c17b0
     try clear c18
     try clear c18b0
     try clear c19
     try clear c19b0
     try clear p19
     try clear q19
     try clear hx19
     try clear c20
     try clear c20b0
     try clear c21
     try clear c21b0
     try clear c21b1
     try clear hcz24_0
     try clear hcz24_1
     try clear hcz24_2
     try clear hcz5_0
     try clear hcz5_1
     try clear hcz5_2
     try clear hfz24_0
     try clear hfz24_1
     try clear hfz24_2
     try clear hfz5_0
     try clear hfz5_1
     try clear hfz5_2
     try clear hx194_0
     try clear hx195_0
     try clear hx196_0
     try clear p194
     try clear p195
     try clear p196
     try clear p2
     try clear p6
     try clear q194
     try clear q195
     try clear q196
     obtain ⟨x58_2, rfl, HA, HK2, BK190, HB⟩ := hrel
     cases gk with
     | zero => exact absurd HA.out (by simp [impl_cellFits.l2])
     | succ k2 =>
      have H := HA.out
      clear HA
      simp only [impl_cellFits.l2] at H
      by_cases c25 : x58_2 < (l0_2.length : Int)
      rotate_left
      ·rw [if_neg c25] at H
       have c25b0 : decide (x58_2 < (l0_2.length : Int)) = false := decide_eq_false c25
       clear c25
       obtain rfl := Option.some.inj H
       go_wp2
       go_ret
       exact ⟨yer, yhb⟩

      rw [if_pos c25] at H
      have c25b0 : decide (x58_2 < (l0_2.length : Int)) = true := decide_eq_true c25
      clear c25
      by_cases c26 : 0 ≤ x58_2
      rotate_left
      ·rw [if_neg c26] at H
       exact absurd H (by simp)
      rw [if_pos c26] at H
      have c26b0 : decide (0 ≤ x58_2) = true := decide_eq_true c26
      clear c26
      by_cases c27 : x58_2 < (l0_2.length : Int)
      rotate_left
      ·rw [if_neg c27] at H
       exact absurd H (by simp)
      rw [if_pos c27] at H
      have c27b0 : decide (x58_2 < (l0_2.length : Int)) = true := decide_eq_true c27
      clear c27
      replace H := Option.bind_eq_some_iff.mp H
      obtain ⟨t199, A280, H⟩ := H
      try dsimp only at H
      have A28 := yam A280
      clear A280
      by_cases c29 : t199 = true
      rotate_left
      ·replace c29 := Bool.eq_false_iff.mpr c29
       subst c29
       have H1 : (impl_cellFits.l2 k2 l1 a2 a0_0 l0_2 (l0_2.length : Int) (wrap64 (x58_2 + 1))) = some r := by rw [if_neg (show ¬ (false = true) by decide)] at H; exact H
       clear H
       have H := H1
       clear H1
       have H' := yam H
       clear H
       have p197 : 0 ≤ (x58_2 : Int) := of_decide_eq_true (by first | (with_reducible assumption) | assumption)
       have q197 : x58_2 < (l0_2.length : Int) := of_decide_eq_true (by first | (with_reducible assumption) | assumption)
       obtain ⟨ad197, A197_1, c197_1, e197, hx197_0, hx197_1, hx197_2, hl197_1, hi197_1⟩ := at_T73 HR0_2.out x58_2 p197 q197
       cases e197
       replace hx197_0 := ybx HB.out hx197_0
       replace hx197_1 := ybx HB.out hx197_1
       replace hx197_2 := ybx HB.out hx197_2
       have HR197_1 := yam hi197_1
       have HC197_1 := yam hl197_1
       clear hi197_1 hl197_1
       replace p197 := eq_true p197
       replace q197 := eq_true q197
       go_wp2_with (first | ((with_reducible refine gate_dst (N := 12) rfl ?_); refine box_event ?hg (N := 12) ?hd (cs := #[.int .i64 0, .slice none 0 0, .int .i64 0]) (t := 73) ?hr ?_; (case hd => rfl); (case hg => rfl); (case hr => first | (go_simp; done) | (go_simp; rfl)); intro gb198 hg w40 hbox hb; have n0_ := yam (blk_below (g := gb190) (o := .cells #[.int .i64 a0_0, .slice A0_1 l0_1.length c0_1, .slice (some ad197) l0_2.length c0_2] 37 (0, 0)) (ybz BK190.out) hb); have n1_ := yam (below_step yhb hb); have n2_ := yam (hbox); have n3_ := yam ((by rw [hg]; exact (below_size yhb) : w.heap.size ≤ gb198)); have n4_ := n3_; have n5_ := yam ((by rw [hg]; exact Nat.ne_of_lt (blk_lt (g := gb190) (o := .cells #[.int .i64 a0_0, .slice A0_1 l0_1.length c0_1, .slice (some ad197) l0_2.length c0_2] 37 (0, 0)) (ybz BK190.out)) : gb190 ≠ gb198)); have n6_ := yam ((by rw [hg]; exact Nat.ne_of_gt (blk_lt (g := gb190) (o := .cells #[.int .i64 a0_0, .slice A0_1 l0_1.length c0_1, .slice (some ad197) l0_2.length c0_2] 37 (0, 0)) (ybz BK190.out)) : gb198 ≠ gb190)); clear BK190; clear HB; have BK190 := n0_; have HB := n1_; have BK198 := n2_; have GW198 := n3_; have GE198 := n4_; have NB190_198 := n5_; have NB198_190 := n6_; clear n0_ n1_ n2_ n3_ n4_ n5_ n6_; clear hb hbox hg; have hnb41 := NB198_190.out; have hnc41 := NB190_198.out; obtain ⟨hcz42_0, hcz42_1, hcz42_2, hfz42_0, hfz42_1, hfz42_2⟩ := ybc BK198.out) | ((with_reducible refine gate_callee (f := 89) rfl ?_); refine goesL_ (some 65) rfl rfl Try.func89 (by kernel_rfl) rfl #[.slice A197_1 ((rd_T73 l0_2 x58_2).f1).length c197_1, .int .i64 a2] rfl (by (try simp only [List.map_toArray, List.map_cons, List.map_nil]); first | done | rfl | (simp only [List.length_drop, List.length_take]; rfl)) ?_; (with_reducible refine (slices_Contains_int_int.calls k2 _ _ ((rd_T73 l0_2 x58_2).f1) a2 false _ ?side1 ?side2 A28.out).mono ?_); (case side1 => exact Kd.C_below HR197_1.out yhb); (case side2 => exact HC197_1.out); rintro e w' ⟨rfl, ⟨nd, rfl⟩⟩; refine ⟨_, rfl, ?_⟩))
       go_roundg k2
       case measure => have := HK1.out; have := HK2.out; omega
       case rel => exact ⟨(wrap64 (x58_2 + 1)), yeq, H', ⟨by have := HK1.out; have := HK2.out; omega⟩, ⟨by (with_reducible repeat (first | refine ybn ?_ _ | refine ybd ?_ | refine yba ?_ _)); refine blk_far ?_ NB190_198.out _; (with_reducible repeat (first | refine ybn ?_ _ | refine ybd ?_ | refine yba ?_ _)); refine blk_far ?_ NB190_198.out _; (with_reducible repeat (first | refine ybn ?_ _ | refine ybd ?_ | refine yba ?_ _)); refine blk_far ?_ NB190_198.out _; (with_reducible repeat (first | refine ybn ?_ _ | refine ybd ?_ | refine yba ?_ _)); exact BK190.out⟩, ⟨yhb⟩⟩
      subst c29
      have H1 : ((impl_canHold.f k2 ((rd_T73 l0_2 x58_2).f0) ((rd_T73 l0_2 x58_2).f1) ((rd_T73 l0_2 x58_2).f2) l1 a0_0).bind fun t200 => (if t200 = true then (impl_cellFits.l2 k2 l1 a2 a0_0 l0_2 (l0_2.length : Int) (wrap64 (x58_2 + 1))) else (some false))) = some r := by rw [if_pos rfl] at H; exact H
      clear H
      have H := H1
      clear H1
      replace H := Option.bind_eq_some_iff.mp H
      obtain ⟨t200, A300, H⟩ := H
      try dsimp only at H
      have A30 := yam A300
      clear A300
      by_cases c31 : t200 = true
      rotate_left
      ·replace c31 := Bool.eq_false_iff.mpr c31
       subst c31
       have H1 : (some false) = some r := by rw [if_neg (show ¬ (false = true) by decide)] at H; exact H
       clear H
       have H := H1
       clear H1
       obtain rfl := Option.some.inj H
       have p197 : 0 ≤ (x58_2 : Int) := of_decide_eq_true (by first | (with_reducible assumption) | assumption)
       have q197 : x58_2 < (l0_2.length : Int) := of_decide_eq_true (by first | (with_reducible assumption) | assumption)
       obtain ⟨ad197, A197_1, c197_1, e197, hx197_0, hx197_1, hx197_2, hl197_1, hi197_1⟩ := at_T73 HR0_2.out x58_2 p197 q197
       cases e197
       replace hx197_0 := ybx HB.out hx197_0
       replace hx197_1 := ybx HB.out hx197_1
       replace hx197_2 := ybx HB.out hx197_2
       have HR197_1 := yam hi197_1
       have HC197_1 := yam hl197_1
       clear hi197_1 hl197_1
       replace p197 := eq_true p197
       replace q197 := eq_true q197
       go_wp2_with (first | ((with_reducible refine gate_dst (N := 12) rfl ?_); refine box_event ?hg (N := 12) ?hd (cs := #[.int .i64 0, .slice none 0 0, .int .i64 0]) (t := 73) ?hr ?_; (case hd => rfl); (case hg => rfl); (case hr => first | (go_simp; done) | (go_simp; rfl)); intro gb198 hg w36 hbox hb; have n0_ := yam (blk_below (g := gb190) (o := .cells #[.int .i64 a0_0, .slice A0_1 l0_1.length c0_1, .slice (some ad197) l0_2.length c0_2] 37 (0, 0)) (ybz BK190.out) hb); have n1_ := yam (below_step yhb hb); have n2_ := yam (hbox); have n3_ := yam ((by rw [hg]; exact (below_size yhb) : w.heap.size ≤ gb198)); have n4_ := n3_; have n5_ := yam ((by rw [hg]; exact Nat.ne_of_lt (blk_lt (g := gb190) (o := .cells #[.int .i64 a0_0, .slice A0_1 l0_1.length c0_1, .slice (some ad197) l0_2.length c0_2] 37 (0, 0)) (ybz BK190.out)) : gb190 ≠ gb198)); have n6_ := yam ((by rw [hg]; exact Nat.ne_of_gt (blk_lt (g := gb190) (o := .cells #[.int .i64 a0_0, .slice A0_1 l0_1.length c0_1, .slice (some ad197) l0_2.length c0_2] 37 (0, 0)) (ybz BK190.out)) : gb198 ≠ gb190)); clear BK190; clear HB; have BK190 := n0_; have HB := n1_; have BK198 := n2_; have GW198 := n3_; have GE198 := n4_; have NB190_198 := n5_; have NB198_190 := n6_; clear n0_ n1_ n2_ n3_ n4_ n5_ n6_; clear hb hbox hg; have hnb37 := NB198_190.out; have hnc37 := NB190_198.out; obtain ⟨hcz38_0, hcz38_1, hcz38_2, hfz38_0, hfz38_1, hfz38_2⟩ := ybc BK198.out) | ((with_reducible refine gate_callee (f := 89) rfl ?_); refine goesL_ (some 65) rfl rfl Try.func89 (by kernel_rfl) rfl #[.slice A197_1 ((rd_T73 l0_2 x58_2).f1).length c197_1, .int .i64 a2] rfl (by (try simp only [List.map_toArray, List.map_cons, List.map_nil]); first | done | rfl | (simp only [List.length_drop, List.length_take]; rfl)) ?_; (with_reducible refine (slices_Contains_int_int.calls k2 _ _ ((rd_T73 l0_2 x58_2).f1) a2 true _ ?side1 ?side2 A28.out).mono ?_); (case side1 => exact Kd.C_below HR197_1.out yhb); (case side2 => exact HC197_1.out); rintro e w' ⟨rfl, ⟨nd, rfl⟩⟩; refine ⟨_, rfl, ?_⟩) | (go_at_call 88; (with_reducible refine (impl_canHold.calls k2 ((rd_T73 l0_2 x58_2).f0) _ _ ((rd_T73 l0_2 x58_2).f1) ((rd_T73 l0_2 x58_2).f2) _ _ l1 a0_0 false _ ?side1 ?side2 ?side3 ?side4 A30.out).mono ?_); (case side1 => exact Kd.C_below HR197_1.out yhb); (case side2 => exact HC197_1.out); (case side3 => exact Kd.C_below HR1.out yhb); (case side4 => exact HC1.out); rintro e w39 ⟨rfl, hb⟩; have n0_ := yam (blk_below (g := gb190) (o := .cells #[.int .i64 a0_0, .slice A0_1 l0_1.length c0_1, .slice (some ad197) l0_2.length c0_2] 37 (0, 0)) (by (with_reducible repeat (first | refine ybn ?_ _ | refine ybd ?_ | refine yba ?_ _)); refine blk_far ?_ NB190_198.out _; (with_reducible repeat (first | refine ybn ?_ _ | refine ybd ?_ | refine yba ?_ _)); refine blk_far ?_ NB190_198.out _; (with_reducible repeat (first | refine ybn ?_ _ | refine ybd ?_ | refine yba ?_ _)); refine blk_far ?_ NB190_198.out _; (with_reducible repeat (first | refine ybn ?_ _ | refine ybd ?_ | refine yba ?_ _)); exact BK190.out) hb); have n1_ := yam (blk_below (g := gb198) (o := .cells #[.int .i64 ((rd_T73 l0_2 x58_2).f0), .slice A197_1 ((rd_T73 l0_2 x58_2).f1).length c197_1, .int .i64 ((rd_T73 l0_2 x58_2).f2)] 73 (0, 0)) (by (with_reducible repeat (first | refine ybn ?_ _ | refine ybd ?_ | refine yba ?_ _)); refine blk_put (cs := #[.int .i64 ((rd_T73 l0_2 x58_2).f0), .slice A197_1 ((rd_T73 l0_2 x58_2).f1).length c197_1, .int .i64 0]) ?_ 2 _ rfl; (with_reducible repeat (first | refine ybn ?_ _ | refine ybd ?_ | refine yba ?_ _)); refine blk_put (cs := #[.int .i64 ((rd_T73 l0_2 x58_2).f0), .slice none 0 0, .int .i64 0]) ?_ 1 _ rfl; (with_reducible repeat (first | refine ybn ?_ _ | refine ybd ?_ | refine yba ?_ _)); refine blk_put (cs := #[.int .i64 0, .slice none 0 0, .int .i64 0]) ?_ 0 _ rfl; (with_reducible repeat (first | refine ybn ?_ _ | refine ybd ?_ | refine yba ?_ _)); exact BK198.out) hb); have n2_ := yam (below_step yhb hb); clear BK190; clear BK198; clear HB; have BK190 := n0_; have BK198 := n1_; have HB := n2_; clear n0_ n1_ n2_; (try clear hb); (try clear hb2); (try clear hk); (try clear hi)))
       go_ret
       exact ⟨yer, yhb⟩
      subst c31
      have H1 : (impl_cellFits.l2 k2 l1 a2 a0_0 l0_2 (l0_2.length : Int) (wrap64 (x58_2 + 1))) = some r := by rw [if_pos rfl] at H; exact H
      clear H
      have H := H1
      clear H1
      have H' := yam H
      clear H
      have p197 : 0 ≤ (x58_2 : Int) := of_decide_eq_true (by first | (with_reducible assumption) | assumption)
      have q197 : x58_2 < (l0_2.length : Int) := of_decide_eq_true (by first | (with_reducible assumption) | assumption)
      obtain ⟨ad197, A197_1, c197_1, e197, hx197_0, hx197_1, hx197_2, hl197_1, hi197_1⟩ := at_T73 HR0_2.out x58_2 p197 q197
      cases e197
      replace hx197_0 := ybx HB.out hx197_0
      replace hx197_1 := ybx HB.out hx197_1
      replace hx197_2 := ybx HB.out hx197_2
      have HR197_1 := yam hi197_1
      have HC197_1 := yam hl197_1
      clear hi197_1 hl197_1
      replace p197 := eq_true p197
      replace q197 := eq_true q197
      go_wp2_with (first | ((with_reducible refine gate_dst (N := 12) rfl ?_); refine box_event ?hg (N := 12) ?hd (cs := #[.int .i64 0, .slice none 0 0, .int .i64 0]) (t := 73) ?hr ?_; (case hd => rfl); (case hg => rfl); (case hr => first | (go_simp; done) | (go_simp; rfl)); intro gb198 hg w32 hbox hb; have n0_ := yam (blk_below (g := gb190) (o := .cells #[.int .i64 a0_0, .slice A0_1 l0_1.length c0_1, .slice (some ad197) l0_2.length c0_2] 37 (0, 0)) (ybz BK190.out) hb); have n1_ := yam (below_step yhb hb); have n2_ := yam (hbox); have n3_ := yam ((by rw [hg]; exact (below_size yhb) : w.heap.size ≤ gb198)); have n4_ := n3_; have n5_ := yam ((by rw [hg]; exact Nat.ne_of_lt (blk_lt (g := gb190) (o := .cells #[.int .i64 a0_0, .slice A0_1 l0_1.length c0_1, .slice (some ad197) l0_2.length c0_2] 37 (0, 0)) (ybz BK190.out)) : gb190 ≠ gb198)); have n6_ := yam ((by rw [hg]; exact Nat.ne_of_gt (blk_lt (g := gb190) (o := .cells #[.int .i64 a0_0, .slice A0_1 l0_1.length c0_1, .slice (some ad197) l0_2.length c0_2] 37 (0, 0)) (ybz BK190.out)) : gb198 ≠ gb190)); clear BK190; clear HB; have BK190 := n0_; have HB := n1_; have BK198 := n2_; have GW198 := n3_; have GE198 := n4_; have NB190_198 := n5_; have NB198_190 := n6_; clear n0_ n1_ n2_ n3_ n4_ n5_ n6_; clear hb hbox hg; have hnb33 := NB198_190.out; have hnc33 := NB190_198.out; obtain ⟨hcz34_0, hcz34_1, hcz34_2, hfz34_0, hfz34_1, hfz34_2⟩ := ybc BK198.out) | ((with_reducible refine gate_callee (f := 89) rfl ?_); refine goesL_ (some 65) rfl rfl Try.func89 (by kernel_rfl) rfl #[.slice A197_1 ((rd_T73 l0_2 x58_2).f1).length c197_1, .int .i64 a2] rfl (by (try simp only [List.map_toArray, List.map_cons, List.map_nil]); first | done | rfl | (simp only [List.length_drop, List.length_take]; rfl)) ?_; (with_reducible refine (slices_Contains_int_int.calls k2 _ _ ((rd_T73 l0_2 x58_2).f1) a2 true _ ?side1 ?side2 A28.out).mono ?_); (case side1 => exact Kd.C_below HR197_1.out yhb); (case side2 => exact HC197_1.out); rintro e w' ⟨rfl, ⟨nd, rfl⟩⟩; refine ⟨_, rfl, ?_⟩) | (go_at_call 88; (with_reducible refine (impl_canHold.calls k2 ((rd_T73 l0_2 x58_2).f0) _ _ ((rd_T73 l0_2 x58_2).f1) ((rd_T73 l0_2 x58_2).f2) _ _ l1 a0_0 true _ ?side1 ?side2 ?side3 ?side4 A30.out).mono ?_); (case side1 => exact Kd.C_below HR197_1.out yhb); (case side2 => exact HC197_1.out); (case side3 => exact Kd.C_below HR1.out yhb); (case side4 => exact HC1.out); rintro e w35 ⟨rfl, hb⟩; have n0_ := yam (blk_below (g := gb190) (o := .cells #[.int .i64 a0_0, .slice A0_1 l0_1.length c0_1, .slice (some ad197) l0_2.length c0_2] 37 (0, 0)) (by (with_reducible repeat (first | refine ybn ?_ _ | refine ybd ?_ | refine yba ?_ _)); refine blk_far ?_ NB190_198.out _; (with_reducible repeat (first | refine ybn ?_ _ | refine ybd ?_ | refine yba ?_ _)); refine blk_far ?_ NB190_198.out _; (with_reducible repeat (first | refine ybn ?_ _ | refine ybd ?_ | refine yba ?_ _)); refine blk_far ?_ NB190_198.out _; (with_reducible repeat (first | refine ybn ?_ _ | refine ybd ?_ | refine yba ?_ _)); exact BK190.out) hb); have n1_ := yam (blk_below (g := gb198) (o := .cells #[.int .i64 ((rd_T73 l0_2 x58_2).f0), .slice A197_1 ((rd_T73 l0_2 x58_2).f1).length c197_1, .int .i64 ((rd_T73 l0_2 x58_2).f2)] 73 (0, 0)) (by (with_reducible repeat (first | refine ybn ?_ _ | refine ybd ?_ | refine yba ?_ _)); refine blk_put (cs := #[.int .i64 ((rd_T73 l0_2 x58_2).f0), .slice A197_1 ((rd_T73 l0_2 x58_2).f1).length c197_1, .int .i64 0]) ?_ 2 _ rfl; (with_reducible repeat (first | refine ybn ?_ _ | refine ybd ?_ | refine yba ?_ _)); refine blk_put (cs := #[.int .i64 ((rd_T73 l0_2 x58_2).f0), .slice none 0 0, .int .i64 0]) ?_ 1 _ rfl; (with_reducible repeat (first | refine ybn ?_ _ | refine ybd ?_ | refine yba ?_ _)); refine blk_put (cs := #[.int .i64 0, .slice none 0 0, .int .i64 0]) ?_ 0 _ rfl; (with_reducible repeat (first | refine ybn ?_ _ | refine ybd ?_ | refine yba ?_ _)); exact BK198.out) hb); have n2_ := yam (below_step yhb hb); clear BK190; clear BK198; clear HB; have BK190 := n0_; have BK198 := n1_; have HB := n2_; clear n0_ n1_ n2_; (try clear hb); (try clear hb2); (try clear hk); (try clear hi)))
      go_roundg k2
      case measure => have := HK1.out; have := HK2.out; omega
      case rel => exact ⟨(wrap64 (x58_2 + 1)), yeq, H', ⟨by have := HK1.out; have := HK2.out; omega⟩, ⟨by (with_reducible repeat (first | refine ybn ?_ _ | refine ybd ?_ | refine yba ?_ _)); exact BK190.out⟩, ⟨yhb⟩⟩
   rw [if_pos c6] at H
   have c6b0 : decide (x16_1 < a0_0) = true := decide_eq_true c6
   clear c6
   by_cases c7 : a0_0 = 0
   ·rw [if_pos c7] at H
    exact absurd H (by simp)
   rw [if_neg c7] at H
   have c7b0 : (a0_0 == 0) = false := beq_eq_false_iff_ne.mpr c7
   have c7b1 : (a0_0 != 0) = true := bne_iff_ne.mpr c7
   obtain ⟨y191, hy191⟩ : ∃ y_ : List Int, y_ = (([wrap64 ((wrap64 ((wrap64 (Int.tdiv a2 a0_0)) * a0_0)) + x16_1), wrap64 ((wrap64 (x16_1 * a0_0)) + (Int.tmod a2 a0_0))] : List Int)) := ⟨_, rfl⟩
   replace H : (impl_cellFits.l1 k1 l1 a2 a0_0 a0_0 x16_1 y191 (y191.length : Int) 0 a0_0 l0_1 l0_2) = some r := by first | (rw [hy191]; with_reducible exact H) | (have H2_ := (Option.bind_some _ _).symm.trans H; rw [hy191]; with_reducible exact H2_) | (have H2_ := (Option.bind_some _ _).symm.trans H; with_reducible exact H2_) | with_reducible exact H | (rw [hy191]; exact H) | exact H
   have Ny191 := yam hy191
   clear hy191
   have H' := yam H
   clear H
   try go_wp2
   have n0_ := yam (ybd BK190.out)
   have n1_ := yam (yed HB.out)
   clear BK190
   clear HB
   have BK190 := n0_
   have HB := n1_
   clear n0_ n1_
   refine start_ (n := 17) (S := fun w' => True) (ds := []) #[false, false, false, false, false, false, false, false, false, false, false, false, false, false, false, false, false] (by kernel_rfl) rfl rfl trivial (fun hHeld => ?_); refine with_tabW impl_cellFits.tab5 impl_cellFits.bits5 (fun HT_ HW_ => ?_)
   generalize wr.drew = w8 at BK190 HB hHeld ⊢
   refine yvp 0 19 (yvb 17 1) HT_.out ?_
   refine yvp 1 20 (yvb 17 3) HT_.out ?_
   refine yvp 2 21 (yvb 17 7) HT_.out ?_
   refine yvp 3 22 (yvb 17 15) HT_.out ?_
   refine yvp 4 23 (yvb 17 31) HT_.out ?_
   refine yvp 5 24 (yvb 17 63) HT_.out ?_
   refine yvp 6 25 (yvb 17 127) HT_.out ?_
   refine yvp 7 26 (yvb 17 255) HT_.out ?_
   refine yvp 8 27 (yvb 17 511) HT_.out ?_
   refine yvp 9 28 (yvb 17 1023) HT_.out ?_
   refine yvp 10 29 (yvb 17 2047) HT_.out ?_
   refine yvp 11 30 (yvb 17 4095) HT_.out ?_
   refine yvp 12 31 (yvb 17 8191) HT_.out ?_
   refine yvp 13 32 (yvb 17 16383) HT_.out ?_
   refine yvp 16 35 (yvb 17 81919) HT_.out ?_
   refine one_ (i := 14) (N := some 33) #[true, true, true, true, true, true, true, true, true, true, true, true, true, true, true, false, true] rfl rfl (one_of HT_.out (by kernel_rfl)) (by decide) (fun K hK => ?_)
   refine Kd.R_lit_step (Kd.int .i64) _ 3 ?hg (N := 33) ?hd (xs := ([wrap64 ((wrap64 ((wrap64 (Int.tdiv a2 a0_0)) * a0_0)) + x16_1), wrap64 ((wrap64 (x16_1 * a0_0)) + (Int.tmod a2 a0_0))] : List Int)) (inner := [.int .i64 (wrap64 ((wrap64 ((wrap64 (Int.tdiv a2 a0_0)) * a0_0)) + x16_1)), .int .i64 (wrap64 ((wrap64 (x16_1 * a0_0)) + (Int.tmod a2 a0_0)))]) (ok := fun _ => True) (okp := fun _ => True) ?hr ?hp (fun _ hk => hk) trivial (Below.refl _ _) (Nat.le_refl _) (by simp) ?_; (case hd => rfl); (case hg => rfl); (case hr => first | (go_simp; done) | (go_simp; rfl)); (case hp => exact (Reps.one (show Kd.M (Kd.int .i64) _ _ _ (wrap64 ((wrap64 ((wrap64 (Int.tdiv a2 a0_0)) * a0_0)) + x16_1)) [.int .i64 (wrap64 ((wrap64 ((wrap64 (Int.tdiv a2 a0_0)) * a0_0)) + x16_1))] from rfl) (Reps.one (show Kd.M (Kd.int .i64) _ _ _ (wrap64 ((wrap64 (x16_1 * a0_0)) + (Int.tmod a2 a0_0))) [.int .i64 (wrap64 ((wrap64 (x16_1 * a0_0)) + (Int.tmod a2 a0_0)))] from rfl) (Reps.none _ _))))
   intro v192 w9 ho10 hb hg_ hnew_
   clear hg_ hnew_
   (first | rw [← Ny191.out] at ho10 | (simp only [Int.reduceToNat] at ho10; rw [← Ny191.out] at ho10))
   have n0_ := yam (Kd.R_lower ho10 (below_size yhb))
   have n1_ := yam (blk_below (g := gb190) (o := .cells #[.int .i64 a0_0, .slice A0_1 l0_1.length c0_1, .slice A0_2 l0_2.length c0_2] 37 (0, 0)) (ybz BK190.out) hb)
   have n2_ := yam (below_step yhb hb)
   clear BK190
   clear HB
   have HO193 := n0_
   have BK190 := n1_
   have HB := n2_
   clear n0_ n1_ n2_
   clear hb ho10
   obtain ⟨Ao11, co11, eo11⟩ := Kd.R_slice HO193.out
   (first | subst eo11 | (injection eo11 with f1_ f2_ f3_; have f4_ := f1_.symm; have f5_ := f3_.symm; clear f1_ f2_ f3_; subst f4_; subst f5_))
   refine hK.out _ _ trivial (fun hHeld => ?_)
   clear hK K
   refine norm_ (a' := ?_) ?_ ?_
   rotate_left
   ·show Act.put _ (some 33) _ = _
    simp only [Act.put, yps, i64_w, i32_w]
    rfl
   refine yvp 15 34 (yvb 17 131071) HT_.out ?_
   refine done_ (done_of HT_.out (by kernel_rfl)) ?_
   try go_wp2
   go_loopg [35] k1 (fun kq v35 w' => ∃ (x35_2 : Int), v35 = .int .i64 x35_2 ∧ Aside0 (impl_cellFits.l1 kq l1 a2 a0_0 a0_0 x16_1 y191 (y191.length : Int) x35_2 a0_0 l0_1 l0_2 = some r) ∧ Aside0 (kq ≤ k1) ∧ Aside0 (Kd.R (Kd.int .i64) 3 w' w.heap.size (fun _ => True) (.slice Ao11 y191.length co11) y191) ∧ Aside0 (w'.heap[gb190]? = some (.cells #[.int .i64 a0_0, (.slice A0_1 l0_1.length c0_1), (.slice A0_2 l0_2.length c0_2)] 37 (0, 0))) ∧ Aside0 (Below w.heap.size w w'))
   case atStart => exact ⟨(0), yeq, H', ⟨Nat.le_refl _⟩, ⟨by (with_reducible repeat (first | apply Kd.Ya | apply Kd.Yn | apply Kd.Yd)); exact HO193.out⟩, ⟨by (with_reducible repeat (first | refine ybn ?_ _ | refine ybd ?_ | refine yba ?_ _)); exact BK190.out⟩, ⟨yhb⟩⟩
   case round =>
    clear H'
    try clear c1
    try clear p2
    try clear c6
    try clear c6b0
    try clear p6
    try clear c7
    try clear c7b0
    try clear c7b1
    try clear hcz5_0
    try clear hcz5_1
    try clear hcz5_2
    try clear hfz5_0
    try clear hfz5_1
    try clear hfz5_2
    try clear p2
    obtain ⟨x35_2, rfl, HA, HK2, HO_33, BK190, HB⟩ := hrel
    cases gk with
    | zero => exact absurd HA.out (by simp [impl_cellFits.l1])
    | succ k2 =>
     have H := HA.out
     clear HA
     simp only [impl_cellFits.l1] at H
     by_cases c12 : x35_2 < (y191.length : Int)
     rotate_left
     ·rw [if_neg c12] at H
      have c12b0 : decide (x35_2 < (y191.length : Int)) = false := decide_eq_false c12
      clear c12
      have H' := yam H
      clear H
      go_wp2
      go_roundg k2
      case measure => have := HK1.out; have := HK2.out; omega
      case rel => exact ⟨(wrap64 (x16_1 + 1)), yeq, H', ⟨by have := HK1.out; have := HK2.out; omega⟩, ⟨by (with_reducible repeat (first | refine ybn ?_ _ | refine ybd ?_ | refine yba ?_ _)); exact BK190.out⟩, ⟨yhb⟩⟩
     rw [if_pos c12] at H
     have c12b0 : decide (x35_2 < (y191.length : Int)) = true := decide_eq_true c12
     clear c12
     by_cases c13 : 0 ≤ x35_2
     rotate_left
     ·rw [if_neg c13] at H
      exact absurd H (by simp)
     rw [if_pos c13] at H
     have c13b0 : decide (0 ≤ x35_2) = true := decide_eq_true c13
     clear c13
     by_cases c14 : x35_2 < (y191.length : Int)
     rotate_left
     ·rw [if_neg c14] at H
      exact absurd H (by simp)
     rw [if_pos c14] at H
     have c14b0 : decide (x35_2 < (y191.length : Int)) = true := decide_eq_true c14
     clear c14
     by_cases c15 : (rd y191 x35_2) = a2
     ·rw [if_pos c15] at H
      have c15b0 : ((rd y191 x35_2) == a2) = true := beq_iff_eq.mpr c15
      have c15b1 : ((rd y191 x35_2) != a2) = false := bne_eq_false_iff_eq.mpr c15
      clear c15
      have H' := yam H
      clear H
      have p194 : 0 ≤ (x35_2 : Int) := of_decide_eq_true (by first | (with_reducible assumption) | assumption)
      have q194 : x35_2 < (y191.length : Int) := of_decide_eq_true (by first | (with_reducible assumption) | assumption)
      obtain ⟨ad194, e194, hx194_0⟩ := Kd.at_int (Kd.Yr HO_33.out).2.2 x35_2 p194 q194
      cases e194
      replace p194 := eq_true p194
      replace q194 := eq_true q194
      try go_wp2
      have n0_ := yam (Kd.Yd HO_33.out)
      have n1_ := yam (ybd BK190.out)
      have n2_ := yam (yed HB.out)
      clear HO_33
      clear BK190
      clear HB
      have HO_33 := n0_
      have BK190 := n1_
      have HB := n2_
      clear n0_ n1_ n2_
      refine start_ (n := 14) (S := fun w' => True) (ds := []) #[false, false, false, false, false, false, false, false, false, false, false, false, false, false] (by kernel_rfl) rfl rfl trivial (fun hHeld => ?_); refine with_tabW impl_cellFits.tab8 impl_cellFits.bits8 (fun HT_ HW_ => ?_)
      generalize wr.drew = w16 at HO_33 BK190 HB hHeld ⊢
      refine yvp 0 39 (yvb 14 1) HT_.out ?_
      refine yvp 1 40 (yvb 14 3) HT_.out ?_
      refine yvp 2 41 (yvb 14 7) HT_.out ?_
      refine yvp 3 42 (yvb 14 15) HT_.out ?_
      refine yvu 4 43 (yvb 14 31) HT_.out ?_
      refine yvu 5 44 (yvb 14 63) HT_.out ?_
      refine yvu 6 45 (yvb 14 127) HT_.out ?_
      refine yvu 7 46 (yvb 14 255) HT_.out ?_
      refine yvu 8 47 (yvb 14 511) HT_.out ?_
      refine yvu 9 48 (yvb 14 1023) HT_.out ?_
      refine yvu 10 49 (yvb 14 2047) HT_.out ?_
      refine yvu 11 50 (yvb 14 4095) HT_.out ?_
      refine yvu 12 51 (yvb 14 8191) HT_.out ?_
      refine yvp 13 52 (yvb 14 16383) HT_.out ?_
      refine done_ (done_of HT_.out (by kernel_rfl)) ?_
      try go_wp2
      go_roundg k2
      case measure => have := HK1.out; have := HK2.out; omega
      case rel => exact ⟨(wrap64 (x35_2 + 1)), yeq, H', ⟨by have := HK1.out; have := HK2.out; omega⟩, ⟨by (with_reducible repeat (first | apply Kd.Ya | apply Kd.Yn | apply Kd.Yd)); exact HO_33.out⟩, ⟨by (with_reducible repeat (first | refine ybn ?_ _ | refine ybd ?_ | refine yba ?_ _)); exact BK190.out⟩, ⟨yhb⟩⟩
     rw [if_neg c15] at H
     have c15b0 : ((rd y191 x35_2) == a2) = false := beq_eq_false_iff_ne.mpr c15
     have c15b1 : ((rd y191 x35_2) != a2) = true := bne_iff_ne.mpr c15
     by_cases c17 : 0 ≤ (rd y191 x35_2)
     rotate_left
     ·rw [if_neg c17] at H
      exact absurd H (by simp)
     rw [if_pos c17] at H
     have c17b0 : decide (0 ≤ (rd y191 x35_2)) = true := decide_eq_true c17
     clear c17
     by_cases c18 : (rd y191 x35_2) < (l1.length : Int)
     rotate_left
     ·rw [if_neg c18] at H
      exact absurd H (by simp)
     rw [if_pos c18] at H
     have c18b0 : decide ((rd y191 x35_2) < (l1.length : Int)) = true := decide_eq_true c18
     clear c18
     by_cases c19 : 0 ≤ a2
     rotate_left
     ·rw [if_neg c19] at H
      exact absurd H (by simp)
     rw [if_pos c19] at H
     have c19b0 : decide (0 ≤ a2) = true := decide_eq_true c19
     clear c19
     by_cases c20 : a2 < (l1.length : Int)
     rotate_left
     ·rw [if_neg c20] at H
      exact absurd H (by simp)
     rw [if_pos c20] at H
     have c20b0 : decide (a2 < (l1.length : Int)) = true := decide_eq_true c20
     clear c20
     by_cases c21 : (rd l1 (rd y191 x35_2)) = (rd l1 a2)
     ·rw [if_pos c21] at H
      have c21b0 : ((rd l1 (rd y191 x35_2)) == (rd l1 a2)) = true := beq_iff_eq.mpr c21
      have c21b1 : ((rd l1 (rd y191 x35_2)) != (rd l1 a2)) = false := bne_eq_false_iff_eq.mpr c21
      clear c21
      obtain rfl := Option.some.inj H
      have p194 : 0 ≤ (x35_2 : Int) := of_decide_eq_true (by first | (with_reducible assumption) | assumption)
      have q194 : x35_2 < (y191.length : Int) := of_decide_eq_true (by first | (with_reducible assumption) | assumption)
      obtain ⟨ad194, e194, hx194_0⟩ := Kd.at_int (Kd.Yr HO_33.out).2.2 x35_2 p194 q194
      cases e194
      replace p194 := eq_true p194
      replace q194 := eq_true q194
      try go_wp2
      have n0_ := yam (Kd.Yd HO_33.out)
      have n1_ := yam (ybd BK190.out)
      have n2_ := yam (yed HB.out)
      clear HO_33
      clear BK190
      clear HB
      have HO_33 := n0_
      have BK190 := n1_
      have HB := n2_
      clear n0_ n1_ n2_
      have p195 : 0 ≤ ((rd y191 x35_2) : Int) := of_decide_eq_true (by first | (with_reducible assumption) | assumption)
      have q195 : (rd y191 x35_2) < (l1.length : Int) := of_decide_eq_true (by first | (with_reducible assumption) | assumption)
      obtain ⟨ad195, e195, hx195_0⟩ := Kd.at_int HR1.out (rd y191 x35_2) p195 q195
      have hw195_0 := hx195_0
      cases e195
      replace hx195_0 := ybx HB.out hx195_0
      replace p195 := eq_true p195
      replace q195 := eq_true q195
      have p196 : 0 ≤ (a2 : Int) := of_decide_eq_true (by first | (with_reducible assumption) | assumption)
      have q196 : a2 < (l1.length : Int) := of_decide_eq_true (by first | (with_reducible assumption) | assumption)
      obtain ⟨ad196, e196, hx196_0⟩ := Kd.at_int HR1.out a2 p196 q196
      have hw196_0 := hx196_0
      obtain rfl : ad195 = ad196 := (by injection e196)
      replace hx196_0 := ybx HB.out hx196_0
      replace p196 := eq_true p196
      replace q196 := eq_true q196
      refine start_ (n := 14) (S := fun w' => w'.cell? (ad195.add ((rd y191 x35_2)).toNat) = some (.int .i64 (rd l1 (rd y191 x35_2))) ∧ w'.cell? (ad195.add (a2).toNat) = some (.int .i64 (rd l1 a2))) (ds := []) #[false, false, false, false, false, false, false, false, false, false, false, false, false, false] (by kernel_rfl) rfl rfl ⟨((HB.out.cell (World.block_lt_of_cell? w _ hw195_0)).trans hw195_0), ((HB.out.cell (World.block_lt_of_cell? w _ hw196_0)).trans hw196_0)⟩ (fun hHeld => ?_); refine with_tabW impl_cellFits.tab8 impl_cellFits.bits8 (fun HT_ HW_ => ?_)
      generalize wr.drew = w22 at HO_33 BK190 HB hx195_0 hx196_0 hHeld ⊢
      refine yvp 0 39 (yvb 14 1) HT_.out ?_
      refine yvp 1 40 (yvb 14 3) HT_.out ?_
      refine yvp 2 41 (yvb 14 7) HT_.out ?_
      refine yvp 3 42 (yvb 14 15) HT_.out ?_
      refine yvp 4 43 (yvb 14 31) HT_.out ?_
      refine yvp 5 44 (yvb 14 63) HT_.out ?_
      refine yvp 6 45 (yvb 14 127) HT_.out ?_
      refine yvp 8 47 (yvb 14 383) HT_.out ?_
      refine yvp 9 48 (yvb 14 895) HT_.out ?_
      refine yvp 10 49 (yvb 14 1919) HT_.out ?_
      refine yvt 7 46 (yvb 14 2047) HT_.out HW_.out hHeld ?_
      refine yvt 11 50 (yvb 14 4095) HT_.out HW_.out hHeld ?_
      refine yvp 12 51 (yvb 14 8191) HT_.out ?_
      refine yvp 13 52 (yvb 14 16383) HT_.out ?_
      refine done_ (done_of HT_.out (by kernel_rfl)) ?_
      try go_wp2
      go_ret
      exact ⟨yer, yhb⟩
     rw [if_neg c21] at H
     have c21b0 : ((rd l1 (rd y191 x35_2)) == (rd l1 a2)) = false := beq_eq_false_iff_ne.mpr c21
     have c21b1 : ((rd l1 (rd y191 x35_2)) != (rd l1 a2)) = true := bne_iff_ne.mpr c21
     have H' := yam H
     clear H
     have p194 : 0 ≤ (x35_2 : Int) := of_decide_eq_true (by first | (with_reducible assumption) | assumption)
     have q194 : x35_2 < (y191.length : Int) := of_decide_eq_true (by first | (with_reducible assumption) | assumption)
     obtain ⟨ad194, e194, hx194_0⟩ := Kd.at_int (Kd.Yr HO_33.out).2.2 x35_2 p194 q194
     cases e194
     replace p194 := eq_true p194
     replace q194 := eq_true q194
     try go_wp2
     have n0_ := yam (Kd.Yd HO_33.out)
     have n1_ := yam (ybd BK190.out)
     have n2_ := yam (yed HB.out)
     clear HO_33
     clear BK190
     clear HB
     have HO_33 := n0_
     have BK190 := n1_
     have HB := n2_
     clear n0_ n1_ n2_
     have p195 : 0 ≤ ((rd y191 x35_2) : Int) := of_decide_eq_true (by first | (with_reducible assumption) | assumption)
     have q195 : (rd y191 x35_2) < (l1.length : Int) := of_decide_eq_true (by first | (with_reducible assumption) | assumption)
     obtain ⟨ad195, e195, hx195_0⟩ := Kd.at_int HR1.out (rd y191 x35_2) p195 q195
     have hw195_0 := hx195_0
     cases e195
     replace hx195_0 := ybx HB.out hx195_0
     replace p195 := eq_true p195
     replace q195 := eq_true q195
     have p196 : 0 ≤ (a2 : Int) := of_decide_eq_true (by first | (with_reducible assumption) | assumption)
     have q196 : a2 < (l1.length : Int) := of_decide_eq_true (by first | (with_reducible assumption) | assumption)
     obtain ⟨ad196, e196, hx196_0⟩ := Kd.at_int HR1.out a2 p196 q196
     have hw196_0 := hx196_0
     obtain rfl : ad195 = ad196 := (by injection e196)
     replace hx196_0 := ybx HB.out hx196_0
     replace p196 := eq_true p196
     replace q196 := eq_true q196
     refine start_ (n := 14) (S := fun w' => w'.cell? (ad195.add ((rd y191 x35_2)).toNat) = some (.int .i64 (rd l1 (rd y191 x35_2))) ∧ w'.cell? (ad195.add (a2).toNat) = some (.int .i64 (rd l1 a2))) (ds := []) #[false, false, false, false, false, false, false, false, false, false, false, false, false, false] (by kernel_rfl) rfl rfl ⟨((HB.out.cell (World.block_lt_of_cell? w _ hw195_0)).trans hw195_0), ((HB.out.cell (World.block_lt_of_cell? w _ hw196_0)).trans hw196_0)⟩ (fun hHeld => ?_); refine with_tabW impl_cellFits.tab8 impl_cellFits.bits8 (fun HT_ HW_ => ?_)
     generalize wr.drew = w23 at HO_33 BK190 HB hx195_0 hx196_0 hHeld ⊢
     refine yvp 0 39 (yvb 14 1) HT_.out ?_
     refine yvp 1 40 (yvb 14 3) HT_.out ?_
     refine yvp 2 41 (yvb 14 7) HT_.out ?_
     refine yvp 3 42 (yvb 14 15) HT_.out ?_
     refine yvp 4 43 (yvb 14 31) HT_.out ?_
     refine yvp 5 44 (yvb 14 63) HT_.out ?_
     refine yvp 6 45 (yvb 14 127) HT_.out ?_
     refine yvp 8 47 (yvb 14 383) HT_.out ?_
     refine yvp 9 48 (yvb 14 895) HT_.out ?_
     refine yvp 10 49 (yvb 14 1919) HT_.out ?_
     refine yvt 7 46 (yvb 14 2047) HT_.out HW_.out hHeld ?_
     refine yvt 11 50 (yvb 14 4095) HT_.out HW_.out hHeld ?_
     refine yvp 12 51 (yvb 14 8191) HT_.out ?_
     refine yvp 13 52 (yvb 14 16383) HT_.out ?_
     refine done_ (done_of HT_.out (by kernel_rfl)) ?_
     try go_wp2
     go_roundg k2
     case measure => have := HK1.out; have := HK2.out; omega
     case rel => exact ⟨(wrap64 (x35_2 + 1)), yeq, H', ⟨by have := HK1.out; have := HK2.out; omega⟩, ⟨by (with_reducible repeat (first | apply Kd.Ya | apply Kd.Yn | apply Kd.Yd)); exact HO_33.out⟩, ⟨by (with_reducible repeat (first | refine ybn ?_ _ | refine ybd ?_ | refine yba ?_ _)); exact BK190.out⟩, ⟨yhb⟩⟩
end Go.Proofs.Ytmjbnghhfadapaa.P
