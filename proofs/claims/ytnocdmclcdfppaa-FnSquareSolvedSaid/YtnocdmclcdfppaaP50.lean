/- The machine's side of laws of this seat: each Go function as a plain Lean function and the proof that the machine's call does what that function says; written by this session's own program over the kit's print. -/
import Derived.Test.YtnocdmclcdfppaaP0
import Derived.Test.YtnocdmclcdfppaaP6
import Derived.Test.YtnocdmclcdfppaaP10
namespace Go.Proofs.Ytnocdmclcdfppaa.P
open Go.RowKit Go.Proofs.YtnocdmclcdfppaaW.PrintWords Go.Proofs.YtnocdmclcdfppaaW.PrintLast Go.Proofs.YtnocdmclcdfppaaW.PrintMore
attribute [local go_sem] max2_int min2_int max_two min_two max_three min_three max_four min_four   -- for this text's walks alone
set_option linter.unusedVariables false
set_option linter.unusedSimpArgs false

/-! ### impl_MissingIn: function 46 -/
/-- Where the first element lies of which p holds; -1. -/
def impl_MissingIn.idx (p : Int → Bool) : List Int → Int → Int
  | [], _ => -1
  | x :: t, i => if p x = true then i else impl_MissingIn.idx p t (i + 1)
theorem impl_MissingIn.idx_any (p : Int → Bool) : ∀ (l : List Int) (i : Int), 0 ≤ i → (decide (0 ≤ impl_MissingIn.idx p l i)) = l.any p
  | [], i, _ => by simp [impl_MissingIn.idx]
  | x :: t, i, h => by
    unfold impl_MissingIn.idx
    by_cases hx : p x = true
    · simp [hx, h]
    · rw [if_neg hx, impl_MissingIn.idx_any p t (i + 1) (by omega)]
      simp [hx]
/-- The values from v on, n of them, that stand in no cell. -/
def impl_MissingIn.miss (l0 t : List Int) (v : Int) : Nat → List Int
  | 0 => []
  | n + 1 => (if t.any (fun c => rd l0 c == v) = true then [] else [v]) ++ impl_MissingIn.miss l0 t (v + 1) n
def impl_MissingIn.f (k : Nat) (l0 : List Int) (a1 : Int) (a2 : Int) : Option (List Int) :=
  if 2 ≤ a1 ∧ a1 ≤ 4 ∧ 0 ≤ a2 ∧ a2 < 2 * a1 then (impl_LineCells.f k a1 a2).bind fun t => (impl_GridValid.f k l0 a1).bind fun g =>
    (if g = true then (if (0 < t.length ∧ t.length ≤ 100) ∧ (∀ x ∈ t, 0 ≤ x ∧ x < (l0.length : Int)) then some (impl_MissingIn.miss l0 t 1 a1.toNat) else none) else some [])
  else (impl_GridValid.f k l0 a1).bind fun _ => some []
theorem impl_MissingIn.mono : ∀ a0 a1 a2 k, LeO (impl_MissingIn.f k a0 a1 a2) (impl_MissingIn.f (k + 1) a0 a1 a2) := by
  intro a0 a1 a2 k
  unfold impl_MissingIn.f
  exact LeO.ite (LeO.bind (impl_LineCells.mono _ _ _) (fun _ => LeO.bind (impl_GridValid.mono _ _ _) (fun _ => LeO.refl _))) (LeO.bind (impl_GridValid.mono _ _ _) (fun _ => LeO.refl _))
/-- The literal: is the grid's value in this cell the one that is sought? -/
theorem impl_MissingIn.clo (c v : Int) (Bg Bv : Nat) (A0 : Option Addr) (c0 : Nat) (l0 : List Int) (w : World) (hg : w.cell? ⟨Bg, 0, none⟩ = some (.slice A0 l0.length c0)) (hv : w.cell? ⟨Bv, 0, none⟩ = some (.int .i64 v)) (hr0 : Kd.C (Kd.int .i64) w A0 l0.length l0) (h0 : 0 ≤ c) (h1 : c < (l0.length : Int)) :
    Calls Try.prog 61 #[.int .i64 c, .pointer (some ⟨Bg, 0, none⟩), .pointer (some ⟨Bv, 0, none⟩)] w fun e w' => e = .returned (.bool (rd l0 c == v)) ∧ Drawn0 w w' := by
  obtain ⟨ad, rfl, hx⟩ := Kd.at_int hr0 c h0 h1
  clear hr0
  have p1 := eq_true h0
  have q1 := eq_true h1
  go_enter Try.func61, Try.ntmps61
  go_wp2
  repeat (go_quiet (fail); try go_wp2)
  go_ret
  exact ⟨rfl, by repeat (first | exact Drawn0.refl _ | apply Drawn0.step)⟩
set_option maxHeartbeats 8000000 in
set_option maxRecDepth 100000 in
theorem impl_MissingIn.index (v : Int) (Bg Bv : Nat) (A0 : Option Addr) (c0 : Nat) (l0 : List Int) (A1 : Option Addr) (c1 : Nat) (t : List Int) (w : World) (hg : w.cell? ⟨Bg, 0, none⟩ = some (.slice A0 l0.length c0)) (hv : w.cell? ⟨Bv, 0, none⟩ = some (.int .i64 v)) (hr0 : Kd.C (Kd.int .i64) w A0 l0.length l0) (hr1 : Kd.C (Kd.int .i64) w A1 t.length t) (hlen : t.length ≤ 100) (ht : ∀ x ∈ t, 0 ≤ x ∧ x < (l0.length : Int)) :
    Calls Try.prog 64 #[.slice A1 t.length c1, .func (.func 61) #[] #[.pointer (some ⟨Bg, 0, none⟩), .pointer (some ⟨Bv, 0, none⟩)]] w fun e w' => e = .returned (.int .i64 (impl_MissingIn.idx (fun c => rd l0 c == v) t 0)) ∧ Drawn0 w w' := by
  have HG := Aside0.mk hg
  have HV := Aside0.mk hv
  have HR0 := Aside0.mk hr0
  have HR1 := Aside0.mk hr1
  have HT := Aside0.mk ht
  have HL := Aside0.mk hlen
  clear hg hv hr0 hr1 ht hlen
  go_enter Try.func64, Try.ntmps64
  go_wp2
  go_loopg [5, 8] t.length (fun kq v5 v8 w' => ∃ n : Nat, v8 = .int .i64 (n : Int) ∧ Aside0 (n + kq = t.length) ∧ Aside0 (impl_MissingIn.idx (fun c => rd l0 c == v) t 0 = impl_MissingIn.idx (fun c => rd l0 c == v) (t.drop n) n) ∧ Drawn0 w w')
  case atStart => exact ⟨0, rfl, ⟨by simp⟩, ⟨by simp⟩, Drawn0.refl _⟩
  case round =>
    obtain ⟨n, rfl, HN, HE, ⟨m1, rfl⟩⟩ := hrel
    by_cases hlt : n < t.length
    · have h1 : (n : Int) < (t.length : Int) := by omega
      have h0 : (0 : Int) ≤ (n : Int) := by omega
      have hm := HT.out (t[n]) (List.getElem_mem hlt)
      have hrd : rd t (n : Int) = t[n] := by simp [rd, hlt]
      obtain ⟨ad, e1, hx⟩ := Kd.at_int HR1.out (n : Int) h0 h1
      subst e1
      have HE2 := Aside0.mk (show impl_MissingIn.idx (fun c => rd l0 c == v) t 0 = if (rd l0 (rd t n) == v) = true then (n : Int) else impl_MissingIn.idx (fun c => rd l0 c == v) (t.drop (n + 1)) (n + 1) from by
        rw [HE.out, List.drop_eq_getElem_cons hlt, hrd]; rfl)
      obtain ⟨cc, hcc⟩ : ∃ cc, cc = rd t (n : Int) := ⟨_, rfl⟩
      rw [← hrd, ← hcc] at hm
      rw [← hcc] at HE2
      have hx2 : (w.drewN m1).cell? (ad.add (n : Int).toNat) = some (.int .i64 cc) := by rw [hcc]; exact hx
      have HM := Aside0.mk hm
      have h1b : decide ((n : Int) < (t.length : Int)) = true := decide_eq_true h1
      have h1c : decide (n < t.length) = true := decide_eq_true hlt
      simp only [Int.toNat_natCast] at hx2
      clear hm hrd hcc hx h1 HE
      have hnw : IntKind.i64.wrap ((n : Int) + 1) = ((n + 1 : Nat) : Int) := by have := HL.out; rw [IntKind.wrap_i64]; omega
      have hnw2 : wrap64 ((n : Int) + 1) = ((n + 1 : Nat) : Int) := by have := HL.out; unfold wrap64; omega
      by_cases hb : (rd l0 cc == v) = true
      · go_wp2_with (first | (go_at_call 61; (refine (impl_MissingIn.clo cc v Bg Bv A0 c0 l0 (w.drewN m1) HG.out HV.out (Kd.C_drewN HR0.out _) HM.out.1 HM.out.2).mono ?_); rintro e w' ⟨rfl, ⟨nd, rfl⟩⟩))
        go_ret
        exact ⟨by rw [HE2.out, if_pos hb]; rfl, by repeat (first | exact Drawn0.refl _ | apply Drawn0.step)⟩
      · have hbf : (rd l0 cc == v) = false := eq_false_of_ne_true hb
        go_wp2_with (first | (go_at_call 61; (refine (impl_MissingIn.clo cc v Bg Bv A0 c0 l0 (w.drewN m1) HG.out HV.out (Kd.C_drewN HR0.out _) HM.out.1 HM.out.2).mono ?_); rintro e w' ⟨rfl, ⟨nd, rfl⟩⟩))
        cases gk with
        | zero => have := HN.out; omega
        | succ k2 =>
        go_roundg k2
        case measure => omega
        case rel => exact ⟨n + 1, by first | rfl | (simp; done) | (rw [hnw2]), ⟨by have := HN.out; omega⟩, ⟨by rw [HE2.out, if_neg hb]; rfl⟩, by repeat (first | exact Drawn0.refl _ | apply Drawn0.step)⟩
    · have hn : n = t.length := by have := HN.out; omega
      subst hn
      have h1b : decide ((t.length : Int) < (t.length : Int)) = false := decide_eq_false (by omega)
      clear hlt
      go_wp2
      go_ret
      exact ⟨by rw [HE.out, List.drop_length]; rfl, by repeat (first | exact Drawn0.refl _ | apply Drawn0.step)⟩
set_option maxHeartbeats 8000000 in
set_option maxRecDepth 100000 in
theorem impl_MissingIn.contains (v : Int) (Bg Bv : Nat) (A0 : Option Addr) (c0 : Nat) (l0 : List Int) (A1 : Option Addr) (c1 : Nat) (t : List Int) (w : World) (hg : w.cell? ⟨Bg, 0, none⟩ = some (.slice A0 l0.length c0)) (hv : w.cell? ⟨Bv, 0, none⟩ = some (.int .i64 v)) (hr0 : Kd.C (Kd.int .i64) w A0 l0.length l0) (hr1 : Kd.C (Kd.int .i64) w A1 t.length t) (hlen : t.length ≤ 100) (ht : ∀ x ∈ t, 0 ≤ x ∧ x < (l0.length : Int)) :
    Calls Try.prog 60 #[.slice A1 t.length c1, .func (.func 61) #[] #[.pointer (some ⟨Bg, 0, none⟩), .pointer (some ⟨Bv, 0, none⟩)]] w fun e w' => e = .returned (.bool (t.any (fun c => rd l0 c == v))) ∧ Drawn0 w w' := by
  have HX := Aside0.mk (impl_MissingIn.idx_any (fun c => rd l0 c == v) t 0 (Int.le_refl _))
  have HI := Aside0.mk (impl_MissingIn.index v Bg Bv A0 c0 l0 A1 c1 t w hg hv hr0 hr1 hlen ht)
  clear hg hv hr0 hr1 ht hlen
  go_enter Try.func60, Try.ntmps60
  go_wp2_with (first | (go_at_call 64; (with_reducible refine HI.out.mono ?_); rintro e w' ⟨rfl, ⟨nd, rfl⟩⟩))
  go_ret
  exact ⟨by rw [← HX.out]; rfl, by repeat (first | exact Drawn0.refl _ | apply Drawn0.step)⟩
set_option maxHeartbeats 8000000 in
set_option maxRecDepth 100000 in
theorem impl_MissingIn.calls (k : Nat) (A0 : Option Addr) (c0 : Nat) (l0 : List Int) (a1 : Int) (a2 : Int) (r : List Int) (w : World) (hr0 : Kd.C (Kd.int .i64) w A0 l0.length l0) (hc0 : l0.length ≤ c0) (h : impl_MissingIn.f k l0 a1 a2 = some r) :
    Calls Try.prog 46 #[.slice A0 l0.length c0, .int .i64 a1, .int .i64 a2] w fun e w' => ∃ v0_ : Value, e = .returned (v0_) ∧ Kd.R (Kd.int .i64) 3 w' w.heap.size (fun _ => True) v0_ r ∧ Below w.heap.size w w' := by
  have HR0 := Aside0.mk hr0
  have HC0 := Aside0.mk hc0
  clear hr0 hc0
  have hnilq := fun (W : World) (A : Option Addr) (n c : Nat) => Lib.run_eql_slice_nil (P := Try.prog) W 25 3 A n c 0 0 Try.underlying25
  have HB1 := Aside0.mk (below_alloc (Below.refl w.heap.size w) (.cells #[.slice A0 l0.length c0] 25))
  unfold impl_MissingIn.f at h
  by_cases hb : 2 ≤ a1 ∧ a1 ≤ 4 ∧ 0 ≤ a2 ∧ a2 < 2 * a1
  · rw [if_pos hb] at h
    replace h := Option.bind_eq_some_iff.mp h
    obtain ⟨t, AL, h⟩ := h
    replace h := Option.bind_eq_some_iff.mp h
    obtain ⟨g, AG, h⟩ := h
    have AL := Aside0.mk AL
    have AG := Aside0.mk AG
    by_cases hg : g = true
    · subst hg
      rw [if_pos rfl] at h
      by_cases ht : (0 < t.length ∧ t.length ≤ 100) ∧ (∀ x ∈ t, 0 ≤ x ∧ x < (l0.length : Int))
      · rw [if_pos ht] at h
        have HH := Aside0.mk (Option.some.inj h)
        have HT := Aside0.mk ht
        have HS := Aside0.mk hb
        clear h ht hb
        go_enter Try.func46, Try.ntmps46
        go_wp2_with (first | ((with_reducible refine gate_callee (f := 16) rfl ?_); refine goesL_ (some 12) rfl rfl Try.func16 (by kernel_rfl) rfl #[.int .i64 a1, .int .i64 a2] rfl (by (try simp only [List.map_toArray, List.map_cons, List.map_nil]); first | done | rfl) ?_; (with_reducible refine (impl_LineCells.calls k a1 a2 t _ AL.out).mono ?_); rintro e w5 ⟨v116, rfl, ho0, hb⟩; refine ⟨_, rfl, ?_⟩; obtain ⟨A1, c1, e1⟩ := Kd.R_slice ho0; subst e1; have hsome := Kd.R_isSome ho0 HT.out.1.1; have hcg := (hb.cell (p := ⟨w.heap.size, 0, none⟩) (by simp)).trans (show (w.alloc (.cells #[.slice A0 l0.length c0] 25)).cell? ⟨w.heap.size, 0, none⟩ = some (.slice A0 l0.length c0) by simp); have HCG := Aside0.mk hcg; have HB5 := Aside0.mk (below_step HB1.out hb); have HO := Aside0.mk ho0; clear hb ho0) | (go_at_call 25; (refine (impl_GridValid.calls k _ _ l0 a1 true _ (Kd.C_below HR0.out HB5.out) HC0.out AG.out).mono ?_); rintro e w' ⟨rfl, ⟨nd, rfl⟩⟩))
        have HB := Aside0.mk (show Below w.heap.size w (w5.drewN nd) from by repeat (first | (with_reducible exact HB5.out) | apply pw_below_drewN | exact HB5.out))
        have HC := Aside0.mk (show (w5.drewN nd).cell? ⟨w.heap.size, 0, none⟩ = some (.slice A0 l0.length c0) from HCG.out)
        have HO := Aside0.mk (show Kd.R (Kd.int .i64) 3 (w5.drewN nd) w.heap.size (fun _ => True) (.slice A1 t.length c1) t from Kd.R_drewN (Kd.R_lower HO.out (by simp)) nd)
        clear HB5 HCG hcg HB1
        obtain ⟨W0, hW0⟩ : ∃ W0, W0 = w5.drewN nd := ⟨_, rfl⟩
        rw [← hW0] at HB HC HO
        have hsz : w5.heap.size = W0.heap.size := by rw [hW0]; rfl
        rw [← hW0, hsz]
        clear hW0 hsz
        have HLT := Aside0.mk (World.block_lt_of_cell? W0 _ HC.out)
        go_loopg [8, 9] a1.toNat (fun kq v8 v9 w' => ∃ (x8 : List Int) (Bv n : Nat), v9 = .pointer (some ⟨Bv, 0, none⟩) ∧ Aside0 (n + kq = a1.toNat) ∧ Aside0 (r = x8 ++ impl_MissingIn.miss l0 t ((n : Int) + 1) kq) ∧ Aside0 (x8.length ≤ n) ∧ Aside0 (w'.cell? ⟨Bv, 0, none⟩ = some (.int .i64 ((n : Int) + 1))) ∧ Aside0 (w'.cell? ⟨w.heap.size, 0, none⟩ = some (.slice A0 l0.length c0)) ∧ Aside0 (Kd.R (Kd.int .i64) 3 w' w.heap.size (fun k_ => k_ ≠ w.heap.size ∧ k_ ≠ Bv ∧ some k_ ≠ (.slice A1 t.length c1 : Value).ownBlock) v8 x8) ∧ Aside0 (Kd.R (Kd.int .i64) 3 w' w.heap.size (fun _ => True) (.slice A1 t.length c1) t) ∧ Aside0 (Below w.heap.size w w'))
        case atStart =>
          have h2 : w.heap.size < W0.heap.size := HLT.out
          have hlt0 : (Value.slice A1 t.length c1).ownBlock = some W0.heap.size → False := fun e_ => by have h_ := (Kd.R_bound HO.out).1 _ e_; omega
          refine ⟨[], W0.heap.size + 1, 0, rfl, ⟨by omega⟩, ⟨HH.out.symm⟩, ⟨Nat.le_refl _⟩, ⟨?_⟩, ⟨?_⟩, ⟨?_⟩, ⟨Kd.R_alloc (Kd.R_alloc HO.out _) _⟩, ⟨below_alloc (below_alloc HB.out _) _⟩⟩
          · simp
          · have h3 : w.heap.size < (W0.alloc (.cells #[] 3)).heap.size := by simp; omega
            rw [World.cell?_alloc_lt _ _ _ h3, World.cell?_alloc_lt _ _ _ h2]; exact HC.out
          · refine Kd.R_alloc (Kd.R_mono (Kd.R_of_own (enc := Value.int .i64) (ok := fun k_ => k_ = W0.heap.size) (xs := []) (World.ownsRow_lit (base := w.heap.size) (e := 3) (size := 1) W0 #[] 0 HB.out.size (by simp [maxLen]) rfl) (fun k_ hk_ => (by simpa [Value.ownBlock] using hk_ : W0.heap.size = k_).symm)) (fun k_ hk_ => ?_)) _
            subst hk_
            exact ⟨Nat.ne_of_gt h2, by omega, fun e_ => hlt0 e_.symm⟩
        case round =>
          clear HB HC HO HLT
          obtain ⟨x8, Bv, n, rfl, HN, HE, HX, HV, HC, HO8, HO, HB⟩ := hrel
          cases gk with
          | zero =>
            have hn : (n : Int) = a1 := by have := HN.out; have := HS.out; omega
            have hge : a1 < (n : Int) + 1 := by omega
            have hgb : decide ((n : Int) + 1 ≤ a1) = false := decide_eq_false (by omega)
            have HR := Aside0.mk (show r = x8 by rw [HE.out]; simp [impl_MissingIn.miss])
            clear HE
            obtain ⟨v0, hv0⟩ : ∃ v0, v0 = (n : Int) + 1 := ⟨_, rfl⟩
            have hcv := HV.out
            rw [← hv0] at hcv hgb hge
            clear hn hv0
            go_wp2
            go_ret
            exact ⟨_, rfl, by rw [HR.out]; exact Kd.R_mono HO8.out (fun _ _ => trivial), HB.out⟩
          | succ k2 =>
            have hlt : (n : Int) + 1 ≤ a1 := by have := HN.out; have := HS.out; omega
            have h3 : (n : Int) ≤ 4 := by have := HS.out; omega
            have hlb : decide ((n : Int) + 1 ≤ a1) = true := decide_eq_true hlt
            obtain ⟨v0, hv0⟩ : ∃ v0, v0 = (n : Int) + 1 := ⟨_, rfl⟩
            have hcv := HV.out
            rw [← hv0] at hcv hlb hlt
            have HV2 := Aside0.mk hcv
            have hnn : IntKind.i64.wrap (v0 + 1) = v0 + 1 := by rw [IntKind.wrap_i64]; omega
            have hnn2 : wrap64 (v0 + 1) = v0 + 1 := by unfold wrap64; omega
            have HT2 := Aside0.mk HT.out.1.2
            have HNX := Aside0.mk (show v0 + 1 = ((n + 1 : Nat) : Int) + 1 by omega)
            by_cases hany : t.any (fun c => rd l0 c == v0) = true
            · have HE2 := Aside0.mk (show r = x8 ++ impl_MissingIn.miss l0 t (((n + 1 : Nat) : Int) + 1) k2 from by
                rw [HE.out, impl_MissingIn.miss, ← hv0, if_pos hany, List.nil_append, HNX.out])
              clear hv0 h3 hlt
              go_wp2_with (first | (go_at_call 60; (refine (impl_MissingIn.contains v0 w.heap.size Bv A0 c0 l0 A1 c1 t wr HC.out HV2.out (Kd.C_below HR0.out HB.out) (Kd.R_reads' HO.out).2.2 HT2.out HT.out.2).mono ?_); rintro e w7 ⟨rfl, hd7⟩; have HD7 := Aside0.mk hd7.below; have hcv7 := (hd7.below.cell (p := ⟨Bv, 0, none⟩) (World.block_lt_of_cell? wr _ HV2.out)).trans HV2.out; clear hd7))
              go_roundg k2
              case measure => omega
              case rel =>
                have hlt7 := World.block_lt_of_cell? w7 _ hcv7
                have hg7 := (HD7.out.cell (p := ⟨w.heap.size, 0, none⟩) (World.block_lt_of_cell? wr _ HC.out)).trans HC.out
                have hgl7 := World.block_lt_of_cell? w7 _ hg7
                refine ⟨x8, w7.heap.size, n + 1, rfl, ⟨by have := HN.out; omega⟩, HE2, ⟨Nat.le_succ_of_le HX.out⟩, ⟨?_⟩, ⟨?_⟩, ⟨?_⟩, ⟨?_⟩, ⟨below_alloc (HB.out.trans (HD7.out.mono HB.out.size)) _⟩⟩
                · rw [← HNX.out]; simp
                · rw [World.cell?_alloc_lt _ _ _ hgl7]; exact hg7
                · refine Kd.R_alloc (Kd.R_mono (Kd.R_bound (Kd.R_below HO8.out HD7.out)) (fun k_ hk_ => ⟨hk_.1.1, Nat.ne_of_lt hk_.2.2.1, hk_.1.2.2⟩)) _
                · exact Kd.R_alloc (Kd.R_below HO.out HD7.out) _
            · have hanyf : t.any (fun c => rd l0 c == v0) = false := eq_false_of_ne_true hany
              clear hany
              obtain ⟨y9, hy9⟩ : ∃ y_ : List Int, y_ = x8 ++ [v0] := ⟨_, rfl⟩
              have Ny9 := Aside0.mk hy9
              have HE2 := Aside0.mk (show r = y9 ++ impl_MissingIn.miss l0 t (((n + 1 : Nat) : Int) + 1) k2 from by
                rw [HE.out, impl_MissingIn.miss, ← hv0, if_neg (by rw [hanyf]; exact Bool.false_ne_true), hy9, List.append_assoc, HNX.out])
              have HLM := Aside0.mk (show x8.length < 17592186044416 from by have := HX.out; omega)
              clear hv0 h3 hlt hy9
              go_wp2_with (first | (go_at_call 60; (refine (impl_MissingIn.contains v0 w.heap.size Bv A0 c0 l0 A1 c1 t wr HC.out HV2.out (Kd.C_below HR0.out HB.out) (Kd.R_reads' HO.out).2.2 HT2.out HT.out.2).mono ?_); rintro e w7 ⟨rfl, hd7⟩; have HD7 := Aside0.mk hd7.below; have hcv7 := (hd7.below.cell (p := ⟨Bv, 0, none⟩) (World.block_lt_of_cell? wr _ HV2.out)).trans HV2.out; clear hd7) | ((with_reducible refine gate_builtin (b := .append) (xs := #[.tmp 31, .tmp 33]) rfl ?_); at_builtin; refine Kd.R_append (Kd.int .i64) (w0 := w) w.heap.size rfl (.tmp 31) (.tmp 33) 25 3 (.int .i64 0) 8 rfl Try.underlying25 info3 rfl (by decide) (by omega) u8 x8 v0 [.int .i64 v0] (fun k_ => k_ ≠ w.heap.size ∧ k_ ≠ Bv ∧ some k_ ≠ (.slice A1 t.length c1 : Value).ownBlock) (fun _ => False) rfl rfl ?aP (fun _ hk => hk.elim) ?aF ?aO ?aB ?aS ?aL ?_; (case aP => exact rfl); (case aB => exact HB.out.trans (HD7.out.mono HB.out.size)); (case aF => exact (fun k_ hk => ⟨Nat.ne_of_gt (Nat.lt_of_lt_of_le (Nat.lt_of_lt_of_le (World.block_lt_of_cell? wr _ HC.out) HD7.out.size) hk), Nat.ne_of_gt (Nat.lt_of_lt_of_le (Nat.lt_of_lt_of_le (World.block_lt_of_cell? wr _ HV2.out) HD7.out.size) hk), Kd.fresh' (Kd.R_lt (Kd.R_below HO.out HD7.out)) k_ hk⟩)); (case aO => exact (Kd.R_below HO8.out HD7.out)); (case aS => exact Nat.le_trans HB.out.size HD7.out.size); (case aL => have := HLM.out; omega); intro v354 w25 ho hb hg hat; rw [← Ny9.out] at ho; have HO9 := Aside0.mk ho; have HG9 := Aside0.mk hg; have HB9 := Aside0.mk hb; have hcv9 := cell_grown hg hcv7 (fun e_ => (HO8.out.1 _ e_.symm).2.1 rfl); clear ho hb hg hat))
              go_roundg k2
              case measure => omega
              case rel =>
                have hg7 := (HD7.out.cell (p := ⟨w.heap.size, 0, none⟩) (World.block_lt_of_cell? wr _ HC.out)).trans HC.out
                have hg9 := cell_grown HG9.out hg7 (fun e_ => (HO8.out.1 _ e_.symm).1 rfl)
                have hgl9 := World.block_lt_of_cell? w25 _ hg9
                refine ⟨y9, w25.heap.size, n + 1, rfl, ⟨by have := HN.out; omega⟩, HE2, ⟨by rw [Ny9.out]; simp only [List.length_append, List.length_cons, List.length_nil]; have := HX.out; omega⟩, ⟨?_⟩, ⟨?_⟩, ⟨?_⟩, ⟨?_⟩, ⟨below_alloc HB9.out _⟩⟩
                · rw [← HNX.out]; simp
                · rw [World.cell?_alloc_lt _ _ _ hgl9]; exact hg9
                · exact Kd.R_alloc (Kd.R_mono (Kd.R_bound HO9.out) (fun k_ hk_ => ⟨hk_.1.1, Nat.ne_of_lt hk_.2.2.1, hk_.1.2.2⟩)) _
                · exact Kd.R_alloc (Kd.R_grown2 (Kd.R_below HO.out HD7.out) rfl HG9.out (fun k_ hk_ => (HO8.out.1 k_ hk_).2.2)) _
      · rw [if_neg ht] at h; exact absurd h (by simp)
    · rw [if_neg hg] at h
      obtain rfl : g = false := eq_false_of_ne_true hg
      obtain rfl := Option.some.inj h
      clear hg h hb
      go_enter Try.func46, Try.ntmps46
      go_wp2_with (first | ((with_reducible refine gate_callee (f := 16) rfl ?_); refine goesL_ (some 12) rfl rfl Try.func16 (by kernel_rfl) rfl #[.int .i64 a1, .int .i64 a2] rfl (by (try simp only [List.map_toArray, List.map_cons, List.map_nil]); first | done | rfl) ?_; (with_reducible refine (impl_LineCells.calls k a1 a2 t _ AL.out).mono ?_); rintro e w5 ⟨v116, rfl, ho0, hb⟩; refine ⟨_, rfl, ?_⟩; have hcg := (hb.cell (p := ⟨w.heap.size, 0, none⟩) (by simp)).trans (show (w.alloc (.cells #[.slice A0 l0.length c0] 25)).cell? ⟨w.heap.size, 0, none⟩ = some (.slice A0 l0.length c0) by simp); have HB5 := Aside0.mk (below_step HB1.out hb); clear hb ho0) | (go_at_call 25; (refine (impl_GridValid.calls k _ _ l0 a1 false _ (Kd.C_below HR0.out HB5.out) HC0.out AG.out).mono ?_); rintro e w' ⟨rfl, ⟨nd, rfl⟩⟩))
      go_ret
      exact ⟨.slice none 0 0, rfl, Kd.R_nil _ _ _ _ _, by repeat (first | (with_reducible exact HB5.out) | apply pw_below_drewN | exact HB5.out)⟩
  · rw [if_neg hb] at h
    replace h := Option.bind_eq_some_iff.mp h
    obtain ⟨g, AG, h⟩ := h
    obtain rfl := Option.some.inj h
    have AG := Aside0.mk AG
    have HN := Aside0.mk hb
    clear h hb
    have HW1 := Aside0.mk (show (w.alloc (.cells #[.slice A0 l0.length c0] 25)).cell? ⟨w.heap.size, 0, none⟩ = some (.slice A0 l0.length c0) by simp)
    cases g with
    | true =>
      go_enter Try.func46, Try.ntmps46
      go_wp2_with (first | (go_at_call 16; (with_reducible refine (impl_LineCells.nil a1 a2 _ HN.out).mono ?_); rintro e w5 ⟨rfl, hd⟩; have HB5 := Aside0.mk (below_step HB1.out hd.below); have hcg := (hd.below.cell (p := ⟨w.heap.size, 0, none⟩) (by simp)).trans HW1.out; clear hd) | (go_at_call 25; (refine (impl_GridValid.calls k _ _ l0 a1 true _ (Kd.C_below HR0.out HB5.out) HC0.out AG.out).mono ?_); rintro e w' ⟨rfl, ⟨nd, rfl⟩⟩))
      go_ret
      exact ⟨.slice none 0 0, rfl, Kd.R_nil _ _ _ _ _, by repeat (first | (with_reducible exact HB5.out) | apply pw_below_drewN | exact HB5.out)⟩
    | false =>
      go_enter Try.func46, Try.ntmps46
      go_wp2_with (first | (go_at_call 16; (with_reducible refine (impl_LineCells.nil a1 a2 _ HN.out).mono ?_); rintro e w5 ⟨rfl, hd⟩; have HB5 := Aside0.mk (below_step HB1.out hd.below); have hcg := (hd.below.cell (p := ⟨w.heap.size, 0, none⟩) (by simp)).trans HW1.out; clear hd) | (go_at_call 25; (refine (impl_GridValid.calls k _ _ l0 a1 false _ (Kd.C_below HR0.out HB5.out) HC0.out AG.out).mono ?_); rintro e w' ⟨rfl, ⟨nd, rfl⟩⟩))
      go_ret
      exact ⟨.slice none 0 0, rfl, Kd.R_nil _ _ _ _ _, by repeat (first | (with_reducible exact HB5.out) | apply pw_below_drewN | exact HB5.out)⟩

end Go.Proofs.Ytnocdmclcdfppaa.P
