/- The machine's side: each Go function as a plain Lean function and the proof that the machine's call does what that function says; written by this session's own program over the kit's print. -/
import Derived.Test.YtdemlminhkhonaaZP1
import Derived.Test.YtdemlminhkhonaaZP4
import Derived.Test.YtdemlminhkhonaaZP7
namespace Go.Proofs.Ytdemlminhkhonaa.P
open Go.RowKit Go.Proofs.YtdemlminhkhonaaW.PrintWords Go.Proofs.YtdemlminhkhonaaW.PrintLast Go.Proofs.YtdemlminhkhonaaW.PrintMore
attribute [local go_sem] max2_int min2_int max_two min_two max_three min_three max_four min_four   -- for this text's walks alone
set_option linter.unusedVariables false
set_option linter.unusedSimpArgs false
theorem rule_M {W : World} {base : Nat} {ok : Nat → Prop} {x : S67} {c : List Value} (h : k67.M W base ok x c) : ∃ v, c = [.int .i64 x.f0, v, .int .i64 x.f2] ∧ Kd.R (Kd.int .i64) 3 W base ok v x.f1 := by
 obtain ⟨c0, c1, rfl, h0, c2, c3, rfl, ⟨v, rfl, hR⟩, h3⟩ := h
 obtain rfl : c0 = [.int .i64 x.f0] := h0
 obtain rfl : c3 = [.int .i64 x.f2] := h3
 exact ⟨v, rfl, hR⟩
theorem rule_M_mk {W : World} {base : Nat} {ok : Nat → Prop} (x : S67) {v : Value} (h : Kd.R (Kd.int .i64) 3 W base ok v x.f1) : k67.M W base ok x [.int .i64 x.f0, v, .int .i64 x.f2] :=
 ⟨[.int .i64 x.f0], [v, .int .i64 x.f2], rfl, rfl, [v], [.int .i64 x.f2], rfl, ⟨v, rfl, h⟩, rfl⟩
theorem rule_elem {W : World} {base g n cap : Nat} {ok : Nat → Prop} {xs : List S67} (h : Kd.S k67 67 W base ok (.slice (some ⟨g, 0, none⟩) n cap) xs) (i : Int) (h0 : 0 ≤ i) (h1 : i < n) :
  ∃ (oki : Nat → Prop) (A : Option Addr) (c : Nat), W.cell? ⟨g, i.toNat * 3, none⟩ = some (.int .i64 (rd_T67 xs i).f0) ∧ W.cell? ⟨g, i.toNat * 3 + 1, none⟩ = some (.slice A (rd_T67 xs i).f1.length c) ∧ W.cell? ⟨g, i.toNat * 3 + 2, none⟩ = some (.int .i64 (rd_T67 xs i).f2) ∧ (∀ j, W.frozen? ⟨g, i.toNat * 3 + j, none⟩ = false) ∧ Kd.R (Kd.int .i64) 3 W base oki (.slice A (rd_T67 xs i).f1.length c) (rd_T67 xs i).f1 ∧ (∀ k, oki k → ok k ∧ k ≠ g) ∧
   (∀ a : Int, Kd.S k67 67 (W.setCell ⟨g, i.toNat * 3, none⟩ (.int .i64 a)) base ok (.slice (some ⟨g, 0, none⟩) n cap) (xs.set i.toNat ⟨a, (rd_T67 xs i).f1, (rd_T67 xs i).f2⟩) ∧ W.grownBy (W.setCell ⟨g, i.toNat * 3, none⟩ (.int .i64 a)) (some g)) ∧
   (∀ a : Int, Kd.S k67 67 (W.setCell ⟨g, i.toNat * 3 + 2, none⟩ (.int .i64 a)) base ok (.slice (some ⟨g, 0, none⟩) n cap) (xs.set i.toNat ⟨(rd_T67 xs i).f0, (rd_T67 xs i).f1, a⟩) ∧ W.grownBy (W.setCell ⟨g, i.toNat * 3 + 2, none⟩ (.int .i64 a)) (some g)) ∧
   (∀ (w1 : World) (ok1 : Nat → Prop) (l : List Int), Kept W w1 oki → Kd.R (Kd.int .i64) 3 w1 base ok1 (.slice A (rd_T67 xs i).f1.length c) l → Kd.S k67 67 w1 base ok (.slice (some ⟨g, 0, none⟩) n cap) (xs.set i.toNat ⟨(rd_T67 xs i).f0, l, (rd_T67 xs i).f2⟩)) := by
 have hz : rd_T67 xs i = xs.getD i.toNat z67 := rfl
 obtain ⟨oki, c, hcl, hM, hcc, hfr, hoki, hH⟩ := Kd.S_elem h z67 i h0 h1
 rw [← hz] at hM
 obtain ⟨v, rfl, hR⟩ := rule_M hM
 obtain ⟨A, cv, rfl⟩ := Kd.R_slice hR
 have hH0 : Kd.H k67 67 W base (fun k => ok k ∧ ¬ False) (.slice (some ⟨g, 0, none⟩) n cap) xs i oki [.int .i64 (rd_T67 xs i).f0, .slice A (rd_T67 xs i).f1.length cv, .int .i64 (rd_T67 xs i).f2] := Kd.H_mono hH (fun k hk => ⟨hk, id⟩)
 refine ⟨oki, A, cv, hcc 0 _ rfl, hcc 1 _ rfl, hcc 2 _ rfl, hfr, hR, hoki, fun a => ?_, fun a => ?_, fun w1 ok1 l hk hR1 => ?_⟩
 ·exact Kd.S_seg (okg := fun _ => False) (okp := oki) (j := 0) (seg := [.int .i64 a]) hH0 h0 h1 (by show _ ≤ 3; simp) (rule_M_mk ⟨a, (rd_T67 xs i).f1, (rd_T67 xs i).f2⟩ hR) (fun k hk => .inl hk) (fun k hk => hk.elim)
 ·exact Kd.S_seg (okg := fun _ => False) (okp := oki) (j := 2) (seg := [.int .i64 a]) hH0 h0 h1 (by show _ ≤ 3; simp) (rule_M_mk ⟨(rd_T67 xs i).f0, (rd_T67 xs i).f1, a⟩ hR) (fun k hk => .inl hk) (fun k hk => hk.elim)
 ·exact Kd.H_back (Kd.H_kept hH hk (fun k _ hn => hn)) (rule_M_mk ⟨(rd_T67 xs i).f0, l, (rd_T67 xs i).f2⟩ (Kd.R_mono (Kd.R_tight rfl hR1) (fun k hk => hR.1 k hk.symm))) (fun _ hk => hk)
def laws_markRuleS.l0 : Nat → List S67 → Int → Int → Option (Int × List S67)
 | 0, _, _, _ => none
 | k + 1, x0, x1, x5 => if x5 < (x0.length : Int) then (if 0 ≤ x5 then (laws_markIntS.f k (rd_T67 x0 x5).f1 (wrap64 (x1 + 1))).bind fun t => laws_markRuleS.l0 k (x0.set x5.toNat ⟨x1, t.2, t.1⟩) (wrap64 (t.1 + 1)) (wrap64 (x5 + 1)) else none) else some (x1, x0)
def laws_markRuleS.f (k : Nat) (l0 : List S67) (a1 : Int) : Option (Int × List S67) := laws_markRuleS.l0 k l0 a1 0
theorem rd_T_set {xs : List S67} {i : Int} (h0 : 0 ≤ i) (h1 : i < (xs.length : Int)) (y : S67) : rd_T67 (xs.set i.toNat y) i = y := by
 unfold rd_T67
 rw [List.getD_eq_getElem?_getD, List.getElem?_set_self (by omega)]
 rfl
set_option maxHeartbeats 8000000 in
set_option maxRecDepth 100000 in
theorem laws_markRuleS.calls (k : Nat) (P : Nat → Prop) (A : Option Addr) (c : Nat) (l0 : List S67) (a1 : Int) (r1 : Int) (r2 : List S67) (w0 w : World) (hB : Below w0.heap.size w0 w) (ho0 : Kd.S k67 67 w w0.heap.size P (.slice A l0.length c) l0) (h : laws_markRuleS.f k l0 a1 = some (r1, r2)) :
  Calls Try.prog 38 #[.slice A l0.length c, .int .i64 a1] w fun e w' => e = .returned (.int .i64 r1) ∧ Kd.S k67 67 w' w0.heap.size P (.slice A l0.length c) r2 ∧ Below w0.heap.size w0 w' ∧ Kept w w' P := by
 have HO := yam ho0
 have HK := yam (Kept.refl w P)
 have HB := yam hB
 have HA := yam (show laws_markRuleS.l0 k l0 a1 0 = some (r1, r2) from h)
 clear hB ho0 h
 go_enter Try.func38, Try.ntmps38
 go_wp2
 go_loopg [1, 5] k (fun kq v1 v5 w' => ∃ (xs : List S67) (x1 : Int) (x5 : Int), v1 = .int .i64 x1 ∧ v5 = .int .i64 x5 ∧ Aside0 (laws_markRuleS.l0 kq xs x1 x5 = some (r1, r2)) ∧ Aside0 (xs.length = l0.length) ∧ Aside0 (Kd.S k67 67 w' w0.heap.size P (.slice A l0.length c) xs) ∧ Aside0 (Kept w w' P) ∧ Aside0 (Below w0.heap.size w0 w'))
 case atStart => exact ⟨l0, a1, 0, rfl, rfl, HA, ⟨rfl⟩, HO, HK, HB⟩
 case round =>
  clear HA HO HK HB
  obtain ⟨xs, x1, x5, rfl, rfl, HA, HL, HO, HK, HB⟩ := hrel
  cases gk with
  | zero => exact absurd HA.out (by simp [laws_markRuleS.l0])
  | succ k1 =>
   have H := HA.out
   clear HA
   simp only [laws_markRuleS.l0] at H
   by_cases c3 : x5 < (xs.length : Int)
   rotate_left
   ·rw [if_neg c3] at H
    have c3b0 : decide (x5 < (l0.length : Int)) = false := decide_eq_false (by rw [← HL.out]; exact c3)
    clear c3
    simp only [Option.some.injEq, Prod.mk.injEq] at H
    obtain ⟨rfl, rfl⟩ := H
    go_wp2
    go_ret
    exact ⟨rfl, HO.out, HB.out, HK.out⟩
   rw [if_pos c3] at H
   replace H := yig H
   obtain ⟨c4, H⟩ := H
   obtain ⟨⟨t1, t2⟩, hM, H2⟩ := Option.bind_eq_some_iff.1 H
   have HM := yam hM
   have HA := yam H2
   clear hM H H2
   have hlt : x5 < ((l0.length : Nat) : Int) := by rw [← HL.out]; exact c3
   have HC3 := yam c3
   clear c3
   have c3b0 : decide (x5 < (l0.length : Int)) = true := decide_eq_true hlt
   have c4b0 : decide (0 ≤ x5) = true := decide_eq_true c4
   obtain ⟨g, cap, eA, gb, gl, gc_⟩ := Kd.R_form (Kd.S_R HO.out) (by have := HL.out; omega)
   injection eA with eA1 eA2 eA3
   subst eA1
   clear eA2 eA3
   have GB := yam gb
   clear gb gl gc_
   obtain ⟨oki0, Ai0, ci0, hx0, hx1_, hx2_, hfr, hr_, hk_, hset0, hs1_, hs2_⟩ := rule_elem HO.out x5 c4 hlt
   clear hx1_ hx2_ hr_ hk_ hs1_ hs2_
   have hf0 := hfr 0
   clear hfr
   rw [Nat.add_zero] at hf0
   have HPG := yam ((Kd.S_R HO.out).1 g rfl)
   have HSET := yam (hset0 x1)
   clear hset0
   have p4 := eq_true c4
   have p3 := eq_true hlt
   have C4 := yam c4
   have HLT := yam hlt
   clear c4 hlt
   go_wp2_with (first
    | ((with_reducible refine gate_store (t := 3) (p := 16) rfl ?_); refine store_event (t := 3) (p := 16) (v := ?vo1) (w1 := wr.setCell ⟨g, x5.toNat * 3, none⟩ (.int .i64 x1)) ?hg ?ho ?hn ?hr ?_; (case ho => rfl); (case hg => rfl); (case hn => rfl); (case hr => first | (go_simp; done) | (go_simp; rfl)); intro w8 hw; have hs := HSET.out; rw [← hw] at hs; have hb8 : Below w0.heap.size w0 w8 := (by rw [hw]; exact below_set HB.out GB.out); have hk8 : Kept w w8 P := Kept.of_grown hs.2 HK.out (fun k_ e_ => .inl (by injection e_ with e_; rw [← e_]; exact HPG.out)); have hl8 : x5 < (((xs.set x5.toNat ⟨x1, (rd_T67 xs x5).f1, (rd_T67 xs x5).f2⟩ : List S67).length : Nat) : Int) := (by rw [List.length_set]; exact HC3.out); obtain ⟨oki, Ai, ci, hx0_, hx1, hx2_, hfr_, hRi, hoki, hs1_, hs2_, hback⟩ := rule_elem hs.1 x5 C4.out HLT.out; clear hx0_ hx2_ hfr_ hs1_ hs2_; rw [rd_T_set C4.out HC3.out] at hx1 hRi hback; simp only [List.set_set] at hback; have HR := yam hRi; have HOK := yam hoki; have HBK := yam hback; have HB8 := yam hb8; have HK8 := yam hk8; clear hs hb8 hk8 hl8 hRi hoki hback hw hx0 hf0 HSET HB HK HO)
    | (refine goesL_ (some 25) rfl rfl Try.func16 (by kernel_rfl) rfl #[.slice Ai (rd_T67 xs x5).f1.length ci, .int .i64 (wrap64 (x1 + 1))] rfl yma ?_; (with_reducible refine (laws_markIntS.calls k1 oki _ (rd_T67 xs x5).f1 (wrap64 (x1 + 1)) t1 t2 w0 w8 HB8.out HR.out HM.out).mono ?_); rintro e w9 ⟨rfl, hR9, hb9, hk9⟩; refine ⟨_, rfl, ?_⟩; have hs9 := HBK.out w9 _ t2 hk9 hR9; have HK9 := yam (Kept.then_ HK8.out hk9 (fun k_ h_ => .inl (HOK.out k_ h_).1)); obtain ⟨oki9, Ai9, ci9, hx0_, hx1_, hx2, hfr2, hr_, hk_, hs1_, hset2, hs2_⟩ := rule_elem hs9 x5 C4.out HLT.out; clear hx0_ hx1_ hr_ hk_ hs1_ hs2_; have hf2 := hfr2 2; clear hfr2; have HSET := yam (hset2 t1); clear hset2; rw [rd_T_set C4.out HC3.out] at HSET; simp only [List.set_set] at HSET; have HB9 := yam hb9; clear hs9 hR9 hb9 hk9 HBK HR HOK HB8 HK8 hx1)
    | ((with_reducible refine gate_store (t := 3) (p := 30) rfl ?_); refine store_event (t := 3) (p := 30) (v := ?vo2) (w1 := w9.setCell ⟨g, x5.toNat * 3 + 2, none⟩ (.int .i64 t1)) ?hg ?ho ?hn ?hr ?_; (case ho => rfl); (case hg => rfl); (case hn => rfl); (case hr => first | (go_simp; done) | (go_simp; rfl)); intro w10 hw; have hs := HSET.out; rw [← hw] at hs; have HB10 : Aside0 (Below w0.heap.size w0 w10) := ⟨by rw [hw]; exact below_set HB9.out GB.out⟩; have HK10 := yam (Kept.of_grown hs.2 HK9.out (fun k_ e_ => .inl (by injection e_ with e_; rw [← e_]; exact HPG.out))); have HO10 := yam hs.1; clear hs hw hx2 hf2 HSET HB9 HK9))
   go_roundg k1
   case measure => omega
   case rel => exact ⟨_, wrap64 (t1 + 1), wrap64 (x5 + 1), rfl, rfl, HA, ⟨by rw [List.length_set]; exact HL.out⟩, HO10, HK10, HB10⟩
def laws_markPuzzle.f (k : Nat) (_a0_0 : Int) (l0_1 : List Int) (l0_2 : List S67) (a1 : Int) : Option (Int × List Int × List S67) := (laws_markIntS.f k l0_1 a1).bind fun t => (laws_markRuleS.f k l0_2 t.1).bind fun u => some (u.1, t.2, u.2)
set_option maxHeartbeats 8000000 in
set_option maxRecDepth 100000 in
theorem laws_markPuzzle.calls (k : Nat) (a0_0 : Int) (P Q : Nat → Prop) (A0_1 : Option Addr) (c0_1 : Nat) (l0_1 : List Int) (A0_2 : Option Addr) (c0_2 : Nat) (l0_2 : List S67) (a1 : Int) (r1 : Int) (r2 : List Int) (r3 : List S67) (w0 w : World) (hB : Below w0.heap.size w0 w) (hPQ : ∀ k_, P k_ → ¬ Q k_) (ho1 : Kd.R (Kd.int .i64) 3 w w0.heap.size P (.slice A0_1 l0_1.length c0_1) l0_1) (ho2 : Kd.S k67 67 w w0.heap.size Q (.slice A0_2 l0_2.length c0_2) l0_2) (h : laws_markPuzzle.f k a0_0 l0_1 l0_2 a1 = some (r1, r2, r3)) :
  Calls Try.prog 15 #[.agg #[.int .i64 a0_0, .slice A0_1 l0_1.length c0_1, .slice A0_2 l0_2.length c0_2], .int .i64 a1] w fun e w' => e = .returned (.int .i64 r1) ∧ Kd.R (Kd.int .i64) 3 w' w0.heap.size P (.slice A0_1 l0_1.length c0_1) r2 ∧ Kd.S k67 67 w' w0.heap.size Q (.slice A0_2 l0_2.length c0_2) r3 ∧ Below w0.heap.size w0 w' ∧ Kept w w' (fun k_ => P k_ ∨ Q k_) := by
 unfold laws_markPuzzle.f at h
 obtain ⟨⟨t1, t2⟩, hM, h2⟩ := Option.bind_eq_some_iff.1 h
 obtain ⟨⟨u1, u2⟩, hN, h3⟩ := Option.bind_eq_some_iff.1 h2
 simp only [Option.some.injEq, Prod.mk.injEq] at h3
 obtain ⟨rfl, rfl, rfl⟩ := h3
 have HM := yam hM
 have HN := yam hN
 have HPQ := yam hPQ
 have HP := yam ho1.1
 have HO1 := yam ho1
 have HO2 := yam ho2
 have HB := yam hB
 clear h h2 hM hN hPQ ho1 ho2 hB
 go_enter Try.func15, Try.ntmps15
 go_wp2_with (first
  | (refine ybe 2 #[.int .i64 a0_0, .slice A0_1 l0_1.length c0_1, .slice A0_2 l0_2.length c0_2] 30 ?_; intro gb hg w3 hbox hb; have HBX := yam hbox; have HGB := yam hg; have hcz1 : w3.cell? ⟨gb, 1, none⟩ = some (.slice A0_1 l0_1.length c0_1) := (blk_cell hbox 1).trans rfl; have hcz2 : w3.cell? ⟨gb, 2, none⟩ = some (.slice A0_2 l0_2.length c0_2) := (blk_cell hbox 2).trans rfl; have HO1_ := yam (Kd.R_below HO1.out hb); have HO2_ := yam (Kd.S_below HO2.out hb); have HB_ := yam (below_step HB.out hb); have HK := yam (Kept.of_below hb (fun k_ => P k_ ∨ Q k_)); have HL1 := yam (Kd.R_lt HO1.out); have HL2 := yam (Kd.S_bound HO2.out); clear HO1 HO2 HB hg hbox hb)
  | (refine goesL_ (some 8) rfl rfl Try.func16 (by kernel_rfl) rfl #[.slice A0_1 l0_1.length c0_1, .int .i64 a1] rfl yma ?_; (with_reducible refine (laws_markIntS.calls k (fun k_ => some k_ = (Value.slice A0_1 l0_1.length c0_1).ownBlock) _ l0_1 a1 t1 t2 w0 w3 HB_.out (Kd.R_tight rfl HO1_.out) HM.out).mono ?_); rintro e w4 ⟨rfl, hR4, hb4, hk4⟩; refine ⟨_, rfl, ?_⟩; have hne : gb ≠ gb ∨ ¬ some gb = (Value.slice A0_1 l0_1.length c0_1).ownBlock := .inr (fun e_ => by have := HL1.out gb e_.symm; have := HGB.out; omega); have hbx4 := blk_kept HBX.out hk4 (hne.resolve_left (fun h_ => h_ rfl)); have hcz2 : w4.cell? ⟨gb, 2, none⟩ = some (.slice A0_2 l0_2.length c0_2) := (blk_cell hbx4 2).trans rfl; have HR4 := yam (Kd.R_tight rfl hR4); have HS4 := yam (Kd.S_kept HO2_.out hk4 (fun k_ hq_ hp_ => HPQ.out k_ (HP.out k_ hp_.symm) hq_)); have HB4 := yam hb4; have HK4 := yam (Kept.then_ HK.out hk4 (fun k_ h_ => .inl (.inl (HP.out k_ h_.symm)))); clear hne hbx4 hR4 hb4 hk4 HK HB_ HO1_ HO2_ HBX HGB HL1 HL2 hcz1)
  | (refine goesL_ (some 12) rfl rfl Try.func38 (by kernel_rfl) rfl #[.slice A0_2 l0_2.length c0_2, .int .i64 t1] rfl yma ?_; (with_reducible refine (laws_markRuleS.calls k Q A0_2 c0_2 l0_2 t1 u1 u2 w0 w4 HB4.out HS4.out HN.out).mono ?_); rintro e w5 ⟨rfl, hS5, hb5, hk5⟩; refine ⟨_, rfl, ?_⟩; have HR5 := yam (Kd.R_kept HR4.out hk5 (fun k_ hp_ hq_ => HPQ.out k_ (HP.out k_ hp_.symm) hq_)); have HS5 := yam hS5; have HB5 := yam hb5; have HK5 := yam (Kept.then_ HK4.out hk5 (fun k_ h_ => .inl (.inr h_))); clear hS5 hb5 hk5 HR4 HS4 HB4 HK4 hcz2))
 go_ret
 exact ⟨rfl, Kd.R_mono HR5.out (fun k_ h_ => HP.out k_ h_.symm), HS5.out, HB5.out, HK5.out⟩
def laws_eqStep.f (a0_0 : Int) (a0_1 : Int) (a1_0 : Int) (a1_1 : Int) : Option (Bool) := if a0_0 = a1_0 then (if a0_1 = a1_1 then (some true) else (some false)) else (some false)
set_option maxHeartbeats 8000000 in
set_option maxRecDepth 100000 in
theorem laws_eqStep.calls (a0_0 : Int) (a0_1 : Int) (a1_0 : Int) (a1_1 : Int) (r : Bool) (w : World) (h : laws_eqStep.f a0_0 a0_1 a1_0 a1_1 = some r) :
  Calls Try.prog 46 #[.agg #[.int .i64 a0_0, .int .i64 a0_1], .agg #[.int .i64 a1_0, .int .i64 a1_1]] w fun e w' => e = .returned (.bool r) ∧ Below w.heap.size w w' := by
 have hu52 := Try.underlying52
 have HB := yam (Below.refl w.heap.size w)
 have H : (if a0_0 = a1_0 then (if a0_1 = a1_1 then (some true) else (some false)) else (some false)) = some r := h
 clear h
 by_cases c3 : a0_0 = a1_0
 rotate_left
 ·rw [if_neg c3] at H
  have c3b0 : (a0_0 == a1_0) = false := beq_eq_false_iff_ne.mpr c3
  have c3b1 : (a0_0 != a1_0) = true := bne_iff_ne.mpr c3
  obtain rfl := Option.some.inj H
  go_enter Try.func46, Try.ntmps46
  go_wp2_with (first | (refine ybe 2 #[.int .i64 a0_0, .int .i64 a0_1] 52 ?_; intro gb558 hg w15 hbox hb; have n0_ := yam (below_step (yez HB.out) hb); have n1_ := yam (hbox); have n2_ := yam ((by rw [hg]; exact (below_size (yez HB.out)) : w.heap.size ≤ gb558)); have n3_ := n2_; clear HB; have HB := n0_; have BK558 := n1_; have GW558 := n2_; have GE558 := n3_; clear n0_ n1_ n2_ n3_; clear hb hbox hg) | (refine ybe 3 #[.int .i64 a1_0, .int .i64 a1_1] 52 ?_; intro gb559 hg w16 hbox hb; have n0_ := yam (blk_below (g := gb558) (o := .cells #[.int .i64 a0_0, .int .i64 a0_1] 52 (0, 0)) (ybz BK558.out) hb); have n1_ := yam (below_step yhb hb); have n2_ := yam (hbox); have n3_ := yam ((by rw [hg]; exact (below_size yhb) : w.heap.size ≤ gb559)); have n4_ := n3_; have n5_ := yam ((by rw [hg]; exact Nat.ne_of_lt (blk_lt (g := gb558) (o := .cells #[.int .i64 a0_0, .int .i64 a0_1] 52 (0, 0)) (ybz BK558.out)) : gb558 ≠ gb559)); have n6_ := yam ((by rw [hg]; exact Nat.ne_of_gt (blk_lt (g := gb558) (o := .cells #[.int .i64 a0_0, .int .i64 a0_1] 52 (0, 0)) (ybz BK558.out)) : gb559 ≠ gb558)); clear BK558; clear HB; have BK558 := n0_; have HB := n1_; have BK559 := n2_; have GW559 := n3_; have GE559 := n4_; have NB558_559 := n5_; have NB559_558 := n6_; clear n0_ n1_ n2_ n3_ n4_ n5_ n6_; clear hb hbox hg; have hnb17 := NB558_559.out; have hnc17 := NB559_558.out; have hcz18_0 : w16.cell? ⟨gb558, 0, none⟩ = some (.int .i64 a0_0) := (blk_cell BK558.out 0).trans rfl; have hcz18_1 : w16.cell? ⟨gb558, 1, none⟩ = some (.int .i64 a0_1) := (blk_cell BK558.out 1).trans rfl; have hfz18_0 := blk_frozen BK558.out 0; have hfz18_1 := blk_frozen BK558.out 1; have hcz19_0 : w16.cell? ⟨gb559, 0, none⟩ = some (.int .i64 a1_0) := (blk_cell BK559.out 0).trans rfl; have hcz19_1 : w16.cell? ⟨gb559, 1, none⟩ = some (.int .i64 a1_1) := (blk_cell BK559.out 1).trans rfl; have hfz19_0 := blk_frozen BK559.out 0; have hfz19_1 := blk_frozen BK559.out 1))
  go_ret
  exact ⟨yer, yhb⟩

 rw [if_pos c3] at H
 have c3b0 : (a0_0 == a1_0) = true := beq_iff_eq.mpr c3
 have c3b1 : (a0_0 != a1_0) = false := bne_eq_false_iff_eq.mpr c3
 clear c3
 by_cases c4 : a0_1 = a1_1
 ·rw [if_pos c4] at H
  have c4b0 : (a0_1 == a1_1) = true := beq_iff_eq.mpr c4
  have c4b1 : (a0_1 != a1_1) = false := bne_eq_false_iff_eq.mpr c4
  clear c4
  obtain rfl := Option.some.inj H
  go_enter Try.func46, Try.ntmps46
  go_wp2_with (first | (refine ybe 2 #[.int .i64 a0_0, .int .i64 a0_1] 52 ?_; intro gb558 hg w5 hbox hb; have n0_ := yam (below_step (yez HB.out) hb); have n1_ := yam (hbox); have n2_ := yam ((by rw [hg]; exact (below_size (yez HB.out)) : w.heap.size ≤ gb558)); have n3_ := n2_; clear HB; have HB := n0_; have BK558 := n1_; have GW558 := n2_; have GE558 := n3_; clear n0_ n1_ n2_ n3_; clear hb hbox hg) | (refine ybe 3 #[.int .i64 a1_0, .int .i64 a1_1] 52 ?_; intro gb559 hg w6 hbox hb; have n0_ := yam (blk_below (g := gb558) (o := .cells #[.int .i64 a0_0, .int .i64 a0_1] 52 (0, 0)) (ybz BK558.out) hb); have n1_ := yam (below_step yhb hb); have n2_ := yam (hbox); have n3_ := yam ((by rw [hg]; exact (below_size yhb) : w.heap.size ≤ gb559)); have n4_ := n3_; have n5_ := yam ((by rw [hg]; exact Nat.ne_of_lt (blk_lt (g := gb558) (o := .cells #[.int .i64 a0_0, .int .i64 a0_1] 52 (0, 0)) (ybz BK558.out)) : gb558 ≠ gb559)); have n6_ := yam ((by rw [hg]; exact Nat.ne_of_gt (blk_lt (g := gb558) (o := .cells #[.int .i64 a0_0, .int .i64 a0_1] 52 (0, 0)) (ybz BK558.out)) : gb559 ≠ gb558)); clear BK558; clear HB; have BK558 := n0_; have HB := n1_; have BK559 := n2_; have GW559 := n3_; have GE559 := n4_; have NB558_559 := n5_; have NB559_558 := n6_; clear n0_ n1_ n2_ n3_ n4_ n5_ n6_; clear hb hbox hg; have hnb7 := NB558_559.out; have hnc7 := NB559_558.out; have hcz8_0 : w6.cell? ⟨gb558, 0, none⟩ = some (.int .i64 a0_0) := (blk_cell BK558.out 0).trans rfl; have hcz8_1 : w6.cell? ⟨gb558, 1, none⟩ = some (.int .i64 a0_1) := (blk_cell BK558.out 1).trans rfl; have hfz8_0 := blk_frozen BK558.out 0; have hfz8_1 := blk_frozen BK558.out 1; have hcz9_0 : w6.cell? ⟨gb559, 0, none⟩ = some (.int .i64 a1_0) := (blk_cell BK559.out 0).trans rfl; have hcz9_1 : w6.cell? ⟨gb559, 1, none⟩ = some (.int .i64 a1_1) := (blk_cell BK559.out 1).trans rfl; have hfz9_0 := blk_frozen BK559.out 0; have hfz9_1 := blk_frozen BK559.out 1))
  go_ret
  exact ⟨yer, yhb⟩
 rw [if_neg c4] at H
 have c4b0 : (a0_1 == a1_1) = false := beq_eq_false_iff_ne.mpr c4
 have c4b1 : (a0_1 != a1_1) = true := bne_iff_ne.mpr c4
 obtain rfl := Option.some.inj H
 go_enter Try.func46, Try.ntmps46
 go_wp2_with (first | (refine ybe 2 #[.int .i64 a0_0, .int .i64 a0_1] 52 ?_; intro gb558 hg w10 hbox hb; have n0_ := yam (below_step (yez HB.out) hb); have n1_ := yam (hbox); have n2_ := yam ((by rw [hg]; exact (below_size (yez HB.out)) : w.heap.size ≤ gb558)); have n3_ := n2_; clear HB; have HB := n0_; have BK558 := n1_; have GW558 := n2_; have GE558 := n3_; clear n0_ n1_ n2_ n3_; clear hb hbox hg) | (refine ybe 3 #[.int .i64 a1_0, .int .i64 a1_1] 52 ?_; intro gb559 hg w11 hbox hb; have n0_ := yam (blk_below (g := gb558) (o := .cells #[.int .i64 a0_0, .int .i64 a0_1] 52 (0, 0)) (ybz BK558.out) hb); have n1_ := yam (below_step yhb hb); have n2_ := yam (hbox); have n3_ := yam ((by rw [hg]; exact (below_size yhb) : w.heap.size ≤ gb559)); have n4_ := n3_; have n5_ := yam ((by rw [hg]; exact Nat.ne_of_lt (blk_lt (g := gb558) (o := .cells #[.int .i64 a0_0, .int .i64 a0_1] 52 (0, 0)) (ybz BK558.out)) : gb558 ≠ gb559)); have n6_ := yam ((by rw [hg]; exact Nat.ne_of_gt (blk_lt (g := gb558) (o := .cells #[.int .i64 a0_0, .int .i64 a0_1] 52 (0, 0)) (ybz BK558.out)) : gb559 ≠ gb558)); clear BK558; clear HB; have BK558 := n0_; have HB := n1_; have BK559 := n2_; have GW559 := n3_; have GE559 := n4_; have NB558_559 := n5_; have NB559_558 := n6_; clear n0_ n1_ n2_ n3_ n4_ n5_ n6_; clear hb hbox hg; have hnb12 := NB558_559.out; have hnc12 := NB559_558.out; have hcz13_0 : w11.cell? ⟨gb558, 0, none⟩ = some (.int .i64 a0_0) := (blk_cell BK558.out 0).trans rfl; have hcz13_1 : w11.cell? ⟨gb558, 1, none⟩ = some (.int .i64 a0_1) := (blk_cell BK558.out 1).trans rfl; have hfz13_0 := blk_frozen BK558.out 0; have hfz13_1 := blk_frozen BK558.out 1; have hcz14_0 : w11.cell? ⟨gb559, 0, none⟩ = some (.int .i64 a1_0) := (blk_cell BK559.out 0).trans rfl; have hcz14_1 : w11.cell? ⟨gb559, 1, none⟩ = some (.int .i64 a1_1) := (blk_cell BK559.out 1).trans rfl; have hfz14_0 := blk_frozen BK559.out 0; have hfz14_1 := blk_frozen BK559.out 1))
 go_ret
 exact ⟨yer, yhb⟩
def laws_eqStepS.l0 : Nat → List (S52) → List (S52) → Int → Option (Bool)
 | 0, _, _, _ => none
 | k + 1, x0, x1, x5 => if x5 < (x0.length : Int) then (if 0 ≤ x5 then (if x5 < (x1.length : Int) then ((laws_eqStep.f ((rd_T52 x0 x5).f0) ((rd_T52 x0 x5).f1) ((rd_T52 x1 x5).f0) ((rd_T52 x1 x5).f1)).bind fun t562 => (if t562 = true then (laws_eqStepS.l0 k x0 x1 (wrap64 (x5 + 1))) else (some false))) else (none)) else (none)) else (some true)
def laws_eqStepS.f (k : Nat) (l0 : List (S52)) (l1 : List (S52)) : Option (Bool) := if (l0.length : Int) = (l1.length : Int) then (laws_eqStepS.l0 k l0 l1 0) else (some false)
def laws_eqStepS.T6 : Bool × List (List Nat × List Nat) := (true, [([], []), ([], []), ([0, 1], [0, 1]), ([2], [2]), ([], []), ([], []), ([4, 5], [4, 5]), ([6], [6]), ([3, 7], [3, 7]), ([8], [8])])
def laws_eqStepS.B6 : List Nat := [0, 0, 3, 7, 0, 0, 48, 112, 255, 511]
theorem laws_eqStepS.tab6 : rtab .any (opsOf Try.f20 6) = laws_eqStepS.T6 := by kernel_rfl
theorem laws_eqStepS.bits6 : waitsOk laws_eqStepS.T6.2 laws_eqStepS.B6 = true := by kernel_rfl
set_option maxHeartbeats 8000000 in
set_option maxRecDepth 100000 in
theorem laws_eqStepS.calls (k : Nat) (A0 : Option Addr) (c0 : Nat) (l0 : List (S52)) (A1 : Option Addr) (c1 : Nat) (l1 : List (S52)) (r : Bool) (w : World) (hr0 : Kd.C k52 w A0 l0.length l0) (hc0 : l0.length ≤ c0) (hr1 : Kd.C k52 w A1 l1.length l1) (hc1 : l1.length ≤ c1) (h : laws_eqStepS.f k l0 l1 = some r) :
  Calls Try.prog 20 #[.slice A0 l0.length c0, .slice A1 l1.length c1] w fun e w' => e = .returned (.bool r) ∧ Below w.heap.size w w' := by
 have hu52 := Try.underlying52
 have HR0 := yam hr0
 have HC0 := yam hc0
 clear hr0 hc0
 have HR1 := yam hr1
 have HC1 := yam hc1
 clear hr1 hc1
 have HB := yam (Below.refl w.heap.size w)
 have H : (if (l0.length : Int) = (l1.length : Int) then (laws_eqStepS.l0 k l0 l1 0) else (some false)) = some r := h
 clear h
 by_cases c3 : (l0.length : Int) = (l1.length : Int)
 rotate_left
 ·rw [if_neg c3] at H
  have c3b0 : ((l0.length : Int) == (l1.length : Int)) = false := beq_eq_false_iff_ne.mpr c3
  have c3b1 : ((l0.length : Int) != (l1.length : Int)) = true := bne_iff_ne.mpr c3
  have c3b2 : (l0.length == l1.length) = false := by first | simpa using c3 | (simp at c3 ⊢; omega)
  obtain rfl := Option.some.inj H
  go_enter Try.func20, Try.ntmps20
  go_wp2
  go_ret
  exact ⟨yer, yhb⟩

 rw [if_pos c3] at H
 have c3b0 : ((l0.length : Int) == (l1.length : Int)) = true := beq_iff_eq.mpr c3
 have c3b1 : ((l0.length : Int) != (l1.length : Int)) = false := bne_eq_false_iff_eq.mpr c3
 have c3b2 : (l0.length == l1.length) = true := by first | simpa using c3 | (simp at c3 ⊢; omega)
 clear c3
 have H' := yam H
 clear H
 go_enter Try.func20, Try.ntmps20
 go_wp2
 go_loopg [5] k (fun kq v5 w' => ∃ (x5_1 : Int), v5 = .int .i64 x5_1 ∧ Aside0 (laws_eqStepS.l0 kq l0 l1 x5_1 = some r) ∧ Aside0 (kq ≤ k) ∧ Aside0 (Below w.heap.size w w'))
 case atStart => exact ⟨(0), yeq, H', ⟨Nat.le_refl _⟩, ⟨yhb⟩⟩
 case round =>
  clear H'
  try clear c1
  try clear c2
  try clear p2
  try clear c3
  try clear c3b0
  try clear c3b1
  try clear c3b2
  obtain ⟨x5_1, rfl, HA, HK1, HB⟩ := hrel
  cases gk with
  | zero => exact absurd HA.out (by simp [laws_eqStepS.l0])
  | succ k1 =>
   have H := HA.out
   clear HA
   simp only [laws_eqStepS.l0] at H
   by_cases c4 : x5_1 < (l0.length : Int)
   rotate_left
   ·rw [if_neg c4] at H
    have c4b0 : decide (x5_1 < (l0.length : Int)) = false := decide_eq_false c4
    clear c4
    obtain rfl := Option.some.inj H
    go_wp2
    go_ret
    exact ⟨yer, yhb⟩
   rw [if_pos c4] at H
   have c4b0 : decide (x5_1 < (l0.length : Int)) = true := decide_eq_true c4
   clear c4
   replace H := yif H
   obtain ⟨c5b0, H⟩ := H
   replace H := yif H
   obtain ⟨c6b0, H⟩ := H
   replace H := Option.bind_eq_some_iff.mp H
   obtain ⟨t562, A70, H⟩ := H
   try dsimp only at H
   have A7 := yam A70
   clear A70
   by_cases c8 : t562 = true
   rotate_left
   ·replace c8 := Bool.eq_false_iff.mpr c8
    subst c8
    have H1 : (some false) = some r := by rw [if_neg (show ¬ (false = true) by decide)] at H; exact H
    clear H
    have H := H1
    clear H1
    obtain rfl := Option.some.inj H
    try go_wp2
    have n0_ := yam (yed HB.out)
    clear HB
    have HB := n0_
    clear n0_
    have p560 : 0 ≤ (x5_1 : Int) := ydt
    have q560 : x5_1 < (l0.length : Int) := ydt
    obtain ⟨ad560, e560, hx560_0, hx560_1⟩ := at_T52 HR0.out x5_1 p560 q560
    have hw560_1 := hx560_1
    have hw560_0 := hx560_0
    cases e560
    replace hx560_0 := ybx HB.out hx560_0
    replace hx560_1 := ybx HB.out hx560_1
    replace p560 := eq_true p560
    replace q560 := eq_true q560
    have p561 : 0 ≤ (x5_1 : Int) := ydt
    have q561 : x5_1 < (l1.length : Int) := ydt
    obtain ⟨ad561, e561, hx561_0, hx561_1⟩ := at_T52 HR1.out x5_1 p561 q561
    have hw561_1 := hx561_1
    have hw561_0 := hx561_0
    cases e561
    replace hx561_0 := ybx HB.out hx561_0
    replace hx561_1 := ybx HB.out hx561_1
    replace p561 := eq_true p561
    replace q561 := eq_true q561
    refine start_ (n := 10) (S := fun w' => w'.cell? (ad560.add ((x5_1).toNat * 2)) = some (.int .i64 ((rd_T52 l0 x5_1).f0)) ∧ w'.cell? ⟨(ad560.add ((x5_1).toNat * 2)).block, (ad560.add ((x5_1).toNat * 2)).off + 1, none⟩ = some (.int .i64 ((rd_T52 l0 x5_1).f1)) ∧ w'.cell? (ad561.add ((x5_1).toNat * 2)) = some (.int .i64 ((rd_T52 l1 x5_1).f0)) ∧ w'.cell? ⟨(ad561.add ((x5_1).toNat * 2)).block, (ad561.add ((x5_1).toNat * 2)).off + 1, none⟩ = some (.int .i64 ((rd_T52 l1 x5_1).f1))) (ds := []) #[false, false, false, false, false, false, false, false, false, false] (by kernel_rfl) rfl rfl ⟨((HB.out.cell (World.block_lt_of_cell? w _ hw560_0)).trans hw560_0), ((HB.out.cell (World.block_lt_of_cell? w _ hw560_1)).trans hw560_1), ((HB.out.cell (World.block_lt_of_cell? w _ hw561_0)).trans hw561_0), ((HB.out.cell (World.block_lt_of_cell? w _ hw561_1)).trans hw561_1)⟩ (fun hHeld => ?_); refine with_tabW laws_eqStepS.tab6 laws_eqStepS.bits6 (fun HT_ HW_ => ?_)
    generalize wr.drew = w11 at HB hx560_0 hx560_1 hx561_0 hx561_1 hHeld ⊢
    refine yvp 0 17 (yvb 10 1) HT_.out ?_
    refine yvp 1 18 (yvb 10 3) HT_.out ?_
    refine yvp 2 19 (yvb 10 7) HT_.out ?_
    refine yvp 4 21 (yvb 10 23) HT_.out ?_
    refine yvp 5 22 (yvb 10 55) HT_.out ?_
    refine yvp 6 23 (yvb 10 119) HT_.out ?_
    refine yvt 3 20 (yvb 10 127) HT_.out HW_.out hHeld ?_
    refine yvt 7 24 (yvb 10 255) HT_.out HW_.out hHeld ?_
    refine one_ (i := 8) (N := some 25) #[true, true, true, true, true, true, true, true, true, false] rfl rfl (one_of HT_.out (by kernel_rfl)) (by decide) (fun K hK => ?_)
    refine goes_ Try.func46 (by kernel_rfl) rfl #[.agg #[.int .i64 ((rd_T52 l0 x5_1).f0), .int .i64 ((rd_T52 l0 x5_1).f1)], .agg #[.int .i64 ((rd_T52 l1 x5_1).f0), .int .i64 ((rd_T52 l1 x5_1).f1)]] (by rfl) rfl rfl ymd ?_
    with_reducible refine (laws_eqStep.calls ((rd_T52 l0 x5_1).f0) ((rd_T52 l0 x5_1).f1) ((rd_T52 l1 x5_1).f0) ((rd_T52 l1 x5_1).f1) false _ A7.out).mono ?_
    rintro e w12 ⟨rfl, hb⟩
    refine ⟨_, rfl, ?_⟩
    have n0_ := yam (below_step (yez HB.out) hb)
    clear HB
    have HB := n0_
    clear n0_
    (try clear hb)
    (try clear hb2)
    (try clear hk)
    (try clear hi)
    refine hK.out _ _ ⟨((HB.out.cell (World.block_lt_of_cell? w _ hw560_0)).trans hw560_0), ((HB.out.cell (World.block_lt_of_cell? w _ hw560_1)).trans hw560_1), ((HB.out.cell (World.block_lt_of_cell? w _ hw561_0)).trans hw561_0), ((HB.out.cell (World.block_lt_of_cell? w _ hw561_1)).trans hw561_1)⟩ (fun hHeld => ?_)
    clear hK K
    refine norm_ (a' := ?_) ?_ ?_
    rotate_left
    ·show Act.put _ (some 25) _ = _
     simp only [Act.put, yps, i64_w, i32_w]
     rfl
    refine yvp 9 26 (yvb 10 1023) HT_.out ?_
    refine done_ (done_of HT_.out (by kernel_rfl)) ?_
    try go_wp2
    go_ret
    exact ⟨yer, yhb⟩
   subst c8
   have H1 : (laws_eqStepS.l0 k1 l0 l1 (wrap64 (x5_1 + 1))) = some r := by rw [if_pos rfl] at H; exact H
   clear H
   have H := H1
   clear H1
   have H' := yam H
   clear H
   try go_wp2
   have n0_ := yam (yed HB.out)
   clear HB
   have HB := n0_
   clear n0_
   have p560 : 0 ≤ (x5_1 : Int) := ydt
   have q560 : x5_1 < (l0.length : Int) := ydt
   obtain ⟨ad560, e560, hx560_0, hx560_1⟩ := at_T52 HR0.out x5_1 p560 q560
   have hw560_1 := hx560_1
   have hw560_0 := hx560_0
   cases e560
   replace hx560_0 := ybx HB.out hx560_0
   replace hx560_1 := ybx HB.out hx560_1
   replace p560 := eq_true p560
   replace q560 := eq_true q560
   have p561 : 0 ≤ (x5_1 : Int) := ydt
   have q561 : x5_1 < (l1.length : Int) := ydt
   obtain ⟨ad561, e561, hx561_0, hx561_1⟩ := at_T52 HR1.out x5_1 p561 q561
   have hw561_1 := hx561_1
   have hw561_0 := hx561_0
   cases e561
   replace hx561_0 := ybx HB.out hx561_0
   replace hx561_1 := ybx HB.out hx561_1
   replace p561 := eq_true p561
   replace q561 := eq_true q561
   refine start_ (n := 10) (S := fun w' => w'.cell? (ad560.add ((x5_1).toNat * 2)) = some (.int .i64 ((rd_T52 l0 x5_1).f0)) ∧ w'.cell? ⟨(ad560.add ((x5_1).toNat * 2)).block, (ad560.add ((x5_1).toNat * 2)).off + 1, none⟩ = some (.int .i64 ((rd_T52 l0 x5_1).f1)) ∧ w'.cell? (ad561.add ((x5_1).toNat * 2)) = some (.int .i64 ((rd_T52 l1 x5_1).f0)) ∧ w'.cell? ⟨(ad561.add ((x5_1).toNat * 2)).block, (ad561.add ((x5_1).toNat * 2)).off + 1, none⟩ = some (.int .i64 ((rd_T52 l1 x5_1).f1))) (ds := []) #[false, false, false, false, false, false, false, false, false, false] (by kernel_rfl) rfl rfl ⟨((HB.out.cell (World.block_lt_of_cell? w _ hw560_0)).trans hw560_0), ((HB.out.cell (World.block_lt_of_cell? w _ hw560_1)).trans hw560_1), ((HB.out.cell (World.block_lt_of_cell? w _ hw561_0)).trans hw561_0), ((HB.out.cell (World.block_lt_of_cell? w _ hw561_1)).trans hw561_1)⟩ (fun hHeld => ?_); refine with_tabW laws_eqStepS.tab6 laws_eqStepS.bits6 (fun HT_ HW_ => ?_)
   generalize wr.drew = w9 at HB hx560_0 hx560_1 hx561_0 hx561_1 hHeld ⊢
   refine yvp 0 17 (yvb 10 1) HT_.out ?_
   refine yvp 1 18 (yvb 10 3) HT_.out ?_
   refine yvp 2 19 (yvb 10 7) HT_.out ?_
   refine yvp 4 21 (yvb 10 23) HT_.out ?_
   refine yvp 5 22 (yvb 10 55) HT_.out ?_
   refine yvp 6 23 (yvb 10 119) HT_.out ?_
   refine yvt 3 20 (yvb 10 127) HT_.out HW_.out hHeld ?_
   refine yvt 7 24 (yvb 10 255) HT_.out HW_.out hHeld ?_
   refine one_ (i := 8) (N := some 25) #[true, true, true, true, true, true, true, true, true, false] rfl rfl (one_of HT_.out (by kernel_rfl)) (by decide) (fun K hK => ?_)
   refine goes_ Try.func46 (by kernel_rfl) rfl #[.agg #[.int .i64 ((rd_T52 l0 x5_1).f0), .int .i64 ((rd_T52 l0 x5_1).f1)], .agg #[.int .i64 ((rd_T52 l1 x5_1).f0), .int .i64 ((rd_T52 l1 x5_1).f1)]] (by rfl) rfl rfl ymd ?_
   with_reducible refine (laws_eqStep.calls ((rd_T52 l0 x5_1).f0) ((rd_T52 l0 x5_1).f1) ((rd_T52 l1 x5_1).f0) ((rd_T52 l1 x5_1).f1) true _ A7.out).mono ?_
   rintro e w10 ⟨rfl, hb⟩
   refine ⟨_, rfl, ?_⟩
   have n0_ := yam (below_step (yez HB.out) hb)
   clear HB
   have HB := n0_
   clear n0_
   (try clear hb)
   (try clear hb2)
   (try clear hk)
   (try clear hi)
   refine hK.out _ _ ⟨((HB.out.cell (World.block_lt_of_cell? w _ hw560_0)).trans hw560_0), ((HB.out.cell (World.block_lt_of_cell? w _ hw560_1)).trans hw560_1), ((HB.out.cell (World.block_lt_of_cell? w _ hw561_0)).trans hw561_0), ((HB.out.cell (World.block_lt_of_cell? w _ hw561_1)).trans hw561_1)⟩ (fun hHeld => ?_)
   clear hK K
   refine norm_ (a' := ?_) ?_ ?_
   rotate_left
   ·show Act.put _ (some 25) _ = _
    simp only [Act.put, yps, i64_w, i32_w]
    rfl
   refine yvp 9 26 (yvb 10 1023) HT_.out ?_
   refine done_ (done_of HT_.out (by kernel_rfl)) ?_
   try go_wp2
   go_roundg k1
   case measure => have := HK1.out; omega
   case rel => exact ⟨(wrap64 (x5_1 + 1)), yeq, H', ⟨by have := HK1.out; omega⟩, ⟨yhb⟩⟩
def laws_markStepS.l0 : Nat → List (S52) → Int → Int → Option (Int × (List (S52)))
 | 0, _, _, _ => none
 | k + 1, x0, x1, x5 => if x5 < (x0.length : Int) then (if 0 ≤ x5 then ((some (x0.set (x5 : Int).toNat (⟨x1, (rd_T52 x0 x5).f1⟩ : S52) : List (S52))).bind fun y563 => (laws_markStepS.l0 k (y563.set (x5 : Int).toNat (⟨(rd_T52 y563 x5).f0, wrap64 (x1 + 1)⟩ : S52)) (wrap64 ((wrap64 (x1 + 1)) + 1)) (wrap64 (x5 + 1)))) else (none)) else (some (x1, x0))
def laws_markStepS.f (k : Nat) (l0 : List (S52)) (a1 : Int) : Option (Int × (List (S52))) := laws_markStepS.l0 k l0 a1 0
set_option maxHeartbeats 8000000 in
set_option maxRecDepth 100000 in
theorem laws_markStepS.calls (k : Nat) (P0_ : Nat → Prop) (u9000_ : Value) (l0 : List (S52)) (a1 : Int) (r1 : Int) (r2 : List (S52)) (w0 w : World) (hB : Below w0.heap.size w0 w) (ho0 : Kd.R k52 52 w w0.heap.size P0_ u9000_ l0) (h : laws_markStepS.f k l0 a1 = some (r1, r2)) :
  Calls Try.prog 21 #[u9000_, .int .i64 a1] w fun e w' => e = .returned (.int .i64 r1) ∧ Kd.R k52 52 w' w0.heap.size (fun k_ => (P0_ k_ ∨ w.heap.size ≤ k_)) u9000_ r2 ∧ Below w0.heap.size w0 w' ∧ Kept w w' (fun k_ => P0_ k_) := by
 have HO0 := yam (show Kd.R k52 52 w w0.heap.size (fun k_ => (P0_ k_ ∨ w.heap.size ≤ k_)) u9000_ l0 from Kd.R_mono ho0 (fun k_ hk => (.inl hk)))
 have HK := yam (Kept.refl w (fun k_ => P0_ k_))
 have HW0 := yam hB.size
 have HB := yam hB
 clear hB
 have H : (laws_markStepS.l0 k l0 a1 0) = some (r1, r2) := h
 clear h
 have H' := yam H
 clear H
 go_enter Try.func21, Try.ntmps21
 go_wp2
 go_loopg [1, 5] k (fun kq v1 v5 w' => ∃ (x0_1 : List (S52)) (x1_1 : Int) (x5_1 : Int), v1 = .int .i64 x1_1 ∧ v5 = .int .i64 x5_1 ∧ Aside0 (laws_markStepS.l0 kq x0_1 x1_1 x5_1 = some (r1, r2)) ∧ Aside0 (kq ≤ k) ∧ Aside0 (Kd.R k52 52 w' w0.heap.size (fun k_ => (P0_ k_ ∨ w.heap.size ≤ k_)) u9000_ x0_1) ∧ Aside0 (Kept w w' (fun k_ => P0_ k_)) ∧ Aside0 (Below w0.heap.size w0 w'))
 case atStart => exact ⟨(l0), (a1), (0), yeq, yeq, H', ⟨Nat.le_refl _⟩, ⟨yka HO0.out⟩, ⟨by repeat (first | (with_reducible first | exact HK.out | apply Kept.alloc | apply Kept.drewN | apply Kept.drew) | exact HK.out)⟩, ⟨yhb⟩⟩
 case round =>
  clear H'
  try clear c2
  try clear p2
  obtain ⟨x0_1, x1_1, x5_1, rfl, rfl, HA, HK1, HO_0, HK, HB⟩ := hrel
  cases gk with
  | zero => exact absurd HA.out (by simp [laws_markStepS.l0])
  | succ k1 =>
   have H := HA.out
   clear HA
   simp only [laws_markStepS.l0] at H
   by_cases c3 : x5_1 < (x0_1.length : Int)
   rotate_left
   ·rw [if_neg c3] at H
    have c3b0 : decide (x5_1 < (x0_1.length : Int)) = false := decide_eq_false c3
    clear c3
    simp only [Option.some.injEq, Prod.mk.injEq] at H
    obtain ⟨rfl, rfl⟩ := H
    obtain ⟨Ao12, co12, eo12⟩ := Kd.R_slice HO_0.out
    subst eo12
    go_wp2
    go_ret
    exact ⟨yer, yka HO_0.out, yhb, by repeat (first | (with_reducible first | exact HK.out | apply Kept.alloc | apply Kept.drewN | apply Kept.drew) | exact HK.out)⟩

   rw [if_pos c3] at H
   have c3b0 : decide (x5_1 < (x0_1.length : Int)) = true := decide_eq_true c3
   clear c3
   replace H := yif H
   obtain ⟨c4b0, H⟩ := H
   obtain ⟨y563, hy563⟩ : ∃ y_ : List (S52), y_ = (x0_1.set (x5_1 : Int).toNat (⟨x1_1, (rd_T52 x0_1 x5_1).f1⟩ : S52)) := ⟨_, rfl⟩
   replace H : (laws_markStepS.l0 k1 (y563.set (x5_1 : Int).toNat (⟨(rd_T52 y563 x5_1).f0, wrap64 (x1_1 + 1)⟩ : S52)) (wrap64 ((wrap64 (x1_1 + 1)) + 1)) (wrap64 (x5_1 + 1))) = some (r1, r2) := by first | (rw [hy563]; with_reducible exact H) | (have H2_ := (Option.bind_some _ _).symm.trans H; rw [hy563]; with_reducible exact H2_) | (have H2_ := (Option.bind_some _ _).symm.trans H; with_reducible exact H2_) | with_reducible exact H | (rw [hy563]; exact H) | exact H
   have Ny563 := yam hy563
   clear hy563
   obtain ⟨y564, hy564⟩ : ∃ y_ : List (S52), y_ = (y563.set (x5_1 : Int).toNat (⟨(rd_T52 y563 x5_1).f0, wrap64 (x1_1 + 1)⟩ : S52)) := ⟨_, rfl⟩
   replace H : (laws_markStepS.l0 k1 y564 (wrap64 ((wrap64 (x1_1 + 1)) + 1)) (wrap64 (x5_1 + 1))) = some (r1, r2) := by first | (rw [hy564]; with_reducible exact H) | (have H2_ := (Option.bind_some _ _).symm.trans H; rw [hy564]; with_reducible exact H2_) | (have H2_ := (Option.bind_some _ _).symm.trans H; with_reducible exact H2_) | with_reducible exact H | (rw [hy564]; exact H) | exact H
   have Ny564 := yam hy564
   clear hy564
   have H' := yam H
   clear H
   obtain ⟨Ao7, co7, eo7⟩ := Kd.R_slice HO_0.out
   subst eo7
   have p5 : 0 ≤ (x5_1 : Int) := ydt
   have q5 : (x5_1 : Int) < ((x0_1.length : Int) : Int) := ydt
   obtain ⟨go5, co5, eo5, gb5, gl5, cl5, HG5⟩ := Kd.R_form HO_0.out (by omega)
   (first | cases eo5 | (injection eo5 with ea_ en_ ec_; (first | subst ea_ | (injection ea_ with ea_; subst ea_)); subst ec_; clear en_))
   have GB5 := yam gb5
   have GG5 := yam HG5
   clear gb5 gl5 HG5
   have HMgo5 := yam (show (P0_ go5 ∨ w.heap.size ≤ go5) from (HO_0.out.1 _ rfl))
   obtain ⟨ce5, hcl5, hM5, hcc5, hfr5⟩ := Kd.R_elem HO_0.out z52 (x5_1 : Int) p5 q5
   obtain rfl := k52_openM hM5
   have hx5_0 : wr.cell? ⟨go5, (x5_1 : Int).toNat * 2, none⟩ = some (.int .i64 ((rd_T52 x0_1 x5_1).f0)) := hcc5 0 _ rfl
   have hx5_1 : wr.cell? ⟨go5, (x5_1 : Int).toNat * 2 + 1, none⟩ = some (.int .i64 ((rd_T52 x0_1 x5_1).f1)) := hcc5 1 _ rfl
   have hf5_0 : wr.frozen? ⟨go5, (x5_1 : Int).toNat * 2, none⟩ = false := hfr5 0
   have hf5_1 : wr.frozen? ⟨go5, (x5_1 : Int).toNat * 2 + 1, none⟩ = false := hfr5 1
   clear hcl5 hcc5 hfr5 hM5
   replace p5 := eq_true p5
   replace q5 := eq_true q5
   have HX8 := yam (show Kd.R k52 52 wr w0.heap.size (fun k_ => (P0_ k_ ∨ w.heap.size ≤ k_)) (.slice (some ⟨go5, 0, none⟩) x0_1.length co7) x0_1 from (Kd.Yz HO_0.out))
   obtain ⟨ce8, hcl8, hM8, hcc8, hfr8⟩ := Kd.R_elem HX8.out z52 (x5_1 : Int) (ydt) (by have h_ : (x5_1 : Int) < ((x0_1.length : Int) : Int) := ydt; first | exact h_ | (have e_ := (Kd.Yr HO_0.out).1; omega) | simpa using h_)
   obtain rfl := k52_openM hM8
   have HP8 := Kd.R_seg HX8.out (x5_1 : Int) (ydt) (by have h_ : (x5_1 : Int) < ((x0_1.length : Int) : Int) := ydt; first | exact h_ | (have e_ := (Kd.Yr HO_0.out).1; omega) | simpa using h_) (seg := [.int .i64 x1_1]) (j := 0) hcl8 hcc8 (show 1 ≤ 2 from by decide) (x' := (⟨x1_1, (rd_T52 x0_1 x5_1).f1⟩ : S52)) (k52_mkM _ _ _ (⟨x1_1, (rd_T52 x0_1 x5_1).f1⟩ : S52) ) (fun _ hk => hk)
   have hx8_0 := hcc8 0 _ rfl
   (try simp only [show (k52).sz = 2 from rfl, Nat.mul_one, Nat.add_zero] at hx8_0)
   have hf8_0 := hfr8 0
   (try simp only [show (k52).sz = 2 from rfl, Nat.mul_one, Nat.add_zero] at hf8_0)
   clear hcl8 hcc8 hfr8 hM8
   go_wp2_with (first | ((with_reducible refine gate_store (t := 3) (p := 16) rfl ?_); refine store_event (t := 3) (p := 16) (v := ?vo_w9) (w1 := (wr.setCell ⟨go5, (x5_1 : Int).toNat * 2, none⟩ (.int .i64 x1_1))) ?hg ?ho ?hn ?hr ?_; (case ho => rfl); (case hg => rfl); (case hn => rfl); (case hr => first | (go_simp; done) | (go_simp; rfl)); intro w9 hw; have hg : wr.grownBy w9 (some go5) := (by rw [hw]; exact HP8.2); have hp_ : Kd.R k52 52 w9 w0.heap.size (fun k_ => (P0_ k_ ∨ w.heap.size ≤ k_)) (.slice (some ⟨go5, 0, none⟩) x0_1.length co7) y563 := (by rw [hw, Ny563.out]; exact HP8.1); clear HP8; have n0_ := yam (hp_); have n1_ := yam ((by rw [hw]; exact below_set (HB.out) GB5.out : Below w0.heap.size w0 w9)); have n2_ := yam (Kept.of_grown (S := (fun k_ => P0_ k_)) hg (by repeat (first | (with_reducible first | exact HK.out | apply Kept.alloc | apply Kept.drewN | apply Kept.drew) | exact HK.out)) (fun k_ e_ => (HO_0.out.1 k_ e_))); clear HO_0; clear HB; clear HK; have HO_0 := n0_; have HB := n1_; have HK := n2_; clear n0_ n1_ n2_; clear hg hw hp_; have p6 : 0 ≤ (x5_1 : Int) := ydt; have q6 : (x5_1 : Int) < ((x0_1.length : Int) : Int) := ydt; obtain ⟨ce6, hcl6, hM6, hcc6, hfr6⟩ := Kd.R_elem HO_0.out z52 (x5_1 : Int) p6 q6; obtain rfl := k52_openM hM6; have hx6_0 : w9.cell? ⟨go5, (x5_1 : Int).toNat * 2, none⟩ = some (.int .i64 ((rd_T52 y563 x5_1).f0)) := hcc6 0 _ rfl; have hx6_1 : w9.cell? ⟨go5, (x5_1 : Int).toNat * 2 + 1, none⟩ = some (.int .i64 ((rd_T52 y563 x5_1).f1)) := hcc6 1 _ rfl; have hf6_0 : w9.frozen? ⟨go5, (x5_1 : Int).toNat * 2, none⟩ = false := hfr6 0; have hf6_1 : w9.frozen? ⟨go5, (x5_1 : Int).toNat * 2 + 1, none⟩ = false := hfr6 1; clear hcl6 hcc6 hfr6 hM6; replace p6 := eq_true p6; replace q6 := eq_true q6; have HX10 := yam (show Kd.R k52 52 w9 w0.heap.size (fun k_ => (P0_ k_ ∨ w.heap.size ≤ k_)) (.slice (some ⟨go5, 0, none⟩) x0_1.length co7) y563 from (Kd.Yz HO_0.out)); obtain ⟨ce10, hcl10, hM10, hcc10, hfr10⟩ := Kd.R_elem HX10.out z52 (x5_1 : Int) (ydt) (by have h_ : (x5_1 : Int) < ((x0_1.length : Int) : Int) := ydt; first | exact h_ | (have e_ := (Kd.Yr HO_0.out).1; omega) | simpa using h_); obtain rfl := k52_openM hM10; have HP10 := Kd.R_seg HX10.out (x5_1 : Int) (ydt) (by have h_ : (x5_1 : Int) < ((x0_1.length : Int) : Int) := ydt; first | exact h_ | (have e_ := (Kd.Yr HO_0.out).1; omega) | simpa using h_) (seg := [.int .i64 (wrap64 (x1_1 + 1))]) (j := 1) hcl10 hcc10 (show 2 ≤ 2 from by decide) (x' := (⟨(rd_T52 y563 x5_1).f0, wrap64 (x1_1 + 1)⟩ : S52)) (k52_mkM _ _ _ (⟨(rd_T52 y563 x5_1).f0, wrap64 (x1_1 + 1)⟩ : S52) ) (fun _ hk => hk); have hx10_1 := hcc10 1 _ rfl; (try simp only [show (k52).sz = 2 from rfl, Nat.mul_one, Nat.add_zero] at hx10_1); have hf10_1 := hfr10 1; (try simp only [show (k52).sz = 2 from rfl, Nat.mul_one, Nat.add_zero] at hf10_1); clear hcl10 hcc10 hfr10 hM10) | ((with_reducible refine gate_store (t := 3) (p := 23) rfl ?_); refine store_event (t := 3) (p := 23) (v := ?vo_w11) (w1 := (w9.setCell ⟨go5, (x5_1 : Int).toNat * 2 + 1, none⟩ (.int .i64 (wrap64 (x1_1 + 1))))) ?hg ?ho ?hn ?hr ?_; (case ho => rfl); (case hg => rfl); (case hn => rfl); (case hr => first | (go_simp; done) | (go_simp; rfl)); intro w11 hw; have hg : w9.grownBy w11 (some go5) := (by rw [hw]; exact HP10.2); have hp_ : Kd.R k52 52 w11 w0.heap.size (fun k_ => (P0_ k_ ∨ w.heap.size ≤ k_)) (.slice (some ⟨go5, 0, none⟩) x0_1.length co7) y564 := (by rw [hw, Ny564.out]; exact HP10.1); clear HP10; have n0_ := yam (hp_); have n1_ := yam ((by rw [hw]; exact below_set (HB.out) GB5.out : Below w0.heap.size w0 w11)); have n2_ := yam (Kept.of_grown (S := (fun k_ => P0_ k_)) hg (by repeat (first | (with_reducible first | exact HK.out | apply Kept.alloc | apply Kept.drewN | apply Kept.drew) | exact HK.out)) (fun k_ e_ => (HO_0.out.1 k_ e_))); clear HO_0; clear HB; clear HK; have HO_0 := n0_; have HB := n1_; have HK := n2_; clear n0_ n1_ n2_; clear hg hw hp_))
   go_roundg k1
   case measure => have := HK1.out; omega
   case rel => exact ⟨(y564), (wrap64 ((wrap64 (x1_1 + 1)) + 1)), (wrap64 (x5_1 + 1)), yeq, yeq, H', ⟨by have := HK1.out; omega⟩, ⟨yka HO_0.out⟩, ⟨by repeat (first | (with_reducible first | exact HK.out | apply Kept.alloc | apply Kept.drewN | apply Kept.drew) | exact HK.out)⟩, ⟨yhb⟩⟩
def laws_heldStepS.l0 : Nat → List (S52) → Int → Int → Option (Int)
 | 0, _, _, _ => none
 | k + 1, x0, x1, x5 => if x5 < (x0.length : Int) then (if 0 ≤ x5 then (if ((rd_T52 x0 x5).f0) = x1 then (if ((rd_T52 x0 x5).f1) = (wrap64 (x1 + 1)) then (laws_heldStepS.l0 k x0 (wrap64 ((wrap64 (x1 + 1)) + 1)) (wrap64 (x5 + 1))) else (some (-1))) else (some (-1))) else (none)) else (some x1)
def laws_heldStepS.f (k : Nat) (l0 : List (S52)) (a1 : Int) : Option (Int) := laws_heldStepS.l0 k l0 a1 0
set_option maxHeartbeats 8000000 in
set_option maxRecDepth 100000 in
theorem laws_heldStepS.calls (k : Nat) (A0 : Option Addr) (c0 : Nat) (l0 : List (S52)) (a1 : Int) (r : Int) (w : World) (hr0 : Kd.C k52 w A0 l0.length l0) (hc0 : l0.length ≤ c0) (h : laws_heldStepS.f k l0 a1 = some r) :
  Calls Try.prog 22 #[.slice A0 l0.length c0, .int .i64 a1] w fun e w' => e = .returned (.int .i64 r) ∧ Drawn0 w w' := by
 have HR0 := yam hr0
 have HC0 := yam hc0
 clear hr0 hc0
 have H : (laws_heldStepS.l0 k l0 a1 0) = some r := h
 clear h
 have H' := yam H
 clear H
 go_enter Try.func22, Try.ntmps22
 go_wp2
 go_loopg [1, 5] k (fun kq v1 v5 w' => ∃ (x1_1 : Int) (x5_1 : Int), v1 = .int .i64 x1_1 ∧ v5 = .int .i64 x5_1 ∧ Aside0 (laws_heldStepS.l0 kq l0 x1_1 x5_1 = some r) ∧ Aside0 (kq ≤ k) ∧ Drawn0 w w')
 case atStart => exact ⟨(a1), (0), yeq, yeq, H', ⟨Nat.le_refl _⟩, by repeat (first | exact Drawn0.refl _ | apply Drawn0.step)⟩
 case round =>
  clear H'
  try clear c2
  try clear p2
  obtain ⟨x1_1, x5_1, rfl, rfl, HA, HK1, ⟨m1, rfl⟩⟩ := hrel
  cases gk with
  | zero => exact absurd HA.out (by simp [laws_heldStepS.l0])
  | succ k1 =>
   have H := HA.out
   clear HA
   simp only [laws_heldStepS.l0] at H
   by_cases c3 : x5_1 < (l0.length : Int)
   rotate_left
   ·rw [if_neg c3] at H
    have c3b0 : decide (x5_1 < (l0.length : Int)) = false := decide_eq_false c3
    clear c3
    obtain rfl := Option.some.inj H
    go_wp2
    go_ret
    exact ⟨yeq, by repeat (first | exact Drawn0.refl _ | apply Drawn0.step)⟩

   rw [if_pos c3] at H
   have c3b0 : decide (x5_1 < (l0.length : Int)) = true := decide_eq_true c3
   clear c3
   replace H := yif H
   obtain ⟨c4b0, H⟩ := H
   by_cases c5 : ((rd_T52 l0 x5_1).f0) = x1_1
   rotate_left
   ·rw [if_neg c5] at H
    have c5b0 : (((rd_T52 l0 x5_1).f0) == x1_1) = false := beq_eq_false_iff_ne.mpr c5
    have c5b1 : (((rd_T52 l0 x5_1).f0) != x1_1) = true := bne_iff_ne.mpr c5
    obtain rfl := Option.some.inj H
    have p565 : 0 ≤ (x5_1 : Int) := ydt
    have q565 : x5_1 < (l0.length : Int) := ydt
    obtain ⟨ad565, e565, hx565_0, hx565_1⟩ := at_T52 HR0.out x5_1 p565 q565
    cases e565
    replace p565 := eq_true p565
    replace q565 := eq_true q565
    go_wp2
    go_ret
    exact ⟨yeq, by repeat (first | exact Drawn0.refl _ | apply Drawn0.step)⟩
   rw [if_pos c5] at H
   have c5b0 : (((rd_T52 l0 x5_1).f0) == x1_1) = true := beq_iff_eq.mpr c5
   have c5b1 : (((rd_T52 l0 x5_1).f0) != x1_1) = false := bne_eq_false_iff_eq.mpr c5
   clear c5
   by_cases c6 : ((rd_T52 l0 x5_1).f1) = (wrap64 (x1_1 + 1))
   rotate_left
   ·rw [if_neg c6] at H
    have c6b0 : (((rd_T52 l0 x5_1).f1) == (wrap64 (x1_1 + 1))) = false := beq_eq_false_iff_ne.mpr c6
    have c6b1 : (((rd_T52 l0 x5_1).f1) != (wrap64 (x1_1 + 1))) = true := bne_iff_ne.mpr c6
    obtain rfl := Option.some.inj H
    have p565 : 0 ≤ (x5_1 : Int) := ydt
    have q565 : x5_1 < (l0.length : Int) := ydt
    obtain ⟨ad565, e565, hx565_0, hx565_1⟩ := at_T52 HR0.out x5_1 p565 q565
    cases e565
    replace p565 := eq_true p565
    replace q565 := eq_true q565
    have p566 : 0 ≤ (x5_1 : Int) := ydt
    have q566 : x5_1 < (l0.length : Int) := ydt
    obtain ⟨ad566, e566, hx566_0, hx566_1⟩ := at_T52 HR0.out x5_1 p566 q566
    obtain rfl : ad565 = ad566 := (by injection e566)
    replace p566 := eq_true p566
    replace q566 := eq_true q566
    go_wp2
    go_ret
    exact ⟨yeq, by repeat (first | exact Drawn0.refl _ | apply Drawn0.step)⟩
   rw [if_pos c6] at H
   have c6b0 : (((rd_T52 l0 x5_1).f1) == (wrap64 (x1_1 + 1))) = true := beq_iff_eq.mpr c6
   have c6b1 : (((rd_T52 l0 x5_1).f1) != (wrap64 (x1_1 + 1))) = false := bne_eq_false_iff_eq.mpr c6
   clear c6
   have H' := yam H
   clear H
   have p565 : 0 ≤ (x5_1 : Int) := ydt
   have q565 : x5_1 < (l0.length : Int) := ydt
   obtain ⟨ad565, e565, hx565_0, hx565_1⟩ := at_T52 HR0.out x5_1 p565 q565
   cases e565
   replace p565 := eq_true p565
   replace q565 := eq_true q565
   have p566 : 0 ≤ (x5_1 : Int) := ydt
   have q566 : x5_1 < (l0.length : Int) := ydt
   obtain ⟨ad566, e566, hx566_0, hx566_1⟩ := at_T52 HR0.out x5_1 p566 q566
   obtain rfl : ad565 = ad566 := (by injection e566)
   replace p566 := eq_true p566
   replace q566 := eq_true q566
   go_wp2
   go_roundg k1
   case measure => have := HK1.out; omega
   case rel => exact ⟨(wrap64 ((wrap64 (x1_1 + 1)) + 1)), (wrap64 (x5_1 + 1)), yeq, yeq, H', ⟨by have := HK1.out; omega⟩, by repeat (first | exact Drawn0.refl _ | apply Drawn0.step)⟩
def laws_FnExactSolveSteps.f (k : Nat) (a0_0 : Int) (l0_1 : List Int) (l0_2 : List S65) (a1 : Int) : Option Bool := (laws_szPuzzle.f k a0_0 l0_1 l0_2 1048576).bind fun u79 => if u79 < 0 then some true else (laws_toPuzzle.f k a0_0 l0_1 l0_2).bind fun u80 => (spec_SolveSteps.f k u80.1 u80.2.1 u80.2.2 a1).bind fun u81 => (laws_toPuzzle.f k a0_0 l0_1 l0_2).bind fun u82 => (impl_SolveSteps.f k u82.1 u82.2.1 u82.2.2 a1).bind fun u83 => (laws_eqStepS.f k u83 u81).bind fun u84 => if u84 = true then (laws_toPuzzle.f k a0_0 l0_1 l0_2).bind fun u85 => (laws_eqPuzzle.f k u82.1 u82.2.1 u82.2.2 u85.1 u85.2.1 u85.2.2).bind fun u86 => if u86 = true then (laws_markPuzzle.f k u82.1 u82.2.1 u82.2.2 1).bind fun u87 => if u87.1 < 0 then some false else (laws_eqStepS.f k u83 u81).bind fun u88 => if u88 = true then (laws_markStepS.f k u83 1).bind fun u89 => (laws_heldStepS.f k u89.2 1).bind fun u90 => if u90 < 0 then some false else if (u90 != u89.1) = true then some false else (laws_toPuzzle.f k a0_0 l0_1 l0_2).bind fun u91 => (impl_SolveSteps.f k u91.1 u91.2.1 u91.2.2 a1).bind fun u92 => (laws_eqStepS.f k u92 u81).bind fun u93 => if u93 = true then (laws_heldStepS.f k u89.2 1).bind fun u94 => if u94 < 0 then some false else if (u94 != u89.1) = true then some false else some true else some false else some false else some false else some false
set_option maxHeartbeats 8000000 in
set_option maxRecDepth 100000 in
theorem laws_FnExactSolveSteps.calls (k : Nat) (a0_0 : Int) (A0_1 : Option Addr) (c0_1 : Nat) (l0_1 : List Int) (A0_2 : Option Addr) (c0_2 : Nat) (l0_2 : List S65) (a1 : Int) (_r : Bool) (w : World) (hr0_1 : Kd.C (Kd.int .i64) w A0_1 l0_1.length l0_1) (hc0_1 : l0_1.length ≤ c0_1) (hr0_2 : Kd.C k65 w A0_2 l0_2.length l0_2) (hc0_2 : l0_2.length ≤ c0_2) (h : laws_FnExactSolveSteps.f k a0_0 l0_1 l0_2 a1 = some true) :
  Calls Try.prog 4 #[.agg #[.int .i64 a0_0, .slice A0_1 l0_1.length c0_1, .slice A0_2 l0_2.length c0_2], .int .i64 a1] w fun e w' => e = .returned (.bool true) ∧ Below w.heap.size w w' := by
 have HR0_1 := yam hr0_1
 have HC0_1 := yam hc0_1
 clear hr0_1 hc0_1
 have HR0_2 := yam hr0_2
 have HC0_2 := yam hc0_2
 clear hr0_2 hc0_2
 have HB := yam (Below.refl w.heap.size w)
 unfold laws_FnExactSolveSteps.f at h
 replace h := Option.bind_eq_some_iff.1 h
 obtain ⟨t3, e_, h⟩ := h
 try dsimp only at h
 have E2 := yam e_
 clear e_
 by_cases q1 : t3 < 0
 ·clear h
  have b1 := decide_eq_true q1
  clear q1
  go_enter Try.func4, Try.ntmps4
  go_wp2_with (first
   | (refine ybe 2 #[.int .i64 a0_0, .slice A0_1 l0_1.length c0_1, .slice A0_2 l0_2.length c0_2] 25 ?_; intro g1 hg w1_ hbox hb; have Bg1 := yam hbox; have Gg1 := yam (show w.heap.size ≤ g1 ∧ g1 < w1_.heap.size from ⟨Nat.le_of_eq hg.symm, blk_lt hbox⟩); have Zw1_ := yam hb.size; replace HB := yam (below_step HB.out hb); obtain ⟨hzg1_0, hzg1_1, hzg1_2, -⟩ := ybc Bg1.out; clear hb hbox hg)
   | (refine goesL_ (some 15) rfl rfl Try.func9 (by kernel_rfl) rfl #[.agg #[.int .i64 a0_0, .slice A0_1 l0_1.length c0_1, .slice A0_2 l0_2.length c0_2], .int .i64 1048576] rfl yma ?_; (with_reducible refine (laws_szPuzzle.calls k a0_0 _ _ l0_1 _ _ l0_2 1048576 t3 _ (Kd.C_below HR0_1.out HB.out) HC0_1.out (Kd.C_below HR0_2.out HB.out) HC0_2.out E2.out).mono ?_); rintro e w2_ ⟨rfl, hb⟩; refine ⟨_, rfl, ?_⟩; clear Bg1; have Zw2_ := yam hb.size; replace HB := yam (below_step HB.out hb); clear hb; clear hzg1_0; clear hzg1_1; clear hzg1_2; skip))
  go_ret
  exact ⟨rfl, HB.out⟩
 rw [if_neg q1] at h
 have b1 := decide_eq_false q1
 clear q1
 replace h := Option.bind_eq_some_iff.1 h
 obtain ⟨⟨t5, t6, t10⟩, e_, h⟩ := h
 try dsimp only at h
 have E4 := yam e_
 clear e_
 replace h := Option.bind_eq_some_iff.1 h
 obtain ⟨t15, e_, h⟩ := h
 try dsimp only at h
 have E14 := yam e_
 clear e_
 replace h := Option.bind_eq_some_iff.1 h
 obtain ⟨⟨t20, t21, t25⟩, e_, h⟩ := h
 try dsimp only at h
 have E19 := yam e_
 clear e_
 replace h := Option.bind_eq_some_iff.1 h
 obtain ⟨t31, e_, h⟩ := h
 try dsimp only at h
 have E30 := yam e_
 clear e_
 replace h := Option.bind_eq_some_iff.1 h
 obtain ⟨t36, e_, h⟩ := h
 try dsimp only at h
 have E35 := yam e_
 clear e_
 by_cases q2 : t36 = true
 rotate_left
 ·rw [if_neg q2] at h
  exact absurd h (by decide)
 rw [if_pos q2] at h
 subst q2
 replace h := Option.bind_eq_some_iff.1 h
 obtain ⟨⟨t38, t39, t43⟩, e_, h⟩ := h
 try dsimp only at h
 have E37 := yam e_
 clear e_
 replace h := Option.bind_eq_some_iff.1 h
 obtain ⟨t48, e_, h⟩ := h
 try dsimp only at h
 have E47 := yam e_
 clear e_
 by_cases q3 : t48 = true
 rotate_left
 ·rw [if_neg q3] at h
  exact absurd h (by decide)
 rw [if_pos q3] at h
 subst q3
 replace h := Option.bind_eq_some_iff.1 h
 obtain ⟨⟨t50, t51, t52⟩, e_, h⟩ := h
 try dsimp only at h
 have E49 := yam e_
 clear e_
 by_cases q4 : t50 < 0
 ·rw [if_pos q4] at h
  exact absurd h (by decide)
 rw [if_neg q4] at h
 have b4 := decide_eq_false q4
 clear q4
 replace h := Option.bind_eq_some_iff.1 h
 obtain ⟨t54, e_, h⟩ := h
 try dsimp only at h
 have E53 := yam e_
 clear e_
 by_cases q5 : t54 = true
 rotate_left
 ·rw [if_neg q5] at h
  exact absurd h (by decide)
 rw [if_pos q5] at h
 subst q5
 replace h := Option.bind_eq_some_iff.1 h
 obtain ⟨⟨t56, t57⟩, e_, h⟩ := h
 try dsimp only at h
 have E55 := yam e_
 clear e_
 replace h := Option.bind_eq_some_iff.1 h
 obtain ⟨t59, e_, h⟩ := h
 try dsimp only at h
 have E58 := yam e_
 clear e_
 by_cases q6 : t59 < 0
 ·rw [if_pos q6] at h
  exact absurd h (by decide)
 rw [if_neg q6] at h
 have b6 := decide_eq_false q6
 clear q6
 by_cases q7 : (t59 != t56) = true
 ·rw [if_pos q7] at h
  exact absurd h (by decide)
 rw [if_neg q7] at h
 have b7 : (t59 != t56) = false := by simpa using q7
 have bb7 : t59 = t56 := by simpa using q7
 clear q7
 have bc7 := yam bb7
 clear bb7
 replace h := Option.bind_eq_some_iff.1 h
 obtain ⟨⟨t61, t62, t66⟩, e_, h⟩ := h
 try dsimp only at h
 have E60 := yam e_
 clear e_
 replace h := Option.bind_eq_some_iff.1 h
 obtain ⟨t71, e_, h⟩ := h
 try dsimp only at h
 have E70 := yam e_
 clear e_
 replace h := Option.bind_eq_some_iff.1 h
 obtain ⟨t76, e_, h⟩ := h
 try dsimp only at h
 have E75 := yam e_
 clear e_
 by_cases q8 : t76 = true
 rotate_left
 ·rw [if_neg q8] at h
  exact absurd h (by decide)
 rw [if_pos q8] at h
 subst q8
 replace h := Option.bind_eq_some_iff.1 h
 obtain ⟨t78, e_, h⟩ := h
 try dsimp only at h
 have E77 := yam e_
 clear e_
 by_cases q9 : t78 < 0
 ·rw [if_pos q9] at h
  exact absurd h (by decide)
 rw [if_neg q9] at h
 have b9 := decide_eq_false q9
 clear q9
 by_cases q10 : (t78 != t56) = true
 ·rw [if_pos q10] at h
  exact absurd h (by decide)
 rw [if_neg q10] at h
 have b10 : (t78 != t56) = false := by simpa using q10
 have bb10 : t78 = t56 := by simpa using q10
 clear q10
 have bc10 := yam bb10
 clear bb10
 clear h
 go_enter Try.func4, Try.ntmps4
 go_wp2_with (first
  | (refine ybe 2 #[.int .i64 a0_0, .slice A0_1 l0_1.length c0_1, .slice A0_2 l0_2.length c0_2] 25 ?_; intro g1 hg w1_ hbox hb; have Bg1 := yam hbox; have Gg1 := yam (show w.heap.size ≤ g1 ∧ g1 < w1_.heap.size from ⟨Nat.le_of_eq hg.symm, blk_lt hbox⟩); have Zw1_ := yam hb.size; replace HB := yam (below_step HB.out hb); obtain ⟨hzg1_0, hzg1_1, hzg1_2, -⟩ := ybc Bg1.out; clear hb hbox hg)
  | (refine goesL_ (some 15) rfl rfl Try.func9 (by kernel_rfl) rfl #[.agg #[.int .i64 a0_0, .slice A0_1 l0_1.length c0_1, .slice A0_2 l0_2.length c0_2], .int .i64 1048576] rfl yma ?_; (with_reducible refine (laws_szPuzzle.calls k a0_0 _ _ l0_1 _ _ l0_2 1048576 t3 _ (Kd.C_below HR0_1.out HB.out) HC0_1.out (Kd.C_below HR0_2.out HB.out) HC0_2.out E2.out).mono ?_); rintro e w2_ ⟨rfl, hb⟩; refine ⟨_, rfl, ?_⟩; replace Bg1 := yam (blk_below Bg1.out hb); have Zw2_ := yam hb.size; replace HB := yam (below_step HB.out hb); clear hb; clear hzg1_0; clear hzg1_1; clear hzg1_2; obtain ⟨hzg1_0, hzg1_1, hzg1_2, -⟩ := ybc Bg1.out; skip)
  | (refine goesL_ (some 19) rfl rfl Try.func11 (by kernel_rfl) rfl #[.agg #[.int .i64 a0_0, .slice A0_1 l0_1.length c0_1, .slice A0_2 l0_2.length c0_2]] rfl yma ?_; (with_reducible refine (laws_toPuzzle.calls k a0_0 _ _ l0_1 _ _ l0_2 t5 t6 t10 _ (Kd.C_below HR0_1.out HB.out) HC0_1.out (Kd.C_below HR0_2.out HB.out) HC0_2.out E4.out).mono ?_); rintro e w3_ ⟨v0_, v1_, rfl, ho0_, ho1_, hb⟩; refine ⟨_, rfl, ?_⟩; replace Bg1 := yam (blk_below Bg1.out hb); have O7 := yam (Kd.R_born ho0_ (below_size HB.out)); obtain ⟨A8, c9, e_⟩ := Kd.R_slice O7.out; subst e_; have O11 := yam (Kd.S_born ho1_ (below_size HB.out)); obtain ⟨A12, c13, e_⟩ := Kd.S_slice O11.out; subst e_; have Zw3_ := yam hb.size; replace HB := yam (below_step HB.out hb); clear hb ho0_ ho1_; clear hzg1_0; clear hzg1_1; clear hzg1_2; obtain ⟨hzg1_0, hzg1_1, hzg1_2, -⟩ := ybc Bg1.out; skip)
  | (refine goesL_ (some 21) rfl rfl Try.func18 (by kernel_rfl) rfl #[.agg #[.int .i64 t5, .slice A8 t6.length c9, .slice A12 t10.length c13], .int .i64 a1] rfl yma ?_; (with_reducible refine (spec_SolveSteps.calls k t5 _ _ t6 _ _ t10 a1 t15 _ (Kd.R_reads' O7.out).2.2 (Kd.R_reads' O7.out).2.1 (Kd.R_reads' (Kd.S_R O11.out)).2.2 (Kd.R_reads' (Kd.S_R O11.out)).2.1 E14.out).mono ?_); rintro e w4_ ⟨v0_, rfl, ho0_, hb⟩; refine ⟨_, rfl, ?_⟩; replace Bg1 := yam (blk_below Bg1.out hb); clear O7; clear O11; have O16 := yam (Kd.R_born ho0_ (below_size HB.out)); obtain ⟨A17, c18, e_⟩ := Kd.R_slice O16.out; subst e_; have Zw4_ := yam hb.size; replace HB := yam (below_step HB.out hb); clear hb ho0_; clear hzg1_0; clear hzg1_1; clear hzg1_2; obtain ⟨hzg1_0, hzg1_1, hzg1_2, -⟩ := ybc Bg1.out; skip)
  | (refine goesL_ (some 23) rfl rfl Try.func11 (by kernel_rfl) rfl #[.agg #[.int .i64 a0_0, .slice A0_1 l0_1.length c0_1, .slice A0_2 l0_2.length c0_2]] rfl yma ?_; (with_reducible refine (laws_toPuzzle.calls k a0_0 _ _ l0_1 _ _ l0_2 t20 t21 t25 _ (Kd.C_below HR0_1.out HB.out) HC0_1.out (Kd.C_below HR0_2.out HB.out) HC0_2.out E19.out).mono ?_); rintro e w5_ ⟨v0_, v1_, rfl, ho0_, ho1_, hb⟩; refine ⟨_, rfl, ?_⟩; replace O16 := yam (Kd.R_below O16.out hb); replace Bg1 := yam (blk_below Bg1.out hb); have O22 := yam (Kd.R_born ho0_ (below_size HB.out)); obtain ⟨A23, c24, e_⟩ := Kd.R_slice O22.out; subst e_; have O26 := yam (Kd.S_born ho1_ (below_size HB.out)); obtain ⟨A27, c28, e_⟩ := Kd.S_slice O26.out; subst e_; have Zw5_ := yam hb.size; replace HB := yam (below_step HB.out hb); clear hb ho0_ ho1_; clear hzg1_0; clear hzg1_1; clear hzg1_2; skip)
  | (refine ybe 7 #[.int .i64 0, .slice none 0 0, .slice none 0 0] 30 ?_; intro g29 hg w6_ hbox hb; replace O16 := yam (Kd.R_below O16.out hb); replace O22 := yam (Kd.R_below O22.out hb); replace O26 := yam (Kd.S_below O26.out hb); replace Bg1 := yam (blk_below Bg1.out hb); have Bg29 := yam hbox; have Gg29 := yam (show w5_.heap.size ≤ g29 ∧ g29 < w6_.heap.size from ⟨Nat.le_of_eq hg.symm, blk_lt hbox⟩); have Zw6_ := yam hb.size; have Lg29 := yam (show w.heap.size ≤ g29 from Nat.le_trans (below_size HB.out) (Nat.le_of_eq hg.symm)); replace HB := yam (below_step HB.out hb); obtain ⟨hzg29_0, hzg29_1, hzg29_2, -⟩ := ybc Bg29.out; have hzfg29_0 := blk_frozen Bg29.out 0; have hzfg29_1 := blk_frozen Bg29.out 1; have hzfg29_2 := blk_frozen Bg29.out 2; clear hb hbox hg)
  | ((with_reducible refine gate_store (t := 30) (p := 7) rfl ?_); refine store_event (t := 30) (p := 7) (v := ?vog29) (w1 := ((w6_.setCell ⟨g29, 0, none⟩ (.int .i64 t20)).setCell ⟨g29, 1, none⟩ (.slice A23 t21.length c24)).setCell ⟨g29, 2, none⟩ (.slice A27 t25.length c28)) ?hg ?ho ?hn ?hr ?_; (case ho => rfl); (case hg => rfl); (case hn => rfl); (case hr => first | (go_simp; done) | (go_simp; rfl)); intro w7_ hw; have hk : Kept w6_ w7_ (fun k_ => k_ = g29) := (by rw [hw]; exact box3_kept _ _ _ _ _); have hx : w7_.heap[g29]? = some (.cells #[.int .i64 t20, .slice A23 t21.length c24, .slice A27 t25.length c28] 30 (0, 0)) := (by rw [hw]; exact box3_blk Bg29.out _ _ _); have hb : Below w.heap.size w w7_ := (by rw [hw]; exact box3_below HB.out Lg29.out _ _ _); clear hw; replace O16 := yam (Kd.R_kept O16.out hk (fun k_ h_ s_ => by have hx_ := Gg29.out; have hy_ := h_.1; have hz_ := s_; have := Zw1_.out; have := Zw2_.out; have := Zw3_.out; have := Zw4_.out; have := Zw5_.out; have := Zw6_.out; omega)); replace O22 := yam (Kd.R_kept O22.out hk (fun k_ h_ s_ => by have hx_ := Gg29.out; have hy_ := h_.1; have hz_ := s_; have := Zw1_.out; have := Zw2_.out; have := Zw3_.out; have := Zw4_.out; have := Zw5_.out; have := Zw6_.out; omega)); replace O26 := yam (Kd.S_kept O26.out hk (fun k_ h_ s_ => by have hx_ := Gg29.out; have hy_ := h_.1; have hz_ := s_; have := Zw1_.out; have := Zw2_.out; have := Zw3_.out; have := Zw4_.out; have := Zw5_.out; have := Zw6_.out; omega)); replace Bg1 := yam (blk_kept Bg1.out hk (fun s_ => by have hx_ := Gg29.out; have hy_ := Gg1.out; have hz_ := s_; have := Zw1_.out; have := Zw2_.out; have := Zw3_.out; have := Zw4_.out; have := Zw5_.out; have := Zw6_.out; omega)); replace Bg29 := yam hx; have Zw7_ := yam hk.1; replace HB := yam hb; clear hzfg29_0; clear hzfg29_1; clear hzfg29_2; clear hzg29_0; clear hzg29_1; clear hzg29_2; obtain ⟨hzg29_0, hzg29_1, hzg29_2, -⟩ := ybc Bg29.out; clear hk hx hb)
  | (refine goesL_ (some 26) rfl rfl Try.func19 (by kernel_rfl) rfl #[.agg #[.int .i64 t20, .slice A23 t21.length c24, .slice A27 t25.length c28], .int .i64 a1] rfl yma ?_; (with_reducible refine (impl_SolveSteps.calls k t20 _ _ t21 _ _ t25 a1 t31 _ (Kd.R_reads' O22.out).2.2 (Kd.R_reads' O22.out).2.1 (Kd.R_reads' (Kd.S_R O26.out)).2.2 (Kd.R_reads' (Kd.S_R O26.out)).2.1 E30.out).mono ?_); rintro e w8_ ⟨v0_, rfl, ho0_, hb⟩; refine ⟨_, rfl, ?_⟩; replace O16 := yam (Kd.R_below O16.out hb); replace O22 := yam (Kd.R_below O22.out hb); replace O26 := yam (Kd.S_below O26.out hb); replace Bg1 := yam (blk_below Bg1.out hb); replace Bg29 := yam (blk_below Bg29.out hb); have O32 := yam (Kd.R_born ho0_ (below_size HB.out)); obtain ⟨A33, c34, e_⟩ := Kd.R_slice O32.out; subst e_; have Zw8_ := yam hb.size; replace HB := yam (below_step HB.out hb); clear hb ho0_; clear hzg29_0; clear hzg29_1; clear hzg29_2; skip)
  | (refine goesL_ (some 29) rfl rfl Try.func20 (by kernel_rfl) rfl #[.slice A33 t31.length c34, .slice A17 t15.length c18] rfl yma ?_; (with_reducible refine (laws_eqStepS.calls k _ _ t31 _ _ t15 true _ (Kd.R_reads' O32.out).2.2 (Kd.R_reads' O32.out).2.1 (Kd.R_reads' O16.out).2.2 (Kd.R_reads' O16.out).2.1 E35.out).mono ?_); rintro e w9_ ⟨rfl, hb⟩; refine ⟨_, rfl, ?_⟩; replace O16 := yam (Kd.R_below O16.out hb); replace O22 := yam (Kd.R_below O22.out hb); replace O26 := yam (Kd.S_below O26.out hb); replace O32 := yam (Kd.R_below O32.out hb); replace Bg1 := yam (blk_below Bg1.out hb); replace Bg29 := yam (blk_below Bg29.out hb); have Zw9_ := yam hb.size; replace HB := yam (below_step HB.out hb); clear hb; skip))
 refine start_ (n := 5) (S := fun w' => w'.cell? ⟨g29, 0, none⟩ = some (.int .i64 t20) ∧ w'.cell? ⟨g29, 1, none⟩ = some (.slice A23 t21.length c24) ∧ w'.cell? ⟨g29, 2, none⟩ = some (.slice A27 t25.length c28) ∧ w'.cell? ⟨g1, 0, none⟩ = some (.int .i64 a0_0) ∧ w'.cell? ⟨g1, 1, none⟩ = some (.slice A0_1 l0_1.length c0_1) ∧ w'.cell? ⟨g1, 2, none⟩ = some (.slice A0_2 l0_2.length c0_2)) (ds := []) #[false, false, false, false, false] (by kernel_rfl) rfl rfl ⟨(blk_cell Bg29.out 0).trans rfl, (blk_cell Bg29.out 1).trans rfl, (blk_cell Bg29.out 2).trans rfl, (blk_cell Bg1.out 0).trans rfl, (blk_cell Bg1.out 1).trans rfl, (blk_cell Bg1.out 2).trans rfl⟩ (fun hHeld => ?_)
 replace O16 := yam (Kd.R_drew O16.out)
 replace O22 := yam (Kd.R_drew O22.out)
 replace O26 := yam (Kd.S_drew O26.out)
 replace O32 := yam (Kd.R_drew O32.out)
 have HB_ := yam (show Below w.heap.size w w9_.drew from below_drew HB.out)
 have hdz_ := yam (show w9_.heap.size ≤ w9_.drew.heap.size from Nat.le_refl _)
 clear HB
 have HB := HB_
 clear HB_
 have n_ := yam (show w9_.drew.heap[g1]? = _ from Bg1.out)
 clear Bg1
 have Bg1 := n_
 clear n_
 have n_ := yam (show w9_.drew.heap[g29]? = _ from Bg29.out)
 clear Bg29
 have Bg29 := n_
 clear n_
 generalize w9_.drew = w10_ at hHeld HB hdz_ O16 O22 O26 O32 Bg1 Bg29 ⊢
 have Zw10_ := hdz_
 clear hdz_
 refine take_ (i := 0) (N := some 31) (v := ?_) (a' := ?_) #[true, false, false, false, false] rfl rfl (by kernel_rfl) (fun _ _ _ h => h) (Or.inl ⟨by rfl, ?_⟩) hHeld ?_ ?_
 rotate_left
 ·rintro w' ⟨s0, s1, s2, s3, s4, s5⟩
  go_simp
  with_reducible rfl
 rotate_left
 ·simp only [Act.put, yps, i64_w, i32_w]
  rfl
 refine take_ (i := 1) (N := some 32) (v := ?_) (a' := ?_) #[true, true, false, false, false] rfl rfl (by kernel_rfl) (fun _ _ _ h => h) (Or.inl ⟨by rfl, ?_⟩) hHeld ?_ ?_
 rotate_left
 ·rintro w' ⟨s0, s1, s2, s3, s4, s5⟩
  go_simp
  with_reducible rfl
 rotate_left
 ·simp only [Act.put, yps, i64_w, i32_w]
  rfl
 refine one_ (i := 2) (N := some 33) #[true, true, true, false, false] rfl rfl (by kernel_rfl) (by decide) (fun K hK => ?_)
 refine goes_ Try.func11 (by kernel_rfl) rfl #[.agg #[.int .i64 a0_0, .slice A0_1 l0_1.length c0_1, .slice A0_2 l0_2.length c0_2]] (by rfl) rfl rfl yma ?_
 with_reducible refine (laws_toPuzzle.calls k a0_0 _ _ l0_1 _ _ l0_2 t38 t39 t43 _ (Kd.C_below HR0_1.out HB.out) HC0_1.out (Kd.C_below HR0_2.out HB.out) HC0_2.out E37.out).mono ?_
 rintro e w11_ ⟨v0_, v1_, rfl, ho0_, ho1_, hb⟩
 refine ⟨_, rfl, ?_⟩
 replace O16 := yam (Kd.R_below O16.out hb)
 replace O22 := yam (Kd.R_below O22.out hb)
 replace O26 := yam (Kd.S_below O26.out hb)
 replace O32 := yam (Kd.R_below O32.out hb)
 replace Bg1 := yam (blk_below Bg1.out hb)
 replace Bg29 := yam (blk_below Bg29.out hb)
 have O40 := yam (Kd.R_born ho0_ (below_size HB.out))
 obtain ⟨A41, c42, e_⟩ := Kd.R_slice O40.out
 subst e_
 have O44 := yam (Kd.S_born ho1_ (below_size HB.out))
 obtain ⟨A45, c46, e_⟩ := Kd.S_slice O44.out
 subst e_
 have Zw11_ := yam hb.size
 replace HB := yam (below_step HB.out hb)
 clear hb ho0_ ho1_
 refine hK.out _ _ ⟨(blk_cell Bg29.out 0).trans rfl, (blk_cell Bg29.out 1).trans rfl, (blk_cell Bg29.out 2).trans rfl, (blk_cell Bg1.out 0).trans rfl, (blk_cell Bg1.out 1).trans rfl, (blk_cell Bg1.out 2).trans rfl⟩ (fun hHeld => ?_)
 clear hK K
 refine norm_ (a' := ?_) ?_ ?_
 rotate_left
 ·show Act.put _ (some 33) _ = _
  simp only [Act.put, yps, i64_w, i32_w]
  rfl
 refine one_ (i := 3) (N := some 34) #[true, true, true, true, false] rfl rfl (by kernel_rfl) (by decide) (fun K hK => ?_)
 refine goes_ Try.func14 (by kernel_rfl) rfl #[.agg #[.int .i64 t20, .slice A23 t21.length c24, .slice A27 t25.length c28], .agg #[.int .i64 t38, .slice A41 t39.length c42, .slice A45 t43.length c46]] (by rfl) rfl rfl yma ?_
 with_reducible refine (laws_eqPuzzle.calls k t20 _ _ t21 _ _ t25 t38 _ _ t39 _ _ t43 true _ (Kd.R_reads' O22.out).2.2 (Kd.R_reads' O22.out).2.1 (Kd.R_reads' (Kd.S_R O26.out)).2.2 (Kd.R_reads' (Kd.S_R O26.out)).2.1 (Kd.R_reads' O40.out).2.2 (Kd.R_reads' O40.out).2.1 (Kd.R_reads' (Kd.S_R O44.out)).2.2 (Kd.R_reads' (Kd.S_R O44.out)).2.1 E47.out).mono ?_
 rintro e w12_ ⟨rfl, hb⟩
 refine ⟨_, rfl, ?_⟩
 replace O16 := yam (Kd.R_below O16.out hb)
 replace O22 := yam (Kd.R_below O22.out hb)
 replace O26 := yam (Kd.S_below O26.out hb)
 replace O32 := yam (Kd.R_below O32.out hb)
 replace Bg1 := yam (blk_below Bg1.out hb)
 replace Bg29 := yam (blk_below Bg29.out hb)
 clear O40
 clear O44
 have Zw12_ := yam hb.size
 replace HB := yam (below_step HB.out hb)
 clear hb
 refine hK.out _ _ ⟨(blk_cell Bg29.out 0).trans rfl, (blk_cell Bg29.out 1).trans rfl, (blk_cell Bg29.out 2).trans rfl, (blk_cell Bg1.out 0).trans rfl, (blk_cell Bg1.out 1).trans rfl, (blk_cell Bg1.out 2).trans rfl⟩ (fun hHeld => ?_)
 clear hK K
 refine norm_ (a' := ?_) ?_ ?_
 rotate_left
 ·show Act.put _ (some 34) _ = _
  simp only [Act.put, yps, i64_w, i32_w]
  rfl
 refine pure_ (i := 4) (N := some 35) (v := ?_) (a' := ?_) #[true, true, true, true, true] rfl rfl (by kernel_rfl) (fun _ _ _ h => h) (Or.inl ⟨by rfl, ?_⟩) ?_ ?_
 rotate_left
 ·intro w'
  go_simp
  with_reducible rfl
 rotate_left
 ·simp only [Act.put, yps, i64_w, i32_w]
  rfl
 refine done_ (by kernel_rfl) ?_
 obtain ⟨hzg1_0, hzg1_1, hzg1_2, -⟩ := ybc Bg1.out
 obtain ⟨hzg29_0, hzg29_1, hzg29_2, -⟩ := ybc Bg29.out
 go_wp2_with (first
  | (refine goesL_ (some 38) rfl rfl Try.func15 (by kernel_rfl) rfl #[.agg #[.int .i64 t20, .slice A23 t21.length c24, .slice A27 t25.length c28], .int .i64 1] rfl yma ?_; (with_reducible refine (laws_markPuzzle.calls k t20 _ _ _ _ t21 _ _ t25 1 t50 t51 t52 w w12_ HB.out apart_own (Kd.R_tight rfl O22.out) O26.out E49.out).mono ?_); rintro e w13_ ⟨rfl, hm0_, hm1_, hb, hk⟩; refine ⟨_, rfl, ?_⟩; replace O16 := yam (Kd.R_kept O16.out hk (fun k_ h_ s_ => s_.elim (fun p_ => by have hx_ := (O22.out.1 _ p_.symm).1; have hy_ := h_.1; have := Zw1_.out; have := Zw2_.out; have := Zw3_.out; have := Zw4_.out; have := Zw5_.out; have := Zw6_.out; have := Zw7_.out; have := Zw8_.out; have := Zw9_.out; have := Zw10_.out; have := Zw11_.out; have := Zw12_.out; omega) (fun q_ => by have hx_ := q_.1; have hy_ := h_.1; have := Zw1_.out; have := Zw2_.out; have := Zw3_.out; have := Zw4_.out; have := Zw5_.out; have := Zw6_.out; have := Zw7_.out; have := Zw8_.out; have := Zw9_.out; have := Zw10_.out; have := Zw11_.out; have := Zw12_.out; omega))); replace O32 := yam (Kd.R_kept O32.out hk (fun k_ h_ s_ => s_.elim (fun p_ => by have hx_ := (O22.out.1 _ p_.symm).1; have hy_ := h_.1; have := Zw1_.out; have := Zw2_.out; have := Zw3_.out; have := Zw4_.out; have := Zw5_.out; have := Zw6_.out; have := Zw7_.out; have := Zw8_.out; have := Zw9_.out; have := Zw10_.out; have := Zw11_.out; have := Zw12_.out; omega) (fun q_ => by have hx_ := q_.1; have hy_ := h_.1; have := Zw1_.out; have := Zw2_.out; have := Zw3_.out; have := Zw4_.out; have := Zw5_.out; have := Zw6_.out; have := Zw7_.out; have := Zw8_.out; have := Zw9_.out; have := Zw10_.out; have := Zw11_.out; have := Zw12_.out; omega))); replace Bg1 := yam (blk_kept Bg1.out hk (fun s_ => s_.elim (fun p_ => by have hx_ := (O22.out.1 _ p_.symm).1; have hy_ := Gg1.out; have := Zw1_.out; have := Zw2_.out; have := Zw3_.out; have := Zw4_.out; have := Zw5_.out; have := Zw6_.out; have := Zw7_.out; have := Zw8_.out; have := Zw9_.out; have := Zw10_.out; have := Zw11_.out; have := Zw12_.out; omega) (fun q_ => by have hx_ := q_.1; have hy_ := Gg1.out; have := Zw1_.out; have := Zw2_.out; have := Zw3_.out; have := Zw4_.out; have := Zw5_.out; have := Zw6_.out; have := Zw7_.out; have := Zw8_.out; have := Zw9_.out; have := Zw10_.out; have := Zw11_.out; have := Zw12_.out; omega))); clear O22; clear O26; clear Bg29; have Zw13_ := yam hk.1; replace HB := yam hb; clear hk hb hm0_ hm1_; clear hzg1_0; clear hzg1_1; clear hzg1_2; clear hzg29_0; clear hzg29_1; clear hzg29_2; obtain ⟨hzg1_0, hzg1_1, hzg1_2, -⟩ := ybc Bg1.out; skip)
  | (go_at_call 20; (with_reducible refine (laws_eqStepS.calls k _ _ t31 _ _ t15 true _ (Kd.R_reads' O32.out).2.2 (Kd.R_reads' O32.out).2.1 (Kd.R_reads' O16.out).2.2 (Kd.R_reads' O16.out).2.1 E53.out).mono ?_); rintro e w14_ ⟨rfl, hb⟩; replace O16 := yam (Kd.R_below O16.out hb); replace O32 := yam (Kd.R_below O32.out hb); replace Bg1 := yam (blk_below Bg1.out hb); have Zw14_ := yam hb.size; replace HB := yam (below_step HB.out hb); clear hb; clear hzg1_0; clear hzg1_1; clear hzg1_2; obtain ⟨hzg1_0, hzg1_1, hzg1_2, -⟩ := ybc Bg1.out; skip)
  | (refine goesL_ (some 49) rfl rfl Try.func21 (by kernel_rfl) rfl #[.slice A33 t31.length c34, .int .i64 1] rfl yma ?_; (with_reducible refine (laws_markStepS.calls k _ _ t31 1 t56 t57 w w14_ HB.out (Kd.R_tight rfl O32.out) E55.out).mono ?_); rintro e w15_ ⟨rfl, hm0_, hb, hk⟩; refine ⟨_, rfl, ?_⟩; replace O16 := yam (Kd.R_kept O16.out hk (fun k_ h_ s_ => by have hx_ := (O32.out.1 _ s_.symm).1; have hy_ := h_.1; have := Zw1_.out; have := Zw2_.out; have := Zw3_.out; have := Zw4_.out; have := Zw5_.out; have := Zw6_.out; have := Zw7_.out; have := Zw8_.out; have := Zw9_.out; have := Zw10_.out; have := Zw11_.out; have := Zw12_.out; have := Zw13_.out; have := Zw14_.out; omega)); replace Bg1 := yam (blk_kept Bg1.out hk (fun s_ => by have hx_ := (O32.out.1 _ s_.symm).1; have hy_ := Gg1.out; have := Zw1_.out; have := Zw2_.out; have := Zw3_.out; have := Zw4_.out; have := Zw5_.out; have := Zw6_.out; have := Zw7_.out; have := Zw8_.out; have := Zw9_.out; have := Zw10_.out; have := Zw11_.out; have := Zw12_.out; have := Zw13_.out; have := Zw14_.out; omega)); replace O32 := yam hm0_; have Lt57 := yam (Kd.R_reads' hm0_).1.symm; have Zw15_ := yam hk.1; replace HB := yam hb; clear hk hb hm0_; clear hzg1_0; clear hzg1_1; clear hzg1_2; obtain ⟨hzg1_0, hzg1_1, hzg1_2, -⟩ := ybc Bg1.out; skip)
  | (refine goesL_ (some 52) rfl rfl Try.func22 (by kernel_rfl) rfl #[.slice A33 t57.length c34, .int .i64 1] rfl (by (try simp only [List.map_toArray, List.map_cons, List.map_nil]); first | done | rfl | (rw [Lt57.out]; rfl)) ?_; (with_reducible refine (laws_heldStepS.calls k _ _ t57 1 t59 _ (Kd.R_reads' O32.out).2.2 (by rw [Lt57.out]; exact (Kd.R_reads' O32.out).2.1) E58.out).mono ?_); rintro e w16_ ⟨rfl, hd⟩; refine ⟨_, rfl, ?_⟩; have hb := hd.below; clear hd; replace O16 := yam (Kd.R_below O16.out hb); replace O32 := yam (Kd.R_below O32.out hb); replace Bg1 := yam (blk_below Bg1.out hb); have Zw16_ := yam hb.size; replace HB := yam (below_step HB.out hb); clear hb; clear hzg1_0; clear hzg1_1; clear hzg1_2; obtain ⟨hzg1_0, hzg1_1, hzg1_2, -⟩ := ybc Bg1.out; skip)
  | (refine goesL_ (some 59) rfl rfl Try.func11 (by kernel_rfl) rfl #[.agg #[.int .i64 a0_0, .slice A0_1 l0_1.length c0_1, .slice A0_2 l0_2.length c0_2]] rfl yma ?_; (with_reducible refine (laws_toPuzzle.calls k a0_0 _ _ l0_1 _ _ l0_2 t61 t62 t66 _ (Kd.C_below HR0_1.out HB.out) HC0_1.out (Kd.C_below HR0_2.out HB.out) HC0_2.out E60.out).mono ?_); rintro e w17_ ⟨v0_, v1_, rfl, ho0_, ho1_, hb⟩; refine ⟨_, rfl, ?_⟩; replace O16 := yam (Kd.R_below O16.out hb); replace O32 := yam (Kd.R_below O32.out hb); clear Bg1; have O63 := yam (Kd.R_born ho0_ (below_size HB.out)); obtain ⟨A64, c65, e_⟩ := Kd.R_slice O63.out; subst e_; have O67 := yam (Kd.S_born ho1_ (below_size HB.out)); obtain ⟨A68, c69, e_⟩ := Kd.S_slice O67.out; subst e_; have Zw17_ := yam hb.size; replace HB := yam (below_step HB.out hb); clear hb ho0_ ho1_; clear hzg1_0; clear hzg1_1; clear hzg1_2; skip)
  | (refine goesL_ (some 61) rfl rfl Try.func19 (by kernel_rfl) rfl #[.agg #[.int .i64 t61, .slice A64 t62.length c65, .slice A68 t66.length c69], .int .i64 a1] rfl yma ?_; (with_reducible refine (impl_SolveSteps.calls k t61 _ _ t62 _ _ t66 a1 t71 _ (Kd.R_reads' O63.out).2.2 (Kd.R_reads' O63.out).2.1 (Kd.R_reads' (Kd.S_R O67.out)).2.2 (Kd.R_reads' (Kd.S_R O67.out)).2.1 E70.out).mono ?_); rintro e w18_ ⟨v0_, rfl, ho0_, hb⟩; refine ⟨_, rfl, ?_⟩; replace O16 := yam (Kd.R_below O16.out hb); replace O32 := yam (Kd.R_below O32.out hb); clear O63; clear O67; have O72 := yam (Kd.R_born ho0_ (below_size HB.out)); obtain ⟨A73, c74, e_⟩ := Kd.R_slice O72.out; subst e_; have Zw18_ := yam hb.size; replace HB := yam (below_step HB.out hb); clear hb ho0_; skip)
  | (refine goesL_ (some 64) rfl rfl Try.func20 (by kernel_rfl) rfl #[.slice A73 t71.length c74, .slice A17 t15.length c18] rfl yma ?_; (with_reducible refine (laws_eqStepS.calls k _ _ t71 _ _ t15 true _ (Kd.R_reads' O72.out).2.2 (Kd.R_reads' O72.out).2.1 (Kd.R_reads' O16.out).2.2 (Kd.R_reads' O16.out).2.1 E75.out).mono ?_); rintro e w19_ ⟨rfl, hb⟩; refine ⟨_, rfl, ?_⟩; replace O32 := yam (Kd.R_below O32.out hb); clear O16; clear O72; have Zw19_ := yam hb.size; replace HB := yam (below_step HB.out hb); clear hb; skip)
  | (refine goesL_ (some 68) rfl rfl Try.func22 (by kernel_rfl) rfl #[.slice A33 t57.length c34, .int .i64 1] rfl (by (try simp only [List.map_toArray, List.map_cons, List.map_nil]); first | done | rfl | (rw [Lt57.out]; rfl)) ?_; (with_reducible refine (laws_heldStepS.calls k _ _ t57 1 t78 _ (Kd.R_reads' O32.out).2.2 (by rw [Lt57.out]; exact (Kd.R_reads' O32.out).2.1) E77.out).mono ?_); rintro e w20_ ⟨rfl, hd⟩; refine ⟨_, rfl, ?_⟩; have hb := hd.below; clear hd; clear O32; have Zw20_ := yam hb.size; replace HB := yam (below_step HB.out hb); clear hb; skip))
 go_ret
 exact ⟨rfl, HB.out⟩
end Go.Proofs.Ytdemlminhkhonaa.P
