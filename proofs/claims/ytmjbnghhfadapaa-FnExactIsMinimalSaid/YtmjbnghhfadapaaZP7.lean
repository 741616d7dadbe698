/- The machine's side: each Go function as a plain Lean function and the proof that the machine's call does what that function says; written by this session's own program over the kit's print. -/
import Derived.Test.YtmjbnghhfadapaaZP1
import Derived.Test.YtmjbnghhfadapaaZP5
import Derived.Test.YtmjbnghhfadapaaZP6
namespace Go.Proofs.Ytmjbnghhfadapaa.P
open Go.RowKit Go.Proofs.YtmjbnghhfadapaaW.PrintWords Go.Proofs.YtmjbnghhfadapaaW.PrintLast Go.Proofs.YtmjbnghhfadapaaW.PrintMore
attribute [local go_sem] max2_int min2_int max_two min_two max_three min_three max_four min_four   -- for this text's walks alone
set_option linter.unusedVariables false
set_option linter.unusedSimpArgs false
/-! ### impl_solutions: function 45 -/
/-- What solutions are told to: a literal with two variables of its own (in the blocks p1, p2), a state s that it turns, and what holds of that state while the blocks of P are not its own. -/
structure Teller (w0 : World) {σ : Type} (tf p1 p2 : Nat) (T : σ → List Int → Option (Bool × σ)) (Inv : (Nat → Prop) → σ → World → Prop) : Prop where
 hf : ∃ fn : Func, Try.prog.funcs[tf]? = some fn ∧ (fn.name == "runtime.NumGoroutine") = false ∧ fn.body.isSome = true
 keep : ∀ {P : Nat → Prop} {s : σ} {w w' : World}, Inv P s w → w.heap.size ≤ w'.heap.size → (∀ k, k < w.heap.size → ¬ P k → w'.heap[k]? = w.heap[k]?) → Inv P s w'
 mono : ∀ {P P' : Nat → Prop} {s : σ} {w : World}, Inv P s w → (∀ k, k < w.heap.size → P' k → P k) → Inv P' s w
 call : ∀ {P : Nat → Prop} {s s' : σ} {w : World} {g : List Int} {A : Option Addr} {c : Nat} {b : Bool}, Below w0.heap.size w0 w → Inv P s w → Kd.C (Kd.int .i64) w A g.length g → g.length ≤ c → (∀ k, P k → k < w.heap.size) → T s g = some (b, s') →
  Calls Try.prog tf #[.slice A g.length c, .pointer (some ⟨p1, 0, none⟩), .pointer (some ⟨p2, 0, none⟩)] w fun e w' => e = .returned (.bool b) ∧ Inv P s' w' ∧ Agr P w w' ∧ Below w0.heap.size w0 w'
/-- The values v, v + 1, .. (n of them) tried for a cell: go on, the grid, the state. -/
def impl_solutions.tryV {σ : Type} (cf : List Int → Option Bool) (f : List Int → σ → Option (Bool × List Int × σ)) (i : Nat) : Nat → Int → List Int → σ → Option (Bool × List Int × σ)
 | 0, _, g, s => some (true, g.set i 0, s)
 | n + 1, v, g, s => (cf (g.set i v)).bind fun b => if b = true then (f (g.set i v) s).bind fun t => (if t.1 = true then impl_solutions.tryV cf f i n (v + 1) t.2.1 t.2.2 else some (false, t.2.1, t.2.2)) else impl_solutions.tryV cf f i n (v + 1) (g.set i v) s
def impl_solutions.try_ {σ : Type} (T : σ → List Int → Option (Bool × σ)) (k : Nat) (s : Int) (l1 : List Int) (l2 : List S73) (N : Nat) : Nat → List Int → σ → Option (Bool × List Int × σ)
 | 0, g, st => (T st g).bind fun t => some (t.1, g, t.2)
 | d + 1, g, st => if 0 < rd g ((N : Int) - (d + 1 : Nat)) then impl_solutions.try_ T k s l1 l2 N d g st else impl_solutions.tryV (fun g' => impl_cellFits.f k s l1 l2 g' ((N : Int) - (d + 1 : Nat))) (impl_solutions.try_ T k s l1 l2 N d) ((N : Int) - (d + 1 : Nat)).toNat s.toNat 1 g st
theorem impl_solutions.tryV_len {σ : Type} {cf : List Int → Option Bool} {f : List Int → σ → Option (Bool × List Int × σ)} {i N : Nat} (hf : ∀ g s b g' s', g.length = N → f g s = some (b, g', s') → g'.length = N) : ∀ (n : Nat) (v : Int) (g : List Int) (s : σ) (b : Bool) (g' : List Int) (s' : σ), g.length = N → impl_solutions.tryV cf f i n v g s = some (b, g', s') → g'.length = N
 | 0, v, g, s, b, g', s', hg, h => by
  unfold impl_solutions.tryV at h
  simp only [Option.some.injEq, Prod.mk.injEq] at h
  obtain ⟨_, rfl, _⟩ := h
  rw [List.length_set]; exact hg
 | n + 1, v, g, s, b, g', s', hg, h => by
  unfold impl_solutions.tryV at h
  obtain ⟨c, _, h⟩ := Option.bind_eq_some_iff.1 h
  have hgs : (g.set i v).length = N := by rw [List.length_set]; exact hg
  cases c with
  | false => exact impl_solutions.tryV_len hf n _ _ _ _ _ _ hgs (by simpa using h)
  | true =>
   simp only [if_true] at h
   obtain ⟨⟨t1, t2, t3⟩, ht, h⟩ := Option.bind_eq_some_iff.1 h
   have ht2 := hf _ _ _ _ _ hgs ht
   cases t1 with
   | true => exact impl_solutions.tryV_len hf n _ _ _ _ _ _ ht2 (by simpa using h)
   | false =>
    simp only [Bool.false_eq_true, if_false, Option.some.injEq, Prod.mk.injEq] at h
    obtain ⟨_, rfl, _⟩ := h
    exact ht2
/-- The boxes of the variables that the literal shares. -/
def impl_solutions.Boxes (tf p1 p2 : Nat) (W : World) (gg cg N gG gT gY gS gP : Nat) (s : Int) (A1 : Option Addr) (c1 n1 : Nat) (A2 : Option Addr) (c2 n2 : Nat) : Prop :=
 W.heap[gG]? = some (.cells #[.slice (some ⟨gg, 0, none⟩) N cg] 22 (0, 0)) ∧ W.heap[gT]? = some (.cells #[.func (.func tf) #[] #[.pointer (some ⟨p1, 0, none⟩), .pointer (some ⟨p2, 0, none⟩)]] 63 (0, 0)) ∧ W.heap[gY]? = some (.cells #[.func (.func 73) #[] #[.pointer (some ⟨gG, 0, none⟩), .pointer (some ⟨gT, 0, none⟩), .pointer (some ⟨gY, 0, none⟩), .pointer (some ⟨gS, 0, none⟩), .pointer (some ⟨gP, 0, none⟩)]] 61 (0, 0)) ∧ W.heap[gS]? = some (.cells #[.int .i64 s] 3 (0, 0)) ∧ W.heap[gP]? = some (.cells #[.int .i64 s, .slice A1 n1 c1, .slice A2 n2 c2] 37 (0, 0))
theorem impl_solutions.Boxes.agr {tf p1 p2 : Nat} {W W' : World} {gg cg N gG gT gY gS gP : Nat} {s : Int} {A1 : Option Addr} {c1 n1 : Nat} {A2 : Option Addr} {c2 n2 : Nat} {P : Nat → Prop} (h : impl_solutions.Boxes tf p1 p2 W gg cg N gG gT gY gS gP s A1 c1 n1 A2 c2 n2) (ha : Agr P W W') (hP : P gG ∧ P gT ∧ P gY ∧ P gS ∧ P gP) : impl_solutions.Boxes tf p1 p2 W' gg cg N gG gT gY gS gP s A1 c1 n1 A2 c2 n2 :=
 ⟨Agr.blk h.1 ha hP.1, Agr.blk h.2.1 ha hP.2.1, Agr.blk h.2.2.1 ha hP.2.2.1, Agr.blk h.2.2.2.1 ha hP.2.2.2.1, Agr.blk h.2.2.2.2 ha hP.2.2.2.2⟩
theorem impl_solutions.Boxes.set {tf p1 p2 : Nat} {W : World} {gg cg N gG gT gY gS gP : Nat} {s : Int} {A1 : Option Addr} {c1 n1 : Nat} {A2 : Option Addr} {c2 n2 : Nat} (h : impl_solutions.Boxes tf p1 p2 W gg cg N gG gT gY gS gP s A1 c1 n1 A2 c2 n2) (hne : gg ≠ gG ∧ gg ≠ gT ∧ gg ≠ gY ∧ gg ≠ gS ∧ gg ≠ gP) (j : Nat) (u : Value) : impl_solutions.Boxes tf p1 p2 (W.setCell ⟨gg, j, none⟩ u) gg cg N gG gT gY gS gP s A1 c1 n1 A2 c2 n2 :=
 impl_solutions.Boxes.agr (P := fun k => k ≠ gg) h ⟨by simp [World.setCell], fun k _ hk => Below.heap_setCell W ⟨gg, j, none⟩ u k hk⟩ ⟨hne.1.symm, hne.2.1.symm, hne.2.2.1.symm, hne.2.2.2.1.symm, hne.2.2.2.2.symm⟩
/-- A call of a value that holds a literal, as an arm of go_wp2_with. -/
theorem goesV_ {P : Program} {ops : Array Oper} {Q : Exit → Act → World → Prop} {rest : List Oper} {oi : Oper} {a : Act} {w : World} (N : Option Tmp) (hd : oi.dst = N) (hg : oi.guard = none) {f : FuncId} {fn : Func} {x : Operand} {ag : Array Operand} {ts : Array TypeId} {caps : Array Value} (hf : P.funcs[f]? = some fn) (hname : (fn.name == "runtime.NumGoroutine") = false) (hb : fn.body.isSome = true) (args : Array Value)
  (hop : oi.op = .call { callee := .value x, args := ag, argTypes := ts }) (hx : a.eval x = .func (.func f) #[] caps) (hargs : ag.map a.eval ++ caps = args)
  (h : Calls P f args w fun e w' => ∃ v, e = .returned v ∧ wpList P ops Q rest (a.put N v) w') : wpList P ops Q (oi :: rest) a w := by
 refine wpList_plain hg fun K hK => ?_
 have he := enters_ hf hname hb args w
 have hrun : (execOp a.eval oi).run P w = .ok (.enter f args) w := by
  unfold execOp
  simp only [hop, resolve, hx, Deferred.ofValue]
  subst hargs
  simpa [invoke] using he
 unfold Oper.wp
 rw [hrun, Oper.upon_enter]
 refine h.mono fun e w'' hh => ?_
 obtain ⟨v, rfl, hk⟩ := hh
 subst hd
 exact hK _ _ hk
set_option maxHeartbeats 8000000 in
set_option maxRecDepth 100000 in
theorem impl_solutions.clo {w0 : World} {σ : Type} {tf p1 p2 : Nat} {T : σ → List Int → Option (Bool × σ)} {Inv : (Nat → Prop) → σ → World → Prop} (Te : Teller w0 tf p1 p2 T Inv) (k : Nat) (s : Int) (A1 : Option Addr) (c1 : Nat) (l1 : List Int) (A2 : Option Addr) (c2 : Nat) (l2 : List S73) (gg cg N gG gT gY gS gP : Nat) (P : Nat → Prop) (wE : World) (hP : P gG ∧ P gT ∧ P gY ∧ P gS ∧ P gP) (hPg : P gg) (hne : gg ≠ gG ∧ gg ≠ gT ∧ gg ≠ gY ∧ gg ≠ gS ∧ gg ≠ gP) (hgE : wE.heap.size ≤ gg) (hg0 : w0.heap.size ≤ gg) (hs4 : s ≤ 1000) (hr1 : ∀ W, Agr P wE W → Kd.C (Kd.int .i64) W A1 l1.length l1) (hc1 : l1.length ≤ c1) (hr2 : ∀ W, Agr P wE W → Kd.C k73 W A2 l2.length l2) (hc2 : l2.length ≤ c2) :
  ∀ (d : Nat) (a : Int) (g : List Int) (st : σ) (b : Bool) (g' : List Int) (st' : σ) (w : World) (_ : (N : Int) - d = a) (_ : d ≤ N) (_ : N ≤ 100000) (_ : g.length = N) (_ : Kd.R (Kd.int .i64) 3 w w0.heap.size (fun k => k = gg) (.slice (some ⟨gg, 0, none⟩) N cg) g) (_ : Inv P st w) (_ : impl_solutions.Boxes tf p1 p2 w gg cg N gG gT gY gS gP s A1 c1 l1.length A2 c2 l2.length) (_ : Agr P wE w) (_ : Below w0.heap.size w0 w) (_ : ∀ k, P k → k < w.heap.size) (_ : impl_solutions.try_ T k s l1 l2 N d g st = some (b, g', st')),
  Calls Try.prog 73 #[.int .i64 a, .pointer (some ⟨gG, 0, none⟩), .pointer (some ⟨gT, 0, none⟩), .pointer (some ⟨gY, 0, none⟩), .pointer (some ⟨gS, 0, none⟩), .pointer (some ⟨gP, 0, none⟩)] w fun e w' => e = .returned (.bool b) ∧ g'.length = N ∧ Kd.R (Kd.int .i64) 3 w' w0.heap.size (fun k => k = gg) (.slice (some ⟨gg, 0, none⟩) N cg) g' ∧ Inv P st' w' ∧ impl_solutions.Boxes tf p1 p2 w' gg cg N gG gT gY gS gP s A1 c1 l1.length A2 c2 l2.length ∧ Agr P wE w' ∧ Below w0.heap.size w0 w' ∧ (∀ k, P k → k < w'.heap.size) := by
 intro d
 obtain ⟨fn, hfn⟩ := Te.hf
 have HFN := Aside0.mk hfn
 clear hfn
 have HP := Aside0.mk hP
 have HPG := Aside0.mk hPg
 have HNE := Aside0.mk hne
 have HGE := Aside0.mk hgE
 have HG0 := Aside0.mk hg0
 have HR1 := Aside0.mk hr1
 have HC1 := Aside0.mk hc1
 have HR2 := Aside0.mk hr2
 have HC2 := Aside0.mk hc2
 have HS4 := Aside0.mk hs4
 clear hP hPg hne hgE hg0 hr1 hc1 hr2 hc2 hs4
 induction d with
 | zero =>
  intro a g st b g' st' w ha hd hn hl hV hI hX hA hB hL h
  have hae : (a == (N : Int)) = true := beq_iff_eq.mpr (by omega)
  clear ha hd
  have HN := Aside0.mk hn
  have HLV := Aside0.mk hl
  have HV := Aside0.mk hV
  have HI := Aside0.mk hI
  have HX := Aside0.mk hX
  have HA := Aside0.mk hA
  have HB := Aside0.mk hB
  have HL := Aside0.mk hL
  unfold impl_solutions.try_ at h
  obtain ⟨⟨t1, t2⟩, hT, h2⟩ := Option.bind_eq_some_iff.1 h
  simp only [Option.some.injEq, Prod.mk.injEq] at h2
  obtain ⟨rfl, rfl, rfl⟩ := h2
  have HT := Aside0.mk hT
  have hcG : w.cell? ⟨gG, 0, none⟩ = some (.slice (some ⟨gg, 0, none⟩) N cg) := (blk_cell hX.1 0).trans rfl
  have hcT : w.cell? ⟨gT, 0, none⟩ = some (.func (.func tf) #[] #[.pointer (some ⟨p1, 0, none⟩), .pointer (some ⟨p2, 0, none⟩)]) := (blk_cell hX.2.1 0).trans rfl
  clear hn hl hV hI hX hA hB hL h hT
  go_enter Try.func73, Try.ntmps73
  go_wp2_with (first
   | ((with_reducible refine gate_dst (N := 15) rfl ?_); refine goesV_ (some 15) rfl rfl HFN.out.1 HFN.out.2.1 HFN.out.2.2 #[.slice (some ⟨gg, 0, none⟩) g.length cg, .pointer (some ⟨p1, 0, none⟩), .pointer (some ⟨p2, 0, none⟩)] rfl rfl (by simp only [List.map_toArray, List.map_cons, List.map_nil, List.append_toArray, List.cons_append, List.nil_append, HLV.out]; rfl) ?_; refine (Te.call HB.out HI.out (Kd.R_reads' HV.out).2.2 (by rw [HLV.out]; exact (Kd.R_reads' HV.out).2.1) HL.out HT.out).mono ?_; rintro e w' ⟨rfl, hI, hA, hB⟩; refine ⟨_, rfl, ?_⟩; have n0_ := Aside0.mk (Agr.R HV.out hA (fun k_ h_ => by rw [h_]; exact HPG.out)); have n1_ := Aside0.mk hI; have n2_ := Aside0.mk (impl_solutions.Boxes.agr HX.out hA HP.out); have n3_ := Aside0.mk (HA.out.trans hA); have n4_ := Aside0.mk hB; have n5_ := Aside0.mk (fun k_ h_ => Nat.lt_of_lt_of_le (HL.out k_ h_) hA.1 : ∀ k, P k → k < w'.heap.size); clear HV HI HX HA HB HL hI hA hB hcG hcT))
  go_ret
  exact ⟨rfl, HLV.out, n0_.out, n1_.out, n2_.out, n3_.out, n4_.out, n5_.out⟩
 | succ d ih =>
  have IH := Aside0.mk ih
  clear ih
  intro a g st b g' st' w ha hd hn hl hV hI hX hA hB hL h
  unfold impl_solutions.try_ at h
  rw [ha] at h
  have h0 : 0 ≤ a := by omega
  have h1 : a < (N : Int) := by omega
  have hae : (a == (N : Int)) = false := beq_eq_false_iff_ne.mpr (by omega)
  have HAA := Aside0.mk (show 0 ≤ a ∧ a < (N : Int) ∧ (N : Int) - d = a + 1 from ⟨h0, h1, by omega⟩)
  have HD := Aside0.mk (show d ≤ N by omega)
  clear ha hd
  have HN := Aside0.mk hn
  have HLV := Aside0.mk hl
  have HV := Aside0.mk hV
  have HI := Aside0.mk hI
  have HX := Aside0.mk hX
  have HA := Aside0.mk hA
  have HB := Aside0.mk hB
  have HL := Aside0.mk hL
  have hcG : w.cell? ⟨gG, 0, none⟩ = some (.slice (some ⟨gg, 0, none⟩) N cg) := (blk_cell hX.1 0).trans rfl
  have hcY : w.cell? ⟨gY, 0, none⟩ = some (.func (.func 73) #[] #[.pointer (some ⟨gG, 0, none⟩), .pointer (some ⟨gT, 0, none⟩), .pointer (some ⟨gY, 0, none⟩), .pointer (some ⟨gS, 0, none⟩), .pointer (some ⟨gP, 0, none⟩)]) := (blk_cell hX.2.2.1 0).trans rfl
  obtain ⟨hxv0, hfv⟩ := Kd.R_celln 0 hV a h0 h1
  have hxv := hxv0.trans (rfl : _ = some (Value.int .i64 (rd g a)))
  have haw : wrap64 (a + 1) = a + 1 := by unfold wrap64; omega
  have haw2 : IntKind.i64.wrap (a + 1) = a + 1 := by rw [i64_w]; exact haw
  have q0 := eq_true h0
  have q1 := eq_true h1
  clear hn hl hV hI hX hA hB hL hxv0 hfv h0 h1
  by_cases hpos : 0 < rd g a
  ·rw [if_pos hpos] at h
   have hpb : decide (0 < rd g a) = true := decide_eq_true hpos
   have HT := Aside0.mk h
   clear h hpos
   go_enter Try.func73, Try.ntmps73
   go_wp2_with (first
    | (go_at_call 73; (refine (IH.out (a + 1) g st b g' st' _ HAA.out.2.2 HD.out HN.out HLV.out HV.out HI.out HX.out HA.out HB.out HL.out HT.out).mono ?_); rintro e w' ⟨rfl, HL1, hV, hI, hX, hA, hB, hL⟩; have n0_ := Aside0.mk hV; have n1_ := Aside0.mk hI; have n2_ := Aside0.mk hX; have n3_ := Aside0.mk hA; have n4_ := Aside0.mk hB; have n5_ := Aside0.mk hL; have n6_ := Aside0.mk HL1; clear hV hI hX hA hB hL HL1))
   go_ret
   exact ⟨rfl, n6_.out, n0_.out, n1_.out, n2_.out, n3_.out, n4_.out, n5_.out⟩
  ·rw [if_neg hpos] at h
   have hpb : decide (0 < rd g a) = false := decide_eq_false hpos
   have HT := Aside0.mk h
   clear h hpos
   go_enter Try.func73, Try.ntmps73
   go_wp2
   go_loopg [8] s.toNat (fun kq v8 w' => ∃ (v : Int) (gr : List Int) (s1 : σ), v8 = .int .i64 v ∧ Aside0 (1 ≤ v ∧ v + (kq : Int) = (s.toNat : Int) + 1) ∧ Aside0 (impl_solutions.tryV (fun g' => impl_cellFits.f k s l1 l2 g' a) (impl_solutions.try_ T k s l1 l2 N d) a.toNat kq v gr s1 = some (b, g', st')) ∧ Aside0 (gr.length = N) ∧ Aside0 (Kd.R (Kd.int .i64) 3 w' w0.heap.size (fun k => k = gg) (.slice (some ⟨gg, 0, none⟩) N cg) gr) ∧ Aside0 (Inv P s1 w') ∧ Aside0 (impl_solutions.Boxes tf p1 p2 w' gg cg N gG gT gY gS gP s A1 c1 l1.length A2 c2 l2.length) ∧ Aside0 (Agr P wE w') ∧ Aside0 (Below w0.heap.size w0 w') ∧ Aside0 (∀ k, P k → k < w'.heap.size))
   case atStart => exact ⟨1, g, st, rfl, ⟨by omega⟩, HT, HLV, HV, HI, HX, HA, HB, HL⟩
   case round =>
    clear HT HLV HV HI HX HA HB HL hcG hcY hxv hpb
    obtain ⟨v, gr, s1, rfl, HK, HT, HLV, HV, HI, HX, HA, HB, HL⟩ := hrel
    have hcG : wr.cell? ⟨gG, 0, none⟩ = some (.slice (some ⟨gg, 0, none⟩) N cg) := (blk_cell HX.out.1 0).trans rfl
    have hcS : wr.cell? ⟨gS, 0, none⟩ = some (.int .i64 s) := (blk_cell HX.out.2.2.2.1 0).trans rfl
    obtain ⟨hxv0, hfv⟩ := Kd.R_celln 0 HV.out a HAA.out.1 HAA.out.2.1
    have hxv := hxv0.trans (rfl : _ = some (Value.int .i64 (rd gr a)))
    clear hxv0
    cases gk with
    | zero =>
     have h := HT.out
     unfold impl_solutions.tryV at h
     simp only [Option.some.injEq, Prod.mk.injEq] at h
     obtain ⟨rfl, rfl, rfl⟩ := h
     clear HT
     have hvb : decide (v ≤ s) = false := decide_eq_false (by have := HK.out; omega)
     have HPO := Aside0.mk (Kd.R_putg HV.out a 0)
     go_wp2
     go_ret
     exact ⟨rfl, by rw [List.length_set]; exact HLV.out, HPO.out.1, Te.keep HI.out (by simp [World.setCell]) (fun k_ _ hn_ => Below.heap_setCell wr ⟨gg, a.toNat, none⟩ _ k_ (fun e_ => hn_ (by rw [e_]; exact HPG.out))), impl_solutions.Boxes.set HX.out HNE.out _ _, Agr.set HA.out HGE.out _ _, below_set HB.out HG0.out, fun k_ hk_ => by have := HL.out k_ hk_; simpa [World.setCell] using this⟩
    | succ q =>
     have h := HT.out
     clear HT
     unfold impl_solutions.tryV at h
     obtain ⟨c, hc, h⟩ := Option.bind_eq_some_iff.1 h
     have HC := Aside0.mk hc
     clear hc
     have hvb : decide (v ≤ s) = true := decide_eq_true (by have := HK.out; omega)
     have hvw : wrap64 (v + 1) = v + 1 := by have := HK.out; have := HS4.out; unfold wrap64; omega
     have hvw2 : IntKind.i64.wrap (v + 1) = v + 1 := by rw [i64_w]; exact hvw
     have HPO := Aside0.mk (Kd.R_putg HV.out a v)
     cases c with
     | false =>
      simp only [Bool.false_eq_true, if_false] at h
      have HT := Aside0.mk h
      clear h
      go_wp2_with (first
       | ((with_reducible refine gate_store (t := 3) (p := 33) rfl ?_); refine store_event (t := 3) (p := 33) (v := ?vo1) (w1 := wr.setCell ⟨gg, a.toNat, none⟩ (.int .i64 v)) ?hg ?ho ?hn ?hr ?_; (case ho => rfl); (case hg => rfl); (case hn => rfl); (case hr => first | (go_simp; done) | (go_simp; rfl)); intro w8 hw; have HV8 : Aside0 (Kd.R (Kd.int .i64) 3 w8 w0.heap.size (fun k => k = gg) (.slice (some ⟨gg, 0, none⟩) N cg) (gr.set a.toNat v)) := ⟨by rw [hw]; exact HPO.out.1⟩; have HI8 : Aside0 (Inv P s1 w8) := ⟨by rw [hw]; exact Te.keep HI.out (by simp [World.setCell]) (fun k_ _ hn_ => Below.heap_setCell wr ⟨gg, a.toNat, none⟩ _ k_ (fun e_ => hn_ (by rw [e_]; exact HPG.out)))⟩; have HX8 : Aside0 (impl_solutions.Boxes tf p1 p2 w8 gg cg N gG gT gY gS gP s A1 c1 l1.length A2 c2 l2.length) := ⟨by rw [hw]; exact impl_solutions.Boxes.set HX.out HNE.out _ _⟩; have HA8 : Aside0 (Agr P wE w8) := ⟨by rw [hw]; exact Agr.set HA.out HGE.out _ _⟩; have HB8 : Aside0 (Below w0.heap.size w0 w8) := ⟨by rw [hw]; exact below_set HB.out HG0.out⟩; have HL8 : Aside0 (∀ k, P k → k < w8.heap.size) := ⟨fun k_ hk_ => by have := HL.out k_ hk_; rw [hw]; simpa [World.setCell] using this⟩; clear hw hxv hfv hcG hcS HPO HV HI HX HA HB HL; have hcG : w8.cell? ⟨gG, 0, none⟩ = some (.slice (some ⟨gg, 0, none⟩) N cg) := (blk_cell HX8.out.1 0).trans rfl; have hcP0 : w8.cell? ⟨gP, 0, none⟩ = some (.int .i64 s) := (blk_cell HX8.out.2.2.2.2 0).trans rfl; have hcP1 : w8.cell? ⟨gP, 1, none⟩ = some (.slice A1 l1.length c1) := (blk_cell HX8.out.2.2.2.2 1).trans rfl; have hcP2 : w8.cell? ⟨gP, 2, none⟩ = some (.slice A2 l2.length c2) := (blk_cell HX8.out.2.2.2.2 2).trans rfl)
       | ((with_reducible refine gate_callee (f := 74) rfl ?_); refine goesL_ (some 37) rfl rfl Try.func74 (by kernel_rfl) rfl #[.agg #[.int .i64 s, .slice A1 l1.length c1, .slice A2 l2.length c2], .slice (some ⟨gg, 0, none⟩) (gr.set a.toNat v).length cg, .int .i64 a] rfl (by (try simp only [List.map_toArray, List.map_cons, List.map_nil]); rw [List.length_set, HLV.out]; rfl) ?_; (with_reducible refine (impl_cellFits.calls k s _ _ l1 _ _ l2 _ _ (gr.set a.toNat v) a false w8 (HR1.out _ HA8.out) HC1.out (HR2.out _ HA8.out) HC2.out (Kd.R_reads' HV8.out).2.2 (by rw [List.length_set, HLV.out]; exact (Kd.R_reads' HV8.out).2.1) HC.out).mono ?_); rintro e w9 ⟨rfl, hb⟩; refine ⟨_, rfl, ?_⟩; have HV9 := Aside0.mk (Kd.R_below HV8.out hb); have HI9 := Aside0.mk (Te.keep HI8.out hb.size (fun k_ hk_ _ => hb.block k_ hk_)); have HX9 := Aside0.mk (impl_solutions.Boxes.agr HX8.out (Agr.of_below (P := P) hb) HP.out); have HA9 := Aside0.mk (HA8.out.trans (Agr.of_below hb)); have HB9 := Aside0.mk (below_step HB8.out hb); have HL9 : Aside0 (∀ k, P k → k < w9.heap.size) := ⟨fun k_ hk_ => Nat.lt_of_lt_of_le (HL8.out k_ hk_) hb.size⟩; clear hb hcG hcP0 hcP1 hcP2 HV8 HI8 HX8 HA8 HB8 HL8; have hcY : w9.cell? ⟨gY, 0, none⟩ = some (.func (.func 73) #[] #[.pointer (some ⟨gG, 0, none⟩), .pointer (some ⟨gT, 0, none⟩), .pointer (some ⟨gY, 0, none⟩), .pointer (some ⟨gS, 0, none⟩), .pointer (some ⟨gP, 0, none⟩)]) := (blk_cell HX9.out.2.2.1 0).trans rfl))
      clear hcY
      go_roundg q
      case measure => omega
      case rel => exact ⟨v + 1, gr.set a.toNat v, s1, rfl, ⟨by have := HK.out; omega⟩, HT, ⟨by rw [List.length_set]; exact HLV.out⟩, HV9, HI9, HX9, HA9, HB9, HL9⟩
     | true =>
      simp only [if_true] at h
      obtain ⟨⟨t1, t2, t3⟩, hr, h⟩ := Option.bind_eq_some_iff.1 h
      have HR := Aside0.mk hr
      clear hr
      cases t1 with
      | false =>
       simp only [Bool.false_eq_true, if_false, Option.some.injEq, Prod.mk.injEq] at h
       obtain ⟨rfl, rfl, rfl⟩ := h
       go_wp2_with (first
        | ((with_reducible refine gate_store (t := 3) (p := 33) rfl ?_); refine store_event (t := 3) (p := 33) (v := ?vo1) (w1 := wr.setCell ⟨gg, a.toNat, none⟩ (.int .i64 v)) ?hg ?ho ?hn ?hr ?_; (case ho => rfl); (case hg => rfl); (case hn => rfl); (case hr => first | (go_simp; done) | (go_simp; rfl)); intro w8 hw; have HV8 : Aside0 (Kd.R (Kd.int .i64) 3 w8 w0.heap.size (fun k => k = gg) (.slice (some ⟨gg, 0, none⟩) N cg) (gr.set a.toNat v)) := ⟨by rw [hw]; exact HPO.out.1⟩; have HI8 : Aside0 (Inv P s1 w8) := ⟨by rw [hw]; exact Te.keep HI.out (by simp [World.setCell]) (fun k_ _ hn_ => Below.heap_setCell wr ⟨gg, a.toNat, none⟩ _ k_ (fun e_ => hn_ (by rw [e_]; exact HPG.out)))⟩; have HX8 : Aside0 (impl_solutions.Boxes tf p1 p2 w8 gg cg N gG gT gY gS gP s A1 c1 l1.length A2 c2 l2.length) := ⟨by rw [hw]; exact impl_solutions.Boxes.set HX.out HNE.out _ _⟩; have HA8 : Aside0 (Agr P wE w8) := ⟨by rw [hw]; exact Agr.set HA.out HGE.out _ _⟩; have HB8 : Aside0 (Below w0.heap.size w0 w8) := ⟨by rw [hw]; exact below_set HB.out HG0.out⟩; have HL8 : Aside0 (∀ k, P k → k < w8.heap.size) := ⟨fun k_ hk_ => by have := HL.out k_ hk_; rw [hw]; simpa [World.setCell] using this⟩; clear hw hxv hfv hcG hcS HPO HV HI HX HA HB HL; have hcG : w8.cell? ⟨gG, 0, none⟩ = some (.slice (some ⟨gg, 0, none⟩) N cg) := (blk_cell HX8.out.1 0).trans rfl; have hcP0 : w8.cell? ⟨gP, 0, none⟩ = some (.int .i64 s) := (blk_cell HX8.out.2.2.2.2 0).trans rfl; have hcP1 : w8.cell? ⟨gP, 1, none⟩ = some (.slice A1 l1.length c1) := (blk_cell HX8.out.2.2.2.2 1).trans rfl; have hcP2 : w8.cell? ⟨gP, 2, none⟩ = some (.slice A2 l2.length c2) := (blk_cell HX8.out.2.2.2.2 2).trans rfl)
        | ((with_reducible refine gate_callee (f := 74) rfl ?_); refine goesL_ (some 37) rfl rfl Try.func74 (by kernel_rfl) rfl #[.agg #[.int .i64 s, .slice A1 l1.length c1, .slice A2 l2.length c2], .slice (some ⟨gg, 0, none⟩) (gr.set a.toNat v).length cg, .int .i64 a] rfl (by (try simp only [List.map_toArray, List.map_cons, List.map_nil]); rw [List.length_set, HLV.out]; rfl) ?_; (with_reducible refine (impl_cellFits.calls k s _ _ l1 _ _ l2 _ _ (gr.set a.toNat v) a true w8 (HR1.out _ HA8.out) HC1.out (HR2.out _ HA8.out) HC2.out (Kd.R_reads' HV8.out).2.2 (by rw [List.length_set, HLV.out]; exact (Kd.R_reads' HV8.out).2.1) HC.out).mono ?_); rintro e w9 ⟨rfl, hb⟩; refine ⟨_, rfl, ?_⟩; have HV9 := Aside0.mk (Kd.R_below HV8.out hb); have HI9 := Aside0.mk (Te.keep HI8.out hb.size (fun k_ hk_ _ => hb.block k_ hk_)); have HX9 := Aside0.mk (impl_solutions.Boxes.agr HX8.out (Agr.of_below (P := P) hb) HP.out); have HA9 := Aside0.mk (HA8.out.trans (Agr.of_below hb)); have HB9 := Aside0.mk (below_step HB8.out hb); have HL9 : Aside0 (∀ k, P k → k < w9.heap.size) := ⟨fun k_ hk_ => Nat.lt_of_lt_of_le (HL8.out k_ hk_) hb.size⟩; clear hb hcG hcP0 hcP1 hcP2 HV8 HI8 HX8 HA8 HB8 HL8; have hcY : w9.cell? ⟨gY, 0, none⟩ = some (.func (.func 73) #[] #[.pointer (some ⟨gG, 0, none⟩), .pointer (some ⟨gT, 0, none⟩), .pointer (some ⟨gY, 0, none⟩), .pointer (some ⟨gS, 0, none⟩), .pointer (some ⟨gP, 0, none⟩)]) := (blk_cell HX9.out.2.2.1 0).trans rfl)
        | (go_at_call 73; (refine (IH.out (a + 1) (gr.set a.toNat v) s1 false t2 t3 _ HAA.out.2.2 HD.out HN.out (by rw [List.length_set]; exact HLV.out) HV9.out HI9.out HX9.out HA9.out HB9.out HL9.out HR.out).mono ?_); rintro e w10 ⟨rfl, HL1, hV, hI, hX, hA, hB, hL⟩; have HV10 := Aside0.mk hV; have HI10 := Aside0.mk hI; have HX10 := Aside0.mk hX; have HA10 := Aside0.mk hA; have HB10 := Aside0.mk hB; have HL10 := Aside0.mk hL; have HLV10 := Aside0.mk HL1; clear hV hI hX hA hB hL HL1 HV9 HI9 HX9 HA9 HB9 HL9 hcY))
       go_ret
       exact ⟨rfl, HLV10.out, HV10.out, HI10.out, HX10.out, HA10.out, HB10.out, HL10.out⟩
      | true =>
       simp only [if_true] at h
       have HT := Aside0.mk h
       clear h
       go_wp2_with (first
        | ((with_reducible refine gate_store (t := 3) (p := 33) rfl ?_); refine store_event (t := 3) (p := 33) (v := ?vo1) (w1 := wr.setCell ⟨gg, a.toNat, none⟩ (.int .i64 v)) ?hg ?ho ?hn ?hr ?_; (case ho => rfl); (case hg => rfl); (case hn => rfl); (case hr => first | (go_simp; done) | (go_simp; rfl)); intro w8 hw; have HV8 : Aside0 (Kd.R (Kd.int .i64) 3 w8 w0.heap.size (fun k => k = gg) (.slice (some ⟨gg, 0, none⟩) N cg) (gr.set a.toNat v)) := ⟨by rw [hw]; exact HPO.out.1⟩; have HI8 : Aside0 (Inv P s1 w8) := ⟨by rw [hw]; exact Te.keep HI.out (by simp [World.setCell]) (fun k_ _ hn_ => Below.heap_setCell wr ⟨gg, a.toNat, none⟩ _ k_ (fun e_ => hn_ (by rw [e_]; exact HPG.out)))⟩; have HX8 : Aside0 (impl_solutions.Boxes tf p1 p2 w8 gg cg N gG gT gY gS gP s A1 c1 l1.length A2 c2 l2.length) := ⟨by rw [hw]; exact impl_solutions.Boxes.set HX.out HNE.out _ _⟩; have HA8 : Aside0 (Agr P wE w8) := ⟨by rw [hw]; exact Agr.set HA.out HGE.out _ _⟩; have HB8 : Aside0 (Below w0.heap.size w0 w8) := ⟨by rw [hw]; exact below_set HB.out HG0.out⟩; have HL8 : Aside0 (∀ k, P k → k < w8.heap.size) := ⟨fun k_ hk_ => by have := HL.out k_ hk_; rw [hw]; simpa [World.setCell] using this⟩; clear hw hxv hfv hcG hcS HPO HV HI HX HA HB HL; have hcG : w8.cell? ⟨gG, 0, none⟩ = some (.slice (some ⟨gg, 0, none⟩) N cg) := (blk_cell HX8.out.1 0).trans rfl; have hcP0 : w8.cell? ⟨gP, 0, none⟩ = some (.int .i64 s) := (blk_cell HX8.out.2.2.2.2 0).trans rfl; have hcP1 : w8.cell? ⟨gP, 1, none⟩ = some (.slice A1 l1.length c1) := (blk_cell HX8.out.2.2.2.2 1).trans rfl; have hcP2 : w8.cell? ⟨gP, 2, none⟩ = some (.slice A2 l2.length c2) := (blk_cell HX8.out.2.2.2.2 2).trans rfl)
        | ((with_reducible refine gate_callee (f := 74) rfl ?_); refine goesL_ (some 37) rfl rfl Try.func74 (by kernel_rfl) rfl #[.agg #[.int .i64 s, .slice A1 l1.length c1, .slice A2 l2.length c2], .slice (some ⟨gg, 0, none⟩) (gr.set a.toNat v).length cg, .int .i64 a] rfl (by (try simp only [List.map_toArray, List.map_cons, List.map_nil]); rw [List.length_set, HLV.out]; rfl) ?_; (with_reducible refine (impl_cellFits.calls k s _ _ l1 _ _ l2 _ _ (gr.set a.toNat v) a true w8 (HR1.out _ HA8.out) HC1.out (HR2.out _ HA8.out) HC2.out (Kd.R_reads' HV8.out).2.2 (by rw [List.length_set, HLV.out]; exact (Kd.R_reads' HV8.out).2.1) HC.out).mono ?_); rintro e w9 ⟨rfl, hb⟩; refine ⟨_, rfl, ?_⟩; have HV9 := Aside0.mk (Kd.R_below HV8.out hb); have HI9 := Aside0.mk (Te.keep HI8.out hb.size (fun k_ hk_ _ => hb.block k_ hk_)); have HX9 := Aside0.mk (impl_solutions.Boxes.agr HX8.out (Agr.of_below (P := P) hb) HP.out); have HA9 := Aside0.mk (HA8.out.trans (Agr.of_below hb)); have HB9 := Aside0.mk (below_step HB8.out hb); have HL9 : Aside0 (∀ k, P k → k < w9.heap.size) := ⟨fun k_ hk_ => Nat.lt_of_lt_of_le (HL8.out k_ hk_) hb.size⟩; clear hb hcG hcP0 hcP1 hcP2 HV8 HI8 HX8 HA8 HB8 HL8; have hcY : w9.cell? ⟨gY, 0, none⟩ = some (.func (.func 73) #[] #[.pointer (some ⟨gG, 0, none⟩), .pointer (some ⟨gT, 0, none⟩), .pointer (some ⟨gY, 0, none⟩), .pointer (some ⟨gS, 0, none⟩), .pointer (some ⟨gP, 0, none⟩)]) := (blk_cell HX9.out.2.2.1 0).trans rfl)
        | (go_at_call 73; (refine (IH.out (a + 1) (gr.set a.toNat v) s1 true t2 t3 _ HAA.out.2.2 HD.out HN.out (by rw [List.length_set]; exact HLV.out) HV9.out HI9.out HX9.out HA9.out HB9.out HL9.out HR.out).mono ?_); rintro e w10 ⟨rfl, HL1, hV, hI, hX, hA, hB, hL⟩; have HV10 := Aside0.mk hV; have HI10 := Aside0.mk hI; have HX10 := Aside0.mk hX; have HA10 := Aside0.mk hA; have HB10 := Aside0.mk hB; have HL10 := Aside0.mk hL; have HLV10 := Aside0.mk HL1; clear hV hI hX hA hB hL HL1 HV9 HI9 HX9 HA9 HB9 HL9 hcY))
       go_roundg q
       case measure => omega
       case rel => exact ⟨v + 1, t2, t3, rfl, ⟨by have := HK.out; omega⟩, HT, HLV10, HV10, HI10, HX10, HA10, HB10, HL10⟩
def impl_solutions.run {σ : Type} (T : σ → List Int → Option (Bool × σ)) (k : Nat) (s : Int) (l1 : List Int) (l2 : List S73) (l : List Int) (st : σ) : Option σ :=
 if 0 < l.length ∧ l.length ≤ 100000 ∧ s ≤ 1000 then (impl_PuzzleFits.f k s l1 l2 l).bind fun b => (if b = true then (impl_solutions.try_ T k s l1 l2 l.length l.length l st).bind fun t => some t.2.2 else some st) else none
set_option maxHeartbeats 8000000 in
set_option maxRecDepth 100000 in
theorem impl_solutions.gen {w0 : World} {σ : Type} {tf p1 p2 : Nat} {T : σ → List Int → Option (Bool × σ)} {Inv : (Nat → Prop) → σ → World → Prop} (Te : Teller w0 tf p1 p2 T Inv) (k : Nat) (s : Int) (A1 : Option Addr) (c1 : Nat) (l1 : List Int) (A2 : Option Addr) (c2 : Nat) (l2 : List S73) (A : Option Addr) (c : Nat) (l : List Int) (P : Nat → Prop) (st st' : σ) (w : World) (hB : Below w0.heap.size w0 w) (hPl : ∀ k, P k → k < w.heap.size) (hI : Inv P st w) (hr1 : ∀ W, Agr P w W → Kd.C (Kd.int .i64) W A1 l1.length l1) (hc1 : l1.length ≤ c1) (hr2 : ∀ W, Agr P w W → Kd.C k73 W A2 l2.length l2) (hc2 : l2.length ≤ c2) (hr : Kd.C (Kd.int .i64) w A l.length l) (hc : l.length ≤ c) (h : impl_solutions.run T k s l1 l2 l st = some st') :
  Calls Try.prog 45 #[.agg #[.int .i64 s, .slice A1 l1.length c1, .slice A2 l2.length c2], .slice A l.length c, .func (.func tf) #[] #[.pointer (some ⟨p1, 0, none⟩), .pointer (some ⟨p2, 0, none⟩)]] w fun e w' => e = .returned (.tuple #[]) ∧ Inv P st' w' ∧ Agr P w w' ∧ Below w0.heap.size w0 w' := by
 unfold impl_solutions.run at h
 by_cases hN : 0 < l.length ∧ l.length ≤ 100000 ∧ s ≤ 1000
 rotate_left
 ·rw [if_neg hN] at h
  cases h
 rw [if_pos hN] at h
 have HCL := Aside0.mk (show slices_Clone_int_int.f l = some l by unfold slices_Clone_int_int.f; rw [if_pos (by omega)])
 obtain ⟨b, hF, h⟩ := Option.bind_eq_some_iff.1 h
 have HF := Aside0.mk hF
 have HN := Aside0.mk hN
 have HB := Aside0.mk hB
 have HPL := Aside0.mk hPl
 have HI := Aside0.mk hI
 have HR1 := Aside0.mk hr1
 have HC1 := Aside0.mk hc1
 have HR2 := Aside0.mk hr2
 have HC2 := Aside0.mk hc2
 have HR := Aside0.mk hr
 have HC := Aside0.mk hc
 have hu := Try.underlying37
 have hsf := fun (a : Addr) (c : Array Value) (w : World) => run_store Try.prog w a (.func (.func 73) #[] c) .plain rfl
 clear hN hF hB hPl hI hr1 hc1 hr2 hc2 hr hc
 cases b with
 | false =>
  simp only [Bool.false_eq_true, if_false, Option.some.injEq] at h
  subst h
  go_enter Try.func45, Try.ntmps45
  go_wp2_with (first
   | ((with_reducible refine gate_dst (N := 3) rfl ?_); refine box_event ?hg (N := 3) ?hd (cs := #[.int .i64 s, .slice A1 l1.length c1, .slice A2 l2.length c2]) (t := 37) ?hr ?_; (case hd => rfl); (case hg => rfl); (case hr => first | (go_simp; done) | (go_simp; rfl)); intro gP hg w3 hbox hb; have BgP := Aside0.mk hbox; have HW := Aside0.mk hb; have HO := Aside0.mk (show w.heap.size ≤ gP ∧ gP < w3.heap.size from ⟨Nat.le_of_eq hg.symm, blk_lt hbox⟩); clear hg hbox hb)
   | ((with_reducible refine gate_dst (N := 5) rfl ?_); refine box_event ?hg (N := 5) ?hd (cs := #[.func (.func tf) #[] #[.pointer (some ⟨p1, 0, none⟩), .pointer (some ⟨p2, 0, none⟩)]]) (t := 63) ?hr ?_; (case hd => rfl); (case hg => rfl); (case hr => first | (go_simp; done) | (go_simp; rfl)); intro gT hg w5 hbox hb; replace HW := Aside0.mk (below_step HW.out hb); replace BgP := Aside0.mk (blk_below BgP.out hb); have BgT := Aside0.mk hbox; have HO_ := HO.out; clear HO; have HO := Aside0.mk (show w.heap.size ≤ gP ∧ gP < gT ∧ gT < w5.heap.size from ⟨HO_.1, by omega, blk_lt hbox⟩); clear HO_; clear hg hbox hb)
   | ((with_reducible refine gate_callee (f := 47) rfl ?_); refine goesL_ (some 10) rfl rfl Try.func47 (by kernel_rfl) rfl #[.slice A l.length c] rfl yma ?_; (with_reducible refine (slices_Clone_int_int.calls A c l l w5 (Kd.C_below HR.out HW.out) HC.out HCL.out).mono ?_); rintro e w10 ⟨v10, rfl, ho, hb⟩; refine ⟨_, rfl, ?_⟩; obtain ⟨gg, cg, e_, gb_, gl_, gx_⟩ := Kd.R_form ho HN.out.1; subst e_; have HV := Aside0.mk (Kd.R_mono (Kd.R_tight rfl (Kd.R_lower ho (Nat.le_trans HB.out.size HW.out.size))) (fun k_ h_ => by simpa [Value.ownBlock] using h_) : Kd.R (Kd.int .i64) 3 w10 w0.heap.size (fun k => k = gg) (.slice (some ⟨gg, 0, none⟩) l.length cg) l); replace HW := Aside0.mk (below_step HW.out hb); replace BgP := Aside0.mk (blk_below BgP.out hb); replace BgT := Aside0.mk (blk_below BgT.out hb); have HO_ := HO.out; clear HO; have HO := Aside0.mk (show w.heap.size ≤ gP ∧ gP < gT ∧ gT < gg ∧ gg < w10.heap.size from ⟨HO_.1, HO_.2.1, by omega, gl_⟩); clear HO_ gb_ gl_ gx_ ho hb)
   | ((with_reducible refine gate_dst (N := 6) rfl ?_); refine box_event ?hg (N := 6) ?hd (cs := #[.slice none 0 0]) (t := 22) ?hr ?_; (case hd => rfl); (case hg => rfl); (case hr => first | (go_simp; done) | (go_simp; rfl)); intro gG hg w11 hbox hb; replace HW := Aside0.mk (below_step HW.out hb); replace BgP := Aside0.mk (blk_below BgP.out hb); replace BgT := Aside0.mk (blk_below BgT.out hb); replace HV := Aside0.mk (Kd.R_below HV.out hb); have BgG := Aside0.mk hbox; have hz : w11.cell? ⟨gG, 0, none⟩ = some (.slice none 0 0) := (blk_cell hbox 0).trans rfl; have hzf := blk_frozen hbox 0; have HO_ := HO.out; clear HO; have HO := Aside0.mk (show w.heap.size ≤ gP ∧ gP < gT ∧ gT < gg ∧ gg < gG ∧ gG < w11.heap.size from ⟨HO_.1, HO_.2.1, HO_.2.2.1, by omega, blk_lt hbox⟩); clear HO_; clear hg hbox hb)
   | ((with_reducible refine gate_store (t := 22) (p := 6) rfl ?_); refine store_event (t := 22) (p := 6) (v := ?vo1) (w1 := w11.setCell ⟨gG, 0, none⟩ (.slice (some ⟨gg, 0, none⟩) l.length cg)) ?hg ?ho ?hn ?hr ?_; (case ho => rfl); (case hg => rfl); (case hn => rfl); (case hr => first | (go_simp; done) | (go_simp; rfl)); intro w12 hw; have n_ := Aside0.mk (far1 hw BgP.out (by have := HO.out; omega)); clear BgP; have BgP := n_; clear n_; have n_ := Aside0.mk (far1 hw BgT.out (by have := HO.out; omega)); clear BgT; have BgT := n_; clear n_; have n_ : Aside0 (w12.heap[gG]? = some (.cells #[.slice (some ⟨gg, 0, none⟩) l.length cg] 22 (0, 0))) := ⟨by rw [hw]; simpa using blk_set BgG.out 0 (.slice (some ⟨gg, 0, none⟩) l.length cg)⟩; clear BgG; have BgG := n_; clear n_; have n_ : Aside0 (Below w.heap.size w w12) := ⟨by rw [hw]; exact below_set HW.out (by have := HO.out; omega)⟩; clear HW; have HW := n_; clear n_; have n_ : Aside0 (Kd.R (Kd.int .i64) 3 w12 w0.heap.size (fun k => k = gg) (.slice (some ⟨gg, 0, none⟩) l.length cg) l) := ⟨by rw [hw]; exact Kd.R_far (p := ⟨gG, 0, none⟩) HV.out (fun k_ h_ => by have := HO.out; show k_ ≠ gG; omega) _⟩; clear HV; have HV := n_; clear n_; clear hz hzf; have hg0 : w12.cell? ⟨gG, 0, none⟩ = some (.slice (some ⟨gg, 0, none⟩) l.length cg) := (blk_cell BgG.out 0).trans rfl; have hp0 : w12.cell? ⟨gP, 0, none⟩ = some (.int .i64 s) := (blk_cell BgP.out 0).trans rfl; have hp1 : w12.cell? ⟨gP, 1, none⟩ = some (.slice A1 l1.length c1) := (blk_cell BgP.out 1).trans rfl; have hp2 : w12.cell? ⟨gP, 2, none⟩ = some (.slice A2 l2.length c2) := (blk_cell BgP.out 2).trans rfl; have HO_ : Aside0 (w.heap.size ≤ gP ∧ gP < gT ∧ gT < gg ∧ gg < gG ∧ gG < w12.heap.size) := ⟨by have := HO.out; rw [hw]; simpa [World.setCell] using this⟩; clear HO; have HO := HO_; clear HO_; clear hw)
   | ((with_reducible refine gate_callee (f := 72) rfl ?_); refine goesL_ (some 13) rfl rfl Try.func72 (by kernel_rfl) rfl #[.agg #[.int .i64 s, .slice A1 l1.length c1, .slice A2 l2.length c2], .slice (some ⟨gg, 0, none⟩) l.length cg] rfl yma ?_; (with_reducible refine (impl_PuzzleFits.calls k s _ _ l1 _ _ l2 _ _ l false w12 (HR1.out _ (Agr.of_below HW.out)) HC1.out (HR2.out _ (Agr.of_below HW.out)) HC2.out (Kd.R_reads' HV.out).2.2 (Kd.R_reads' HV.out).2.1 HF.out).mono ?_); rintro e w13 ⟨rfl, hb⟩; refine ⟨_, rfl, ?_⟩; replace HW := Aside0.mk (below_step HW.out hb); replace BgP := Aside0.mk (blk_below BgP.out hb); replace BgT := Aside0.mk (blk_below BgT.out hb); replace HV := Aside0.mk (Kd.R_below HV.out hb); replace BgG := Aside0.mk (blk_below BgG.out hb); have HO_ := HO.out; clear HO; have HO := Aside0.mk (show w.heap.size ≤ gP ∧ gP < gT ∧ gT < gg ∧ gg < gG ∧ gG < w13.heap.size from ⟨HO_.1, HO_.2.1, HO_.2.2.1, HO_.2.2.2.1, Nat.lt_of_lt_of_le HO_.2.2.2.2 hb.size⟩); clear HO_ hg0 hp0 hp1 hp2; have hp0 : w13.cell? ⟨gP, 0, none⟩ = some (.int .i64 s) := (blk_cell BgP.out 0).trans rfl; clear hb))
  first | go_end0 | ((try simp only [Exit.inBlock, Exit.then]); refine bodyPost_ret (results_none rfl _ _ _) rfl ?_)
  exact ⟨rfl, Te.keep HI.out HW.out.size (fun k_ hl_ _ => HW.out.block k_ hl_), Agr.of_below HW.out, below_step HB.out HW.out⟩
 | true =>
  simp only [if_true] at h
  obtain ⟨⟨t1, t2, t3⟩, hT, h⟩ := Option.bind_eq_some_iff.1 h
  obtain rfl := Option.some.inj h
  have HT := Aside0.mk hT
  clear h hT
  go_enter Try.func45, Try.ntmps45
  go_wp2_with (first
   | ((with_reducible refine gate_dst (N := 3) rfl ?_); refine box_event ?hg (N := 3) ?hd (cs := #[.int .i64 s, .slice A1 l1.length c1, .slice A2 l2.length c2]) (t := 37) ?hr ?_; (case hd => rfl); (case hg => rfl); (case hr => first | (go_simp; done) | (go_simp; rfl)); intro gP hg w3 hbox hb; have BgP := Aside0.mk hbox; have HW := Aside0.mk hb; have HO := Aside0.mk (show w.heap.size ≤ gP ∧ gP < w3.heap.size from ⟨Nat.le_of_eq hg.symm, blk_lt hbox⟩); clear hg hbox hb)
   | ((with_reducible refine gate_dst (N := 5) rfl ?_); refine box_event ?hg (N := 5) ?hd (cs := #[.func (.func tf) #[] #[.pointer (some ⟨p1, 0, none⟩), .pointer (some ⟨p2, 0, none⟩)]]) (t := 63) ?hr ?_; (case hd => rfl); (case hg => rfl); (case hr => first | (go_simp; done) | (go_simp; rfl)); intro gT hg w5 hbox hb; replace HW := Aside0.mk (below_step HW.out hb); replace BgP := Aside0.mk (blk_below BgP.out hb); have BgT := Aside0.mk hbox; have HO_ := HO.out; clear HO; have HO := Aside0.mk (show w.heap.size ≤ gP ∧ gP < gT ∧ gT < w5.heap.size from ⟨HO_.1, by omega, blk_lt hbox⟩); clear HO_; clear hg hbox hb)
   | ((with_reducible refine gate_callee (f := 47) rfl ?_); refine goesL_ (some 10) rfl rfl Try.func47 (by kernel_rfl) rfl #[.slice A l.length c] rfl yma ?_; (with_reducible refine (slices_Clone_int_int.calls A c l l w5 (Kd.C_below HR.out HW.out) HC.out HCL.out).mono ?_); rintro e w10 ⟨v10, rfl, ho, hb⟩; refine ⟨_, rfl, ?_⟩; obtain ⟨gg, cg, e_, gb_, gl_, gx_⟩ := Kd.R_form ho HN.out.1; subst e_; have HV := Aside0.mk (Kd.R_mono (Kd.R_tight rfl (Kd.R_lower ho (Nat.le_trans HB.out.size HW.out.size))) (fun k_ h_ => by simpa [Value.ownBlock] using h_) : Kd.R (Kd.int .i64) 3 w10 w0.heap.size (fun k => k = gg) (.slice (some ⟨gg, 0, none⟩) l.length cg) l); replace HW := Aside0.mk (below_step HW.out hb); replace BgP := Aside0.mk (blk_below BgP.out hb); replace BgT := Aside0.mk (blk_below BgT.out hb); have HO_ := HO.out; clear HO; have HO := Aside0.mk (show w.heap.size ≤ gP ∧ gP < gT ∧ gT < gg ∧ gg < w10.heap.size from ⟨HO_.1, HO_.2.1, by omega, gl_⟩); clear HO_ gb_ gl_ gx_ ho hb)
   | ((with_reducible refine gate_dst (N := 6) rfl ?_); refine box_event ?hg (N := 6) ?hd (cs := #[.slice none 0 0]) (t := 22) ?hr ?_; (case hd => rfl); (case hg => rfl); (case hr => first | (go_simp; done) | (go_simp; rfl)); intro gG hg w11 hbox hb; replace HW := Aside0.mk (below_step HW.out hb); replace BgP := Aside0.mk (blk_below BgP.out hb); replace BgT := Aside0.mk (blk_below BgT.out hb); replace HV := Aside0.mk (Kd.R_below HV.out hb); have BgG := Aside0.mk hbox; have hz : w11.cell? ⟨gG, 0, none⟩ = some (.slice none 0 0) := (blk_cell hbox 0).trans rfl; have hzf := blk_frozen hbox 0; have HO_ := HO.out; clear HO; have HO := Aside0.mk (show w.heap.size ≤ gP ∧ gP < gT ∧ gT < gg ∧ gg < gG ∧ gG < w11.heap.size from ⟨HO_.1, HO_.2.1, HO_.2.2.1, by omega, blk_lt hbox⟩); clear HO_; clear hg hbox hb)
   | ((with_reducible refine gate_store (t := 22) (p := 6) rfl ?_); refine store_event (t := 22) (p := 6) (v := ?vo1) (w1 := w11.setCell ⟨gG, 0, none⟩ (.slice (some ⟨gg, 0, none⟩) l.length cg)) ?hg ?ho ?hn ?hr ?_; (case ho => rfl); (case hg => rfl); (case hn => rfl); (case hr => first | (go_simp; done) | (go_simp; rfl)); intro w12 hw; have n_ := Aside0.mk (far1 hw BgP.out (by have := HO.out; omega)); clear BgP; have BgP := n_; clear n_; have n_ := Aside0.mk (far1 hw BgT.out (by have := HO.out; omega)); clear BgT; have BgT := n_; clear n_; have n_ : Aside0 (w12.heap[gG]? = some (.cells #[.slice (some ⟨gg, 0, none⟩) l.length cg] 22 (0, 0))) := ⟨by rw [hw]; simpa using blk_set BgG.out 0 (.slice (some ⟨gg, 0, none⟩) l.length cg)⟩; clear BgG; have BgG := n_; clear n_; have n_ : Aside0 (Below w.heap.size w w12) := ⟨by rw [hw]; exact below_set HW.out (by have := HO.out; omega)⟩; clear HW; have HW := n_; clear n_; have n_ : Aside0 (Kd.R (Kd.int .i64) 3 w12 w0.heap.size (fun k => k = gg) (.slice (some ⟨gg, 0, none⟩) l.length cg) l) := ⟨by rw [hw]; exact Kd.R_far (p := ⟨gG, 0, none⟩) HV.out (fun k_ h_ => by have := HO.out; show k_ ≠ gG; omega) _⟩; clear HV; have HV := n_; clear n_; clear hz hzf; have hg0 : w12.cell? ⟨gG, 0, none⟩ = some (.slice (some ⟨gg, 0, none⟩) l.length cg) := (blk_cell BgG.out 0).trans rfl; have hp0 : w12.cell? ⟨gP, 0, none⟩ = some (.int .i64 s) := (blk_cell BgP.out 0).trans rfl; have hp1 : w12.cell? ⟨gP, 1, none⟩ = some (.slice A1 l1.length c1) := (blk_cell BgP.out 1).trans rfl; have hp2 : w12.cell? ⟨gP, 2, none⟩ = some (.slice A2 l2.length c2) := (blk_cell BgP.out 2).trans rfl; have HO_ : Aside0 (w.heap.size ≤ gP ∧ gP < gT ∧ gT < gg ∧ gg < gG ∧ gG < w12.heap.size) := ⟨by have := HO.out; rw [hw]; simpa [World.setCell] using this⟩; clear HO; have HO := HO_; clear HO_; clear hw)
   | ((with_reducible refine gate_callee (f := 72) rfl ?_); refine goesL_ (some 13) rfl rfl Try.func72 (by kernel_rfl) rfl #[.agg #[.int .i64 s, .slice A1 l1.length c1, .slice A2 l2.length c2], .slice (some ⟨gg, 0, none⟩) l.length cg] rfl yma ?_; (with_reducible refine (impl_PuzzleFits.calls k s _ _ l1 _ _ l2 _ _ l true w12 (HR1.out _ (Agr.of_below HW.out)) HC1.out (HR2.out _ (Agr.of_below HW.out)) HC2.out (Kd.R_reads' HV.out).2.2 (Kd.R_reads' HV.out).2.1 HF.out).mono ?_); rintro e w13 ⟨rfl, hb⟩; refine ⟨_, rfl, ?_⟩; replace HW := Aside0.mk (below_step HW.out hb); replace BgP := Aside0.mk (blk_below BgP.out hb); replace BgT := Aside0.mk (blk_below BgT.out hb); replace HV := Aside0.mk (Kd.R_below HV.out hb); replace BgG := Aside0.mk (blk_below BgG.out hb); have HO_ := HO.out; clear HO; have HO := Aside0.mk (show w.heap.size ≤ gP ∧ gP < gT ∧ gT < gg ∧ gg < gG ∧ gG < w13.heap.size from ⟨HO_.1, HO_.2.1, HO_.2.2.1, HO_.2.2.2.1, Nat.lt_of_lt_of_le HO_.2.2.2.2 hb.size⟩); clear HO_ hg0 hp0 hp1 hp2; have hp0 : w13.cell? ⟨gP, 0, none⟩ = some (.int .i64 s) := (blk_cell BgP.out 0).trans rfl; clear hb)
   | ((with_reducible refine gate_dst (N := 7) rfl ?_); refine box_event ?hg (N := 7) ?hd (cs := #[.int .i64 0]) (t := 3) ?hr ?_; (case hd => rfl); (case hg => rfl); (case hr => first | (go_simp; done) | (go_simp; rfl)); intro gS hg w14 hbox hb; replace HW := Aside0.mk (below_step HW.out hb); replace BgP := Aside0.mk (blk_below BgP.out hb); replace BgT := Aside0.mk (blk_below BgT.out hb); replace HV := Aside0.mk (Kd.R_below HV.out hb); replace BgG := Aside0.mk (blk_below BgG.out hb); have BgS := Aside0.mk hbox; clear hp0; have hz : w14.cell? ⟨gS, 0, none⟩ = some (.int .i64 0) := (blk_cell hbox 0).trans rfl; have hzf := blk_frozen hbox 0; have HO_ := HO.out; clear HO; have HO := Aside0.mk (show w.heap.size ≤ gP ∧ gP < gT ∧ gT < gg ∧ gg < gG ∧ gG < gS ∧ gS < w14.heap.size from ⟨HO_.1, HO_.2.1, HO_.2.2.1, HO_.2.2.2.1, by omega, blk_lt hbox⟩); clear HO_; clear hg hbox hb)
   | ((with_reducible refine gate_store (t := 3) (p := 7) rfl ?_); refine store_event (t := 3) (p := 7) (v := ?vo2) (w1 := w14.setCell ⟨gS, 0, none⟩ (.int .i64 s)) ?hg ?ho ?hn ?hr ?_; (case ho => rfl); (case hg => rfl); (case hn => rfl); (case hr => first | (go_simp; done) | (go_simp; rfl)); intro w15 hw; have n_ := Aside0.mk (far1 hw BgP.out (by have := HO.out; omega)); clear BgP; have BgP := n_; clear n_; have n_ := Aside0.mk (far1 hw BgT.out (by have := HO.out; omega)); clear BgT; have BgT := n_; clear n_; have n_ := Aside0.mk (far1 hw BgG.out (by have := HO.out; omega)); clear BgG; have BgG := n_; clear n_; have n_ : Aside0 (w15.heap[gS]? = some (.cells #[.int .i64 s] 3 (0, 0))) := ⟨by rw [hw]; simpa using blk_set BgS.out 0 (.int .i64 s)⟩; clear BgS; have BgS := n_; clear n_; have n_ : Aside0 (Below w.heap.size w w15) := ⟨by rw [hw]; exact below_set HW.out (by have := HO.out; omega)⟩; clear HW; have HW := n_; clear n_; have n_ : Aside0 (Kd.R (Kd.int .i64) 3 w15 w0.heap.size (fun k => k = gg) (.slice (some ⟨gg, 0, none⟩) l.length cg) l) := ⟨by rw [hw]; exact Kd.R_far (p := ⟨gS, 0, none⟩) HV.out (fun k_ h_ => by have := HO.out; show k_ ≠ gS; omega) _⟩; clear HV; have HV := n_; clear n_; clear hz hzf; have HO_ : Aside0 (w.heap.size ≤ gP ∧ gP < gT ∧ gT < gg ∧ gg < gG ∧ gG < gS ∧ gS < w15.heap.size) := ⟨by have := HO.out; rw [hw]; simpa [World.setCell] using this⟩; clear HO; have HO := HO_; clear HO_; clear hw)
   | ((with_reducible refine gate_dst (N := 8) rfl ?_); refine box_event ?hg (N := 8) ?hd (cs := #[.nilFunc]) (t := 61) ?hr ?_; (case hd => rfl); (case hg => rfl); (case hr => first | (go_simp; done) | (go_simp; rfl)); intro gY hg w16 hbox hb; replace HW := Aside0.mk (below_step HW.out hb); replace BgP := Aside0.mk (blk_below BgP.out hb); replace BgT := Aside0.mk (blk_below BgT.out hb); replace HV := Aside0.mk (Kd.R_below HV.out hb); replace BgG := Aside0.mk (blk_below BgG.out hb); replace BgS := Aside0.mk (blk_below BgS.out hb); have BgY := Aside0.mk hbox; have hz : w16.cell? ⟨gY, 0, none⟩ = some (.nilFunc) := (blk_cell hbox 0).trans rfl; have hzf := blk_frozen hbox 0; have HO_ := HO.out; clear HO; have HO := Aside0.mk (show w.heap.size ≤ gP ∧ gP < gT ∧ gT < gg ∧ gg < gG ∧ gG < gS ∧ gS < gY ∧ gY < w16.heap.size from ⟨HO_.1, HO_.2.1, HO_.2.2.1, HO_.2.2.2.1, HO_.2.2.2.2.1, by omega, blk_lt hbox⟩); clear HO_; clear hg hbox hb)
   | ((with_reducible refine gate_store (t := 61) (p := 8) rfl ?_); refine store_event (t := 61) (p := 8) (v := ?vo3) (w1 := w16.setCell ⟨gY, 0, none⟩ (.func (.func 73) #[] #[.pointer (some ⟨gG, 0, none⟩), .pointer (some ⟨gT, 0, none⟩), .pointer (some ⟨gY, 0, none⟩), .pointer (some ⟨gS, 0, none⟩), .pointer (some ⟨gP, 0, none⟩)])) ?hg ?ho ?hn ?hr ?_; (case ho => rfl); (case hg => rfl); (case hn => rfl); (case hr => first | (go_simp; done) | (go_simp; rfl)); intro w17 hw; have n_ := Aside0.mk (far1 hw BgP.out (by have := HO.out; omega)); clear BgP; have BgP := n_; clear n_; have n_ := Aside0.mk (far1 hw BgT.out (by have := HO.out; omega)); clear BgT; have BgT := n_; clear n_; have n_ := Aside0.mk (far1 hw BgG.out (by have := HO.out; omega)); clear BgG; have BgG := n_; clear n_; have n_ := Aside0.mk (far1 hw BgS.out (by have := HO.out; omega)); clear BgS; have BgS := n_; clear n_; have n_ : Aside0 (w17.heap[gY]? = some (.cells #[.func (.func 73) #[] #[.pointer (some ⟨gG, 0, none⟩), .pointer (some ⟨gT, 0, none⟩), .pointer (some ⟨gY, 0, none⟩), .pointer (some ⟨gS, 0, none⟩), .pointer (some ⟨gP, 0, none⟩)]] 61 (0, 0))) := ⟨by rw [hw]; simpa using blk_set BgY.out 0 (.func (.func 73) #[] #[.pointer (some ⟨gG, 0, none⟩), .pointer (some ⟨gT, 0, none⟩), .pointer (some ⟨gY, 0, none⟩), .pointer (some ⟨gS, 0, none⟩), .pointer (some ⟨gP, 0, none⟩)])⟩; clear BgY; have BgY := n_; clear n_; have n_ : Aside0 (Below w.heap.size w w17) := ⟨by rw [hw]; exact below_set HW.out (by have := HO.out; omega)⟩; clear HW; have HW := n_; clear n_; have n_ : Aside0 (Kd.R (Kd.int .i64) 3 w17 w0.heap.size (fun k => k = gg) (.slice (some ⟨gg, 0, none⟩) l.length cg) l) := ⟨by rw [hw]; exact Kd.R_far (p := ⟨gY, 0, none⟩) HV.out (fun k_ h_ => by have := HO.out; show k_ ≠ gY; omega) _⟩; clear HV; have HV := n_; clear n_; clear hz hzf; have hy0 : w17.cell? ⟨gY, 0, none⟩ = some (.func (.func 73) #[] #[.pointer (some ⟨gG, 0, none⟩), .pointer (some ⟨gT, 0, none⟩), .pointer (some ⟨gY, 0, none⟩), .pointer (some ⟨gS, 0, none⟩), .pointer (some ⟨gP, 0, none⟩)]) := (blk_cell BgY.out 0).trans rfl; have HO_ : Aside0 (w.heap.size ≤ gP ∧ gP < gT ∧ gT < gg ∧ gg < gG ∧ gG < gS ∧ gS < gY ∧ gY < w17.heap.size) := ⟨by have := HO.out; rw [hw]; simpa [World.setCell] using this⟩; clear HO; have HO := HO_; clear HO_; clear hw)
   | (go_at_call 73; (refine (impl_solutions.clo Te k s A1 c1 l1 A2 c2 l2 gg cg l.length gG gT gY gS gP (fun k_ => P k_ ∨ k_ = gg ∨ k_ = gG ∨ k_ = gT ∨ k_ = gY ∨ k_ = gS ∨ k_ = gP) w ⟨.inr (.inr (.inl rfl)), .inr (.inr (.inr (.inl rfl))), .inr (.inr (.inr (.inr (.inl rfl)))), .inr (.inr (.inr (.inr (.inr (.inl rfl))))), .inr (.inr (.inr (.inr (.inr (.inr rfl)))))⟩ (.inr (.inl rfl)) (by have := HO.out; omega) (by have := HO.out; omega) (Nat.le_trans HB.out.size (by have := HO.out; omega)) HN.out.2.2 (fun W_ h_ => HR1.out W_ (h_.mono (fun _ _ hp_ => .inl hp_))) HC1.out (fun W_ h_ => HR2.out W_ (h_.mono (fun _ _ hp_ => .inl hp_))) HC2.out l.length 0 l st t1 t2 t3 w17 (by omega) (Nat.le_refl _) HN.out.2.1 rfl HV.out (Te.keep (Te.mono HI.out (fun k_ hl_ hp_ => hp_.resolve_right (by have := HO.out; omega))) HW.out.size (fun k_ hl_ _ => HW.out.block k_ hl_)) ⟨BgG.out, BgT.out, BgY.out, BgS.out, BgP.out⟩ (Agr.of_below HW.out) (below_step HB.out HW.out) (fun k_ hp_ => hp_.elim (fun hp_ => by have h1_ := HO.out; have h2_ := HW.out.size; have := HPL.out k_ hp_; omega) (fun hp_ => by have h1_ := HO.out; omega)) HT.out).mono ?_); rintro e w18 ⟨rfl, hL1, hV, hI, hX, hA, hB, hL⟩; have n0_ := Aside0.mk (Te.mono hI (fun k_ _ hp_ => .inl hp_) : Inv P t3 w18); have n1_ := Aside0.mk (hA.mono (fun _ _ hp_ => .inl hp_) : Agr P w w18); have n2_ := Aside0.mk hB; clear hL1 hV hI hX hA hB hL hy0))
  first | go_end0 | ((try simp only [Exit.inBlock, Exit.then]); refine bodyPost_ret (results_none rfl _ _ _) rfl ?_)
  exact ⟨rfl, n0_.out, n1_.out, n2_.out⟩
def impl_solutions.f (k : Nat) : Option Unit := none
theorem impl_solutions.calls : True := trivial
/-! ### impl_firstSolutions: function 65 -/
def impl_firstSolutions.T (most : Int) (out : List (List Int)) (g : List Int) : Option (Bool × List (List Int)) := if g.length ≤ 100000 ∧ out.length ≤ 100000 then some (decide (((out ++ [g]).length : Int) < most), out ++ [g]) else none
def impl_firstSolutions.Inv (w0 : World) (p1 p2 : Nat) (most : Int) (P : Nat → Prop) (out : List (List Int)) (w : World) : Prop :=
 w.heap[p2]? = some (.cells #[.int .i64 most] 3 (0, 0)) ∧ (∃ v, w.heap[p1]? = some (.cells #[v] 78 (0, 0)) ∧ Kd.S (Kd.slice 3 (Kd.int .i64)) 22 w w0.heap.size (fun k => ¬ P k ∧ k ≠ p1 ∧ k ≠ p2) v out) ∧ ¬ P p1 ∧ ¬ P p2 ∧ w0.heap.size ≤ p1 ∧ p2 < p1
theorem impl_firstSolutions.keep {w0 : World} {p1 p2 : Nat} {most : Int} {P : Nat → Prop} {s : List (List Int)} {w w' : World} (h : impl_firstSolutions.Inv w0 p1 p2 most P s w) (_ : w.heap.size ≤ w'.heap.size) (hk : ∀ k, k < w.heap.size → ¬ P k → w'.heap[k]? = w.heap[k]?) : impl_firstSolutions.Inv w0 p1 p2 most P s w' := by
 obtain ⟨h1, ⟨v, h2, hR⟩, n1, n2, h3, h4⟩ := h
 exact ⟨(hk p2 (blk_lt h1) n2).trans h1, ⟨v, (hk p1 (blk_lt h2) n1).trans h2, Kd.S_step hR (fun k hk2 hlt => hk k hlt hk2.1)⟩, n1, n2, h3, h4⟩
theorem impl_firstSolutions.mono_ {w0 : World} {p1 p2 : Nat} {most : Int} {P P' : Nat → Prop} {s : List (List Int)} {w : World} (h : impl_firstSolutions.Inv w0 p1 p2 most P s w) (hk : ∀ k, k < w.heap.size → P' k → P k) : impl_firstSolutions.Inv w0 p1 p2 most P' s w := by
 obtain ⟨h1, ⟨v, h2, hR⟩, n1, n2, h3, h4⟩ := h
 exact ⟨h1, ⟨v, h2, Kd.S_mono (Kd.S_bound hR) (fun k hk2 => ⟨fun hp => hk2.1.1 (hk k hk2.2.2.1 hp), hk2.1.2⟩)⟩, fun hp => n1 (hk p1 (blk_lt h2) hp), fun hp => n2 (hk p2 (blk_lt h1) hp), h3, h4⟩
set_option maxHeartbeats 8000000 in
set_option maxRecDepth 100000 in
theorem impl_firstSolutions.call {w0 : World} {p1 p2 : Nat} {most : Int} {P : Nat → Prop} {out s' : List (List Int)} {w : World} {g : List Int} {A : Option Addr} {c : Nat} {b : Bool} (hB : Below w0.heap.size w0 w) (hI : impl_firstSolutions.Inv w0 p1 p2 most P out w) (hr : Kd.C (Kd.int .i64) w A g.length g) (hc : g.length ≤ c) (hP : ∀ k, P k → k < w.heap.size) (h : impl_firstSolutions.T most out g = some (b, s')) :
  Calls Try.prog 86 #[.slice A g.length c, .pointer (some ⟨p1, 0, none⟩), .pointer (some ⟨p2, 0, none⟩)] w fun e w' => e = .returned (.bool b) ∧ impl_firstSolutions.Inv w0 p1 p2 most P s' w' ∧ Agr P w w' ∧ Below w0.heap.size w0 w' := by
 unfold impl_firstSolutions.T at h
 by_cases hl : g.length ≤ 100000 ∧ out.length ≤ 100000
 rotate_left
 ·rw [if_neg hl] at h
  cases h
 rw [if_pos hl] at h
 obtain ⟨o, hoe⟩ : ∃ o, o = out ++ [g] := ⟨_, rfl⟩
 rw [← hoe] at h
 simp only [Option.some.injEq, Prod.mk.injEq] at h
 obtain ⟨rfl, rfl⟩ := h
 obtain ⟨h1, ⟨v, h2, hS⟩, n1, n2, h3, h4⟩ := hI
 obtain ⟨Av, cv, ev⟩ := Kd.S_slice hS
 subst ev
 have HOE := Aside0.mk hoe
 have HLT := Aside0.mk (show p1 < w.heap.size ∧ p2 < w.heap.size from ⟨blk_lt h2, blk_lt h1⟩)
 have HL := Aside0.mk hl
 have H1 := Aside0.mk h1
 have H2 := Aside0.mk h2
 have HS := Aside0.mk hS
 have N1 := Aside0.mk n1
 have N2 := Aside0.mk n2
 have H3 := Aside0.mk h3
 have H4 := Aside0.mk h4
 have HB := Aside0.mk hB
 have HP := Aside0.mk hP
 have HR := Aside0.mk hr
 have HC := Aside0.mk hc
 have HCL := Aside0.mk (show slices_Clone_int_int.f g = some g by unfold slices_Clone_int_int.f; rw [if_pos (by omega)])
 clear hB hr hc hP hl h1 h2 hS n1 n2 h3 h4 hoe
 go_enter Try.func86, Try.ntmps86
 go_wp2
 refine start_ (n := 6) (S := fun w' => w'.cell? ⟨p1, 0, none⟩ = some (.slice Av out.length cv)) (ds := [5]) #[false, false, false, false, false, false] (by kernel_rfl) rfl rfl ((blk_cell (show w.drew.heap[p1]? = _ from H2.out) 0).trans rfl) (fun hHeld => ?_)
 have n1_ := Aside0.mk (show w.drew.heap[p2]? = _ from H1.out)
 have n2_ := Aside0.mk (show w.drew.heap[p1]? = _ from H2.out)
 have n3_ := Aside0.mk (Kd.S_drew HS.out)
 have n4_ := Aside0.mk (Kd.C_drew HR.out)
 have n5_ := Aside0.mk (show Below w.heap.size w w.drew from below_drew1 (Below.refl _ _))
 clear H1 H2 HS HR
 generalize w.drew = w1 at n1_ n2_ n3_ n4_ n5_ hHeld ⊢
 have H1 := n1_
 have H2 := n2_
 have HS := n3_
 have HR := n4_
 have HW := n5_
 clear n1_ n2_ n3_ n4_ n5_
 refine pure_ (i := 1) (N := some 6) (v := ?_) (a' := ?_) #[false, true, false, false, false, false] rfl rfl (by kernel_rfl) (fun _ _ _ h => h) (Or.inl ⟨by rfl, ?_⟩) ?_ ?_
 rotate_left
 ·intro w'
  go_simp
  with_reducible rfl
 rotate_left
 ·simp only [Act.put, yps, i64_w, i32_w]
  rfl
 refine take_ (i := 0) (N := some 5) (v := ?_) (a' := ?_) #[true, true, false, false, false, false] rfl rfl (by kernel_rfl) (fun _ _ _ h => h) (Or.inl ⟨by rfl, ?_⟩) hHeld ?_ ?_
 rotate_left
 ·intro w' s0
  go_simp
  with_reducible rfl
 rotate_left
 ·simp only [Act.put, yps, i64_w, i32_w]
  rfl
 refine one_ (i := 2) (N := some 7) #[true, true, true, false, false, false] rfl rfl (by kernel_rfl) (by decide) (fun K hK => ?_)
 refine goes_ Try.func47 (by kernel_rfl) rfl #[.slice A g.length c] (by rfl) rfl rfl yma ?_
 with_reducible refine (slices_Clone_int_int.calls A c g g w1 HR.out HC.out HCL.out).mono ?_
 rintro e w2 ⟨v7, rfl, ho, hb⟩
 refine ⟨_, rfl, ?_⟩
 have n1_ := Aside0.mk (blk_below H1.out hb)
 have n2_ := Aside0.mk (blk_below H2.out hb)
 have n3_ := Aside0.mk (Kd.S_below (Kd.S_bound HS.out) hb)
 have n5_ := Aside0.mk (below_step HW.out hb)
 have n6_ := Aside0.mk (Kd.R_lower (Kd.R_tight rfl ho) (Nat.le_trans HB.out.size HW.out.size))
 have n7_ := Aside0.mk (show ∀ k, some k = v7.ownBlock → w1.heap.size ≤ k ∧ k < w2.heap.size from fun k_ h_ => ⟨Kd.R_base ho k_ h_.symm, Kd.R_lt ho k_ h_.symm⟩)
 have hz1 := Aside0.mk HW.out.size
 clear H1 H2 HS HW HR ho hb
 have H1 := n1_
 have H2 := n2_
 have HS := n3_
 have HW := n5_
 have HV := n6_
 have HVB := n7_
 clear n1_ n2_ n3_ n5_ n6_ n7_
 obtain ⟨A7, c7, e7⟩ := Kd.R_slice HV.out
 subst e7
 refine hK.out _ _ ((blk_cell H2.out 0).trans rfl) (fun hHeld => ?_)
 clear hK K
 refine norm_ (a' := ?_) ?_ ?_
 rotate_left
 ·show Act.put _ (some 7) _ = _
  simp only [Act.put, yps, i64_w, i32_w]
  rfl
 refine one_ (i := 3) (N := some 8) #[true, true, true, true, false, false] rfl rfl (by kernel_rfl) (by decide) (fun K hK => ?_)
 refine value_ (w1 := w2.alloc (.cells #[.slice A7 g.length c7] 22)) (v := .slice (some ⟨w2.heap.size, 0, none⟩) 1 1) (by rfl) rfl ?_ ?_
 ·go_simp
  first | done | rfl | (constructor <;> rfl)
 refine hK.out _ _ ((blk_cell (blk_alloc H2.out _) 0).trans rfl) (fun hHeld => ?_)
 clear hK K
 refine norm_ (a' := ?_) ?_ ?_
 rotate_left
 ·show Act.put _ (some 8) _ = _
  simp only [Act.put, yps, i64_w, i32_w]
  rfl
 refine one_ (i := 4) (N := some 9) #[true, true, true, true, true, false] rfl rfl (by kernel_rfl) (by decide) (fun K hK => ?_)
 refine Kd.S_append_step (Kd.slice 3 (Kd.int .i64)) (w0 := w0) w0.heap.size (by rfl) (.tmp 5) (.tmp 8) 78 22 (.slice none 0 0) 24 rfl Try.underlying78 info22 rfl (by decide) (by omega) (.slice Av out.length cv) out g [.slice A7 g.length c7] (fun k => ¬ P k ∧ k ≠ p1 ∧ k ≠ p2) (fun k => some k = (Value.slice A7 g.length c7).ownBlock) rfl rfl (Kd.M_row HV.out) (fun k_ h_ => by
  have h1_ := HVB.out k_ h_
  have h2_ := hz1.out
  have h3_ := HLT.out
  exact ⟨⟨fun hp_ => by have := HP.out k_ hp_; omega, by omega, by omega⟩, fun e_ => by have := ((Kd.S_R HS.out).1 k_ e_.symm).2.2.1; omega⟩) (fun k_ h_ => by
  have h1_ := HLT.out
  have h2_ := HW.out.size
  exact ⟨fun hp_ => by have := HP.out k_ hp_; omega, by omega, by omega⟩) (Kd.S_mono HS.out (fun k_ h_ => ⟨h_.1, fun e_ => by have := HVB.out k_ e_; have := h_.2.2.1; omega⟩)) (below_step HB.out HW.out) (Nat.le_trans HB.out.size HW.out.size) (by have := HL.out; omega) ?_
 intro v9 w4 ho hb hg hat
 rw [← HOE.out] at ho
 have hown : ∀ k, (Value.slice Av out.length cv).ownBlock = some k → (¬ P k ∧ k ≠ p1 ∧ k ≠ p2) := fun k_ e_ => ((Kd.S_R HS.out).1 k_ e_).1
 have n1_ := Aside0.mk (blk_grown H1.out hg (fun e_ => (hown p2 e_.symm).2.2 rfl))
 have n2_ := Aside0.mk (blk_grown H2.out hg (fun e_ => (hown p1 e_.symm).2.1 rfl))
 have n3_ := Aside0.mk ho
 have n4_ := Aside0.mk hb
 have n5_ := Aside0.mk (show Agr P w w4 from ⟨Nat.le_trans HW.out.size hg.size, fun k_ hl_ hp_ => (hg.block k_ (Nat.lt_of_lt_of_le hl_ HW.out.size) (fun e_ => (hown k_ e_.symm).1 hp_)).trans (HW.out.block k_ hl_)⟩)
 clear ho hb hg hat hown H1 H2 HS HW HV HVB hz1
 have H1 := n1_
 have H2 := n2_
 have HS := n3_
 have HB4 := n4_
 have HA := n5_
 clear n1_ n2_ n3_ n4_ n5_
 obtain ⟨A9, c9, e9⟩ := Kd.S_slice HS.out
 subst e9
 refine hK.out _ _ ((blk_cell H2.out 0).trans rfl) (fun hHeld => ?_)
 clear hK K
 refine norm_ (a' := ?_) ?_ ?_
 rotate_left
 ·show Act.put _ (some 9) _ = _
  simp only [Act.put, yps, i64_w, i32_w]
  rfl
 have hzf := blk_frozen H2.out 0
 have hz := hHeld
 refine last_ (i := 5) (N := none) #[true, true, true, true, true, true] rfl rfl (by kernel_rfl) (by decide) (fun K hK => ?_)
 refine skip_ (w1 := w4.setCell ⟨p1, 0, none⟩ (.slice A9 o.length c9)) (by rfl) rfl ?_ ?_
 ·go_simp
  first | done | rfl
 have n1_ := Aside0.mk (far1 (rfl : w4.setCell ⟨p1, 0, none⟩ (.slice A9 o.length c9) = _) H1.out (by have := H4.out; omega))
 have n2_ : Aside0 ((w4.setCell ⟨p1, 0, none⟩ (.slice A9 o.length c9)).heap[p1]? = some (.cells #[.slice A9 o.length c9] 78 (0, 0))) := ⟨by simpa using blk_set H2.out 0 (.slice A9 o.length c9)⟩
 have n3_ := Aside0.mk (Kd.S_far (p := ⟨p1, 0, none⟩) HS.out (fun k_ h_ => h_.2.1) (.slice A9 o.length c9))
 have n4_ : Aside0 (Below w0.heap.size w0 (w4.setCell ⟨p1, 0, none⟩ (.slice A9 o.length c9))) := ⟨below_set HB4.out H3.out⟩
 have n5_ : Aside0 (Agr P w (w4.setCell ⟨p1, 0, none⟩ (.slice A9 o.length c9))) := ⟨⟨by have := HA.out.1; simpa [World.setCell] using this, fun k_ hl_ hp_ => (Below.heap_setCell w4 ⟨p1, 0, none⟩ _ k_ (fun e_ => N1.out (by simp only at e_; rw [← e_]; exact hp_))).trans (HA.out.2 k_ hl_ hp_)⟩⟩
 refine hK.out _ _ ?_
 clear hK K hz hzf hHeld
 generalize w4.setCell ⟨p1, 0, none⟩ (.slice A9 o.length c9) = w5 at n1_ n2_ n3_ n4_ n5_ ⊢
 have hcO : w5.cell? ⟨p1, 0, none⟩ = some (.slice A9 o.length c9) := (blk_cell n2_.out 0).trans rfl
 have hcM : w5.cell? ⟨p2, 0, none⟩ = some (.int .i64 most) := (blk_cell n1_.out 0).trans rfl
 refine done_ (by kernel_rfl) ?_
 go_wp2
 go_ret
 exact ⟨rfl, ⟨n1_.out, ⟨_, n2_.out, n3_.out⟩, N1.out, N2.out, H3.out, H4.out⟩, n5_.out, n4_.out⟩
theorem impl_firstSolutions.teller (w0 : World) (p1 p2 : Nat) (most : Int) : Teller w0 86 p1 p2 (impl_firstSolutions.T most) (impl_firstSolutions.Inv w0 p1 p2 most) :=
 ⟨⟨_, Try.func86, by kernel_rfl, rfl⟩, impl_firstSolutions.keep, impl_firstSolutions.mono_, impl_firstSolutions.call⟩
def impl_firstSolutions.f (k : Nat) (a0_0 : Int) (l0_1 : List Int) (l0_2 : List S73) (l1 : List Int) (a2 : Int) : Option (List (List Int)) := impl_solutions.run (impl_firstSolutions.T a2) k a0_0 l0_1 l0_2 l1 []
set_option maxHeartbeats 8000000 in
set_option maxRecDepth 100000 in
theorem impl_firstSolutions.calls (k : Nat) (a0_0 : Int) (A0_1 : Option Addr) (c0_1 : Nat) (l0_1 : List Int) (A0_2 : Option Addr) (c0_2 : Nat) (l0_2 : List S73) (A1 : Option Addr) (c1 : Nat) (l1 : List Int) (a2 : Int) (r : List (List Int)) (w : World) (hr0_1 : Kd.C (Kd.int .i64) w A0_1 l0_1.length l0_1) (hc0_1 : l0_1.length ≤ c0_1) (hr0_2 : Kd.C k73 w A0_2 l0_2.length l0_2) (hc0_2 : l0_2.length ≤ c0_2) (hr1 : Kd.C (Kd.int .i64) w A1 l1.length l1) (hc1 : l1.length ≤ c1) (h : impl_firstSolutions.f k a0_0 l0_1 l0_2 l1 a2 = some r) :
  Calls Try.prog 65 #[.agg #[.int .i64 a0_0, .slice A0_1 l0_1.length c0_1, .slice A0_2 l0_2.length c0_2], .slice A1 l1.length c1, .int .i64 a2] w fun e w' => ∃ v0_ : Value, e = .returned (v0_) ∧ Kd.S (Kd.slice 3 (Kd.int .i64)) 22 w' w.heap.size (fun _ => True) v0_ r ∧ Below w.heap.size w w' := by
 have HS_ := Aside0.mk (show impl_solutions.run (impl_firstSolutions.T a2) k a0_0 l0_1 l0_2 l1 [] = some r from h)
 have HR1 := Aside0.mk hr0_1
 have HC1 := Aside0.mk hc0_1
 have HR2 := Aside0.mk hr0_2
 have HC2 := Aside0.mk hc0_2
 have HR3 := Aside0.mk hr1
 have HC3 := Aside0.mk hc1
 have hu := Try.underlying37
 clear h hr0_1 hc0_1 hr0_2 hc0_2 hr1 hc1
 go_enter Try.func65, Try.ntmps65
 go_wp2_with (first
  | ((with_reducible refine gate_dst (N := 3) rfl ?_); refine box_event ?hg (N := 3) ?hd (cs := #[.int .i64 a0_0, .slice A0_1 l0_1.length c0_1, .slice A0_2 l0_2.length c0_2]) (t := 37) ?hr ?_; (case hd => rfl); (case hg => rfl); (case hr => first | (go_simp; done) | (go_simp; rfl)); intro gP hg w3 hbox hb; have BgP := Aside0.mk hbox; have HW := Aside0.mk hb; have HO := Aside0.mk (show w.heap.size ≤ gP ∧ gP < w3.heap.size from ⟨Nat.le_of_eq hg.symm, blk_lt hbox⟩); clear hg hbox hb)
  | ((with_reducible refine gate_dst (N := 5) rfl ?_); refine box_event ?hg (N := 5) ?hd (cs := #[.int .i64 a2]) (t := 3) ?hr ?_; (case hd => rfl); (case hg => rfl); (case hr => first | (go_simp; done) | (go_simp; rfl)); intro gM hg w5 hbox hb; have BgM := Aside0.mk hbox; replace BgP := Aside0.mk (blk_below BgP.out hb); replace HW := Aside0.mk (below_step HW.out hb); have HO_ := HO.out; clear HO; have HO := Aside0.mk (show w.heap.size ≤ gP ∧ gP < gM ∧ gM < w5.heap.size from ⟨HO_.1, by omega, blk_lt hbox⟩); clear HO_ hg hbox hb)
  | ((with_reducible refine gate_dst (N := 8) rfl ?_); refine Kd.S_lit (Kd.slice 3 (Kd.int .i64)) _ 22 ?hg (N := 8) ?hd (xs := ([] : List (List Int))) (inner := []) (ok := fun k_ => k_ = w5.heap.size) (okp := fun _ => False) ?hr ?hp (fun _ hk => hk.elim) rfl (Below.refl _ _) (Nat.le_refl _) (by simp) ?_; (case hd => rfl); (case hg => rfl); (case hr => first | (go_simp; done) | (go_simp; rfl)); (case hp => exact (Reps.none _ _)); intro v8 w8 ho hb hg_ hnew_; clear hg_; obtain ⟨b_, e_, l_⟩ := hnew_; have l2_ := Kd.S_lt ho b_ e_; have HS := Aside0.mk (Kd.S_lower ho HW.out.size); replace BgP := Aside0.mk (blk_below BgP.out hb); replace BgM := Aside0.mk (blk_below BgM.out hb); replace HW := Aside0.mk (below_step HW.out hb); have HO_ := HO.out; clear HO; have HO := Aside0.mk (show w.heap.size ≤ gP ∧ gP < gM ∧ gM < w5.heap.size ∧ w5.heap.size < w8.heap.size from ⟨HO_.1, HO_.2.1, HO_.2.2, by omega⟩); clear HO_ ho hb e_ l_ l2_; obtain ⟨A8, c8, e8⟩ := Kd.S_slice HS.out; subst e8)
  | ((with_reducible refine gate_dst (N := 7) rfl ?_); refine box_event ?hg (N := 7) ?hd (cs := #[.slice none 0 0]) (t := 78) ?hr ?_; (case hd => rfl); (case hg => rfl); (case hr => first | (go_simp; done) | (go_simp; rfl)); intro gO hg w9 hbox hb; have BgO := Aside0.mk hbox; replace BgP := Aside0.mk (blk_below BgP.out hb); replace BgM := Aside0.mk (blk_below BgM.out hb); replace HW := Aside0.mk (below_step HW.out hb); replace HS := Aside0.mk (Kd.S_below (Kd.S_bound HS.out) hb); have HO_ := HO.out; clear HO; have HO := Aside0.mk (show w.heap.size ≤ gP ∧ gP < gM ∧ gM < w5.heap.size ∧ w5.heap.size < w8.heap.size ∧ w8.heap.size ≤ gO ∧ gO < w9.heap.size from ⟨HO_.1, HO_.2.1, HO_.2.2.1, HO_.2.2.2, Nat.le_of_eq hg.symm, blk_lt hbox⟩); have hz : w9.cell? ⟨gO, 0, none⟩ = some (.slice none 0 0) := (blk_cell hbox 0).trans rfl; have hzf := blk_frozen hbox 0; clear HO_ hg hbox hb)
  | ((with_reducible refine gate_store (t := 78) (p := 7) rfl ?_); refine store_event (t := 78) (p := 7) (v := ?vo1) (w1 := w9.setCell ⟨gO, 0, none⟩ (.slice A8 ([] : List (List Int)).length c8)) ?hg ?ho ?hn ?hr ?_; (case ho => rfl); (case hg => rfl); (case hn => rfl); (case hr => first | (go_simp; done) | (go_simp; rfl)); intro w10 hw; have n0_ := Aside0.mk (far1 hw BgP.out (by have := HO.out; omega)); have n1_ := Aside0.mk (far1 hw BgM.out (by have := HO.out; omega)); have n2_ : Aside0 (w10.heap[gO]? = some (.cells #[.slice A8 ([] : List (List Int)).length c8] 78 (0, 0))) := ⟨by rw [hw]; simpa using blk_set BgO.out 0 (.slice A8 ([] : List (List Int)).length c8)⟩; have n3_ : Aside0 (Below w.heap.size w w10) := ⟨by rw [hw]; exact below_set HW.out (by have := HO.out; omega)⟩; have n4_ : Aside0 (Kd.S (Kd.slice 3 (Kd.int .i64)) 22 w10 w.heap.size (fun k_ => k_ = w5.heap.size) (.slice A8 ([] : List (List Int)).length c8) []) := ⟨by rw [hw]; exact Kd.S_mono (Kd.S_far (p := ⟨gO, 0, none⟩) HS.out (fun k_ h_ e_ => by have := h_.2.2.1; have := HO.out; simp only at e_; omega) _) (fun _ h_ => h_.1)⟩; have n5_ : Aside0 (w.heap.size ≤ gP ∧ gP < gM ∧ gM < w5.heap.size ∧ w5.heap.size ≤ gO ∧ gO < w10.heap.size) := ⟨by have := HO.out; rw [hw]; simp only [World.setCell]; (try simp); omega⟩; have n6_ := Aside0.mk (show w5.heap.size < gO from by have h1_ := HO.out; omega); clear BgP BgM BgO HW HS HO hz hzf hw; have BgP := n0_; have BgM := n1_; have BgO := n2_; have HW := n3_; have HS := n4_; have HO := n5_; have HO2 := n6_; clear n0_ n1_ n2_ n3_ n4_ n5_ n6_; have hp0 : w10.cell? ⟨gP, 0, none⟩ = some (.int .i64 a0_0) := (blk_cell BgP.out 0).trans rfl; have hp1 : w10.cell? ⟨gP, 1, none⟩ = some (.slice A0_1 l0_1.length c0_1) := (blk_cell BgP.out 1).trans rfl; have hp2 : w10.cell? ⟨gP, 2, none⟩ = some (.slice A0_2 l0_2.length c0_2) := (blk_cell BgP.out 2).trans rfl)
  | ((with_reducible refine gate_callee (f := 45) rfl ?_); refine goesL_ (some 12) rfl rfl Try.func45 (by kernel_rfl) rfl #[.agg #[.int .i64 a0_0, .slice A0_1 l0_1.length c0_1, .slice A0_2 l0_2.length c0_2], .slice A1 l1.length c1, .func (.func 86) #[] #[.pointer (some ⟨gO, 0, none⟩), .pointer (some ⟨gM, 0, none⟩)]] rfl yma ?_; (refine (impl_solutions.gen (impl_firstSolutions.teller w gO gM a2) k a0_0 A0_1 c0_1 l0_1 A0_2 c0_2 l0_2 A1 c1 l1 (fun k_ => k_ < w10.heap.size ∧ k_ ≠ gO ∧ k_ ≠ gM ∧ k_ ≠ w5.heap.size) [] r w10 HW.out (fun _ h_ => h_.1) ⟨BgM.out, ⟨_, BgO.out, Kd.S_mono HS.out (fun k_ h_ => ⟨fun hp_ => hp_.2.2.2 h_, by have := HO2.out; omega, by have := HO.out; omega⟩)⟩, fun h_ => h_.2.1 rfl, fun h_ => h_.2.2.1 rfl, by have := HO.out; omega, by have := HO.out; omega⟩ (fun W_ h_ => (Kd.heap_int .i64).C (fun k_ hl_ => (h_.2 k_ (Nat.lt_of_lt_of_le hl_ HW.out.size) ⟨Nat.lt_of_lt_of_le hl_ HW.out.size, by have := HO.out; omega, by have := HO.out; omega, by have := HO.out; omega⟩).trans (HW.out.block k_ hl_)) HR1.out) HC1.out (fun W_ h_ => (Kd.heap_iso _ (Kd.heap_pair (Kd.heap_int _) (Kd.heap_pair (Kd.heap_slice _ (Kd.heap_int _)) (Kd.heap_int _)))).C (fun k_ hl_ => (h_.2 k_ (Nat.lt_of_lt_of_le hl_ HW.out.size) ⟨Nat.lt_of_lt_of_le hl_ HW.out.size, by have := HO.out; omega, by have := HO.out; omega, by have := HO.out; omega⟩).trans (HW.out.block k_ hl_)) HR2.out) HC2.out (Kd.C_below HR3.out HW.out) HC3.out HS_.out).mono ?_); rintro e w12 ⟨rfl, ⟨hM_, ⟨v_, hO_, hS_⟩, hn_⟩, hA, hB⟩; refine ⟨_, rfl, ?_⟩; have HSS := Aside0.mk hS_; have HBB := Aside0.mk hB; obtain ⟨Ar, cr, er⟩ := Kd.S_slice HSS.out; subst er; have hcO : w12.cell? ⟨gO, 0, none⟩ = some (.slice Ar r.length cr) := (blk_cell hO_ 0).trans rfl; clear hM_ hO_ hS_ hn_ hA hB hp0 hp1 hp2))
 go_ret
 exact ⟨_, rfl, Kd.S_mono HSS.out (fun _ _ => trivial), HBB.out⟩
/-! ### impl_CountSolutions: function 33 -/
def impl_CountSolutions.f (k : Nat) (a0_0 : Int) (l0_1 : List Int) (l0_2 : List (S73)) (a1 : Int) : Option (Int) := (impl_PuzzleValid.f k a0_0 l0_1 l0_2).bind fun t607 => (if t607 = true then (if a1 < 1 then (some (-1)) else (if a1 > 600 then (some (-1)) else ((impl_firstSolutions.f k a0_0 l0_1 l0_2 l0_1 a1).bind fun t608 => (some (t608.length : Int))))) else (some (-1)))
set_option maxHeartbeats 8000000 in
set_option maxRecDepth 100000 in
theorem impl_CountSolutions.calls (k : Nat) (a0_0 : Int) (A0_1 : Option Addr) (c0_1 : Nat) (l0_1 : List Int) (A0_2 : Option Addr) (c0_2 : Nat) (l0_2 : List (S73)) (a1 : Int) (r : Int) (w : World) (hr0_1 : Kd.C (Kd.int .i64) w A0_1 l0_1.length l0_1) (hc0_1 : l0_1.length ≤ c0_1) (hr0_2 : Kd.C k73 w A0_2 l0_2.length l0_2) (hc0_2 : l0_2.length ≤ c0_2) (h : impl_CountSolutions.f k a0_0 l0_1 l0_2 a1 = some r) :
  Calls Try.prog 33 #[.agg #[.int .i64 a0_0, .slice A0_1 l0_1.length c0_1, .slice A0_2 l0_2.length c0_2], .int .i64 a1] w fun e w' => e = .returned (.int .i64 r) ∧ Below w.heap.size w w' := by
 have hu37 := Try.underlying37
 have HR0_1 := yam hr0_1
 have HC0_1 := yam hc0_1
 clear hr0_1 hc0_1
 have HR0_2 := yam hr0_2
 have HC0_2 := yam hc0_2
 clear hr0_2 hc0_2
 have HB := yam (Below.refl w.heap.size w)
 have H : ((impl_PuzzleValid.f k a0_0 l0_1 l0_2).bind fun t607 => (if t607 = true then (if a1 < 1 then (some (-1)) else (if a1 > 600 then (some (-1)) else ((impl_firstSolutions.f k a0_0 l0_1 l0_2 l0_1 a1).bind fun t608 => (some (t608.length : Int))))) else (some (-1)))) = some r := h
 clear h
 replace H := Option.bind_eq_some_iff.mp H
 obtain ⟨t607, A30, H⟩ := H
 try dsimp only at H
 have A3 := yam A30
 clear A30
 by_cases c4 : t607 = true
 rotate_left
 ·replace c4 := Bool.eq_false_iff.mpr c4
  subst c4
  have H1 : (some (-1)) = some r := by rw [if_neg (show ¬ (false = true) by decide)] at H; exact H
  clear H
  have H := H1
  clear H1
  obtain rfl := Option.some.inj H
  go_enter Try.func33, Try.ntmps33
  go_wp2_with (first | ((with_reducible refine gate_dst (N := 2) rfl ?_); refine box_event ?hg (N := 2) ?hd (cs := #[.int .i64 a0_0, .slice A0_1 l0_1.length c0_1, .slice A0_2 l0_2.length c0_2]) (t := 37) ?hr ?_; (case hd => rfl); (case hg => rfl); (case hr => first | (go_simp; done) | (go_simp; rfl)); intro gb606 hg w20 hbox hb; have n0_ := yam (below_step (yez HB.out) hb); have n1_ := yam (hbox); have n2_ := yam ((by rw [hg]; exact (below_size (yez HB.out)) : w.heap.size ≤ gb606)); have n3_ := n2_; clear HB; have HB := n0_; have BK606 := n1_; have GW606 := n2_; have GE606 := n3_; clear n0_ n1_ n2_ n3_; clear hb hbox hg; obtain ⟨hcz21_0, hcz21_1, hcz21_2, hfz21_0, hfz21_1, hfz21_2⟩ := ybc BK606.out) | ((with_reducible refine gate_callee (f := 64) rfl ?_); refine goesL_ (some 6) rfl rfl Try.func64 (by kernel_rfl) rfl #[.agg #[.int .i64 a0_0, .slice A0_1 l0_1.length c0_1, .slice A0_2 l0_2.length c0_2]] rfl (by (try simp only [List.map_toArray, List.map_cons, List.map_nil]); first | done | rfl | (simp only [List.length_drop, List.length_take]; rfl)) ?_; (with_reducible refine (impl_PuzzleValid.calls k a0_0 _ _ l0_1 _ _ l0_2 false _ ?side1 ?side2 ?side3 ?side4 A3.out).mono ?_); (case side1 => exact Kd.Cz ((Kd.C_below HR0_1.out HB.out))); (case side2 => exact HC0_1.out); (case side3 => exact Kd.Cz ((Kd.C_below HR0_2.out HB.out))); (case side4 => exact HC0_2.out); rintro e w22 ⟨rfl, hb⟩; refine ⟨_, rfl, ?_⟩; have n0_ := yam (blk_below (g := gb606) (o := .cells #[.int .i64 a0_0, .slice A0_1 l0_1.length c0_1, .slice A0_2 l0_2.length c0_2] 37 (0, 0)) (ybz BK606.out) hb); have n1_ := yam (below_step yhb hb); clear BK606; clear HB; have BK606 := n0_; have HB := n1_; clear n0_ n1_; (try clear hb); (try clear hb2); (try clear hk); (try clear hi)))
  go_ret
  exact ⟨yer, yhb⟩

 subst c4
 have H1 : (if a1 < 1 then (some (-1)) else (if a1 > 600 then (some (-1)) else ((impl_firstSolutions.f k a0_0 l0_1 l0_2 l0_1 a1).bind fun t608 => (some (t608.length : Int))))) = some r := by rw [if_pos rfl] at H; exact H
 clear H
 have H := H1
 clear H1
 by_cases c5 : a1 < 1
 ·rw [if_pos c5] at H
  have c5b0 : decide (a1 < 1) = true := decide_eq_true c5
  clear c5
  obtain rfl := Option.some.inj H
  go_enter Try.func33, Try.ntmps33
  go_wp2_with (first | ((with_reducible refine gate_dst (N := 2) rfl ?_); refine box_event ?hg (N := 2) ?hd (cs := #[.int .i64 a0_0, .slice A0_1 l0_1.length c0_1, .slice A0_2 l0_2.length c0_2]) (t := 37) ?hr ?_; (case hd => rfl); (case hg => rfl); (case hr => first | (go_simp; done) | (go_simp; rfl)); intro gb606 hg w6 hbox hb; have n0_ := yam (below_step (yez HB.out) hb); have n1_ := yam (hbox); have n2_ := yam ((by rw [hg]; exact (below_size (yez HB.out)) : w.heap.size ≤ gb606)); have n3_ := n2_; clear HB; have HB := n0_; have BK606 := n1_; have GW606 := n2_; have GE606 := n3_; clear n0_ n1_ n2_ n3_; clear hb hbox hg; obtain ⟨hcz7_0, hcz7_1, hcz7_2, hfz7_0, hfz7_1, hfz7_2⟩ := ybc BK606.out) | ((with_reducible refine gate_callee (f := 64) rfl ?_); refine goesL_ (some 6) rfl rfl Try.func64 (by kernel_rfl) rfl #[.agg #[.int .i64 a0_0, .slice A0_1 l0_1.length c0_1, .slice A0_2 l0_2.length c0_2]] rfl (by (try simp only [List.map_toArray, List.map_cons, List.map_nil]); first | done | rfl | (simp only [List.length_drop, List.length_take]; rfl)) ?_; (with_reducible refine (impl_PuzzleValid.calls k a0_0 _ _ l0_1 _ _ l0_2 true _ ?side1 ?side2 ?side3 ?side4 A3.out).mono ?_); (case side1 => exact Kd.Cz ((Kd.C_below HR0_1.out HB.out))); (case side2 => exact HC0_1.out); (case side3 => exact Kd.Cz ((Kd.C_below HR0_2.out HB.out))); (case side4 => exact HC0_2.out); rintro e w8 ⟨rfl, hb⟩; refine ⟨_, rfl, ?_⟩; have n0_ := yam (blk_below (g := gb606) (o := .cells #[.int .i64 a0_0, .slice A0_1 l0_1.length c0_1, .slice A0_2 l0_2.length c0_2] 37 (0, 0)) (ybz BK606.out) hb); have n1_ := yam (below_step yhb hb); clear BK606; clear HB; have BK606 := n0_; have HB := n1_; clear n0_ n1_; (try clear hb); (try clear hb2); (try clear hk); (try clear hi)))
  go_ret
  exact ⟨yer, yhb⟩
 rw [if_neg c5] at H
 have c5b0 : decide (a1 < 1) = false := decide_eq_false c5
 clear c5
 by_cases c9 : a1 > 600
 ·rw [if_pos c9] at H
  have c9b0 : decide (600 < a1) = true := decide_eq_true c9
  clear c9
  obtain rfl := Option.some.inj H
  go_enter Try.func33, Try.ntmps33
  go_wp2_with (first | ((with_reducible refine gate_dst (N := 2) rfl ?_); refine box_event ?hg (N := 2) ?hd (cs := #[.int .i64 a0_0, .slice A0_1 l0_1.length c0_1, .slice A0_2 l0_2.length c0_2]) (t := 37) ?hr ?_; (case hd => rfl); (case hg => rfl); (case hr => first | (go_simp; done) | (go_simp; rfl)); intro gb606 hg w10 hbox hb; have n0_ := yam (below_step (yez HB.out) hb); have n1_ := yam (hbox); have n2_ := yam ((by rw [hg]; exact (below_size (yez HB.out)) : w.heap.size ≤ gb606)); have n3_ := n2_; clear HB; have HB := n0_; have BK606 := n1_; have GW606 := n2_; have GE606 := n3_; clear n0_ n1_ n2_ n3_; clear hb hbox hg; obtain ⟨hcz11_0, hcz11_1, hcz11_2, hfz11_0, hfz11_1, hfz11_2⟩ := ybc BK606.out) | ((with_reducible refine gate_callee (f := 64) rfl ?_); refine goesL_ (some 6) rfl rfl Try.func64 (by kernel_rfl) rfl #[.agg #[.int .i64 a0_0, .slice A0_1 l0_1.length c0_1, .slice A0_2 l0_2.length c0_2]] rfl (by (try simp only [List.map_toArray, List.map_cons, List.map_nil]); first | done | rfl | (simp only [List.length_drop, List.length_take]; rfl)) ?_; (with_reducible refine (impl_PuzzleValid.calls k a0_0 _ _ l0_1 _ _ l0_2 true _ ?side1 ?side2 ?side3 ?side4 A3.out).mono ?_); (case side1 => exact Kd.Cz ((Kd.C_below HR0_1.out HB.out))); (case side2 => exact HC0_1.out); (case side3 => exact Kd.Cz ((Kd.C_below HR0_2.out HB.out))); (case side4 => exact HC0_2.out); rintro e w12 ⟨rfl, hb⟩; refine ⟨_, rfl, ?_⟩; have n0_ := yam (blk_below (g := gb606) (o := .cells #[.int .i64 a0_0, .slice A0_1 l0_1.length c0_1, .slice A0_2 l0_2.length c0_2] 37 (0, 0)) (ybz BK606.out) hb); have n1_ := yam (below_step yhb hb); clear BK606; clear HB; have BK606 := n0_; have HB := n1_; clear n0_ n1_; (try clear hb); (try clear hb2); (try clear hk); (try clear hi)))
  go_ret
  exact ⟨yer, yhb⟩
 rw [if_neg c9] at H
 have c9b0 : decide (600 < a1) = false := decide_eq_false c9
 clear c9
 replace H := Option.bind_eq_some_iff.mp H
 obtain ⟨t608, A130, H⟩ := H
 try dsimp only at H
 have A13 := yam A130
 clear A130
 obtain rfl := Option.some.inj H
 go_enter Try.func33, Try.ntmps33
 go_wp2_with (first | ((with_reducible refine gate_dst (N := 2) rfl ?_); refine box_event ?hg (N := 2) ?hd (cs := #[.int .i64 a0_0, .slice A0_1 l0_1.length c0_1, .slice A0_2 l0_2.length c0_2]) (t := 37) ?hr ?_; (case hd => rfl); (case hg => rfl); (case hr => first | (go_simp; done) | (go_simp; rfl)); intro gb606 hg w14 hbox hb; have n0_ := yam (below_step (yez HB.out) hb); have n1_ := yam (hbox); have n2_ := yam ((by rw [hg]; exact (below_size (yez HB.out)) : w.heap.size ≤ gb606)); have n3_ := n2_; clear HB; have HB := n0_; have BK606 := n1_; have GW606 := n2_; have GE606 := n3_; clear n0_ n1_ n2_ n3_; clear hb hbox hg; obtain ⟨hcz15_0, hcz15_1, hcz15_2, hfz15_0, hfz15_1, hfz15_2⟩ := ybc BK606.out) | ((with_reducible refine gate_callee (f := 64) rfl ?_); refine goesL_ (some 6) rfl rfl Try.func64 (by kernel_rfl) rfl #[.agg #[.int .i64 a0_0, .slice A0_1 l0_1.length c0_1, .slice A0_2 l0_2.length c0_2]] rfl (by (try simp only [List.map_toArray, List.map_cons, List.map_nil]); first | done | rfl | (simp only [List.length_drop, List.length_take]; rfl)) ?_; (with_reducible refine (impl_PuzzleValid.calls k a0_0 _ _ l0_1 _ _ l0_2 true _ ?side1 ?side2 ?side3 ?side4 A3.out).mono ?_); (case side1 => exact Kd.Cz ((Kd.C_below HR0_1.out HB.out))); (case side2 => exact HC0_1.out); (case side3 => exact Kd.Cz ((Kd.C_below HR0_2.out HB.out))); (case side4 => exact HC0_2.out); rintro e w16 ⟨rfl, hb⟩; refine ⟨_, rfl, ?_⟩; have n0_ := yam (blk_below (g := gb606) (o := .cells #[.int .i64 a0_0, .slice A0_1 l0_1.length c0_1, .slice A0_2 l0_2.length c0_2] 37 (0, 0)) (ybz BK606.out) hb); have n1_ := yam (below_step yhb hb); clear BK606; clear HB; have BK606 := n0_; have HB := n1_; clear n0_ n1_; (try clear hb); (try clear hb2); (try clear hk); (try clear hi); obtain ⟨hcz17_0, hcz17_1, hcz17_2, hfz17_0, hfz17_1, hfz17_2⟩ := ybc BK606.out) | ((with_reducible refine gate_callee (f := 65) rfl ?_); refine goesL_ (some 20) rfl rfl Try.func65 (by kernel_rfl) rfl #[.agg #[.int .i64 a0_0, .slice A0_1 l0_1.length c0_1, .slice A0_2 l0_2.length c0_2], .slice A0_1 l0_1.length c0_1, .int .i64 a1] rfl (by (try simp only [List.map_toArray, List.map_cons, List.map_nil]); first | done | rfl | (simp only [List.length_drop, List.length_take]; rfl)) ?_; (with_reducible refine (impl_firstSolutions.calls k a0_0 _ _ l0_1 _ _ l0_2 _ _ l0_1 a1 t608 _ ?side1 ?side2 ?side3 ?side4 ?side5 ?side6 A13.out).mono ?_); (case side1 => exact Kd.Cz ((Kd.C_below HR0_1.out HB.out))); (case side2 => exact HC0_1.out); (case side3 => exact Kd.Cz ((Kd.C_below HR0_2.out HB.out))); (case side4 => exact HC0_2.out); (case side5 => exact Kd.Cz ((Kd.C_below HR0_1.out HB.out))); (case side6 => exact HC0_1.out); rintro e w18 ⟨v609, rfl, ho0, hb⟩; refine ⟨_, rfl, ?_⟩; have n0_ := yam (Kd.S_lower ho0 (below_size yhb)); have n1_ := yam (blk_below (g := gb606) (o := .cells #[.int .i64 a0_0, .slice A0_1 l0_1.length c0_1, .slice A0_2 l0_2.length c0_2] 37 (0, 0)) (ybz BK606.out) hb); have n2_ := yam (below_step yhb hb); clear BK606; clear HB; have HO610 := n0_; have BK606 := n1_; have HB := n2_; clear n0_ n1_ n2_; (try clear hb); (try clear hb2); (try clear hk); (try clear hi); (try clear ho0); obtain ⟨Ao19, co19, eo19⟩ := Kd.S_slice HO610.out; subst eo19))
 go_ret
 exact ⟨yer, yhb⟩
/-! ### impl_onlyOne: function 68 -/
def impl_onlyOne.f (k : Nat) (a0_0 : Int) (l0_1 : List Int) (l0_2 : List (S73)) : Option (Bool) := (impl_CountSolutions.f k a0_0 l0_1 l0_2 2).bind fun t665 => (some (t665 == 1))
set_option maxHeartbeats 8000000 in
set_option maxRecDepth 100000 in
theorem impl_onlyOne.calls (k : Nat) (a0_0 : Int) (A0_1 : Option Addr) (c0_1 : Nat) (l0_1 : List Int) (A0_2 : Option Addr) (c0_2 : Nat) (l0_2 : List (S73)) (r : Bool) (w : World) (hr0_1 : Kd.C (Kd.int .i64) w A0_1 l0_1.length l0_1) (hc0_1 : l0_1.length ≤ c0_1) (hr0_2 : Kd.C k73 w A0_2 l0_2.length l0_2) (hc0_2 : l0_2.length ≤ c0_2) (h : impl_onlyOne.f k a0_0 l0_1 l0_2 = some r) :
  Calls Try.prog 68 #[.agg #[.int .i64 a0_0, .slice A0_1 l0_1.length c0_1, .slice A0_2 l0_2.length c0_2]] w fun e w' => e = .returned (.bool r) ∧ Below w.heap.size w w' := by
 have hu37 := Try.underlying37
 have HR0_1 := yam hr0_1
 have HC0_1 := yam hc0_1
 clear hr0_1 hc0_1
 have HR0_2 := yam hr0_2
 have HC0_2 := yam hc0_2
 clear hr0_2 hc0_2
 have HB := yam (Below.refl w.heap.size w)
 have H : ((impl_CountSolutions.f k a0_0 l0_1 l0_2 2).bind fun t665 => (some (t665 == 1))) = some r := h
 clear h
 replace H := Option.bind_eq_some_iff.mp H
 obtain ⟨t665, A20, H⟩ := H
 try dsimp only at H
 have A2 := yam A20
 clear A20
 obtain rfl := Option.some.inj H
 go_enter Try.func68, Try.ntmps68
 go_wp2_with (first | ((with_reducible refine gate_dst (N := 1) rfl ?_); refine box_event ?hg (N := 1) ?hd (cs := #[.int .i64 a0_0, .slice A0_1 l0_1.length c0_1, .slice A0_2 l0_2.length c0_2]) (t := 37) ?hr ?_; (case hd => rfl); (case hg => rfl); (case hr => first | (go_simp; done) | (go_simp; rfl)); intro gb664 hg w3 hbox hb; have n0_ := yam (below_step (yez HB.out) hb); have n1_ := yam (hbox); have n2_ := yam ((by rw [hg]; exact (below_size (yez HB.out)) : w.heap.size ≤ gb664)); have n3_ := n2_; clear HB; have HB := n0_; have BK664 := n1_; have GW664 := n2_; have GE664 := n3_; clear n0_ n1_ n2_ n3_; clear hb hbox hg; obtain ⟨hcz4_0, hcz4_1, hcz4_2, hfz4_0, hfz4_1, hfz4_2⟩ := ybc BK664.out) | ((with_reducible refine gate_callee (f := 33) rfl ?_); refine goesL_ (some 4) rfl rfl Try.func33 (by kernel_rfl) rfl #[.agg #[.int .i64 a0_0, .slice A0_1 l0_1.length c0_1, .slice A0_2 l0_2.length c0_2], .int .i64 2] rfl (by (try simp only [List.map_toArray, List.map_cons, List.map_nil]); first | done | rfl | (simp only [List.length_drop, List.length_take]; rfl)) ?_; (with_reducible refine (impl_CountSolutions.calls k a0_0 _ _ l0_1 _ _ l0_2 2 t665 _ ?side1 ?side2 ?side3 ?side4 A2.out).mono ?_); (case side1 => exact Kd.Cz ((Kd.C_below HR0_1.out HB.out))); (case side2 => exact HC0_1.out); (case side3 => exact Kd.Cz ((Kd.C_below HR0_2.out HB.out))); (case side4 => exact HC0_2.out); rintro e w5 ⟨rfl, hb⟩; refine ⟨_, rfl, ?_⟩; have n0_ := yam (blk_below (g := gb664) (o := .cells #[.int .i64 a0_0, .slice A0_1 l0_1.length c0_1, .slice A0_2 l0_2.length c0_2] 37 (0, 0)) (ybz BK664.out) hb); have n1_ := yam (below_step yhb hb); clear BK664; clear HB; have BK664 := n0_; have HB := n1_; clear n0_ n1_; (try clear hb); (try clear hb2); (try clear hk); (try clear hi)))
 go_ret
 exact ⟨yer, yhb⟩
/-! ### impl_copyPuzzle: function 58 -/
def impl_copyPuzzle.l0 : Nat → List (S73) → Int → Int → Int → List Int → List (S73) → Option (Int × List Int × (List (S73)))
 | 0, _, _, _, _, _, _ => none
 | k + 1, x13, x14, x15, x488000, x488001, x488002 => if x15 < x14 then (if 0 ≤ x15 then (if x15 < (x13.length : Int) then ((slices_Clone_int_int.f ((rd_T73 x13 x15).f1)).bind fun t490 => (if x488002.length < 3518437208883 then (impl_copyPuzzle.l0 k x13 x14 (wrap64 (x15 + 1)) x488000 x488001 (x488002 ++ [(⟨(rd_T73 x13 x15).f0, t490, (rd_T73 x13 x15).f2⟩ : S73)])) else (none))) else (none)) else (none)) else (some (x488000, x488001, x488002))
def impl_copyPuzzle.f (k : Nat) (a0_0 : Int) (l0_1 : List Int) (l0_2 : List (S73)) : Option (Int × List Int × (List (S73))) := (slices_Clone_int_int.f l0_1).bind fun t484 => (impl_copyPuzzle.l0 k l0_2 (l0_2.length : Int) 0 a0_0 t484 ([] : List (S73)))
def impl_copyPuzzle.T1 : Bool × List (List Nat × List Nat) := (true, [([], []), ([0], [0]), ([], []), ([2], [2]), ([3], [3]), ([1, 4], [1, 4]), ([], []), ([6, 5, 4, 0, 1, 2, 3, 4, 5, 6], [5, 6])])
def impl_copyPuzzle.B1 : List Nat := [0, 1, 0, 4, 12, 31, 0, 127]
theorem impl_copyPuzzle.tab1 : rtab .any (opsOf Try.f58 1) = impl_copyPuzzle.T1 := by kernel_rfl
theorem impl_copyPuzzle.bits1 : waitsOk impl_copyPuzzle.T1.2 impl_copyPuzzle.B1 = true := by kernel_rfl
set_option maxHeartbeats 8000000 in
set_option maxRecDepth 100000 in
theorem impl_copyPuzzle.calls (k : Nat) (a0_0 : Int) (A0_1 : Option Addr) (c0_1 : Nat) (l0_1 : List Int) (A0_2 : Option Addr) (c0_2 : Nat) (l0_2 : List (S73)) (r1 : Int) (r2 : List Int) (r3 : List (S73)) (w : World) (hr0_1 : Kd.C (Kd.int .i64) w A0_1 l0_1.length l0_1) (hc0_1 : l0_1.length ≤ c0_1) (hr0_2 : Kd.C k73 w A0_2 l0_2.length l0_2) (hc0_2 : l0_2.length ≤ c0_2) (h : impl_copyPuzzle.f k a0_0 l0_1 l0_2 = some (r1, r2, r3)) :
  Calls Try.prog 58 #[.agg #[.int .i64 a0_0, .slice A0_1 l0_1.length c0_1, .slice A0_2 l0_2.length c0_2]] w fun e w' => ∃ v1_ v2_ : Value, e = .returned (.agg #[.int .i64 r1, v1_, v2_]) ∧ Kd.R (Kd.int .i64) 3 w' w.heap.size (fun _ => True) v1_ r2 ∧ Kd.S k73 73 w' w.heap.size (fun k_ => some k_ ≠ (v1_ : Value).ownBlock) v2_ r3 ∧ Below w.heap.size w w' := by
 have hu37 := Try.underlying37
 have hu73 := Try.underlying73
 have HR0_1 := yam hr0_1
 have HC0_1 := yam hc0_1
 clear hr0_1 hc0_1
 have HR0_2 := yam hr0_2
 have HC0_2 := yam hc0_2
 clear hr0_2 hc0_2
 have HB := yam (Below.refl w.heap.size w)
 have H : ((slices_Clone_int_int.f l0_1).bind fun t484 => (impl_copyPuzzle.l0 k l0_2 (l0_2.length : Int) 0 a0_0 t484 ([] : List (S73)))) = some (r1, r2, r3) := h
 clear h
 replace H := Option.bind_eq_some_iff.mp H
 obtain ⟨t484, A20, H⟩ := H
 replace H : (impl_copyPuzzle.l0 k l0_2 (l0_2.length : Int) 0 a0_0 t484 ([] : List (S73))) = some (r1, r2, r3) := H
 have A2 := yam A20
 clear A20
 have H' := yam H
 clear H
 go_enter Try.func58, Try.ntmps58
 try go_wp2_with (first | ((with_reducible refine gate_dst (N := 1) rfl ?_); refine box_event ?hg (N := 1) ?hd (cs := #[.int .i64 a0_0, .slice A0_1 l0_1.length c0_1, .slice A0_2 l0_2.length c0_2]) (t := 37) ?hr ?_; (case hd => rfl); (case hg => rfl); (case hr => first | (go_simp; done) | (go_simp; rfl)); intro gb482 hg w3 hbox hb; have n0_ := yam (below_step (yez HB.out) hb); have n1_ := yam (hbox); have n2_ := yam ((by rw [hg]; exact (below_size (yez HB.out)) : w.heap.size ≤ gb482)); have n3_ := n2_; clear HB; have HB := n0_; have BK482 := n1_; have GW482 := n2_; have GE482 := n3_; clear n0_ n1_ n2_ n3_; clear hb hbox hg) | ((with_reducible refine gate_dst (N := 2) rfl ?_); refine box_event ?hg (N := 2) ?hd (cs := #[.int .i64 0, .slice none 0 0, .slice none 0 0]) (t := 37) ?hr ?_; (case hd => rfl); (case hg => rfl); (case hr => first | (go_simp; done) | (go_simp; rfl)); intro gb483 hg w4 hbox hb; have n0_ := yam (blk_below (g := gb482) (o := .cells #[.int .i64 a0_0, .slice A0_1 l0_1.length c0_1, .slice A0_2 l0_2.length c0_2] 37 (0, 0)) (ybz BK482.out) hb); have n1_ := yam (below_step yhb hb); have n2_ := yam (hbox); have n3_ := yam ((by rw [hg]; exact (below_size yhb) : w.heap.size ≤ gb483)); have n4_ := n3_; have n5_ := yam ((by rw [hg]; exact Nat.ne_of_lt (blk_lt (g := gb482) (o := .cells #[.int .i64 a0_0, .slice A0_1 l0_1.length c0_1, .slice A0_2 l0_2.length c0_2] 37 (0, 0)) (ybz BK482.out)) : gb482 ≠ gb483)); have n6_ := yam ((by rw [hg]; exact Nat.ne_of_gt (blk_lt (g := gb482) (o := .cells #[.int .i64 a0_0, .slice A0_1 l0_1.length c0_1, .slice A0_2 l0_2.length c0_2] 37 (0, 0)) (ybz BK482.out)) : gb483 ≠ gb482)); clear BK482; clear HB; have BK482 := n0_; have HB := n1_; have BK483 := n2_; have GW483 := n3_; have GE483 := n4_; have NB482_483 := n5_; have NB483_482 := n6_; clear n0_ n1_ n2_ n3_ n4_ n5_ n6_; clear hb hbox hg))
 have n0_ := yam (ybd BK482.out)
 have n1_ := yam (ybd BK483.out)
 have n2_ := yam (yed HB.out)
 clear BK482
 clear BK483
 clear HB
 have BK482 := n0_
 have BK483 := n1_
 have HB := n2_
 clear n0_ n1_ n2_
 refine start_ (n := 8) (S := fun w' => w'.cell? ⟨gb482, 0, none⟩ = some (.int .i64 a0_0) ∧ w'.cell? ⟨gb482, 1, none⟩ = some (.slice A0_1 l0_1.length c0_1) ∧ w'.cell? ⟨gb482, 2, none⟩ = some (.slice A0_2 l0_2.length c0_2)) (ds := []) #[false, false, false, false, false, false, false, false] (by kernel_rfl) rfl rfl ⟨(blk_cell BK482.out 0).trans rfl, (blk_cell BK482.out 1).trans rfl, (blk_cell BK482.out 2).trans rfl⟩ (fun hHeld => ?_); refine with_tabW impl_copyPuzzle.tab1 impl_copyPuzzle.bits1 (fun HT_ HW_ => ?_)
 generalize w4.drew = w5 at BK482 BK483 HB hHeld ⊢
 refine yvp 0 6 (yvb 8 1) HT_.out ?_
 refine yvp 2 8 (yvb 8 5) HT_.out ?_
 refine yvt 1 7 (yvb 8 7) HT_.out HW_.out hHeld ?_
 refine yvt 3 9 (yvb 8 15) HT_.out HW_.out hHeld ?_
 refine join_ (σ := Value × Nat) 1 #[true, true, true, true, true, true, true, false] (fun s_ => [(10, s_.1), (3, .pointer (some ⟨s_.2, 0, none⟩)), (11, .agg #[.int .i64 a0_0, s_.1, .slice none 0 0])]) (fun s_ w' => (w'.cell? ⟨gb482, 0, none⟩ = some (.int .i64 a0_0) ∧ w'.cell? ⟨gb482, 1, none⟩ = some (.slice A0_1 l0_1.length c0_1) ∧ w'.cell? ⟨gb482, 2, none⟩ = some (.slice A0_2 l0_2.length c0_2)) ∧ (Kd.R (Kd.int .i64) 3 w' w.heap.size (fun _ => True) s_.1 t484) ∧ (w'.heap[gb482]? = some (.cells #[.int .i64 a0_0, .slice A0_1 l0_1.length c0_1, .slice A0_2 l0_2.length c0_2] 37 (0, 0))) ∧ (w'.heap[gb483]? = some (.cells #[.int .i64 0, .slice none 0 0, .slice none 0 0] 37 (0, 0))) ∧ (w'.heap[s_.2]? = some (.cells #[.int .i64 0, .slice none 0 0, .slice none 0 0] 37 (0, 0))) ∧ (w.heap.size ≤ s_.2) ∧ (w.heap.size ≤ s_.2) ∧ (gb482 ≠ s_.2) ∧ (s_.2 ≠ gb482) ∧ (gb483 ≠ s_.2) ∧ (s_.2 ≠ gb483) ∧ (Below w.heap.size w w')) ?_ ?_
 rotate_left
 ·intro hCont
  refine two_ (i := 4) (j := 6) (Ni := some 10) (Nj := some 3) #[true, true, true, true, true, false, false, false] #[true, true, true, true, false, false, true, false] rfl rfl rfl rfl (two_of HT_.out (by kernel_rfl)) (by decide) (by decide) (fun K hK => ?_) (fun K hK => ?_)
  ·skip
   refine goes_ Try.func47 (by kernel_rfl) rfl #[.slice A0_1 l0_1.length c0_1] (by rfl) rfl rfl (by (try simp only [List.map_toArray, List.map_cons, List.map_nil]); first | done | rfl | (simp only [List.length_drop, List.length_take]; rfl)) ?_
   with_reducible refine (slices_Clone_int_int.calls _ _ l0_1 t484 _ ?side1 ?side2 A2.out).mono ?_
   (case side1 => exact Kd.Cz ((Kd.C_below HR0_1.out HB.out)))
   (case side2 => exact HC0_1.out)
   rintro e w6 ⟨v485, rfl, ho0, hb⟩
   refine ⟨_, rfl, ?_⟩
   have n0_ := yam (Kd.R_lower ho0 (below_size yhb))
   have n1_ := yam (blk_below (g := gb482) (o := .cells #[.int .i64 a0_0, .slice A0_1 l0_1.length c0_1, .slice A0_2 l0_2.length c0_2] 37 (0, 0)) (ybz BK482.out) hb)
   have n2_ := yam (blk_below (g := gb483) (o := .cells #[.int .i64 0, .slice none 0 0, .slice none 0 0] 37 (0, 0)) (ybz BK483.out) hb)
   have n3_ := yam (below_step yhb hb)
   clear BK482
   clear BK483
   clear HB
   have HO486 := n0_
   have BK482 := n1_
   have BK483 := n2_
   have HB := n3_
   clear n0_ n1_ n2_ n3_
   (try clear hb)
   (try clear hb2)
   (try clear hk)
   (try clear hi)
   (try clear ho0)
   obtain ⟨Ao7, co7, eo7⟩ := Kd.R_slice HO486.out
   (first | subst eo7 | (injection eo7 with f1_ f2_ f3_; have f4_ := f1_.symm; have f5_ := f3_.symm; clear f1_ f2_ f3_; subst f4_; subst f5_))
   refine hK.out _ _ ⟨(blk_cell BK482.out 0).trans rfl, (blk_cell BK482.out 1).trans rfl, (blk_cell BK482.out 2).trans rfl⟩ (fun hHeld => ?_)
   clear hK K
   refine norm_ (a' := ?_) ?_ ?_
   rotate_left
   ·show Act.put _ (some 10) _ = _
    simp only [Act.put, yps, i64_w, i32_w]
    rfl
   refine yvp 5 11 (yvb 8 63) HT_.out ?_
   refine one_ (i := 6) (N := some 3) #[true, true, true, true, true, true, true, false] rfl rfl (one_of HT_.out (by kernel_rfl)) (by decide) (fun K hK => ?_)
   refine box_step ?hg (N := 3) ?hd (cs := #[.int .i64 0, .slice none 0 0, .slice none 0 0]) (t := 37) ?hr ?_; (case hd => rfl); (case hg => rfl); (case hr => first | (go_simp; done) | (go_simp; rfl))
   intro gb487 hg w8 hbox hb
   have n0_ := yam (Kd.R_below (Kd.Yz HO486.out) hb)
   have n1_ := yam (blk_below (g := gb482) (o := .cells #[.int .i64 a0_0, .slice A0_1 l0_1.length c0_1, .slice A0_2 l0_2.length c0_2] 37 (0, 0)) (ybz BK482.out) hb)
   have n2_ := yam (blk_below (g := gb483) (o := .cells #[.int .i64 0, .slice none 0 0, .slice none 0 0] 37 (0, 0)) (ybz BK483.out) hb)
   have n3_ := yam (below_step yhb hb)
   have n4_ := yam (hbox)
   have n5_ := yam ((by rw [hg]; exact (below_size yhb) : w.heap.size ≤ gb487))
   have n6_ := yam ((by rw [hg]; exact (below_size yhb) : w.heap.size ≤ gb487))
   have n7_ := yam ((by rw [hg]; exact Nat.ne_of_lt (blk_lt (g := gb482) (o := .cells #[.int .i64 a0_0, .slice A0_1 l0_1.length c0_1, .slice A0_2 l0_2.length c0_2] 37 (0, 0)) (ybz BK482.out)) : gb482 ≠ gb487))
   have n8_ := yam ((by rw [hg]; exact Nat.ne_of_gt (blk_lt (g := gb482) (o := .cells #[.int .i64 a0_0, .slice A0_1 l0_1.length c0_1, .slice A0_2 l0_2.length c0_2] 37 (0, 0)) (ybz BK482.out)) : gb487 ≠ gb482))
   have n9_ := yam ((by rw [hg]; exact Nat.ne_of_lt (blk_lt (g := gb483) (o := .cells #[.int .i64 0, .slice none 0 0, .slice none 0 0] 37 (0, 0)) (ybz BK483.out)) : gb483 ≠ gb487))
   have n10_ := yam ((by rw [hg]; exact Nat.ne_of_gt (blk_lt (g := gb483) (o := .cells #[.int .i64 0, .slice none 0 0, .slice none 0 0] 37 (0, 0)) (ybz BK483.out)) : gb487 ≠ gb483))
   clear HO486
   clear BK482
   clear BK483
   clear HB
   have HO486 := n0_
   have BK482 := n1_
   have BK483 := n2_
   have HB := n3_
   have BK487 := n4_
   have GW487 := n5_
   have GE487 := n6_
   have NB482_487 := n7_
   have NB487_482 := n8_
   have NB483_487 := n9_
   have NB487_483 := n10_
   clear n0_ n1_ n2_ n3_ n4_ n5_ n6_ n7_ n8_ n9_ n10_
   clear hb hbox hg
   refine hK.out _ _ ⟨(blk_cell BK482.out 0).trans rfl, (blk_cell BK482.out 1).trans rfl, (blk_cell BK482.out 2).trans rfl⟩ (fun hHeld => ?_)
   clear hK K
   refine norm_ (a' := ?_) ?_ ?_
   rotate_left
   ·show Act.put _ (some 3) _ = _
    simp only [Act.put, yps, i64_w, i32_w]
    rfl
   exact norm_ (by simp only [putAll, Act.put, yps]) (hCont (.slice Ao7 t484.length co7, gb487) _ ⟨hHeld, (Kd.Yz HO486.out), (ybz BK482.out), (ybz BK483.out), (ybz BK487.out), GW487.out, GE487.out, NB482_487.out, NB487_482.out, NB483_487.out, NB487_483.out, yhb⟩)
  ·skip
   refine box_step ?hg (N := 3) ?hd (cs := #[.int .i64 0, .slice none 0 0, .slice none 0 0]) (t := 37) ?hr ?_; (case hd => rfl); (case hg => rfl); (case hr => first | (go_simp; done) | (go_simp; rfl))
   intro gb487 hg w6 hbox hb
   have n0_ := yam (blk_below (g := gb482) (o := .cells #[.int .i64 a0_0, .slice A0_1 l0_1.length c0_1, .slice A0_2 l0_2.length c0_2] 37 (0, 0)) (ybz BK482.out) hb)
   have n1_ := yam (blk_below (g := gb483) (o := .cells #[.int .i64 0, .slice none 0 0, .slice none 0 0] 37 (0, 0)) (ybz BK483.out) hb)
   have n2_ := yam (below_step yhb hb)
   have n3_ := yam (hbox)
   have n4_ := yam ((by rw [hg]; exact (below_size yhb) : w.heap.size ≤ gb487))
   have n5_ := yam ((by rw [hg]; exact (below_size yhb) : w.heap.size ≤ gb487))
   have n6_ := yam ((by rw [hg]; exact Nat.ne_of_lt (blk_lt (g := gb482) (o := .cells #[.int .i64 a0_0, .slice A0_1 l0_1.length c0_1, .slice A0_2 l0_2.length c0_2] 37 (0, 0)) (ybz BK482.out)) : gb482 ≠ gb487))
   have n7_ := yam ((by rw [hg]; exact Nat.ne_of_gt (blk_lt (g := gb482) (o := .cells #[.int .i64 a0_0, .slice A0_1 l0_1.length c0_1, .slice A0_2 l0_2.length c0_2] 37 (0, 0)) (ybz BK482.out)) : gb487 ≠ gb482))
   have n8_ := yam ((by rw [hg]; exact Nat.ne_of_lt (blk_lt (g := gb483) (o := .cells #[.int .i64 0, .slice none 0 0, .slice none 0 0] 37 (0, 0)) (ybz BK483.out)) : gb483 ≠ gb487))
   have n9_ := yam ((by rw [hg]; exact Nat.ne_of_gt (blk_lt (g := gb483) (o := .cells #[.int .i64 0, .slice none 0 0, .slice none 0 0] 37 (0, 0)) (ybz BK483.out)) : gb487 ≠ gb483))
   clear BK482
   clear BK483
   clear HB
   have BK482 := n0_
   have BK483 := n1_
   have HB := n2_
   have BK487 := n3_
   have GW487 := n4_
   have GE487 := n5_
   have NB482_487 := n6_
   have NB487_482 := n7_
   have NB483_487 := n8_
   have NB487_483 := n9_
   clear n0_ n1_ n2_ n3_ n4_ n5_ n6_ n7_ n8_ n9_
   clear hb hbox hg
   refine hK.out _ _ ⟨(blk_cell BK482.out 0).trans rfl, (blk_cell BK482.out 1).trans rfl, (blk_cell BK482.out 2).trans rfl⟩ (fun hHeld => ?_)
   clear hK K
   refine norm_ (a' := ?_) ?_ ?_
   rotate_left
   ·show Act.put _ (some 3) _ = _
    simp only [Act.put, yps, i64_w, i32_w]
    rfl
   refine one_ (i := 4) (N := some 10) #[true, true, true, true, true, false, true, false] rfl rfl (one_of HT_.out (by kernel_rfl)) (by decide) (fun K hK => ?_)
   refine goes_ Try.func47 (by kernel_rfl) rfl #[.slice A0_1 l0_1.length c0_1] (by rfl) rfl rfl (by (try simp only [List.map_toArray, List.map_cons, List.map_nil]); first | done | rfl | (simp only [List.length_drop, List.length_take]; rfl)) ?_
   with_reducible refine (slices_Clone_int_int.calls _ _ l0_1 t484 _ ?side1 ?side2 A2.out).mono ?_
   (case side1 => exact Kd.Cz ((Kd.C_below HR0_1.out HB.out)))
   (case side2 => exact HC0_1.out)
   rintro e w7 ⟨v485, rfl, ho0, hb⟩
   refine ⟨_, rfl, ?_⟩
   have n0_ := yam (Kd.R_lower ho0 (below_size yhb))
   have n1_ := yam (blk_below (g := gb482) (o := .cells #[.int .i64 a0_0, .slice A0_1 l0_1.length c0_1, .slice A0_2 l0_2.length c0_2] 37 (0, 0)) (ybz BK482.out) hb)
   have n2_ := yam (blk_below (g := gb483) (o := .cells #[.int .i64 0, .slice none 0 0, .slice none 0 0] 37 (0, 0)) (ybz BK483.out) hb)
   have n3_ := yam (blk_below (g := gb487) (o := .cells #[.int .i64 0, .slice none 0 0, .slice none 0 0] 37 (0, 0)) (ybz BK487.out) hb)
   have n4_ := yam (below_step yhb hb)
   clear BK482
   clear BK483
   clear BK487
   clear HB
   have HO486 := n0_
   have BK482 := n1_
   have BK483 := n2_
   have BK487 := n3_
   have HB := n4_
   clear n0_ n1_ n2_ n3_ n4_
   (try clear hb)
   (try clear hb2)
   (try clear hk)
   (try clear hi)
   (try clear ho0)
   obtain ⟨Ao8, co8, eo8⟩ := Kd.R_slice HO486.out
   (first | subst eo8 | (injection eo8 with f1_ f2_ f3_; have f4_ := f1_.symm; have f5_ := f3_.symm; clear f1_ f2_ f3_; subst f4_; subst f5_))
   refine hK.out _ _ ⟨(blk_cell BK482.out 0).trans rfl, (blk_cell BK482.out 1).trans rfl, (blk_cell BK482.out 2).trans rfl⟩ (fun hHeld => ?_)
   clear hK K
   refine norm_ (a' := ?_) ?_ ?_
   rotate_left
   ·show Act.put _ (some 10) _ = _
    simp only [Act.put, yps, i64_w, i32_w]
    rfl
   refine yvp 5 11 (yvb 8 127) HT_.out ?_
   exact norm_ (by simp only [putAll, Act.put, yps]) (hCont (.slice Ao8 t484.length co8, gb487) _ ⟨hHeld, (Kd.Yz HO486.out), (ybz BK482.out), (ybz BK483.out), (ybz BK487.out), GW487.out, GE487.out, NB482_487.out, NB487_482.out, NB483_487.out, NB487_483.out, yhb⟩)
 rintro ⟨v485, gb487⟩ w9 ⟨hS_, h0_, h1_, h2_, h3_, h4_, h5_, h6_, h7_, h8_, h9_, h10_⟩
 have n0_ : Aside0 (Kd.R (Kd.int .i64) 3 w9 w.heap.size (fun _ => True) v485 t484) := ⟨h0_⟩
 have n1_ : Aside0 (w9.heap[gb482]? = some (.cells #[.int .i64 a0_0, .slice A0_1 l0_1.length c0_1, .slice A0_2 l0_2.length c0_2] 37 (0, 0))) := ⟨h1_⟩
 have n2_ : Aside0 (w9.heap[gb483]? = some (.cells #[.int .i64 0, .slice none 0 0, .slice none 0 0] 37 (0, 0))) := ⟨h2_⟩
 have n3_ : Aside0 (w9.heap[gb487]? = some (.cells #[.int .i64 0, .slice none 0 0, .slice none 0 0] 37 (0, 0))) := ⟨h3_⟩
 have n4_ : Aside0 (w.heap.size ≤ gb487) := ⟨h4_⟩
 have n5_ : Aside0 (w.heap.size ≤ gb487) := ⟨h5_⟩
 have n6_ : Aside0 (gb482 ≠ gb487) := ⟨h6_⟩
 have n7_ : Aside0 (gb487 ≠ gb482) := ⟨h7_⟩
 have n8_ : Aside0 (gb483 ≠ gb487) := ⟨h8_⟩
 have n9_ : Aside0 (gb487 ≠ gb483) := ⟨h9_⟩
 have n10_ : Aside0 (Below w.heap.size w w9) := ⟨h10_⟩
 clear BK482
 clear BK483
 clear HB
 clear h0_ h1_ h2_ h3_ h4_ h5_ h6_ h7_ h8_ h9_ h10_
 have HO486 := n0_
 have BK482 := n1_
 have BK483 := n2_
 have BK487 := n3_
 have GW487 := n4_
 have GE487 := n5_
 have NB482_487 := n6_
 have NB487_482 := n7_
 have NB483_487 := n8_
 have NB487_483 := n9_
 have HB := n10_
 clear n0_ n1_ n2_ n3_ n4_ n5_ n6_ n7_ n8_ n9_ n10_
 have hHeld : w9.cell? ⟨gb482, 0, none⟩ = some (.int .i64 a0_0) ∧ w9.cell? ⟨gb482, 1, none⟩ = some (.slice A0_1 l0_1.length c0_1) ∧ w9.cell? ⟨gb482, 2, none⟩ = some (.slice A0_2 l0_2.length c0_2) := hS_
 obtain ⟨Ao10, co10, eo10⟩ := Kd.R_slice HO486.out
 (first | subst eo10 | (injection eo10 with f1_ f2_ f3_; have f4_ := f1_.symm; have f5_ := f3_.symm; clear f1_ f2_ f3_; subst f4_; subst f5_))
 refine norm_ (a' := ?_) ?_ ?_
 rotate_left
 ·simp only [putAll, Act.put, yps]
  rfl
 refine one_ (i := 7) (N := none) #[true, true, true, true, true, true, true, true] rfl rfl (one_of HT_.out (by kernel_rfl)) (by decide) (fun K hK => ?_)
 have hs11 : w9.cell? ⟨gb487, 0, none⟩ = some (.int .i64 0) := (blk_cell BK487.out 0).trans rfl
 have hfs11 := blk_frozen BK487.out 0
 have hns11_0 := NB482_487.out
 have hns11_1 := NB483_487.out
 have hms11_0 := NB487_482.out
 have hms11_1 := NB487_483.out
 have hs12 : w9.cell? ⟨gb487, 1, none⟩ = some (.slice none 0 0) := (blk_cell BK487.out 1).trans rfl
 have hfs12 := blk_frozen BK487.out 1
 have hns12_0 := NB482_487.out
 have hns12_1 := NB483_487.out
 have hms12_0 := NB487_482.out
 have hms12_1 := NB487_483.out
 have hs13 : w9.cell? ⟨gb487, 2, none⟩ = some (.slice none 0 0) := (blk_cell BK487.out 2).trans rfl
 have hfs13 := blk_frozen BK487.out 2
 have hns13_0 := NB482_487.out
 have hns13_1 := NB483_487.out
 have hms13_0 := NB487_482.out
 have hms13_1 := NB487_483.out
 refine skip_ (w1 := ?_) (by rfl) rfl ?_ ?_
 rotate_left
 ·go_simp
  rfl
 refine hK.out _ _ ⟨((cell_far (p := ⟨gb487, _, none⟩) NB482_487.out _).trans (((cell_far (p := ⟨gb487, _, none⟩) NB482_487.out _).trans (((cell_far (p := ⟨gb487, _, none⟩) NB482_487.out _).trans (hHeld.1)))))), ((cell_far (p := ⟨gb487, _, none⟩) NB482_487.out _).trans (((cell_far (p := ⟨gb487, _, none⟩) NB482_487.out _).trans (((cell_far (p := ⟨gb487, _, none⟩) NB482_487.out _).trans (hHeld.2.1)))))), ((cell_far (p := ⟨gb487, _, none⟩) NB482_487.out _).trans (((cell_far (p := ⟨gb487, _, none⟩) NB482_487.out _).trans (((cell_far (p := ⟨gb487, _, none⟩) NB482_487.out _).trans (hHeld.2.2))))))⟩ (fun hHeld => ?_)
 clear hK K
 refine done_ (done_of HT_.out (by kernel_rfl)) ?_
 have hnb14 := NB482_483.out
 have hnc14 := NB483_482.out
 have hnb15 := NB482_487.out
 have hnc15 := NB487_482.out
 obtain ⟨hcz16_0, hcz16_1, hcz16_2, hfz16_0, hfz16_1, hfz16_2⟩ := ybc BK482.out
 try go_wp2
 go_loopg [15] k (fun kq v15 w' => ∃ (x15_1 : Int) (x488002_1 : List (S73)) (u488002 : Value), v15 = .int .i64 x15_1 ∧ Aside0 (impl_copyPuzzle.l0 kq l0_2 (l0_2.length : Int) x15_1 a0_0 t484 x488002_1 = some (r1, r2, r3)) ∧ Aside0 (kq ≤ k) ∧ Aside0 (Kd.R (Kd.int .i64) 3 w' w.heap.size (fun _ => True) (.slice Ao10 t484.length co10) t484) ∧ Aside0 (Kd.S k73 73 w' w.heap.size (fun k_ => some k_ ≠ ((.slice Ao10 t484.length co10) : Value).ownBlock) u488002 x488002_1) ∧ Aside0 (w'.heap[gb482]? = some (.cells #[.int .i64 a0_0, (.slice A0_1 l0_1.length c0_1), (.slice A0_2 l0_2.length c0_2)] 37 (0, 0))) ∧ Aside0 (w'.heap[gb483]? = some (.cells #[.int .i64 0, (.slice none 0 0), (.slice none 0 0)] 37 (0, 0))) ∧ Aside0 (w'.heap[gb487]? = some (.cells #[.int .i64 a0_0, (.slice Ao10 t484.length co10), u488002] 37 (0, 0))) ∧ Aside0 (Below w.heap.size w w'))
 case atStart => exact ⟨(0), (([] : List (S73))), (.slice none 0 0), yeq, H', ⟨Nat.le_refl _⟩, ⟨by (with_reducible repeat (first | apply Kd.Ya | apply Kd.Yn | apply Kd.Yd)); exact Kd.R_mono (Kd.R_far (p := ⟨gb487, 2, none⟩) (Kd.R_far (p := ⟨gb487, 1, none⟩) (Kd.R_far (p := ⟨gb487, 0, none⟩) (Kd.R_types HO486.out BK487.out (by decide)) (fun _ hk => hk.2) (.int .i64 a0_0)) (fun _ hk => hk.2) (.slice Ao10 t484.length co10)) (fun _ hk => hk.2) (.slice none 0 0)) (fun _ hk => trivial)⟩, ⟨by first | exact Kd.S_nil _ _ _ _ _ | exact Kd.N_nil _ _ _ _ _ | exact Kd.V_nil _ _ _ _ _ | exact Kd.Q_nil _ _ _ _ _ | exact Kd.R_nil _ _ _ _ _⟩, ⟨by (with_reducible repeat (first | refine ybn ?_ _ | refine ybd ?_ | refine yba ?_ _)); refine blk_far ?_ NB482_487.out _; (with_reducible repeat (first | refine ybn ?_ _ | refine ybd ?_ | refine yba ?_ _)); refine blk_far ?_ NB482_487.out _; (with_reducible repeat (first | refine ybn ?_ _ | refine ybd ?_ | refine yba ?_ _)); refine blk_far ?_ NB482_487.out _; (with_reducible repeat (first | refine ybn ?_ _ | refine ybd ?_ | refine yba ?_ _)); exact BK482.out⟩, ⟨by (with_reducible repeat (first | refine ybn ?_ _ | refine ybd ?_ | refine yba ?_ _)); refine blk_far ?_ NB483_487.out _; (with_reducible repeat (first | refine ybn ?_ _ | refine ybd ?_ | refine yba ?_ _)); refine blk_far ?_ NB483_487.out _; (with_reducible repeat (first | refine ybn ?_ _ | refine ybd ?_ | refine yba ?_ _)); refine blk_far ?_ NB483_487.out _; (with_reducible repeat (first | refine ybn ?_ _ | refine ybd ?_ | refine yba ?_ _)); exact BK483.out⟩, ⟨by (with_reducible repeat (first | refine ybn ?_ _ | refine ybd ?_ | refine yba ?_ _)); refine blk_put (cs := #[.int .i64 a0_0, .slice Ao10 t484.length co10, .slice none 0 0]) ?_ 2 _ rfl; (with_reducible repeat (first | refine ybn ?_ _ | refine ybd ?_ | refine yba ?_ _)); refine blk_put (cs := #[.int .i64 a0_0, .slice none 0 0, .slice none 0 0]) ?_ 1 _ rfl; (with_reducible repeat (first | refine ybn ?_ _ | refine ybd ?_ | refine yba ?_ _)); refine blk_put (cs := #[.int .i64 0, .slice none 0 0, .slice none 0 0]) ?_ 0 _ rfl; (with_reducible repeat (first | refine ybn ?_ _ | refine ybd ?_ | refine yba ?_ _)); exact BK487.out⟩, ⟨yhb⟩⟩
 case round =>
  clear H'
  try clear c1
  try clear p2
  try clear c4
  try clear c5
  try clear c14
  try clear c15
  try clear hcz16_0
  try clear hcz16_1
  try clear hcz16_2
  try clear hfz16_0
  try clear hfz16_1
  try clear hfz16_2
  obtain ⟨x15_1, x488002_1, u488002, rfl, HA, HK1, HO_488001, HO_488002, BK482, BK483, BK487, HB⟩ := hrel
  cases gk with
  | zero => exact absurd HA.out (by simp [impl_copyPuzzle.l0])
  | succ k1 =>
   have H := HA.out
   clear HA
   simp only [impl_copyPuzzle.l0] at H
   by_cases c17 : x15_1 < (l0_2.length : Int)
   rotate_left
   ·rw [if_neg c17] at H
    have c17b0 : decide (x15_1 < (l0_2.length : Int)) = false := decide_eq_false c17
    clear c17
    simp only [Option.some.injEq, Prod.mk.injEq] at H
    obtain ⟨rfl, rfl, rfl⟩ := H
    have hnb38 := NB487_482.out
    have hnc38 := NB482_487.out
    have hnb39 := NB487_483.out
    have hnc39 := NB483_487.out
    obtain ⟨hcz40_0, hcz40_1, hcz40_2, hfz40_0, hfz40_1, hfz40_2⟩ := ybc BK487.out
    have hnb41 := NB483_482.out
    have hnc41 := NB482_483.out
    obtain ⟨hcz42_0, hcz42_1, hcz42_2, hfz42_0, hfz42_1, hfz42_2⟩ := ybc BK483.out
    obtain ⟨Ao43, co43, eo43⟩ := Kd.S_slice HO_488002.out
    subst eo43
    go_wp2
    refine bodyPost_ret (results_cell_row rfl _ _ gb483 37 #[.int .i64 a0_0, .slice Ao10 t484.length co10, .slice Ao43 x488002_1.length co43] (0, 0) _ rfl (by (with_reducible repeat (first | refine ybn ?_ _ | refine ybd ?_ | refine yba ?_ _)); refine blk_put (cs := #[.int .i64 a0_0, .slice Ao10 t484.length co10, .slice none 0 0]) ?_ 2 _ rfl; (with_reducible repeat (first | refine ybn ?_ _ | refine ybd ?_ | refine yba ?_ _)); refine blk_put (cs := #[.int .i64 a0_0, .slice none 0 0, .slice none 0 0]) ?_ 1 _ rfl; (with_reducible repeat (first | refine ybn ?_ _ | refine ybd ?_ | refine yba ?_ _)); refine blk_put (cs := #[.int .i64 0, .slice none 0 0, .slice none 0 0]) ?_ 0 _ rfl; (with_reducible repeat (first | refine ybn ?_ _ | refine ybd ?_ | refine yba ?_ _)); exact BK483.out) Try.underlying37 rfl (by kernel_rfl)) rfl ?_
    exact ⟨_, _, yer, by (with_reducible repeat (first | apply Kd.Ya | apply Kd.Yn | apply Kd.Yd)); exact Kd.R_mono (Kd.R_far (p := ⟨gb483, 2, none⟩) (Kd.R_far (p := ⟨gb483, 1, none⟩) (Kd.R_far (p := ⟨gb483, 0, none⟩) (Kd.R_types HO_488001.out BK483.out (by decide)) (fun _ hk => hk.2) (.int .i64 a0_0)) (fun _ hk => hk.2) (.slice Ao10 t484.length co10)) (fun _ hk => hk.2) (.slice Ao43 x488002_1.length co43)) (fun _ hk => trivial), by (with_reducible repeat (first | apply Kd.S_alloc | apply Kd.S_drewN | apply Kd.S_drew)); exact Kd.S_mono (Kd.S_far (p := ⟨gb483, 2, none⟩) (Kd.S_far (p := ⟨gb483, 1, none⟩) (Kd.S_far (p := ⟨gb483, 0, none⟩) (Kd.S_types HO_488002.out BK483.out (by decide)) (fun _ hk => hk.2) (.int .i64 a0_0)) (fun _ hk => hk.2) (.slice Ao10 t484.length co10)) (fun _ hk => hk.2) (.slice Ao43 x488002_1.length co43)) (fun _ hk => hk.1), yhb⟩

   rw [if_pos c17] at H
   have c17b0 : decide (x15_1 < (l0_2.length : Int)) = true := decide_eq_true c17
   clear c17
   by_cases c18 : 0 ≤ x15_1
   rotate_left
   ·rw [if_neg c18] at H
    exact absurd H (by simp)
   rw [if_pos c18] at H
   have c18b0 : decide (0 ≤ x15_1) = true := decide_eq_true c18
   clear c18
   by_cases c19 : x15_1 < (l0_2.length : Int)
   rotate_left
   ·rw [if_neg c19] at H
    exact absurd H (by simp)
   rw [if_pos c19] at H
   have c19b0 : decide (x15_1 < (l0_2.length : Int)) = true := decide_eq_true c19
   clear c19
   replace H := Option.bind_eq_some_iff.mp H
   obtain ⟨t490, A200, H⟩ := H
   replace H : (if x488002_1.length < 3518437208883 then (impl_copyPuzzle.l0 k1 l0_2 (l0_2.length : Int) (wrap64 (x15_1 + 1)) a0_0 t484 (x488002_1 ++ [(⟨(rd_T73 l0_2 x15_1).f0, t490, (rd_T73 l0_2 x15_1).f2⟩ : S73)])) else (none)) = some (r1, r2, r3) := H
   have A20 := yam A200
   clear A200
   by_cases c21 : x488002_1.length < 3518437208883
   rotate_left
   ·rw [if_neg c21] at H
    exact absurd H (by simp)
   rw [if_pos c21] at H
   have LMc21 := yam c21
   clear c21
   obtain ⟨y493, hy493⟩ : ∃ y_ : List (S73), y_ = (x488002_1 ++ [(⟨(rd_T73 l0_2 x15_1).f0, t490, (rd_T73 l0_2 x15_1).f2⟩ : S73)]) := ⟨_, rfl⟩
   replace H : (impl_copyPuzzle.l0 k1 l0_2 (l0_2.length : Int) (wrap64 (x15_1 + 1)) a0_0 t484 y493) = some (r1, r2, r3) := by first | (rw [hy493]; with_reducible exact H) | (have H2_ := (Option.bind_some _ _).symm.trans H; rw [hy493]; with_reducible exact H2_) | (have H2_ := (Option.bind_some _ _).symm.trans H; with_reducible exact H2_) | with_reducible exact H | (rw [hy493]; exact H) | exact H
   have Ny493 := yam hy493
   clear hy493
   have H' := yam H
   clear H
   have p488 : 0 ≤ (x15_1 : Int) := of_decide_eq_true (by first | (with_reducible assumption) | assumption)
   have q488 : x15_1 < (l0_2.length : Int) := of_decide_eq_true (by first | (with_reducible assumption) | assumption)
   obtain ⟨ad488, A488_1, c488_1, e488, hx488_0, hx488_1, hx488_2, hl488_1, hi488_1⟩ := at_T73 HR0_2.out x15_1 p488 q488
   cases e488
   replace hx488_0 := ybx HB.out hx488_0
   replace hx488_1 := ybx HB.out hx488_1
   replace hx488_2 := ybx HB.out hx488_2
   have HR488_1 := yam hi488_1
   have HC488_1 := yam hl488_1
   clear hi488_1 hl488_1
   replace p488 := eq_true p488
   replace q488 := eq_true q488
   go_wp2_with (first | ((with_reducible refine gate_dst (N := 5) rfl ?_); refine box_event ?hg (N := 5) ?hd (cs := #[.int .i64 0, .slice none 0 0, .int .i64 0]) (t := 73) ?hr ?_; (case hd => rfl); (case hg => rfl); (case hr => first | (go_simp; done) | (go_simp; rfl)); intro gb489 hg w22 hbox hb; have n0_ := yam (Kd.R_below (Kd.Yz HO_488001.out) hb); have n1_ := yam (Kd.S_below (Kd.S_elderB (by (with_reducible repeat (first | apply Kd.S_alloc | apply Kd.S_drewN | apply Kd.S_drew)); exact HO_488002.out) gb489 (Nat.le_of_eq hg.symm)) hb); have n2_ := yam (blk_below (g := gb482) (o := .cells #[.int .i64 a0_0, .slice A0_1 l0_1.length c0_1, .slice (some ad488) l0_2.length c0_2] 37 (0, 0)) (ybz BK482.out) hb); have n3_ := yam (blk_below (g := gb483) (o := .cells #[.int .i64 0, .slice none 0 0, .slice none 0 0] 37 (0, 0)) (ybz BK483.out) hb); have n4_ := yam (blk_below (g := gb487) (o := .cells #[.int .i64 a0_0, .slice Ao10 t484.length co10, u488002] 37 (0, 0)) (ybz BK487.out) hb); have n5_ := yam (below_step yhb hb); have n6_ := yam (hbox); have n7_ := yam ((by rw [hg]; exact (below_size yhb) : w.heap.size ≤ gb489)); have n8_ := n7_; have n9_ := yam ((by rw [hg]; exact Nat.ne_of_lt (blk_lt (g := gb482) (o := .cells #[.int .i64 a0_0, .slice A0_1 l0_1.length c0_1, .slice (some ad488) l0_2.length c0_2] 37 (0, 0)) (ybz BK482.out)) : gb482 ≠ gb489)); have n10_ := yam ((by rw [hg]; exact Nat.ne_of_gt (blk_lt (g := gb482) (o := .cells #[.int .i64 a0_0, .slice A0_1 l0_1.length c0_1, .slice (some ad488) l0_2.length c0_2] 37 (0, 0)) (ybz BK482.out)) : gb489 ≠ gb482)); have n11_ := yam ((by rw [hg]; exact Nat.ne_of_lt (blk_lt (g := gb483) (o := .cells #[.int .i64 0, .slice none 0 0, .slice none 0 0] 37 (0, 0)) (ybz BK483.out)) : gb483 ≠ gb489)); have n12_ := yam ((by rw [hg]; exact Nat.ne_of_gt (blk_lt (g := gb483) (o := .cells #[.int .i64 0, .slice none 0 0, .slice none 0 0] 37 (0, 0)) (ybz BK483.out)) : gb489 ≠ gb483)); have n13_ := yam ((by rw [hg]; exact Nat.ne_of_lt (blk_lt (g := gb487) (o := .cells #[.int .i64 a0_0, .slice Ao10 t484.length co10, u488002] 37 (0, 0)) (ybz BK487.out)) : gb487 ≠ gb489)); have n14_ := yam ((by rw [hg]; exact Nat.ne_of_gt (blk_lt (g := gb487) (o := .cells #[.int .i64 a0_0, .slice Ao10 t484.length co10, u488002] 37 (0, 0)) (ybz BK487.out)) : gb489 ≠ gb487)); clear HO_488001; clear HO_488002; clear BK482; clear BK483; clear BK487; clear HB; have HO_488001 := n0_; have HO_488002 := n1_; have BK482 := n2_; have BK483 := n3_; have BK487 := n4_; have HB := n5_; have BK489 := n6_; have GW489 := n7_; have GE489 := n8_; have NB482_489 := n9_; have NB489_482 := n10_; have NB483_489 := n11_; have NB489_483 := n12_; have NB487_489 := n13_; have NB489_487 := n14_; clear n0_ n1_ n2_ n3_ n4_ n5_ n6_ n7_ n8_ n9_ n10_ n11_ n12_ n13_ n14_; clear hb hbox hg; have hnb23 := NB489_482.out; have hnc23 := NB482_489.out; have hnb24 := NB489_483.out; have hnc24 := NB483_489.out; have hnb25 := NB489_487.out; have hnc25 := NB487_489.out; obtain ⟨hcz26_0, hcz26_1, hcz26_2, hfz26_0, hfz26_1, hfz26_2⟩ := ybc BK489.out) | ((with_reducible refine gate_callee (f := 47) rfl ?_); refine goesL_ (some 21) rfl rfl Try.func47 (by kernel_rfl) rfl #[.slice A488_1 ((rd_T73 l0_2 x15_1).f1).length c488_1] rfl (by (try simp only [List.map_toArray, List.map_cons, List.map_nil]); first | done | rfl | (simp only [List.length_drop, List.length_take]; rfl)) ?_; (with_reducible refine (slices_Clone_int_int.calls _ _ ((rd_T73 l0_2 x15_1).f1) t490 _ ?side1 ?side2 A20.out).mono ?_); (case side1 => exact Kd.C_below HR488_1.out yhb); (case side2 => exact HC488_1.out); rintro e w27 ⟨v491, rfl, ho0, hb⟩; refine ⟨_, rfl, ?_⟩; have n0_ := yam (Kd.Ye (by (with_reducible repeat (first | apply Kd.Ya | apply Kd.Yn | apply Kd.Yd)); exact (Kd.R_mono (Kd.R_far (p := ⟨gb489, 2, none⟩) (Kd.R_far (p := ⟨gb489, 1, none⟩) (Kd.R_far (p := ⟨gb489, 0, none⟩) (Kd.R_types HO_488001.out BK489.out (by decide)) (fun _ hk => hk.2) (.int .i64 ((rd_T73 l0_2 x15_1).f0))) (fun _ hk => hk.2) (.slice A488_1 ((rd_T73 l0_2 x15_1).f1).length c488_1)) (fun _ hk => hk.2) (.int .i64 ((rd_T73 l0_2 x15_1).f2))) (fun _ h_ => h_.1))) (Kd.Yb ho0) hb); have n1_ := yam (Kd.S_elder' (by (with_reducible repeat (first | apply Kd.S_alloc | apply Kd.S_drewN | apply Kd.S_drew)); exact (Kd.S_mono (Kd.S_far (p := ⟨gb489, 2, none⟩) (Kd.S_far (p := ⟨gb489, 1, none⟩) (Kd.S_far (p := ⟨gb489, 0, none⟩) (Kd.S_mono HO_488002.out (fun k_ hk => (⟨hk, hk.2⟩ : _ ∧ k_ ≠ gb489))) (fun _ hk => hk.2) (.int .i64 ((rd_T73 l0_2 x15_1).f0))) (fun _ hk => hk.2) (.slice A488_1 ((rd_T73 l0_2 x15_1).f1).length c488_1)) (fun _ hk => hk.2) (.int .i64 ((rd_T73 l0_2 x15_1).f2))) (fun _ h_ => h_.1))) (Kd.Yb ho0) hb); have n2_ := yam (Kd.R_lower (Kd.Yw ho0 (Kd.R_lt (by (with_reducible repeat (first | apply Kd.Ya | apply Kd.Yn | apply Kd.Yd)); exact (Kd.R_mono (Kd.R_far (p := ⟨gb489, 2, none⟩) (Kd.R_far (p := ⟨gb489, 1, none⟩) (Kd.R_far (p := ⟨gb489, 0, none⟩) (Kd.R_types HO_488001.out BK489.out (by decide)) (fun _ hk => hk.2) (.int .i64 ((rd_T73 l0_2 x15_1).f0))) (fun _ hk => hk.2) (.slice A488_1 ((rd_T73 l0_2 x15_1).f1).length c488_1)) (fun _ hk => hk.2) (.int .i64 ((rd_T73 l0_2 x15_1).f2))) (fun _ h_ => h_.1))))) (below_size yhb)); have n3_ := yam (blk_below (g := gb482) (o := .cells #[.int .i64 a0_0, .slice A0_1 l0_1.length c0_1, .slice (some ad488) l0_2.length c0_2] 37 (0, 0)) (by (with_reducible repeat (first | refine ybn ?_ _ | refine ybd ?_ | refine yba ?_ _)); refine blk_far ?_ NB482_489.out _; (with_reducible repeat (first | refine ybn ?_ _ | refine ybd ?_ | refine yba ?_ _)); refine blk_far ?_ NB482_489.out _; (with_reducible repeat (first | refine ybn ?_ _ | refine ybd ?_ | refine yba ?_ _)); refine blk_far ?_ NB482_489.out _; (with_reducible repeat (first | refine ybn ?_ _ | refine ybd ?_ | refine yba ?_ _)); exact BK482.out) hb); have n4_ := yam (blk_below (g := gb483) (o := .cells #[.int .i64 0, .slice none 0 0, .slice none 0 0] 37 (0, 0)) (by (with_reducible repeat (first | refine ybn ?_ _ | refine ybd ?_ | refine yba ?_ _)); refine blk_far ?_ NB483_489.out _; (with_reducible repeat (first | refine ybn ?_ _ | refine ybd ?_ | refine yba ?_ _)); refine blk_far ?_ NB483_489.out _; (with_reducible repeat (first | refine ybn ?_ _ | refine ybd ?_ | refine yba ?_ _)); refine blk_far ?_ NB483_489.out _; (with_reducible repeat (first | refine ybn ?_ _ | refine ybd ?_ | refine yba ?_ _)); exact BK483.out) hb); have n5_ := yam (blk_below (g := gb487) (o := .cells #[.int .i64 a0_0, .slice Ao10 t484.length co10, u488002] 37 (0, 0)) (by (with_reducible repeat (first | refine ybn ?_ _ | refine ybd ?_ | refine yba ?_ _)); refine blk_far ?_ NB487_489.out _; (with_reducible repeat (first | refine ybn ?_ _ | refine ybd ?_ | refine yba ?_ _)); refine blk_far ?_ NB487_489.out _; (with_reducible repeat (first | refine ybn ?_ _ | refine ybd ?_ | refine yba ?_ _)); refine blk_far ?_ NB487_489.out _; (with_reducible repeat (first | refine ybn ?_ _ | refine ybd ?_ | refine yba ?_ _)); exact BK487.out) hb); have n6_ := yam (blk_below (g := gb489) (o := .cells #[.int .i64 ((rd_T73 l0_2 x15_1).f0), .slice A488_1 ((rd_T73 l0_2 x15_1).f1).length c488_1, .int .i64 ((rd_T73 l0_2 x15_1).f2)] 73 (0, 0)) (by (with_reducible repeat (first | refine ybn ?_ _ | refine ybd ?_ | refine yba ?_ _)); refine blk_put (cs := #[.int .i64 ((rd_T73 l0_2 x15_1).f0), .slice A488_1 ((rd_T73 l0_2 x15_1).f1).length c488_1, .int .i64 0]) ?_ 2 _ rfl; (with_reducible repeat (first | refine ybn ?_ _ | refine ybd ?_ | refine yba ?_ _)); refine blk_put (cs := #[.int .i64 ((rd_T73 l0_2 x15_1).f0), .slice none 0 0, .int .i64 0]) ?_ 1 _ rfl; (with_reducible repeat (first | refine ybn ?_ _ | refine ybd ?_ | refine yba ?_ _)); refine blk_put (cs := #[.int .i64 0, .slice none 0 0, .int .i64 0]) ?_ 0 _ rfl; (with_reducible repeat (first | refine ybn ?_ _ | refine ybd ?_ | refine yba ?_ _)); exact BK489.out) hb); have n7_ := yam (below_step yhb hb); clear HO_488001; clear HO_488002; clear BK482; clear BK483; clear BK487; clear BK489; clear HB; have HO_488001 := n0_; have HO_488002 := n1_; have HO492 := n2_; have BK482 := n3_; have BK483 := n4_; have BK487 := n5_; have BK489 := n6_; have HB := n7_; clear n0_ n1_ n2_ n3_ n4_ n5_ n6_ n7_; (try clear hb); (try clear hb2); (try clear hk); (try clear hi); (try clear ho0); obtain ⟨Ao28, co28, eo28⟩ := Kd.R_slice HO492.out; subst eo28; obtain ⟨hcz29_0, hcz29_1, hcz29_2, hfz29_0, hfz29_1, hfz29_2⟩ := ybc BK489.out) | ((with_reducible refine gate_store (t := 22) (p := 22) rfl ?_); refine store_event (t := 22) (p := 22) (v := ?vo_w30) (w1 := (w27.setCell ⟨gb489, 1, none⟩ (.slice Ao28 t490.length co28))) ?hg ?ho ?hn ?hr ?_; (case ho => rfl); (case hg => rfl); (case hn => rfl); (case hr => first | (go_simp; done) | (go_simp; rfl)); intro w30 hw; have n0_ : Aside0 (Kd.R (Kd.int .i64) 3 w30 w.heap.size (fun k_ => some k_ ≠ (.slice Ao28 t490.length co28 : Value).ownBlock) (.slice Ao10 t484.length co10) t484) := ⟨(by rw [hw]; exact (by (with_reducible repeat (first | apply Kd.Ya | apply Kd.Yn | apply Kd.Yd)); exact Kd.R_mono (Kd.R_far (p := ⟨gb489, 1, none⟩) (Kd.R_types HO_488001.out BK489.out (by decide)) (fun _ hk => hk.2) (.slice Ao28 t490.length co28)) (fun _ hk => hk.1.2)))⟩; have n1_ : Aside0 (Kd.S k73 73 w30 w.heap.size (fun k_ => some k_ ≠ (.slice Ao10 t484.length co10 : Value).ownBlock ∧ some k_ ≠ (.slice Ao28 t490.length co28 : Value).ownBlock ∧ k_ ≠ gb489) u488002 x488002_1) := ⟨(by rw [hw]; exact (by (with_reducible repeat (first | apply Kd.S_alloc | apply Kd.S_drewN | apply Kd.S_drew)); exact Kd.S_mono (Kd.S_far (p := ⟨gb489, 1, none⟩) (Kd.S_mono HO_488002.out (fun k_ hk => (⟨hk, hk.1.2⟩ : _ ∧ k_ ≠ gb489))) (fun _ hk => hk.2) (.slice Ao28 t490.length co28)) (fun _ hk => ⟨hk.1.1.1, ⟨hk.1.2, hk.1.1.2⟩⟩)))⟩; have n2_ : Aside0 (Kd.R (Kd.int .i64) 3 w30 w.heap.size (fun k_ => some k_ ≠ (.slice Ao10 t484.length co10 : Value).ownBlock) (.slice Ao28 t490.length co28) t490) := ⟨(by rw [hw]; exact (by (with_reducible repeat (first | apply Kd.Ya | apply Kd.Yn | apply Kd.Yd)); exact Kd.R_mono (Kd.R_far (p := ⟨gb489, 1, none⟩) (Kd.R_types HO492.out BK489.out (by decide)) (fun _ hk => hk.2) (.slice Ao28 t490.length co28)) (fun _ hk => hk.1.2)))⟩; have n3_ : Aside0 (w30.heap[gb482]? = some (.cells #[.int .i64 a0_0, .slice A0_1 l0_1.length c0_1, .slice (some ad488) l0_2.length c0_2] 37 (0, 0))) := ⟨(by rw [hw]; exact (by (with_reducible repeat (first | refine ybn ?_ _ | refine ybd ?_ | refine yba ?_ _)); refine blk_far ?_ NB482_489.out _; (with_reducible repeat (first | refine ybn ?_ _ | refine ybd ?_ | refine yba ?_ _)); exact BK482.out))⟩; have n4_ : Aside0 (w30.heap[gb483]? = some (.cells #[.int .i64 0, .slice none 0 0, .slice none 0 0] 37 (0, 0))) := ⟨(by rw [hw]; exact (by (with_reducible repeat (first | refine ybn ?_ _ | refine ybd ?_ | refine yba ?_ _)); refine blk_far ?_ NB483_489.out _; (with_reducible repeat (first | refine ybn ?_ _ | refine ybd ?_ | refine yba ?_ _)); exact BK483.out))⟩; have n5_ : Aside0 (w30.heap[gb487]? = some (.cells #[.int .i64 a0_0, .slice Ao10 t484.length co10, u488002] 37 (0, 0))) := ⟨(by rw [hw]; exact (by (with_reducible repeat (first | refine ybn ?_ _ | refine ybd ?_ | refine yba ?_ _)); refine blk_far ?_ NB487_489.out _; (with_reducible repeat (first | refine ybn ?_ _ | refine ybd ?_ | refine yba ?_ _)); exact BK487.out))⟩; have n6_ : Aside0 (w30.heap[gb489]? = some (.cells #[.int .i64 ((rd_T73 l0_2 x15_1).f0), .slice Ao28 t490.length co28, .int .i64 ((rd_T73 l0_2 x15_1).f2)] 73 (0, 0))) := ⟨(by rw [hw]; exact (by (with_reducible repeat (first | refine ybn ?_ _ | refine ybd ?_ | refine yba ?_ _)); refine blk_put (cs := #[.int .i64 ((rd_T73 l0_2 x15_1).f0), .slice A488_1 ((rd_T73 l0_2 x15_1).f1).length c488_1, .int .i64 ((rd_T73 l0_2 x15_1).f2)]) ?_ 1 _ rfl; (with_reducible repeat (first | refine ybn ?_ _ | refine ybd ?_ | refine yba ?_ _)); exact BK489.out))⟩; have n7_ : Aside0 (Below w.heap.size w w30) := ⟨(by rw [hw]; exact yhb)⟩; clear hw; clear HO_488001; clear HO_488002; clear HO492; clear BK482; clear BK483; clear BK487; clear BK489; clear HB; have HO_488001 := n0_; have HO_488002 := n1_; have HO492 := n2_; have BK482 := n3_; have BK483 := n4_; have BK487 := n5_; have BK489 := n6_; have HB := n7_; clear n0_ n1_ n2_ n3_ n4_ n5_ n6_ n7_; have hnb31 := NB487_482.out; have hnc31 := NB482_487.out; have hnb32 := NB487_483.out; have hnc32 := NB483_487.out; obtain ⟨hcz33_0, hcz33_1, hcz33_2, hfz33_0, hfz33_1, hfz33_2⟩ := ybc BK487.out; obtain ⟨hcz34_0, hcz34_1, hcz34_2, hfz34_0, hfz34_1, hfz34_2⟩ := ybc BK489.out) | ((with_reducible refine gate_builtin (b := .append) (xs := #[.tmp 24, .tmp 26]) rfl ?_); at_builtin; refine Kd.S_append k73 (w0 := w) w.heap.size rfl (.tmp 24) (.tmp 26) 35 73 (.agg #[(.int .i64 0), (.slice none 0 0), (.int .i64 0)]) 40 rfl Try.underlying35 info73 rfl (by decide) (by omega) u488002 x488002_1 (⟨(rd_T73 l0_2 x15_1).f0, t490, (rd_T73 l0_2 x15_1).f2⟩ : S73) [.int .i64 ((rd_T73 l0_2 x15_1).f0), .slice Ao28 t490.length co28, .int .i64 ((rd_T73 l0_2 x15_1).f2)] (fun k_ => some k_ ≠ (.slice Ao10 t484.length co10 : Value).ownBlock ∧ k_ ≠ gb489) (fun k_ => some k_ = (.slice Ao28 t490.length co28 : Value).ownBlock) rfl rfl ?aP (fun k_ hk_ => ((Kd.R_mono (ok' := fun k_ => ((fun k_ => some k_ ≠ (.slice Ao10 t484.length co10 : Value).ownBlock ∧ k_ ≠ gb489)) k_ ∧ some k_ ≠ (u488002 : Value).ownBlock) (Kd.R_types (Kd.R_apart' (HO492.out) (Kd.S_typed HO_488002.out) (by decide)) BK489.out (by decide)) (fun k_ hk => ⟨⟨hk.1.1, hk.2⟩, hk.1.2⟩))).1 k_ hk_.symm) ?aF ?aO ?aB ?aS ?aL ?_; (case aP => exact k73_mkM _ _ _ (⟨(rd_T73 l0_2 x15_1).f0, t490, (rd_T73 l0_2 x15_1).f2⟩ : S73) (Kd.R_mono (Kd.R_tight rfl (Kd.R_mono (ok' := fun k_ => ((fun k_ => some k_ ≠ (.slice Ao10 t484.length co10 : Value).ownBlock ∧ k_ ≠ gb489)) k_ ∧ some k_ ≠ (u488002 : Value).ownBlock) (Kd.R_types (Kd.R_apart' (HO492.out) (Kd.S_typed HO_488002.out) (by decide)) BK489.out (by decide)) (fun k_ hk => ⟨⟨hk.1.1, hk.2⟩, hk.1.2⟩))) (fun _ h_ => h_))); (case aB => exact yhb); (case aF => exact (fun k_ hk => ⟨Kd.fresh' (Kd.R_lt (Kd.Yz HO_488001.out)) k_ hk, Kd.freshB (g := gb489) (o := .cells #[.int .i64 ((rd_T73 l0_2 x15_1).f0), .slice Ao28 t490.length co28, .int .i64 ((rd_T73 l0_2 x15_1).f2)] 73 (0, 0)) (ybz BK489.out) k_ hk⟩)); (case aO => exact (by (with_reducible repeat (first | apply Kd.S_alloc | apply Kd.S_drewN | apply Kd.S_drew)); exact Kd.S_mono HO_488002.out (fun k_ hk => ⟨⟨hk.1, hk.2.2⟩, fun e_ => hk.2.1 e_⟩))); (case aS => exact (below_size yhb)); (case aL => have := LMc21.out; omega); intro v494 w35 ho hb hg hat; rw [← Ny493.out] at ho; have n0_ := yam (Kd.R_over' (Kd.Yz HO_488001.out) (Kd.S_typed (by (with_reducible repeat (first | apply Kd.S_alloc | apply Kd.S_drewN | apply Kd.S_drew)); exact HO_488002.out)) (by decide) hg); have n1_ := yam (blk_grown (g := gb482) (o := .cells #[.int .i64 a0_0, .slice A0_1 l0_1.length c0_1, .slice (some ad488) l0_2.length c0_2] 37 (0, 0)) (ybz BK482.out) hg (Kd.S_ne HO_488002.out BK482.out (by decide))); have n2_ := yam (blk_grown (g := gb483) (o := .cells #[.int .i64 0, .slice none 0 0, .slice none 0 0] 37 (0, 0)) (ybz BK483.out) hg (Kd.S_ne HO_488002.out BK483.out (by decide))); have n3_ := yam (blk_grown (g := gb487) (o := .cells #[.int .i64 a0_0, .slice Ao10 t484.length co10, u488002] 37 (0, 0)) (ybz BK487.out) hg (Kd.S_ne HO_488002.out BK487.out (by decide))); have n4_ := yam (blk_grown (g := gb489) (o := .cells #[.int .i64 ((rd_T73 l0_2 x15_1).f0), .slice Ao28 t490.length co28, .int .i64 ((rd_T73 l0_2 x15_1).f2)] 73 (0, 0)) (ybz BK489.out) hg (Kd.S_away HO_488002.out (fun _ hk => hk.2.2))); have n5_ := yam (hb); have n6_ := yam (ho); clear HO_488001; clear BK482; clear BK483; clear BK487; clear BK489; clear HB; clear HO_488002; clear HO492; have HO_488001 := n0_; have BK482 := n1_; have BK483 := n2_; have BK487 := n3_; have BK489 := n4_; have HB := n5_; have HO495 := n6_; clear n0_ n1_ n2_ n3_ n4_ n5_ n6_; clear ho hb hg hat; obtain ⟨Ao36, co36, eo36⟩ := Kd.S_slice HO495.out; subst eo36; obtain ⟨hcz37_0, hcz37_1, hcz37_2, hfz37_0, hfz37_1, hfz37_2⟩ := ybc BK487.out))
   go_roundg k1
   case measure => have := HK1.out; omega
   case rel => exact ⟨(wrap64 (x15_1 + 1)), (y493), (.slice Ao36 y493.length co36), yeq, H', ⟨by have := HK1.out; omega⟩, ⟨by (with_reducible repeat (first | apply Kd.Ya | apply Kd.Yn | apply Kd.Yd)); exact Kd.R_mono (Kd.R_far (p := ⟨gb487, 2, none⟩) (Kd.R_types HO_488001.out BK487.out (by decide)) (fun _ hk => hk.2) (.slice Ao36 y493.length co36)) (fun _ hk => trivial)⟩, ⟨by (with_reducible repeat (first | apply Kd.S_alloc | apply Kd.S_drewN | apply Kd.S_drew)); exact Kd.S_mono (Kd.S_far (p := ⟨gb487, 2, none⟩) (Kd.S_types HO495.out BK487.out (by decide)) (fun _ hk => hk.2) (.slice Ao36 y493.length co36)) (fun _ hk => hk.1.1)⟩, ⟨by (with_reducible repeat (first | refine ybn ?_ _ | refine ybd ?_ | refine yba ?_ _)); refine blk_far ?_ NB482_487.out _; (with_reducible repeat (first | refine ybn ?_ _ | refine ybd ?_ | refine yba ?_ _)); exact BK482.out⟩, ⟨by (with_reducible repeat (first | refine ybn ?_ _ | refine ybd ?_ | refine yba ?_ _)); refine blk_far ?_ NB483_487.out _; (with_reducible repeat (first | refine ybn ?_ _ | refine ybd ?_ | refine yba ?_ _)); exact BK483.out⟩, ⟨by (with_reducible repeat (first | refine ybn ?_ _ | refine ybd ?_ | refine yba ?_ _)); refine blk_put (cs := #[.int .i64 a0_0, .slice Ao10 t484.length co10, u488002]) ?_ 2 _ rfl; (with_reducible repeat (first | refine ybn ?_ _ | refine ybd ?_ | refine yba ?_ _)); exact BK487.out⟩, ⟨yhb⟩⟩
end Go.Proofs.Ytmjbnghhfadapaa.P
