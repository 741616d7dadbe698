/- The machine's side: each Go function as a plain Lean function and the proof that the machine's call does what that function says; written by this session's own program over the kit's print. -/
import Derived.Test.YtmjbnghhfadapaaZP1
import Derived.Test.YtmjbnghhfadapaaZP3
namespace Go.Proofs.Ytmjbnghhfadapaa.P
open Go.RowKit Go.Proofs.YtmjbnghhfadapaaW.PrintWords Go.Proofs.YtmjbnghhfadapaaW.PrintLast Go.Proofs.YtmjbnghhfadapaaW.PrintMore
attribute [local go_sem] max2_int min2_int max_two min_two max_three min_three max_four min_four   -- for this text's walks alone
set_option linter.unusedVariables false
set_option linter.unusedSimpArgs false
/-! ### impl_solutions: function 45 -/
/-- What solutions are told to: a literal with two variables of its own (in the blocks p1, p2), a state s that it turns, and what holds of that state while the blocks of P are not its own. -/
structure Teller (w0 : World) {σ : Type} (tf p1 p2 : Nat) (T : σ → List Int → Option (Bool × σ)) (Inv : (Nat → Prop) → σ → World → Prop) : Prop where
 hf : ∃ fn : Func, Try.prog.funcs[tf]? = some fn ∧ (fn.name == "runtime.NumGoroutine") = false ∧ fn.body.isSome = true
 keep : ∀ {P : Nat → Prop} {s : σ} {w w' : World}, Inv P s w → w.heap.size ≤ w'.heap.size → (∀ k, k < w.heap.size → ¬ P k → w'.heap[k]? = w.heap[k]?) → Inv P s w'
 mono : ∀ {P P' : Nat → Prop} {s : σ} {w : World}, Inv P s w → (∀ k, k < w.heap.size → P' k → P k) → Inv P' s w
 call : ∀ {P : Nat → Prop} {s s' : σ} {w : World} {g : List Int} {A : Option Addr} {c : Nat} {b : Bool}, Below w0.heap.size w0 w → Inv P s w → Kd.C (Kd.int .i64) w A g.length g → g.length ≤ c → (∀ k, P k → k < w.heap.size) → T s g = some (b, s') →
  Calls Try.prog tf #[.slice A g.length c, .pointer (some ⟨p1, 0, none⟩), .pointer (some ⟨p2, 0, none⟩)] w fun e w' => e = .returned (.bool b) ∧ Inv P s' w' ∧ Agr P w w' ∧ Below w0.heap.size w0 w'
/-- The values v, v + 1, .. (n of them) tried for a cell: go on, the grid, the state. -/
def impl_solutions.tryV {σ : Type} (cf : List Int → Option Bool) (f : List Int → σ → Option (Bool × List Int × σ)) (i : Nat) : Nat → Int → List Int → σ → Option (Bool × List Int × σ)
 | 0, _, g, s => some (true, g.set i 0, s)
 | n + 1, v, g, s => (cf (g.set i v)).bind fun b => if b = true then (f (g.set i v) s).bind fun t => (if t.1 = true then impl_solutions.tryV cf f i n (v + 1) t.2.1 t.2.2 else some (false, t.2.1, t.2.2)) else impl_solutions.tryV cf f i n (v + 1) (g.set i v) s
def impl_solutions.try_ {σ : Type} (T : σ → List Int → Option (Bool × σ)) (k : Nat) (s : Int) (l1 : List Int) (l2 : List S73) (N : Nat) : Nat → List Int → σ → Option (Bool × List Int × σ)
 | 0, g, st => (T st g).bind fun t => some (t.1, g, t.2)
 | d + 1, g, st => if 0 < rd g ((N : Int) - (d + 1 : Nat)) then impl_solutions.try_ T k s l1 l2 N d g st else impl_solutions.tryV (fun g' => impl_cellFits.f k s l1 l2 g' ((N : Int) - (d + 1 : Nat))) (impl_solutions.try_ T k s l1 l2 N d) ((N : Int) - (d + 1 : Nat)).toNat s.toNat 1 g st
theorem impl_solutions.tryV_len {σ : Type} {cf : List Int → Option Bool} {f : List Int → σ → Option (Bool × List Int × σ)} {i N : Nat} (hf : ∀ g s b g' s', g.length = N → f g s = some (b, g', s') → g'.length = N) : ∀ (n : Nat) (v : Int) (g : List Int) (s : σ) (b : Bool) (g' : List Int) (s' : σ), g.length = N → impl_solutions.tryV cf f i n v g s = some (b, g', s') → g'.length = N
 | 0, v, g, s, b, g', s', hg, h => by
  unfold impl_solutions.tryV at h
  simp only [Option.some.injEq, Prod.mk.injEq] at h
  obtain ⟨_, rfl, _⟩ := h
  rw [List.length_set]; exact hg
 | n + 1, v, g, s, b, g', s', hg, h => by
  unfold impl_solutions.tryV at h
  obtain ⟨c, _, h⟩ := Option.bind_eq_some_iff.1 h
  have hgs : (g.set i v).length = N := by rw [List.length_set]; exact hg
  cases c with
  | false => exact impl_solutions.tryV_len hf n _ _ _ _ _ _ hgs (by simpa using h)
  | true =>
   simp only [if_true] at h
   obtain ⟨⟨t1, t2, t3⟩, ht, h⟩ := Option.bind_eq_some_iff.1 h
   have ht2 := hf _ _ _ _ _ hgs ht
   cases t1 with
   | true => exact impl_solutions.tryV_len hf n _ _ _ _ _ _ ht2 (by simpa using h)
   | false =>
    simp only [Bool.false_eq_true, if_false, Option.some.injEq, Prod.mk.injEq] at h
    obtain ⟨_, rfl, _⟩ := h
    exact ht2
/-- The boxes of the variables that the literal shares. -/
def impl_solutions.Boxes (tf p1 p2 : Nat) (W : World) (gg cg N gG gT gY gS gP : Nat) (s : Int) (A1 : Option Addr) (c1 n1 : Nat) (A2 : Option Addr) (c2 n2 : Nat) : Prop :=
 W.heap[gG]? = some (.cells #[.slice (some ⟨gg, 0, none⟩) N cg] 22 (0, 0)) ∧ W.heap[gT]? = some (.cells #[.func (.func tf) #[] #[.pointer (some ⟨p1, 0, none⟩), .pointer (some ⟨p2, 0, none⟩)]] 63 (0, 0)) ∧ W.heap[gY]? = some (.cells #[.func (.func 73) #[] #[.pointer (some ⟨gG, 0, none⟩), .pointer (some ⟨gT, 0, none⟩), .pointer (some ⟨gY, 0, none⟩), .pointer (some ⟨gS, 0, none⟩), .pointer (some ⟨gP, 0, none⟩)]] 61 (0, 0)) ∧ W.heap[gS]? = some (.cells #[.int .i64 s] 3 (0, 0)) ∧ W.heap[gP]? = some (.cells #[.int .i64 s, .slice A1 n1 c1, .slice A2 n2 c2] 37 (0, 0))
theorem impl_solutions.Boxes.agr {tf p1 p2 : Nat} {W W' : World} {gg cg N gG gT gY gS gP : Nat} {s : Int} {A1 : Option Addr} {c1 n1 : Nat} {A2 : Option Addr} {c2 n2 : Nat} {P : Nat → Prop} (h : impl_solutions.Boxes tf p1 p2 W gg cg N gG gT gY gS gP s A1 c1 n1 A2 c2 n2) (ha : Agr P W W') (hP : P gG ∧ P gT ∧ P gY ∧ P gS ∧ P gP) : impl_solutions.Boxes tf p1 p2 W' gg cg N gG gT gY gS gP s A1 c1 n1 A2 c2 n2 :=
 ⟨Agr.blk h.1 ha hP.1, Agr.blk h.2.1 ha hP.2.1, Agr.blk h.2.2.1 ha hP.2.2.1, Agr.blk h.2.2.2.1 ha hP.2.2.2.1, Agr.blk h.2.2.2.2 ha hP.2.2.2.2⟩
theorem impl_solutions.Boxes.set {tf p1 p2 : Nat} {W : World} {gg cg N gG gT gY gS gP : Nat} {s : Int} {A1 : Option Addr} {c1 n1 : Nat} {A2 : Option Addr} {c2 n2 : Nat} (h : impl_solutions.Boxes tf p1 p2 W gg cg N gG gT gY gS gP s A1 c1 n1 A2 c2 n2) (hne : gg ≠ gG ∧ gg ≠ gT ∧ gg ≠ gY ∧ gg ≠ gS ∧ gg ≠ gP) (j : Nat) (u : Value) : impl_solutions.Boxes tf p1 p2 (W.setCell ⟨gg, j, none⟩ u) gg cg N gG gT gY gS gP s A1 c1 n1 A2 c2 n2 :=
 impl_solutions.Boxes.agr (P := fun k => k ≠ gg) h ⟨by simp [World.setCell], fun k _ hk => Below.heap_setCell W ⟨gg, j, none⟩ u k hk⟩ ⟨hne.1.symm, hne.2.1.symm, hne.2.2.1.symm, hne.2.2.2.1.symm, hne.2.2.2.2.symm⟩
/-- A call of a value that holds a literal, as an arm of go_wp2_with. -/
theorem goesV_ {P : Program} {ops : Array Oper} {Q : Exit → Act → World → Prop} {rest : List Oper} {oi : Oper} {a : Act} {w : World} (N : Option Tmp) (hd : oi.dst = N) (hg : oi.guard = none) {f : FuncId} {fn : Func} {x : Operand} {ag : Array Operand} {ts : Array TypeId} {caps : Array Value} (hf : P.funcs[f]? = some fn) (hname : (fn.name == "runtime.NumGoroutine") = false) (hb : fn.body.isSome = true) (args : Array Value)
  (hop : oi.op = .call { callee := .value x, args := ag, argTypes := ts }) (hx : a.eval x = .func (.func f) #[] caps) (hargs : ag.map a.eval ++ caps = args)
  (h : Calls P f args w fun e w' => ∃ v, e = .returned v ∧ wpList P ops Q rest (a.put N v) w') : wpList P ops Q (oi :: rest) a w := by
 refine wpList_plain hg fun K hK => ?_
 have he := enters_ hf hname hb args w
 have hrun : (execOp a.eval oi).run P w = .ok (.enter f args) w := by
  unfold execOp
  simp only [hop, resolve, hx, Deferred.ofValue]
  subst hargs
  simpa [invoke] using he
 unfold Oper.wp
 rw [hrun, Oper.upon_enter]
 refine h.mono fun e w'' hh => ?_
 obtain ⟨v, rfl, hk⟩ := hh
 subst hd
 exact hK _ _ hk
set_option maxHeartbeats 8000000 in
set_option maxRecDepth 100000 in
theorem impl_solutions.clo {w0 : World} {σ : Type} {tf p1 p2 : Nat} {T : σ → List Int → Option (Bool × σ)} {Inv : (Nat → Prop) → σ → World → Prop} (Te : Teller w0 tf p1 p2 T Inv) (k : Nat) (s : Int) (A1 : Option Addr) (c1 : Nat) (l1 : List Int) (A2 : Option Addr) (c2 : Nat) (l2 : List S73) (gg cg N gG gT gY gS gP : Nat) (P : Nat → Prop) (wE : World) (hP : P gG ∧ P gT ∧ P gY ∧ P gS ∧ P gP) (hPg : P gg) (hne : gg ≠ gG ∧ gg ≠ gT ∧ gg ≠ gY ∧ gg ≠ gS ∧ gg ≠ gP) (hgE : wE.heap.size ≤ gg) (hg0 : w0.heap.size ≤ gg) (hs4 : s ≤ 1000) (hr1 : ∀ W, Agr P wE W → Kd.C (Kd.int .i64) W A1 l1.length l1) (hc1 : l1.length ≤ c1) (hr2 : ∀ W, Agr P wE W → Kd.C k73 W A2 l2.length l2) (hc2 : l2.length ≤ c2) :
  ∀ (d : Nat) (a : Int) (g : List Int) (st : σ) (b : Bool) (g' : List Int) (st' : σ) (w : World) (_ : (N : Int) - d = a) (_ : d ≤ N) (_ : N ≤ 100000) (_ : g.length = N) (_ : Kd.R (Kd.int .i64) 3 w w0.heap.size (fun k => k = gg) (.slice (some ⟨gg, 0, none⟩) N cg) g) (_ : Inv P st w) (_ : impl_solutions.Boxes tf p1 p2 w gg cg N gG gT gY gS gP s A1 c1 l1.length A2 c2 l2.length) (_ : Agr P wE w) (_ : Below w0.heap.size w0 w) (_ : ∀ k, P k → k < w.heap.size) (_ : impl_solutions.try_ T k s l1 l2 N d g st = some (b, g', st')),
  Calls Try.prog 73 #[.int .i64 a, .pointer (some ⟨gG, 0, none⟩), .pointer (some ⟨gT, 0, none⟩), .pointer (some ⟨gY, 0, none⟩), .pointer (some ⟨gS, 0, none⟩), .pointer (some ⟨gP, 0, none⟩)] w fun e w' => e = .returned (.bool b) ∧ g'.length = N ∧ Kd.R (Kd.int .i64) 3 w' w0.heap.size (fun k => k = gg) (.slice (some ⟨gg, 0, none⟩) N cg) g' ∧ Inv P st' w' ∧ impl_solutions.Boxes tf p1 p2 w' gg cg N gG gT gY gS gP s A1 c1 l1.length A2 c2 l2.length ∧ Agr P wE w' ∧ Below w0.heap.size w0 w' ∧ (∀ k, P k → k < w'.heap.size) := by
 intro d
 obtain ⟨fn, hfn⟩ := Te.hf
 have HFN := Aside0.mk hfn
 clear hfn
 have HP := Aside0.mk hP
 have HPG := Aside0.mk hPg
 have HNE := Aside0.mk hne
 have HGE := Aside0.mk hgE
 have HG0 := Aside0.mk hg0
 have HR1 := Aside0.mk hr1
 have HC1 := Aside0.mk hc1
 have HR2 := Aside0.mk hr2
 have HC2 := Aside0.mk hc2
 have HS4 := Aside0.mk hs4
 clear hP hPg hne hgE hg0 hr1 hc1 hr2 hc2 hs4
 induction d with
 | zero =>
  intro a g st b g' st' w ha hd hn hl hV hI hX hA hB hL h
  have hae : (a == (N : Int)) = true := beq_iff_eq.mpr (by omega)
  clear ha hd
  have HN := Aside0.mk hn
  have HLV := Aside0.mk hl
  have HV := Aside0.mk hV
  have HI := Aside0.mk hI
  have HX := Aside0.mk hX
  have HA := Aside0.mk hA
  have HB := Aside0.mk hB
  have HL := Aside0.mk hL
  unfold impl_solutions.try_ at h
  obtain ⟨⟨t1, t2⟩, hT, h2⟩ := Option.bind_eq_some_iff.1 h
  simp only [Option.some.injEq, Prod.mk.injEq] at h2
  obtain ⟨rfl, rfl, rfl⟩ := h2
  have HT := Aside0.mk hT
  have hcG : w.cell? ⟨gG, 0, none⟩ = some (.slice (some ⟨gg, 0, none⟩) N cg) := (blk_cell hX.1 0).trans rfl
  have hcT : w.cell? ⟨gT, 0, none⟩ = some (.func (.func tf) #[] #[.pointer (some ⟨p1, 0, none⟩), .pointer (some ⟨p2, 0, none⟩)]) := (blk_cell hX.2.1 0).trans rfl
  clear hn hl hV hI hX hA hB hL h hT
  go_enter Try.func73, Try.ntmps73
  go_wp2_with (first
   | ((with_reducible refine gate_dst (N := 15) rfl ?_); refine goesV_ (some 15) rfl rfl HFN.out.1 HFN.out.2.1 HFN.out.2.2 #[.slice (some ⟨gg, 0, none⟩) g.length cg, .pointer (some ⟨p1, 0, none⟩), .pointer (some ⟨p2, 0, none⟩)] rfl rfl (by simp only [List.map_toArray, List.map_cons, List.map_nil, List.append_toArray, List.cons_append, List.nil_append, HLV.out]; rfl) ?_; refine (Te.call HB.out HI.out (Kd.R_reads' HV.out).2.2 (by rw [HLV.out]; exact (Kd.R_reads' HV.out).2.1) HL.out HT.out).mono ?_; rintro e w' ⟨rfl, hI, hA, hB⟩; refine ⟨_, rfl, ?_⟩; have n0_ := Aside0.mk (Agr.R HV.out hA (fun k_ h_ => by rw [h_]; exact HPG.out)); have n1_ := Aside0.mk hI; have n2_ := Aside0.mk (impl_solutions.Boxes.agr HX.out hA HP.out); have n3_ := Aside0.mk (HA.out.trans hA); have n4_ := Aside0.mk hB; have n5_ := Aside0.mk (fun k_ h_ => Nat.lt_of_lt_of_le (HL.out k_ h_) hA.1 : ∀ k, P k → k < w'.heap.size); clear HV HI HX HA HB HL hI hA hB hcG hcT))
  go_ret
  exact ⟨rfl, HLV.out, n0_.out, n1_.out, n2_.out, n3_.out, n4_.out, n5_.out⟩
 | succ d ih =>
  have IH := Aside0.mk ih
  clear ih
  intro a g st b g' st' w ha hd hn hl hV hI hX hA hB hL h
  unfold impl_solutions.try_ at h
  rw [ha] at h
  have h0 : 0 ≤ a := by omega
  have h1 : a < (N : Int) := by omega
  have hae : (a == (N : Int)) = false := beq_eq_false_iff_ne.mpr (by omega)
  have HAA := Aside0.mk (show 0 ≤ a ∧ a < (N : Int) ∧ (N : Int) - d = a + 1 from ⟨h0, h1, by omega⟩)
  have HD := Aside0.mk (show d ≤ N by omega)
  clear ha hd
  have HN := Aside0.mk hn
  have HLV := Aside0.mk hl
  have HV := Aside0.mk hV
  have HI := Aside0.mk hI
  have HX := Aside0.mk hX
  have HA := Aside0.mk hA
  have HB := Aside0.mk hB
  have HL := Aside0.mk hL
  have hcG : w.cell? ⟨gG, 0, none⟩ = some (.slice (some ⟨gg, 0, none⟩) N cg) := (blk_cell hX.1 0).trans rfl
  have hcY : w.cell? ⟨gY, 0, none⟩ = some (.func (.func 73) #[] #[.pointer (some ⟨gG, 0, none⟩), .pointer (some ⟨gT, 0, none⟩), .pointer (some ⟨gY, 0, none⟩), .pointer (some ⟨gS, 0, none⟩), .pointer (some ⟨gP, 0, none⟩)]) := (blk_cell hX.2.2.1 0).trans rfl
  obtain ⟨hxv0, hfv⟩ := Kd.R_celln 0 hV a h0 h1
  have hxv := hxv0.trans (rfl : _ = some (Value.int .i64 (rd g a)))
  have haw : wrap64 (a + 1) = a + 1 := by unfold wrap64; omega
  have haw2 : IntKind.i64.wrap (a + 1) = a + 1 := by rw [i64_w]; exact haw
  have q0 := eq_true h0
  have q1 := eq_true h1
  clear hn hl hV hI hX hA hB hL hxv0 hfv h0 h1
  by_cases hpos : 0 < rd g a
  ·rw [if_pos hpos] at h
   have hpb : decide (0 < rd g a) = true := decide_eq_true hpos
   have HT := Aside0.mk h
   clear h hpos
   go_enter Try.func73, Try.ntmps73
   go_wp2_with (first
    | (go_at_call 73; (refine (IH.out (a + 1) g st b g' st' _ HAA.out.2.2 HD.out HN.out HLV.out HV.out HI.out HX.out HA.out HB.out HL.out HT.out).mono ?_); rintro e w' ⟨rfl, HL1, hV, hI, hX, hA, hB, hL⟩; have n0_ := Aside0.mk hV; have n1_ := Aside0.mk hI; have n2_ := Aside0.mk hX; have n3_ := Aside0.mk hA; have n4_ := Aside0.mk hB; have n5_ := Aside0.mk hL; have n6_ := Aside0.mk HL1; clear hV hI hX hA hB hL HL1))
   go_ret
   exact ⟨rfl, n6_.out, n0_.out, n1_.out, n2_.out, n3_.out, n4_.out, n5_.out⟩
  ·rw [if_neg hpos] at h
   have hpb : decide (0 < rd g a) = false := decide_eq_false hpos
   have HT := Aside0.mk h
   clear h hpos
   go_enter Try.func73, Try.ntmps73
   go_wp2
   go_loopg [8] s.toNat (fun kq v8 w' => ∃ (v : Int) (gr : List Int) (s1 : σ), v8 = .int .i64 v ∧ Aside0 (1 ≤ v ∧ v + (kq : Int) = (s.toNat : Int) + 1) ∧ Aside0 (impl_solutions.tryV (fun g' => impl_cellFits.f k s l1 l2 g' a) (impl_solutions.try_ T k s l1 l2 N d) a.toNat kq v gr s1 = some (b, g', st')) ∧ Aside0 (gr.length = N) ∧ Aside0 (Kd.R (Kd.int .i64) 3 w' w0.heap.size (fun k => k = gg) (.slice (some ⟨gg, 0, none⟩) N cg) gr) ∧ Aside0 (Inv P s1 w') ∧ Aside0 (impl_solutions.Boxes tf p1 p2 w' gg cg N gG gT gY gS gP s A1 c1 l1.length A2 c2 l2.length) ∧ Aside0 (Agr P wE w') ∧ Aside0 (Below w0.heap.size w0 w') ∧ Aside0 (∀ k, P k → k < w'.heap.size))
   case atStart => exact ⟨1, g, st, rfl, ⟨by omega⟩, HT, HLV, HV, HI, HX, HA, HB, HL⟩
   case round =>
    clear HT HLV HV HI HX HA HB HL hcG hcY hxv hpb
    obtain ⟨v, gr, s1, rfl, HK, HT, HLV, HV, HI, HX, HA, HB, HL⟩ := hrel
    have hcG : wr.cell? ⟨gG, 0, none⟩ = some (.slice (some ⟨gg, 0, none⟩) N cg) := (blk_cell HX.out.1 0).trans rfl
    have hcS : wr.cell? ⟨gS, 0, none⟩ = some (.int .i64 s) := (blk_cell HX.out.2.2.2.1 0).trans rfl
    obtain ⟨hxv0, hfv⟩ := Kd.R_celln 0 HV.out a HAA.out.1 HAA.out.2.1
    have hxv := hxv0.trans (rfl : _ = some (Value.int .i64 (rd gr a)))
    clear hxv0
    cases gk with
    | zero =>
     have h := HT.out
     unfold impl_solutions.tryV at h
     simp only [Option.some.injEq, Prod.mk.injEq] at h
     obtain ⟨rfl, rfl, rfl⟩ := h
     clear HT
     have hvb : decide (v ≤ s) = false := decide_eq_false (by have := HK.out; omega)
     have HPO := Aside0.mk (Kd.R_putg HV.out a 0)
     go_wp2
     go_ret
     exact ⟨rfl, by rw [List.length_set]; exact HLV.out, HPO.out.1, Te.keep HI.out (by simp [World.setCell]) (fun k_ _ hn_ => Below.heap_setCell wr ⟨gg, a.toNat, none⟩ _ k_ (fun e_ => hn_ (by rw [e_]; exact HPG.out))), impl_solutions.Boxes.set HX.out HNE.out _ _, Agr.set HA.out HGE.out _ _, below_set HB.out HG0.out, fun k_ hk_ => by have := HL.out k_ hk_; simpa [World.setCell] using this⟩
    | succ q =>
     have h := HT.out
     clear HT
     unfold impl_solutions.tryV at h
     obtain ⟨c, hc, h⟩ := Option.bind_eq_some_iff.1 h
     have HC := Aside0.mk hc
     clear hc
     have hvb : decide (v ≤ s) = true := decide_eq_true (by have := HK.out; omega)
     have hvw : wrap64 (v + 1) = v + 1 := by have := HK.out; have := HS4.out; unfold wrap64; omega
     have hvw2 : IntKind.i64.wrap (v + 1) = v + 1 := by rw [i64_w]; exact hvw
     have HPO := Aside0.mk (Kd.R_putg HV.out a v)
     cases c with
     | false =>
      simp only [Bool.false_eq_true, if_false] at h
      have HT := Aside0.mk h
      clear h
      go_wp2_with (first
       | ((with_reducible refine gate_store (t := 3) (p := 33) rfl ?_); refine store_event (t := 3) (p := 33) (v := ?vo1) (w1 := wr.setCell ⟨gg, a.toNat, none⟩ (.int .i64 v)) ?hg ?ho ?hn ?hr ?_; (case ho => rfl); (case hg => rfl); (case hn => rfl); (case hr => first | (go_simp; done) | (go_simp; rfl)); intro w8 hw; have HV8 : Aside0 (Kd.R (Kd.int .i64) 3 w8 w0.heap.size (fun k => k = gg) (.slice (some ⟨gg, 0, none⟩) N cg) (gr.set a.toNat v)) := ⟨by rw [hw]; exact HPO.out.1⟩; have HI8 : Aside0 (Inv P s1 w8) := ⟨by rw [hw]; exact Te.keep HI.out (by simp [World.setCell]) (fun k_ _ hn_ => Below.heap_setCell wr ⟨gg, a.toNat, none⟩ _ k_ (fun e_ => hn_ (by rw [e_]; exact HPG.out)))⟩; have HX8 : Aside0 (impl_solutions.Boxes tf p1 p2 w8 gg cg N gG gT gY gS gP s A1 c1 l1.length A2 c2 l2.length) := ⟨by rw [hw]; exact impl_solutions.Boxes.set HX.out HNE.out _ _⟩; have HA8 : Aside0 (Agr P wE w8) := ⟨by rw [hw]; exact Agr.set HA.out HGE.out _ _⟩; have HB8 : Aside0 (Below w0.heap.size w0 w8) := ⟨by rw [hw]; exact below_set HB.out HG0.out⟩; have HL8 : Aside0 (∀ k, P k → k < w8.heap.size) := ⟨fun k_ hk_ => by have := HL.out k_ hk_; rw [hw]; simpa [World.setCell] using this⟩; clear hw hxv hfv hcG hcS HPO HV HI HX HA HB HL; have hcG : w8.cell? ⟨gG, 0, none⟩ = some (.slice (some ⟨gg, 0, none⟩) N cg) := (blk_cell HX8.out.1 0).trans rfl; have hcP0 : w8.cell? ⟨gP, 0, none⟩ = some (.int .i64 s) := (blk_cell HX8.out.2.2.2.2 0).trans rfl; have hcP1 : w8.cell? ⟨gP, 1, none⟩ = some (.slice A1 l1.length c1) := (blk_cell HX8.out.2.2.2.2 1).trans rfl; have hcP2 : w8.cell? ⟨gP, 2, none⟩ = some (.slice A2 l2.length c2) := (blk_cell HX8.out.2.2.2.2 2).trans rfl)
       | ((with_reducible refine gate_callee (f := 74) rfl ?_); refine goesL_ (some 37) rfl rfl Try.func74 (by kernel_rfl) rfl #[.agg #[.int .i64 s, .slice A1 l1.length c1, .slice A2 l2.length c2], .slice (some ⟨gg, 0, none⟩) (gr.set a.toNat v).length cg, .int .i64 a] rfl (by (try simp only [List.map_toArray, List.map_cons, List.map_nil]); rw [List.length_set, HLV.out]; rfl) ?_; (with_reducible refine (impl_cellFits.calls k s _ _ l1 _ _ l2 _ _ (gr.set a.toNat v) a false w8 (HR1.out _ HA8.out) HC1.out (HR2.out _ HA8.out) HC2.out (Kd.R_reads' HV8.out).2.2 (by rw [List.length_set, HLV.out]; exact (Kd.R_reads' HV8.out).2.1) HC.out).mono ?_); rintro e w9 ⟨rfl, hb⟩; refine ⟨_, rfl, ?_⟩; have HV9 := Aside0.mk (Kd.R_below HV8.out hb); have HI9 := Aside0.mk (Te.keep HI8.out hb.size (fun k_ hk_ _ => hb.block k_ hk_)); have HX9 := Aside0.mk (impl_solutions.Boxes.agr HX8.out (Agr.of_below (P := P) hb) HP.out); have HA9 := Aside0.mk (HA8.out.trans (Agr.of_below hb)); have HB9 := Aside0.mk (below_step HB8.out hb); have HL9 : Aside0 (∀ k, P k → k < w9.heap.size) := ⟨fun k_ hk_ => Nat.lt_of_lt_of_le (HL8.out k_ hk_) hb.size⟩; clear hb hcG hcP0 hcP1 hcP2 HV8 HI8 HX8 HA8 HB8 HL8; have hcY : w9.cell? ⟨gY, 0, none⟩ = some (.func (.func 73) #[] #[.pointer (some ⟨gG, 0, none⟩), .pointer (some ⟨gT, 0, none⟩), .pointer (some ⟨gY, 0, none⟩), .pointer (some ⟨gS, 0, none⟩), .pointer (some ⟨gP, 0, none⟩)]) := (blk_cell HX9.out.2.2.1 0).trans rfl))
      clear hcY
      go_roundg q
      case measure => omega
      case rel => exact ⟨v + 1, gr.set a.toNat v, s1, rfl, ⟨by have := HK.out; omega⟩, HT, ⟨by rw [List.length_set]; exact HLV.out⟩, HV9, HI9, HX9, HA9, HB9, HL9⟩
     | true =>
      simp only [if_true] at h
      obtain ⟨⟨t1, t2, t3⟩, hr, h⟩ := Option.bind_eq_some_iff.1 h
      have HR := Aside0.mk hr
      clear hr
      cases t1 with
      | false =>
       simp only [Bool.false_eq_true, if_false, Option.some.injEq, Prod.mk.injEq] at h
       obtain ⟨rfl, rfl, rfl⟩ := h
       go_wp2_with (first
        | ((with_reducible refine gate_store (t := 3) (p := 33) rfl ?_); refine store_event (t := 3) (p := 33) (v := ?vo1) (w1 := wr.setCell ⟨gg, a.toNat, none⟩ (.int .i64 v)) ?hg ?ho ?hn ?hr ?_; (case ho => rfl); (case hg => rfl); (case hn => rfl); (case hr => first | (go_simp; done) | (go_simp; rfl)); intro w8 hw; have HV8 : Aside0 (Kd.R (Kd.int .i64) 3 w8 w0.heap.size (fun k => k = gg) (.slice (some ⟨gg, 0, none⟩) N cg) (gr.set a.toNat v)) := ⟨by rw [hw]; exact HPO.out.1⟩; have HI8 : Aside0 (Inv P s1 w8) := ⟨by rw [hw]; exact Te.keep HI.out (by simp [World.setCell]) (fun k_ _ hn_ => Below.heap_setCell wr ⟨gg, a.toNat, none⟩ _ k_ (fun e_ => hn_ (by rw [e_]; exact HPG.out)))⟩; have HX8 : Aside0 (impl_solutions.Boxes tf p1 p2 w8 gg cg N gG gT gY gS gP s A1 c1 l1.length A2 c2 l2.length) := ⟨by rw [hw]; exact impl_solutions.Boxes.set HX.out HNE.out _ _⟩; have HA8 : Aside0 (Agr P wE w8) := ⟨by rw [hw]; exact Agr.set HA.out HGE.out _ _⟩; have HB8 : Aside0 (Below w0.heap.size w0 w8) := ⟨by rw [hw]; exact below_set HB.out HG0.out⟩; have HL8 : Aside0 (∀ k, P k → k < w8.heap.size) := ⟨fun k_ hk_ => by have := HL.out k_ hk_; rw [hw]; simpa [World.setCell] using this⟩; clear hw hxv hfv hcG hcS HPO HV HI HX HA HB HL; have hcG : w8.cell? ⟨gG, 0, none⟩ = some (.slice (some ⟨gg, 0, none⟩) N cg) := (blk_cell HX8.out.1 0).trans rfl; have hcP0 : w8.cell? ⟨gP, 0, none⟩ = some (.int .i64 s) := (blk_cell HX8.out.2.2.2.2 0).trans rfl; have hcP1 : w8.cell? ⟨gP, 1, none⟩ = some (.slice A1 l1.length c1) := (blk_cell HX8.out.2.2.2.2 1).trans rfl; have hcP2 : w8.cell? ⟨gP, 2, none⟩ = some (.slice A2 l2.length c2) := (blk_cell HX8.out.2.2.2.2 2).trans rfl)
        | ((with_reducible refine gate_callee (f := 74) rfl ?_); refine goesL_ (some 37) rfl rfl Try.func74 (by kernel_rfl) rfl #[.agg #[.int .i64 s, .slice A1 l1.length c1, .slice A2 l2.length c2], .slice (some ⟨gg, 0, none⟩) (gr.set a.toNat v).length cg, .int .i64 a] rfl (by (try simp only [List.map_toArray, List.map_cons, List.map_nil]); rw [List.length_set, HLV.out]; rfl) ?_; (with_reducible refine (impl_cellFits.calls k s _ _ l1 _ _ l2 _ _ (gr.set a.toNat v) a true w8 (HR1.out _ HA8.out) HC1.out (HR2.out _ HA8.out) HC2.out (Kd.R_reads' HV8.out).2.2 (by rw [List.length_set, HLV.out]; exact (Kd.R_reads' HV8.out).2.1) HC.out).mono ?_); rintro e w9 ⟨rfl, hb⟩; refine ⟨_, rfl, ?_⟩; have HV9 := Aside0.mk (Kd.R_below HV8.out hb); have HI9 := Aside0.mk (Te.keep HI8.out hb.size (fun k_ hk_ _ => hb.block k_ hk_)); have HX9 := Aside0.mk (impl_solutions.Boxes.agr HX8.out (Agr.of_below (P := P) hb) HP.out); have HA9 := Aside0.mk (HA8.out.trans (Agr.of_below hb)); have HB9 := Aside0.mk (below_step HB8.out hb); have HL9 : Aside0 (∀ k, P k → k < w9.heap.size) := ⟨fun k_ hk_ => Nat.lt_of_lt_of_le (HL8.out k_ hk_) hb.size⟩; clear hb hcG hcP0 hcP1 hcP2 HV8 HI8 HX8 HA8 HB8 HL8; have hcY : w9.cell? ⟨gY, 0, none⟩ = some (.func (.func 73) #[] #[.pointer (some ⟨gG, 0, none⟩), .pointer (some ⟨gT, 0, none⟩), .pointer (some ⟨gY, 0, none⟩), .pointer (some ⟨gS, 0, none⟩), .pointer (some ⟨gP, 0, none⟩)]) := (blk_cell HX9.out.2.2.1 0).trans rfl)
        | (go_at_call 73; (refine (IH.out (a + 1) (gr.set a.toNat v) s1 false t2 t3 _ HAA.out.2.2 HD.out HN.out (by rw [List.length_set]; exact HLV.out) HV9.out HI9.out HX9.out HA9.out HB9.out HL9.out HR.out).mono ?_); rintro e w10 ⟨rfl, HL1, hV, hI, hX, hA, hB, hL⟩; have HV10 := Aside0.mk hV; have HI10 := Aside0.mk hI; have HX10 := Aside0.mk hX; have HA10 := Aside0.mk hA; have HB10 := Aside0.mk hB; have HL10 := Aside0.mk hL; have HLV10 := Aside0.mk HL1; clear hV hI hX hA hB hL HL1 HV9 HI9 HX9 HA9 HB9 HL9 hcY))
       go_ret
       exact ⟨rfl, HLV10.out, HV10.out, HI10.out, HX10.out, HA10.out, HB10.out, HL10.out⟩
      | true =>
       simp only [if_true] at h
       have HT := Aside0.mk h
       clear h
       go_wp2_with (first
        | ((with_reducible refine gate_store (t := 3) (p := 33) rfl ?_); refine store_event (t := 3) (p := 33) (v := ?vo1) (w1 := wr.setCell ⟨gg, a.toNat, none⟩ (.int .i64 v)) ?hg ?ho ?hn ?hr ?_; (case ho => rfl); (case hg => rfl); (case hn => rfl); (case hr => first | (go_simp; done) | (go_simp; rfl)); intro w8 hw; have HV8 : Aside0 (Kd.R (Kd.int .i64) 3 w8 w0.heap.size (fun k => k = gg) (.slice (some ⟨gg, 0, none⟩) N cg) (gr.set a.toNat v)) := ⟨by rw [hw]; exact HPO.out.1⟩; have HI8 : Aside0 (Inv P s1 w8) := ⟨by rw [hw]; exact Te.keep HI.out (by simp [World.setCell]) (fun k_ _ hn_ => Below.heap_setCell wr ⟨gg, a.toNat, none⟩ _ k_ (fun e_ => hn_ (by rw [e_]; exact HPG.out)))⟩; have HX8 : Aside0 (impl_solutions.Boxes tf p1 p2 w8 gg cg N gG gT gY gS gP s A1 c1 l1.length A2 c2 l2.length) := ⟨by rw [hw]; exact impl_solutions.Boxes.set HX.out HNE.out _ _⟩; have HA8 : Aside0 (Agr P wE w8) := ⟨by rw [hw]; exact Agr.set HA.out HGE.out _ _⟩; have HB8 : Aside0 (Below w0.heap.size w0 w8) := ⟨by rw [hw]; exact below_set HB.out HG0.out⟩; have HL8 : Aside0 (∀ k, P k → k < w8.heap.size) := ⟨fun k_ hk_ => by have := HL.out k_ hk_; rw [hw]; simpa [World.setCell] using this⟩; clear hw hxv hfv hcG hcS HPO HV HI HX HA HB HL; have hcG : w8.cell? ⟨gG, 0, none⟩ = some (.slice (some ⟨gg, 0, none⟩) N cg) := (blk_cell HX8.out.1 0).trans rfl; have hcP0 : w8.cell? ⟨gP, 0, none⟩ = some (.int .i64 s) := (blk_cell HX8.out.2.2.2.2 0).trans rfl; have hcP1 : w8.cell? ⟨gP, 1, none⟩ = some (.slice A1 l1.length c1) := (blk_cell HX8.out.2.2.2.2 1).trans rfl; have hcP2 : w8.cell? ⟨gP, 2, none⟩ = some (.slice A2 l2.length c2) := (blk_cell HX8.out.2.2.2.2 2).trans rfl)
        | ((with_reducible refine gate_callee (f := 74) rfl ?_); refine goesL_ (some 37) rfl rfl Try.func74 (by kernel_rfl) rfl #[.agg #[.int .i64 s, .slice A1 l1.length c1, .slice A2 l2.length c2], .slice (some ⟨gg, 0, none⟩) (gr.set a.toNat v).length cg, .int .i64 a] rfl (by (try simp only [List.map_toArray, List.map_cons, List.map_nil]); rw [List.length_set, HLV.out]; rfl) ?_; (with_reducible refine (impl_cellFits.calls k s _ _ l1 _ _ l2 _ _ (gr.set a.toNat v) a true w8 (HR1.out _ HA8.out) HC1.out (HR2.out _ HA8.out) HC2.out (Kd.R_reads' HV8.out).2.2 (by rw [List.length_set, HLV.out]; exact (Kd.R_reads' HV8.out).2.1) HC.out).mono ?_); rintro e w9 ⟨rfl, hb⟩; refine ⟨_, rfl, ?_⟩; have HV9 := Aside0.mk (Kd.R_below HV8.out hb); have HI9 := Aside0.mk (Te.keep HI8.out hb.size (fun k_ hk_ _ => hb.block k_ hk_)); have HX9 := Aside0.mk (impl_solutions.Boxes.agr HX8.out (Agr.of_below (P := P) hb) HP.out); have HA9 := Aside0.mk (HA8.out.trans (Agr.of_below hb)); have HB9 := Aside0.mk (below_step HB8.out hb); have HL9 : Aside0 (∀ k, P k → k < w9.heap.size) := ⟨fun k_ hk_ => Nat.lt_of_lt_of_le (HL8.out k_ hk_) hb.size⟩; clear hb hcG hcP0 hcP1 hcP2 HV8 HI8 HX8 HA8 HB8 HL8; have hcY : w9.cell? ⟨gY, 0, none⟩ = some (.func (.func 73) #[] #[.pointer (some ⟨gG, 0, none⟩), .pointer (some ⟨gT, 0, none⟩), .pointer (some ⟨gY, 0, none⟩), .pointer (some ⟨gS, 0, none⟩), .pointer (some ⟨gP, 0, none⟩)]) := (blk_cell HX9.out.2.2.1 0).trans rfl)
        | (go_at_call 73; (refine (IH.out (a + 1) (gr.set a.toNat v) s1 true t2 t3 _ HAA.out.2.2 HD.out HN.out (by rw [List.length_set]; exact HLV.out) HV9.out HI9.out HX9.out HA9.out HB9.out HL9.out HR.out).mono ?_); rintro e w10 ⟨rfl, HL1, hV, hI, hX, hA, hB, hL⟩; have HV10 := Aside0.mk hV; have HI10 := Aside0.mk hI; have HX10 := Aside0.mk hX; have HA10 := Aside0.mk hA; have HB10 := Aside0.mk hB; have HL10 := Aside0.mk hL; have HLV10 := Aside0.mk HL1; clear hV hI hX hA hB hL HL1 HV9 HI9 HX9 HA9 HB9 HL9 hcY))
       go_roundg q
       case measure => omega
       case rel => exact ⟨v + 1, t2, t3, rfl, ⟨by have := HK.out; omega⟩, HT, HLV10, HV10, HI10, HX10, HA10, HB10, HL10⟩
def impl_solutions.run {σ : Type} (T : σ → List Int → Option (Bool × σ)) (k : Nat) (s : Int) (l1 : List Int) (l2 : List S73) (l : List Int) (st : σ) : Option σ :=
 if 0 < l.length ∧ l.length ≤ 100000 ∧ s ≤ 1000 then (impl_PuzzleFits.f k s l1 l2 l).bind fun b => (if b = true then (impl_solutions.try_ T k s l1 l2 l.length l.length l st).bind fun t => some t.2.2 else some st) else none
set_option maxHeartbeats 8000000 in
set_option maxRecDepth 100000 in
theorem impl_solutions.gen {w0 : World} {σ : Type} {tf p1 p2 : Nat} {T : σ → List Int → Option (Bool × σ)} {Inv : (Nat → Prop) → σ → World → Prop} (Te : Teller w0 tf p1 p2 T Inv) (k : Nat) (s : Int) (A1 : Option Addr) (c1 : Nat) (l1 : List Int) (A2 : Option Addr) (c2 : Nat) (l2 : List S73) (A : Option Addr) (c : Nat) (l : List Int) (P : Nat → Prop) (st st' : σ) (w : World) (hB : Below w0.heap.size w0 w) (hPl : ∀ k, P k → k < w.heap.size) (hI : Inv P st w) (hr1 : ∀ W, Agr P w W → Kd.C (Kd.int .i64) W A1 l1.length l1) (hc1 : l1.length ≤ c1) (hr2 : ∀ W, Agr P w W → Kd.C k73 W A2 l2.length l2) (hc2 : l2.length ≤ c2) (hr : Kd.C (Kd.int .i64) w A l.length l) (hc : l.length ≤ c) (h : impl_solutions.run T k s l1 l2 l st = some st') :
  Calls Try.prog 45 #[.agg #[.int .i64 s, .slice A1 l1.length c1, .slice A2 l2.length c2], .slice A l.length c, .func (.func tf) #[] #[.pointer (some ⟨p1, 0, none⟩), .pointer (some ⟨p2, 0, none⟩)]] w fun e w' => e = .returned (.tuple #[]) ∧ Inv P st' w' ∧ Agr P w w' ∧ Below w0.heap.size w0 w' := by
 unfold impl_solutions.run at h
 by_cases hN : 0 < l.length ∧ l.length ≤ 100000 ∧ s ≤ 1000
 rotate_left
 ·rw [if_neg hN] at h
  cases h
 rw [if_pos hN] at h
 have HCL := Aside0.mk (show slices_Clone_int_int.f l = some l by unfold slices_Clone_int_int.f; rw [if_pos (by omega)])
 obtain ⟨b, hF, h⟩ := Option.bind_eq_some_iff.1 h
 have HF := Aside0.mk hF
 have HN := Aside0.mk hN
 have HB := Aside0.mk hB
 have HPL := Aside0.mk hPl
 have HI := Aside0.mk hI
 have HR1 := Aside0.mk hr1
 have HC1 := Aside0.mk hc1
 have HR2 := Aside0.mk hr2
 have HC2 := Aside0.mk hc2
 have HR := Aside0.mk hr
 have HC := Aside0.mk hc
 have hu := Try.underlying37
 have hsf := fun (a : Addr) (c : Array Value) (w : World) => run_store Try.prog w a (.func (.func 73) #[] c) .plain rfl
 clear hN hF hB hPl hI hr1 hc1 hr2 hc2 hr hc
 cases b with
 | false =>
  simp only [Bool.false_eq_true, if_false, Option.some.injEq] at h
  subst h
  go_enter Try.func45, Try.ntmps45
  go_wp2_with (first
   | ((with_reducible refine gate_dst (N := 3) rfl ?_); refine box_event ?hg (N := 3) ?hd (cs := #[.int .i64 s, .slice A1 l1.length c1, .slice A2 l2.length c2]) (t := 37) ?hr ?_; (case hd => rfl); (case hg => rfl); (case hr => first | (go_simp; done) | (go_simp; rfl)); intro gP hg w3 hbox hb; have BgP := Aside0.mk hbox; have HW := Aside0.mk hb; have HO := Aside0.mk (show w.heap.size ≤ gP ∧ gP < w3.heap.size from ⟨Nat.le_of_eq hg.symm, blk_lt hbox⟩); clear hg hbox hb)
   | ((with_reducible refine gate_dst (N := 5) rfl ?_); refine box_event ?hg (N := 5) ?hd (cs := #[.func (.func tf) #[] #[.pointer (some ⟨p1, 0, none⟩), .pointer (some ⟨p2, 0, none⟩)]]) (t := 63) ?hr ?_; (case hd => rfl); (case hg => rfl); (case hr => first | (go_simp; done) | (go_simp; rfl)); intro gT hg w5 hbox hb; replace HW := Aside0.mk (below_step HW.out hb); replace BgP := Aside0.mk (blk_below BgP.out hb); have BgT := Aside0.mk hbox; have HO_ := HO.out; clear HO; have HO := Aside0.mk (show w.heap.size ≤ gP ∧ gP < gT ∧ gT < w5.heap.size from ⟨HO_.1, by omega, blk_lt hbox⟩); clear HO_; clear hg hbox hb)
   | ((with_reducible refine gate_callee (f := 47) rfl ?_); refine goesL_ (some 10) rfl rfl Try.func47 (by kernel_rfl) rfl #[.slice A l.length c] rfl (by (try simp only [List.map_toArray, List.map_cons, List.map_nil]); first | done | rfl) ?_; (with_reducible refine (slices_Clone_int_int.calls A c l l w5 (Kd.C_below HR.out HW.out) HC.out HCL.out).mono ?_); rintro e w10 ⟨v10, rfl, ho, hb⟩; refine ⟨_, rfl, ?_⟩; obtain ⟨gg, cg, e_, gb_, gl_, gx_⟩ := Kd.R_form ho HN.out.1; subst e_; have HV := Aside0.mk (Kd.R_mono (Kd.R_tight rfl (Kd.R_lower ho (Nat.le_trans HB.out.size HW.out.size))) (fun k_ h_ => by simpa [Value.ownBlock] using h_) : Kd.R (Kd.int .i64) 3 w10 w0.heap.size (fun k => k = gg) (.slice (some ⟨gg, 0, none⟩) l.length cg) l); replace HW := Aside0.mk (below_step HW.out hb); replace BgP := Aside0.mk (blk_below BgP.out hb); replace BgT := Aside0.mk (blk_below BgT.out hb); have HO_ := HO.out; clear HO; have HO := Aside0.mk (show w.heap.size ≤ gP ∧ gP < gT ∧ gT < gg ∧ gg < w10.heap.size from ⟨HO_.1, HO_.2.1, by omega, gl_⟩); clear HO_ gb_ gl_ gx_ ho hb)
   | ((with_reducible refine gate_dst (N := 6) rfl ?_); refine box_event ?hg (N := 6) ?hd (cs := #[.slice none 0 0]) (t := 22) ?hr ?_; (case hd => rfl); (case hg => rfl); (case hr => first | (go_simp; done) | (go_simp; rfl)); intro gG hg w11 hbox hb; replace HW := Aside0.mk (below_step HW.out hb); replace BgP := Aside0.mk (blk_below BgP.out hb); replace BgT := Aside0.mk (blk_below BgT.out hb); replace HV := Aside0.mk (Kd.R_below HV.out hb); have BgG := Aside0.mk hbox; have hz : w11.cell? ⟨gG, 0, none⟩ = some (.slice none 0 0) := (blk_cell hbox 0).trans rfl; have hzf := blk_frozen hbox 0; have HO_ := HO.out; clear HO; have HO := Aside0.mk (show w.heap.size ≤ gP ∧ gP < gT ∧ gT < gg ∧ gg < gG ∧ gG < w11.heap.size from ⟨HO_.1, HO_.2.1, HO_.2.2.1, by omega, blk_lt hbox⟩); clear HO_; clear hg hbox hb)
   | ((with_reducible refine gate_store (t := 22) (p := 6) rfl ?_); refine store_event (t := 22) (p := 6) (v := ?vo1) (w1 := w11.setCell ⟨gG, 0, none⟩ (.slice (some ⟨gg, 0, none⟩) l.length cg)) ?hg ?ho ?hn ?hr ?_; (case ho => rfl); (case hg => rfl); (case hn => rfl); (case hr => first | (go_simp; done) | (go_simp; rfl)); intro w12 hw; have n_ := Aside0.mk (far1 hw BgP.out (by have := HO.out; omega)); clear BgP; have BgP := n_; clear n_; have n_ := Aside0.mk (far1 hw BgT.out (by have := HO.out; omega)); clear BgT; have BgT := n_; clear n_; have n_ : Aside0 (w12.heap[gG]? = some (.cells #[.slice (some ⟨gg, 0, none⟩) l.length cg] 22 (0, 0))) := ⟨by rw [hw]; simpa using blk_set BgG.out 0 (.slice (some ⟨gg, 0, none⟩) l.length cg)⟩; clear BgG; have BgG := n_; clear n_; have n_ : Aside0 (Below w.heap.size w w12) := ⟨by rw [hw]; exact below_set HW.out (by have := HO.out; omega)⟩; clear HW; have HW := n_; clear n_; have n_ : Aside0 (Kd.R (Kd.int .i64) 3 w12 w0.heap.size (fun k => k = gg) (.slice (some ⟨gg, 0, none⟩) l.length cg) l) := ⟨by rw [hw]; exact Kd.R_far (p := ⟨gG, 0, none⟩) HV.out (fun k_ h_ => by have := HO.out; show k_ ≠ gG; omega) _⟩; clear HV; have HV := n_; clear n_; clear hz hzf; have hg0 : w12.cell? ⟨gG, 0, none⟩ = some (.slice (some ⟨gg, 0, none⟩) l.length cg) := (blk_cell BgG.out 0).trans rfl; have hp0 : w12.cell? ⟨gP, 0, none⟩ = some (.int .i64 s) := (blk_cell BgP.out 0).trans rfl; have hp1 : w12.cell? ⟨gP, 1, none⟩ = some (.slice A1 l1.length c1) := (blk_cell BgP.out 1).trans rfl; have hp2 : w12.cell? ⟨gP, 2, none⟩ = some (.slice A2 l2.length c2) := (blk_cell BgP.out 2).trans rfl; have HO_ : Aside0 (w.heap.size ≤ gP ∧ gP < gT ∧ gT < gg ∧ gg < gG ∧ gG < w12.heap.size) := ⟨by have := HO.out; rw [hw]; simpa [World.setCell] using this⟩; clear HO; have HO := HO_; clear HO_; clear hw)
   | ((with_reducible refine gate_callee (f := 72) rfl ?_); refine goesL_ (some 13) rfl rfl Try.func72 (by kernel_rfl) rfl #[.agg #[.int .i64 s, .slice A1 l1.length c1, .slice A2 l2.length c2], .slice (some ⟨gg, 0, none⟩) l.length cg] rfl (by (try simp only [List.map_toArray, List.map_cons, List.map_nil]); first | done | rfl) ?_; (with_reducible refine (impl_PuzzleFits.calls k s _ _ l1 _ _ l2 _ _ l false w12 (HR1.out _ (Agr.of_below HW.out)) HC1.out (HR2.out _ (Agr.of_below HW.out)) HC2.out (Kd.R_reads' HV.out).2.2 (Kd.R_reads' HV.out).2.1 HF.out).mono ?_); rintro e w13 ⟨rfl, hb⟩; refine ⟨_, rfl, ?_⟩; replace HW := Aside0.mk (below_step HW.out hb); replace BgP := Aside0.mk (blk_below BgP.out hb); replace BgT := Aside0.mk (blk_below BgT.out hb); replace HV := Aside0.mk (Kd.R_below HV.out hb); replace BgG := Aside0.mk (blk_below BgG.out hb); have HO_ := HO.out; clear HO; have HO := Aside0.mk (show w.heap.size ≤ gP ∧ gP < gT ∧ gT < gg ∧ gg < gG ∧ gG < w13.heap.size from ⟨HO_.1, HO_.2.1, HO_.2.2.1, HO_.2.2.2.1, Nat.lt_of_lt_of_le HO_.2.2.2.2 hb.size⟩); clear HO_ hg0 hp0 hp1 hp2; have hp0 : w13.cell? ⟨gP, 0, none⟩ = some (.int .i64 s) := (blk_cell BgP.out 0).trans rfl; clear hb))
  first | go_end0 | ((try simp only [Exit.inBlock, Exit.then]); refine bodyPost_ret (results_none rfl _ _ _) rfl ?_)
  exact ⟨rfl, Te.keep HI.out HW.out.size (fun k_ hl_ _ => HW.out.block k_ hl_), Agr.of_below HW.out, below_step HB.out HW.out⟩
 | true =>
  simp only [if_true] at h
  obtain ⟨⟨t1, t2, t3⟩, hT, h⟩ := Option.bind_eq_some_iff.1 h
  obtain rfl := Option.some.inj h
  have HT := Aside0.mk hT
  clear h hT
  go_enter Try.func45, Try.ntmps45
  go_wp2_with (first
   | ((with_reducible refine gate_dst (N := 3) rfl ?_); refine box_event ?hg (N := 3) ?hd (cs := #[.int .i64 s, .slice A1 l1.length c1, .slice A2 l2.length c2]) (t := 37) ?hr ?_; (case hd => rfl); (case hg => rfl); (case hr => first | (go_simp; done) | (go_simp; rfl)); intro gP hg w3 hbox hb; have BgP := Aside0.mk hbox; have HW := Aside0.mk hb; have HO := Aside0.mk (show w.heap.size ≤ gP ∧ gP < w3.heap.size from ⟨Nat.le_of_eq hg.symm, blk_lt hbox⟩); clear hg hbox hb)
   | ((with_reducible refine gate_dst (N := 5) rfl ?_); refine box_event ?hg (N := 5) ?hd (cs := #[.func (.func tf) #[] #[.pointer (some ⟨p1, 0, none⟩), .pointer (some ⟨p2, 0, none⟩)]]) (t := 63) ?hr ?_; (case hd => rfl); (case hg => rfl); (case hr => first | (go_simp; done) | (go_simp; rfl)); intro gT hg w5 hbox hb; replace HW := Aside0.mk (below_step HW.out hb); replace BgP := Aside0.mk (blk_below BgP.out hb); have BgT := Aside0.mk hbox; have HO_ := HO.out; clear HO; have HO := Aside0.mk (show w.heap.size ≤ gP ∧ gP < gT ∧ gT < w5.heap.size from ⟨HO_.1, by omega, blk_lt hbox⟩); clear HO_; clear hg hbox hb)
   | ((with_reducible refine gate_callee (f := 47) rfl ?_); refine goesL_ (some 10) rfl rfl Try.func47 (by kernel_rfl) rfl #[.slice A l.length c] rfl (by (try simp only [List.map_toArray, List.map_cons, List.map_nil]); first | done | rfl) ?_; (with_reducible refine (slices_Clone_int_int.calls A c l l w5 (Kd.C_below HR.out HW.out) HC.out HCL.out).mono ?_); rintro e w10 ⟨v10, rfl, ho, hb⟩; refine ⟨_, rfl, ?_⟩; obtain ⟨gg, cg, e_, gb_, gl_, gx_⟩ := Kd.R_form ho HN.out.1; subst e_; have HV := Aside0.mk (Kd.R_mono (Kd.R_tight rfl (Kd.R_lower ho (Nat.le_trans HB.out.size HW.out.size))) (fun k_ h_ => by simpa [Value.ownBlock] using h_) : Kd.R (Kd.int .i64) 3 w10 w0.heap.size (fun k => k = gg) (.slice (some ⟨gg, 0, none⟩) l.length cg) l); replace HW := Aside0.mk (below_step HW.out hb); replace BgP := Aside0.mk (blk_below BgP.out hb); replace BgT := Aside0.mk (blk_below BgT.out hb); have HO_ := HO.out; clear HO; have HO := Aside0.mk (show w.heap.size ≤ gP ∧ gP < gT ∧ gT < gg ∧ gg < w10.heap.size from ⟨HO_.1, HO_.2.1, by omega, gl_⟩); clear HO_ gb_ gl_ gx_ ho hb)
   | ((with_reducible refine gate_dst (N := 6) rfl ?_); refine box_event ?hg (N := 6) ?hd (cs := #[.slice none 0 0]) (t := 22) ?hr ?_; (case hd => rfl); (case hg => rfl); (case hr => first | (go_simp; done) | (go_simp; rfl)); intro gG hg w11 hbox hb; replace HW := Aside0.mk (below_step HW.out hb); replace BgP := Aside0.mk (blk_below BgP.out hb); replace BgT := Aside0.mk (blk_below BgT.out hb); replace HV := Aside0.mk (Kd.R_below HV.out hb); have BgG := Aside0.mk hbox; have hz : w11.cell? ⟨gG, 0, none⟩ = some (.slice none 0 0) := (blk_cell hbox 0).trans rfl; have hzf := blk_frozen hbox 0; have HO_ := HO.out; clear HO; have HO := Aside0.mk (show w.heap.size ≤ gP ∧ gP < gT ∧ gT < gg ∧ gg < gG ∧ gG < w11.heap.size from ⟨HO_.1, HO_.2.1, HO_.2.2.1, by omega, blk_lt hbox⟩); clear HO_; clear hg hbox hb)
   | ((with_reducible refine gate_store (t := 22) (p := 6) rfl ?_); refine store_event (t := 22) (p := 6) (v := ?vo1) (w1 := w11.setCell ⟨gG, 0, none⟩ (.slice (some ⟨gg, 0, none⟩) l.length cg)) ?hg ?ho ?hn ?hr ?_; (case ho => rfl); (case hg => rfl); (case hn => rfl); (case hr => first | (go_simp; done) | (go_simp; rfl)); intro w12 hw; have n_ := Aside0.mk (far1 hw BgP.out (by have := HO.out; omega)); clear BgP; have BgP := n_; clear n_; have n_ := Aside0.mk (far1 hw BgT.out (by have := HO.out; omega)); clear BgT; have BgT := n_; clear n_; have n_ : Aside0 (w12.heap[gG]? = some (.cells #[.slice (some ⟨gg, 0, none⟩) l.length cg] 22 (0, 0))) := ⟨by rw [hw]; simpa using blk_set BgG.out 0 (.slice (some ⟨gg, 0, none⟩) l.length cg)⟩; clear BgG; have BgG := n_; clear n_; have n_ : Aside0 (Below w.heap.size w w12) := ⟨by rw [hw]; exact below_set HW.out (by have := HO.out; omega)⟩; clear HW; have HW := n_; clear n_; have n_ : Aside0 (Kd.R (Kd.int .i64) 3 w12 w0.heap.size (fun k => k = gg) (.slice (some ⟨gg, 0, none⟩) l.length cg) l) := ⟨by rw [hw]; exact Kd.R_far (p := ⟨gG, 0, none⟩) HV.out (fun k_ h_ => by have := HO.out; show k_ ≠ gG; omega) _⟩; clear HV; have HV := n_; clear n_; clear hz hzf; have hg0 : w12.cell? ⟨gG, 0, none⟩ = some (.slice (some ⟨gg, 0, none⟩) l.length cg) := (blk_cell BgG.out 0).trans rfl; have hp0 : w12.cell? ⟨gP, 0, none⟩ = some (.int .i64 s) := (blk_cell BgP.out 0).trans rfl; have hp1 : w12.cell? ⟨gP, 1, none⟩ = some (.slice A1 l1.length c1) := (blk_cell BgP.out 1).trans rfl; have hp2 : w12.cell? ⟨gP, 2, none⟩ = some (.slice A2 l2.length c2) := (blk_cell BgP.out 2).trans rfl; have HO_ : Aside0 (w.heap.size ≤ gP ∧ gP < gT ∧ gT < gg ∧ gg < gG ∧ gG < w12.heap.size) := ⟨by have := HO.out; rw [hw]; simpa [World.setCell] using this⟩; clear HO; have HO := HO_; clear HO_; clear hw)
   | ((with_reducible refine gate_callee (f := 72) rfl ?_); refine goesL_ (some 13) rfl rfl Try.func72 (by kernel_rfl) rfl #[.agg #[.int .i64 s, .slice A1 l1.length c1, .slice A2 l2.length c2], .slice (some ⟨gg, 0, none⟩) l.length cg] rfl (by (try simp only [List.map_toArray, List.map_cons, List.map_nil]); first | done | rfl) ?_; (with_reducible refine (impl_PuzzleFits.calls k s _ _ l1 _ _ l2 _ _ l true w12 (HR1.out _ (Agr.of_below HW.out)) HC1.out (HR2.out _ (Agr.of_below HW.out)) HC2.out (Kd.R_reads' HV.out).2.2 (Kd.R_reads' HV.out).2.1 HF.out).mono ?_); rintro e w13 ⟨rfl, hb⟩; refine ⟨_, rfl, ?_⟩; replace HW := Aside0.mk (below_step HW.out hb); replace BgP := Aside0.mk (blk_below BgP.out hb); replace BgT := Aside0.mk (blk_below BgT.out hb); replace HV := Aside0.mk (Kd.R_below HV.out hb); replace BgG := Aside0.mk (blk_below BgG.out hb); have HO_ := HO.out; clear HO; have HO := Aside0.mk (show w.heap.size ≤ gP ∧ gP < gT ∧ gT < gg ∧ gg < gG ∧ gG < w13.heap.size from ⟨HO_.1, HO_.2.1, HO_.2.2.1, HO_.2.2.2.1, Nat.lt_of_lt_of_le HO_.2.2.2.2 hb.size⟩); clear HO_ hg0 hp0 hp1 hp2; have hp0 : w13.cell? ⟨gP, 0, none⟩ = some (.int .i64 s) := (blk_cell BgP.out 0).trans rfl; clear hb)
   | ((with_reducible refine gate_dst (N := 7) rfl ?_); refine box_event ?hg (N := 7) ?hd (cs := #[.int .i64 0]) (t := 3) ?hr ?_; (case hd => rfl); (case hg => rfl); (case hr => first | (go_simp; done) | (go_simp; rfl)); intro gS hg w14 hbox hb; replace HW := Aside0.mk (below_step HW.out hb); replace BgP := Aside0.mk (blk_below BgP.out hb); replace BgT := Aside0.mk (blk_below BgT.out hb); replace HV := Aside0.mk (Kd.R_below HV.out hb); replace BgG := Aside0.mk (blk_below BgG.out hb); have BgS := Aside0.mk hbox; clear hp0; have hz : w14.cell? ⟨gS, 0, none⟩ = some (.int .i64 0) := (blk_cell hbox 0).trans rfl; have hzf := blk_frozen hbox 0; have HO_ := HO.out; clear HO; have HO := Aside0.mk (show w.heap.size ≤ gP ∧ gP < gT ∧ gT < gg ∧ gg < gG ∧ gG < gS ∧ gS < w14.heap.size from ⟨HO_.1, HO_.2.1, HO_.2.2.1, HO_.2.2.2.1, by omega, blk_lt hbox⟩); clear HO_; clear hg hbox hb)
   | ((with_reducible refine gate_store (t := 3) (p := 7) rfl ?_); refine store_event (t := 3) (p := 7) (v := ?vo2) (w1 := w14.setCell ⟨gS, 0, none⟩ (.int .i64 s)) ?hg ?ho ?hn ?hr ?_; (case ho => rfl); (case hg => rfl); (case hn => rfl); (case hr => first | (go_simp; done) | (go_simp; rfl)); intro w15 hw; have n_ := Aside0.mk (far1 hw BgP.out (by have := HO.out; omega)); clear BgP; have BgP := n_; clear n_; have n_ := Aside0.mk (far1 hw BgT.out (by have := HO.out; omega)); clear BgT; have BgT := n_; clear n_; have n_ := Aside0.mk (far1 hw BgG.out (by have := HO.out; omega)); clear BgG; have BgG := n_; clear n_; have n_ : Aside0 (w15.heap[gS]? = some (.cells #[.int .i64 s] 3 (0, 0))) := ⟨by rw [hw]; simpa using blk_set BgS.out 0 (.int .i64 s)⟩; clear BgS; have BgS := n_; clear n_; have n_ : Aside0 (Below w.heap.size w w15) := ⟨by rw [hw]; exact below_set HW.out (by have := HO.out; omega)⟩; clear HW; have HW := n_; clear n_; have n_ : Aside0 (Kd.R (Kd.int .i64) 3 w15 w0.heap.size (fun k => k = gg) (.slice (some ⟨gg, 0, none⟩) l.length cg) l) := ⟨by rw [hw]; exact Kd.R_far (p := ⟨gS, 0, none⟩) HV.out (fun k_ h_ => by have := HO.out; show k_ ≠ gS; omega) _⟩; clear HV; have HV := n_; clear n_; clear hz hzf; have HO_ : Aside0 (w.heap.size ≤ gP ∧ gP < gT ∧ gT < gg ∧ gg < gG ∧ gG < gS ∧ gS < w15.heap.size) := ⟨by have := HO.out; rw [hw]; simpa [World.setCell] using this⟩; clear HO; have HO := HO_; clear HO_; clear hw)
   | ((with_reducible refine gate_dst (N := 8) rfl ?_); refine box_event ?hg (N := 8) ?hd (cs := #[.nilFunc]) (t := 61) ?hr ?_; (case hd => rfl); (case hg => rfl); (case hr => first | (go_simp; done) | (go_simp; rfl)); intro gY hg w16 hbox hb; replace HW := Aside0.mk (below_step HW.out hb); replace BgP := Aside0.mk (blk_below BgP.out hb); replace BgT := Aside0.mk (blk_below BgT.out hb); replace HV := Aside0.mk (Kd.R_below HV.out hb); replace BgG := Aside0.mk (blk_below BgG.out hb); replace BgS := Aside0.mk (blk_below BgS.out hb); have BgY := Aside0.mk hbox; have hz : w16.cell? ⟨gY, 0, none⟩ = some (.nilFunc) := (blk_cell hbox 0).trans rfl; have hzf := blk_frozen hbox 0; have HO_ := HO.out; clear HO; have HO := Aside0.mk (show w.heap.size ≤ gP ∧ gP < gT ∧ gT < gg ∧ gg < gG ∧ gG < gS ∧ gS < gY ∧ gY < w16.heap.size from ⟨HO_.1, HO_.2.1, HO_.2.2.1, HO_.2.2.2.1, HO_.2.2.2.2.1, by omega, blk_lt hbox⟩); clear HO_; clear hg hbox hb)
   | ((with_reducible refine gate_store (t := 61) (p := 8) rfl ?_); refine store_event (t := 61) (p := 8) (v := ?vo3) (w1 := w16.setCell ⟨gY, 0, none⟩ (.func (.func 73) #[] #[.pointer (some ⟨gG, 0, none⟩), .pointer (some ⟨gT, 0, none⟩), .pointer (some ⟨gY, 0, none⟩), .pointer (some ⟨gS, 0, none⟩), .pointer (some ⟨gP, 0, none⟩)])) ?hg ?ho ?hn ?hr ?_; (case ho => rfl); (case hg => rfl); (case hn => rfl); (case hr => first | (go_simp; done) | (go_simp; rfl)); intro w17 hw; have n_ := Aside0.mk (far1 hw BgP.out (by have := HO.out; omega)); clear BgP; have BgP := n_; clear n_; have n_ := Aside0.mk (far1 hw BgT.out (by have := HO.out; omega)); clear BgT; have BgT := n_; clear n_; have n_ := Aside0.mk (far1 hw BgG.out (by have := HO.out; omega)); clear BgG; have BgG := n_; clear n_; have n_ := Aside0.mk (far1 hw BgS.out (by have := HO.out; omega)); clear BgS; have BgS := n_; clear n_; have n_ : Aside0 (w17.heap[gY]? = some (.cells #[.func (.func 73) #[] #[.pointer (some ⟨gG, 0, none⟩), .pointer (some ⟨gT, 0, none⟩), .pointer (some ⟨gY, 0, none⟩), .pointer (some ⟨gS, 0, none⟩), .pointer (some ⟨gP, 0, none⟩)]] 61 (0, 0))) := ⟨by rw [hw]; simpa using blk_set BgY.out 0 (.func (.func 73) #[] #[.pointer (some ⟨gG, 0, none⟩), .pointer (some ⟨gT, 0, none⟩), .pointer (some ⟨gY, 0, none⟩), .pointer (some ⟨gS, 0, none⟩), .pointer (some ⟨gP, 0, none⟩)])⟩; clear BgY; have BgY := n_; clear n_; have n_ : Aside0 (Below w.heap.size w w17) := ⟨by rw [hw]; exact below_set HW.out (by have := HO.out; omega)⟩; clear HW; have HW := n_; clear n_; have n_ : Aside0 (Kd.R (Kd.int .i64) 3 w17 w0.heap.size (fun k => k = gg) (.slice (some ⟨gg, 0, none⟩) l.length cg) l) := ⟨by rw [hw]; exact Kd.R_far (p := ⟨gY, 0, none⟩) HV.out (fun k_ h_ => by have := HO.out; show k_ ≠ gY; omega) _⟩; clear HV; have HV := n_; clear n_; clear hz hzf; have hy0 : w17.cell? ⟨gY, 0, none⟩ = some (.func (.func 73) #[] #[.pointer (some ⟨gG, 0, none⟩), .pointer (some ⟨gT, 0, none⟩), .pointer (some ⟨gY, 0, none⟩), .pointer (some ⟨gS, 0, none⟩), .pointer (some ⟨gP, 0, none⟩)]) := (blk_cell BgY.out 0).trans rfl; have HO_ : Aside0 (w.heap.size ≤ gP ∧ gP < gT ∧ gT < gg ∧ gg < gG ∧ gG < gS ∧ gS < gY ∧ gY < w17.heap.size) := ⟨by have := HO.out; rw [hw]; simpa [World.setCell] using this⟩; clear HO; have HO := HO_; clear HO_; clear hw)
   | (go_at_call 73; (refine (impl_solutions.clo Te k s A1 c1 l1 A2 c2 l2 gg cg l.length gG gT gY gS gP (fun k_ => P k_ ∨ k_ = gg ∨ k_ = gG ∨ k_ = gT ∨ k_ = gY ∨ k_ = gS ∨ k_ = gP) w ⟨.inr (.inr (.inl rfl)), .inr (.inr (.inr (.inl rfl))), .inr (.inr (.inr (.inr (.inl rfl)))), .inr (.inr (.inr (.inr (.inr (.inl rfl))))), .inr (.inr (.inr (.inr (.inr (.inr rfl)))))⟩ (.inr (.inl rfl)) (by have := HO.out; omega) (by have := HO.out; omega) (Nat.le_trans HB.out.size (by have := HO.out; omega)) HN.out.2.2 (fun W_ h_ => HR1.out W_ (h_.mono (fun _ _ hp_ => .inl hp_))) HC1.out (fun W_ h_ => HR2.out W_ (h_.mono (fun _ _ hp_ => .inl hp_))) HC2.out l.length 0 l st t1 t2 t3 w17 (by omega) (Nat.le_refl _) HN.out.2.1 rfl HV.out (Te.keep (Te.mono HI.out (fun k_ hl_ hp_ => hp_.resolve_right (by have := HO.out; omega))) HW.out.size (fun k_ hl_ _ => HW.out.block k_ hl_)) ⟨BgG.out, BgT.out, BgY.out, BgS.out, BgP.out⟩ (Agr.of_below HW.out) (below_step HB.out HW.out) (fun k_ hp_ => hp_.elim (fun hp_ => by have h1_ := HO.out; have h2_ := HW.out.size; have := HPL.out k_ hp_; omega) (fun hp_ => by have h1_ := HO.out; omega)) HT.out).mono ?_); rintro e w18 ⟨rfl, hL1, hV, hI, hX, hA, hB, hL⟩; have n0_ := Aside0.mk (Te.mono hI (fun k_ _ hp_ => .inl hp_) : Inv P t3 w18); have n1_ := Aside0.mk (hA.mono (fun _ _ hp_ => .inl hp_) : Agr P w w18); have n2_ := Aside0.mk hB; clear hL1 hV hI hX hA hB hL hy0))
  first | go_end0 | ((try simp only [Exit.inBlock, Exit.then]); refine bodyPost_ret (results_none rfl _ _ _) rfl ?_)
  exact ⟨rfl, n0_.out, n1_.out, n2_.out⟩
def impl_solutions.f (k : Nat) : Option Unit := none
theorem impl_solutions.calls : True := trivial
/-! ### impl_SquareNumber: function 12 -/
def impl_SquareNumber.T (st : Int × List Int) (g : List Int) : Option (Bool × (Int × List Int)) := if g.length ≤ 100000 then (if st.1 = 0 then some (false, (st.1, g)) else some (true, (wrap64 (st.1 - 1), st.2))) else none
def impl_SquareNumber.Inv (w0 : World) (p1 p2 : Nat) (P : Nat → Prop) (st : Int × List Int) (w : World) : Prop :=
 w.heap[p1]? = some (.cells #[.int .i64 st.1] 3 (0, 0)) ∧ (∃ v, w.heap[p2]? = some (.cells #[v] 22 (0, 0)) ∧ Kd.R (Kd.int .i64) 3 w w0.heap.size (fun k => ¬ P k ∧ k ≠ p1 ∧ k ≠ p2) v st.2) ∧ ¬ P p1 ∧ ¬ P p2 ∧ w0.heap.size ≤ p1 ∧ p1 < p2
theorem impl_SquareNumber.keep {w0 : World} {p1 p2 : Nat} {P : Nat → Prop} {s : Int × List Int} {w w' : World} (h : impl_SquareNumber.Inv w0 p1 p2 P s w) (_ : w.heap.size ≤ w'.heap.size) (hk : ∀ k, k < w.heap.size → ¬ P k → w'.heap[k]? = w.heap[k]?) : impl_SquareNumber.Inv w0 p1 p2 P s w' := by
 obtain ⟨h1, ⟨v, h2, hR⟩, n1, n2, h3, h4⟩ := h
 exact ⟨(hk p1 (blk_lt h1) n1).trans h1, ⟨v, (hk p2 (blk_lt h2) n2).trans h2, Kd.R_step hR (fun k hk2 hlt => hk k hlt hk2.1)⟩, n1, n2, h3, h4⟩
theorem impl_SquareNumber.mono_ {w0 : World} {p1 p2 : Nat} {P P' : Nat → Prop} {s : Int × List Int} {w : World} (h : impl_SquareNumber.Inv w0 p1 p2 P s w) (hk : ∀ k, k < w.heap.size → P' k → P k) : impl_SquareNumber.Inv w0 p1 p2 P' s w := by
 obtain ⟨h1, ⟨v, h2, hR⟩, n1, n2, h3, h4⟩ := h
 exact ⟨h1, ⟨v, h2, Kd.R_mono (Kd.R_bound hR) (fun k hk2 => ⟨fun hp => hk2.1.1 (hk k hk2.2.2.1 hp), hk2.1.2⟩)⟩, fun hp => n1 (hk p1 (blk_lt h1) hp), fun hp => n2 (hk p2 (blk_lt h2) hp), h3, h4⟩
set_option maxHeartbeats 8000000 in
set_option maxRecDepth 100000 in
theorem impl_SquareNumber.call {w0 : World} {p1 p2 : Nat} {P : Nat → Prop} {s s' : Int × List Int} {w : World} {g : List Int} {A : Option Addr} {c : Nat} {b : Bool} (hB : Below w0.heap.size w0 w) (hI : impl_SquareNumber.Inv w0 p1 p2 P s w) (hr : Kd.C (Kd.int .i64) w A g.length g) (hc : g.length ≤ c) (hP : ∀ k, P k → k < w.heap.size) (h : impl_SquareNumber.T s g = some (b, s')) :
  Calls Try.prog 46 #[.slice A g.length c, .pointer (some ⟨p1, 0, none⟩), .pointer (some ⟨p2, 0, none⟩)] w fun e w' => e = .returned (.bool b) ∧ impl_SquareNumber.Inv w0 p1 p2 P s' w' ∧ Agr P w w' ∧ Below w0.heap.size w0 w' := by
 unfold impl_SquareNumber.T at h
 by_cases hl : g.length ≤ 100000
 rotate_left
 ·rw [if_neg hl] at h
  cases h
 rw [if_pos hl] at h
 obtain ⟨h1, ⟨v, h2, hR⟩, n1, n2, h3, h4⟩ := hI
 obtain ⟨n, f⟩ := s
 simp only at h h1 hR
 obtain ⟨Av, cv, ev⟩ := Kd.R_slice hR
 subst ev
 have hcN : w.cell? ⟨p1, 0, none⟩ = some (.int .i64 n) := (blk_cell h1 0).trans rfl
 have H1 := Aside0.mk h1
 have H2 := Aside0.mk h2
 have HR0 := Aside0.mk hR
 have N1 := Aside0.mk n1
 have N2 := Aside0.mk n2
 have H3 := Aside0.mk h3
 have H4 := Aside0.mk h4
 have HB := Aside0.mk hB
 have HP := Aside0.mk hP
 have HR := Aside0.mk hr
 have HC := Aside0.mk hc
 have HCL := Aside0.mk (show slices_Clone_int_int.f g = some g by unfold slices_Clone_int_int.f; rw [if_pos (by omega)])
 clear hB hr hc hP hl h1 h2 hR n1 n2 h3 h4
 by_cases hn : n = 0
 ·rw [if_pos hn] at h
  simp only [Option.some.injEq, Prod.mk.injEq] at h
  obtain ⟨rfl, rfl⟩ := h
  have hnb : ((n : Int) == 0) = true := beq_iff_eq.mpr hn
  clear hn
  go_enter Try.func46, Try.ntmps46
  go_wp2_with (first
   | ((with_reducible refine gate_callee (f := 47) rfl ?_); refine goesL_ (some 8) rfl rfl Try.func47 (by kernel_rfl) rfl #[.slice A g.length c] rfl (by (try simp only [List.map_toArray, List.map_cons, List.map_nil]); first | done | rfl) ?_; (with_reducible refine (slices_Clone_int_int.calls A c g g w HR.out HC.out HCL.out).mono ?_); rintro e w8 ⟨v8, rfl, ho, hb⟩; refine ⟨_, rfl, ?_⟩; have HV := Aside0.mk ho; have HW := Aside0.mk hb; have H2_ := Aside0.mk (blk_below H2.out hb); have H1_ := Aside0.mk (blk_below H1.out hb); clear ho hb hcN; obtain ⟨A8, c8, e8⟩ := Kd.R_slice HV.out; subst e8; have hz : w8.cell? ⟨p2, 0, none⟩ = some (.slice Av f.length cv) := (blk_cell H2_.out 0).trans rfl; have hzf := blk_frozen H2_.out 0)
   | ((with_reducible refine gate_store (t := 22) (p := 2) rfl ?_); refine store_event (t := 22) (p := 2) (v := ?vo1) (w1 := w8.setCell ⟨p2, 0, none⟩ (.slice A8 g.length c8)) ?hg ?ho ?hn ?hr ?_; (case ho => rfl); (case hg => rfl); (case hn => rfl); (case hr => first | (go_simp; done) | (go_simp; rfl)); intro w9 hw; have H1q := Aside0.mk (far1 hw H1_.out (by have := H4.out; omega)); have H2q : Aside0 (w9.heap[p2]? = some (.cells #[.slice A8 g.length c8] 22 (0, 0))) := ⟨by rw [hw]; simpa using blk_set H2_.out 0 (.slice A8 g.length c8)⟩; have HBq : Aside0 (Below w0.heap.size w0 w9) := ⟨by rw [hw]; exact below_set (below_step HB.out HW.out) (by have := H3.out; have := H4.out; omega)⟩; have HRq : Aside0 (Kd.R (Kd.int .i64) 3 w9 w0.heap.size (fun k => ¬ P k ∧ k ≠ p1 ∧ k ≠ p2) (.slice A8 g.length c8) g) := ⟨by rw [hw]; exact Kd.R_mono (Kd.R_far (p := ⟨p2, 0, none⟩) (Kd.R_lower (Kd.R_bound HV.out) HB.out.size) (fun k_ h_ e_ => by have h1_ := h_.2.1; have h2_ := blk_lt H2.out; simp only at e_; omega) _) (fun k_ h_ => by have h1_ := h_.2.1; have h2_ := blk_lt H2.out; have h3_ := H4.out; exact ⟨fun hp_ => by have := HP.out k_ hp_; omega, by omega, by omega⟩)⟩; have HAq : Aside0 (Agr P w w9) := ⟨by rw [hw]; exact ⟨by have := HW.out.size; simpa [World.setCell] using this, fun k_ hl_ hp_ => (Below.heap_setCell w8 ⟨p2, 0, none⟩ _ k_ (fun e_ => N2.out (by simp only at e_; rw [← e_]; exact hp_))).trans (HW.out.block k_ hl_)⟩⟩; clear hw hz hzf))
  go_ret
  exact ⟨rfl, ⟨H1q.out, ⟨_, H2q.out, HRq.out⟩, N1.out, N2.out, H3.out, H4.out⟩, HAq.out, HBq.out⟩
 ·rw [if_neg hn] at h
  simp only [Option.some.injEq, Prod.mk.injEq] at h
  obtain ⟨rfl, rfl⟩ := h
  have hnb : ((n : Int) == 0) = false := beq_eq_false_iff_ne.mpr hn
  have hzf := blk_frozen H1.out 0
  clear hn
  go_enter Try.func46, Try.ntmps46
  go_wp2_with (first
   | ((with_reducible refine gate_store (t := 3) (p := 1) rfl ?_); refine store_event (t := 3) (p := 1) (v := ?vo2) (w1 := w.setCell ⟨p1, 0, none⟩ (.int .i64 (wrap64 (n - 1)))) ?hg ?ho ?hn ?hr ?_; (case ho => rfl); (case hg => rfl); (case hn => rfl); (case hr => first | (go_simp; done) | (go_simp; rfl)); intro w9 hw; have H2q := Aside0.mk (far1 hw H2.out (by have := H4.out; omega)); have H1q : Aside0 (w9.heap[p1]? = some (.cells #[.int .i64 (wrap64 (n - 1))] 3 (0, 0))) := ⟨by rw [hw]; simpa using blk_set H1.out 0 (.int .i64 (wrap64 (n - 1)))⟩; have HBq : Aside0 (Below w0.heap.size w0 w9) := ⟨by rw [hw]; exact below_set HB.out H3.out⟩; have HRq : Aside0 (Kd.R (Kd.int .i64) 3 w9 w0.heap.size (fun k => ¬ P k ∧ k ≠ p1 ∧ k ≠ p2) (.slice Av f.length cv) f) := ⟨by rw [hw]; exact Kd.R_far (p := ⟨p1, 0, none⟩) HR0.out (fun k_ h_ => h_.2.1) _⟩; have HAq : Aside0 (Agr P w w9) := ⟨by rw [hw]; exact ⟨by simp [World.setCell], fun k_ _ hp_ => Below.heap_setCell w ⟨p1, 0, none⟩ _ k_ (fun e_ => N1.out (by simp only at e_; rw [← e_]; exact hp_))⟩⟩; clear hw hcN hzf))
  go_ret
  exact ⟨rfl, ⟨H1q.out, ⟨_, H2q.out, HRq.out⟩, N1.out, N2.out, H3.out, H4.out⟩, HAq.out, HBq.out⟩
theorem impl_SquareNumber.teller (w0 : World) (p1 p2 : Nat) : Teller w0 46 p1 p2 impl_SquareNumber.T (impl_SquareNumber.Inv w0 p1 p2) :=
 ⟨⟨_, Try.func46, by kernel_rfl, rfl⟩, impl_SquareNumber.keep, impl_SquareNumber.mono_, impl_SquareNumber.call⟩
def impl_SquareNumber.f (k : Nat) (a0 : Int) (a1 : Int) : Option (List Int) :=
 if 2 ≤ a0 ∧ a0 ≤ 4 ∧ 0 ≤ a1 then (impl_solutions.run impl_SquareNumber.T k a0 (List.replicate (wrap64 (a0 * a0)).toNat 0) [] (List.replicate (wrap64 (a0 * a0)).toNat 0) (a1, [])).bind fun st => some st.2 else some []
set_option maxHeartbeats 8000000 in
set_option maxRecDepth 100000 in
theorem impl_SquareNumber.calls (k : Nat) (a0 : Int) (a1 : Int) (r : List Int) (w : World) (h : impl_SquareNumber.f k a0 a1 = some r) :
  Calls Try.prog 12 #[.int .i64 a0, .int .i64 a1] w fun e w' => ∃ v0_ : Value, e = .returned (v0_) ∧ Kd.R (Kd.int .i64) 3 w' w.heap.size (fun _ => True) v0_ r ∧ Below w.heap.size w w' := by
 unfold impl_SquareNumber.f at h
 by_cases hc : 2 ≤ a0 ∧ a0 ≤ 4 ∧ 0 ≤ a1
 ·rw [if_pos hc] at h
  obtain ⟨st, hS, h⟩ := Option.bind_eq_some_iff.1 h
  obtain rfl := Option.some.inj h
  have HS := Aside0.mk hS
  have HL := Aside0.mk (show impl_sizeOk.f a0 = some true by unfold impl_sizeOk.f; rw [if_pos hc.1, decide_eq_true hc.2.1])
  have hn : decide (a1 < 0) = false := decide_eq_false (by omega)
  have HM := Aside0.mk (show 0 ≤ wrap64 (a0 * a0) ∧ wrap64 (a0 * a0) ≤ 16 by
   have : a0 = 2 ∨ a0 = 3 ∨ a0 = 4 := by omega
   rcases this with rfl | rfl | rfl <;> decide +kernel)
  have hu := Try.underlying37
  clear hc hS h
  go_enter Try.func12, Try.ntmps12
  go_wp2_with (first
   | ((with_reducible refine gate_dst (N := 3) rfl ?_); refine box_event ?hg (N := 3) ?hd (cs := #[.int .i64 a1]) (t := 3) ?hr ?_; (case hd => rfl); (case hg => rfl); (case hr => first | (go_simp; done) | (go_simp; rfl)); intro gN hg w3 hbox hb; have BgN := Aside0.mk hbox; have HW := Aside0.mk hb; have HO := Aside0.mk (show w.heap.size ≤ gN ∧ gN < w3.heap.size from ⟨Nat.le_of_eq hg.symm, blk_lt hbox⟩); clear hg hbox hb)
   | ((with_reducible refine gate_callee (f := 44) rfl ?_); refine goesL_ (some 8) rfl rfl Try.func44 (by kernel_rfl) rfl #[.int .i64 a0] rfl (by (try simp only [List.map_toArray, List.map_cons, List.map_nil]); first | done | rfl) ?_; (with_reducible refine (impl_sizeOk.calls a0 true w3 HL.out).mono ?_); rintro e w8 ⟨rfl, hd⟩; refine ⟨_, rfl, ?_⟩; have hb := hd.below; clear hd; replace BgN := Aside0.mk (blk_below BgN.out hb); replace HW := Aside0.mk (below_step HW.out hb); have HO_ := HO.out; clear HO; have HO := Aside0.mk (show w.heap.size ≤ gN ∧ gN < w8.heap.size from ⟨HO_.1, Nat.lt_of_lt_of_le HO_.2 hb.size⟩); clear HO_ hb; have hcN : w8.cell? ⟨gN, 0, none⟩ = some (.int .i64 a1) := (blk_cell BgN.out 0).trans rfl)
   | ((with_reducible refine gate_dst (N := 5) rfl ?_); refine box_event ?hg (N := 5) ?hd (cs := #[.slice none 0 0]) (t := 22) ?hr ?_; (case hd => rfl); (case hg => rfl); (case hr => first | (go_simp; done) | (go_simp; rfl)); intro gF hg w9 hbox hb; have BgF := Aside0.mk hbox; replace BgN := Aside0.mk (blk_below BgN.out hb); replace HW := Aside0.mk (below_step HW.out hb); have HO_ := HO.out; clear HO hcN; have HO := Aside0.mk (show w.heap.size ≤ gN ∧ gN < gF ∧ gF < w9.heap.size from ⟨HO_.1, by omega, blk_lt hbox⟩); have hz : w9.cell? ⟨gF, 0, none⟩ = some (.slice none 0 0) := (blk_cell hbox 0).trans rfl; have hzf := blk_frozen hbox 0; clear HO_ hg hbox hb)
   | ((with_reducible refine gate_store (t := 22) (p := 5) rfl ?_); refine store_event (t := 22) (p := 5) (v := ?vo1) (w1 := w9.setCell ⟨gF, 0, none⟩ (.slice none 0 0)) ?hg ?ho ?hn ?hr ?_; (case ho => rfl); (case hg => rfl); (case hn => rfl); (case hr => first | (go_simp; done) | (go_simp; rfl)); intro w10 hw; have n1_ := Aside0.mk (far1 hw BgN.out (by have := HO.out; omega)); have n2_ : Aside0 (w10.heap[gF]? = some (.cells #[.slice none 0 0] 22 (0, 0))) := ⟨by rw [hw]; simpa using blk_set BgF.out 0 (.slice none 0 0)⟩; have n3_ : Aside0 (Below w.heap.size w w10) := ⟨by rw [hw]; exact below_set HW.out (by have := HO.out; omega)⟩; have n4_ : Aside0 (w.heap.size ≤ gN ∧ gN < gF ∧ gF < w10.heap.size) := ⟨by have := HO.out; rw [hw]; simpa [World.setCell] using this⟩; clear BgN BgF HW HO hz hzf hw; have BgN := n1_; have BgF := n2_; have HW := n3_; have HO := n4_; clear n1_ n2_ n3_ n4_)
   | ((with_reducible refine gate_dst (N := 18) rfl ?_); refine Kd.R_make (Kd.int .i64) _ 3 rfl (N := 18) rfl 22 _ _ rfl (wrap64 (a0 * a0)) rfl rfl Try.underlying22 (.int .i64 0) 8 info3 rfl (by decide) (by omega) 0 (ok := fun _ => True) (okp := fun _ => False) rfl (fun _ hk => hk.elim) trivial HM.out.1 (by have := HM.out.2; omega) (Below.refl _ _) (Nat.le_refl _) ?_; intro v18 w18 ho hb hg_ hnew_; clear hg_; obtain ⟨b_, e_, l_⟩ := hnew_; have n0_ := Aside0.mk (Kd.R_tight rfl (Kd.R_lower ho HW.out.size)); have n5_ := Aside0.mk (show ∀ k, some k = v18.ownBlock → w10.heap.size ≤ k ∧ k < w18.heap.size from fun k_ h_ => ⟨by rw [e_] at h_; injection h_ with h_; rw [h_]; exact l_, Kd.R_lt ho k_ h_.symm⟩); replace BgN := Aside0.mk (blk_below BgN.out hb); replace BgF := Aside0.mk (blk_below BgF.out hb); replace HW := Aside0.mk (below_step HW.out hb); have HO_ := HO.out; clear HO; have HO := Aside0.mk (show w.heap.size ≤ gN ∧ gN < gF ∧ gF < w10.heap.size ∧ w10.heap.size ≤ w18.heap.size from ⟨HO_.1, HO_.2.1, HO_.2.2, hb.size⟩); clear HO_ ho hb e_ l_; obtain ⟨Az, cz, ez⟩ := Kd.R_slice n0_.out; subst ez; have HZ := n0_; have HZB := n5_; clear n0_ n5_)
   | ((with_reducible refine gate_dst (N := 6) rfl ?_); refine box_event ?hg (N := 6) ?hd (cs := #[.int .i64 0, .slice none 0 0, .slice none 0 0]) (t := 37) ?hr ?_; (case hd => rfl); (case hg => rfl); (case hr => first | (go_simp; done) | (go_simp; rfl)); intro gP hg w19 hbox hb; have BgP := Aside0.mk hbox; replace BgN := Aside0.mk (blk_below BgN.out hb); replace BgF := Aside0.mk (blk_below BgF.out hb); replace HW := Aside0.mk (below_step HW.out hb); replace HZ := Aside0.mk (Kd.R_below HZ.out hb); have HO_ := HO.out; clear HO; have HO := Aside0.mk (show w.heap.size ≤ gN ∧ gN < gF ∧ gF < w10.heap.size ∧ w10.heap.size ≤ w18.heap.size ∧ w18.heap.size ≤ gP ∧ gP < w19.heap.size from ⟨HO_.1, HO_.2.1, HO_.2.2.1, HO_.2.2.2, Nat.le_of_eq hg.symm, blk_lt hbox⟩); have hz0 : w19.cell? ⟨gP, 0, none⟩ = some (.int .i64 0) := (blk_cell hbox 0).trans rfl; have hz1 : w19.cell? ⟨gP, 1, none⟩ = some (.slice none 0 0) := (blk_cell hbox 1).trans rfl; have hz2 : w19.cell? ⟨gP, 2, none⟩ = some (.slice none 0 0) := (blk_cell hbox 2).trans rfl; have hzf0 := blk_frozen hbox 0; have hzf1 := blk_frozen hbox 1; have hzf2 := blk_frozen hbox 2; clear HO_ hg hbox hb)
   | ((with_reducible refine gate_store (t := 37) (p := 6) rfl ?_); refine store_event (t := 37) (p := 6) (v := ?vo2) (w1 := ((w19.setCell ⟨gP, 0, none⟩ (.int .i64 a0)).setCell ⟨gP, 1, none⟩ (.slice Az (List.replicate (wrap64 (a0 * a0)).toNat (0 : Int)).length cz)).setCell ⟨gP, 2, none⟩ (.slice none 0 0)) ?hg ?ho ?hn ?hr ?_; (case ho => rfl); (case hg => rfl); (case hn => rfl); (case hr => first | (go_simp; done) | (go_simp; rfl)); intro w20 hw; have hk : Kept w19 w20 (fun k_ => k_ = gP) := (by rw [hw]; exact box3_kept _ _ _ _ _); have n0_ : Aside0 (w20.heap[gP]? = some (.cells #[.int .i64 a0, .slice Az (List.replicate (wrap64 (a0 * a0)).toNat (0 : Int)).length cz, .slice none 0 0] 37 (0, 0))) := ⟨by rw [hw]; exact box3_blk BgP.out _ _ _⟩; have n1_ := Aside0.mk (blk_kept BgN.out hk (by have := HO.out; omega)); have n2_ := Aside0.mk (blk_kept BgF.out hk (by have := HO.out; omega)); have n3_ : Aside0 (Below w.heap.size w w20) := ⟨by rw [hw]; exact box3_below HW.out (by have := HO.out; omega) _ _ _⟩; have n4_ := Aside0.mk (Kd.R_kept HZ.out hk (fun k_ h_ e_ => by have := HZB.out k_ h_; have := HO.out; omega)); have HO_ := HO.out; have n5_ := Aside0.mk (show w.heap.size ≤ gN ∧ gN < gF ∧ gF < w10.heap.size ∧ w10.heap.size ≤ w18.heap.size ∧ w18.heap.size ≤ gP ∧ gP < w20.heap.size from ⟨HO_.1, HO_.2.1, HO_.2.2.1, HO_.2.2.2.1, HO_.2.2.2.2.1, Nat.lt_of_lt_of_le HO_.2.2.2.2.2 hk.1⟩); clear BgP BgN BgF HW HZ HO HO_ hz0 hz1 hz2 hzf0 hzf1 hzf2 hw hk; have BgP := n0_; have BgN := n1_; have BgF := n2_; have HW := n3_; have HZ := n4_; have HO := n5_; clear n0_ n1_ n2_ n3_ n4_ n5_; have hp0 : w20.cell? ⟨gP, 0, none⟩ = some (.int .i64 a0) := (blk_cell BgP.out 0).trans rfl; have hp1 : w20.cell? ⟨gP, 1, none⟩ = some (.slice Az (List.replicate (wrap64 (a0 * a0)).toNat (0 : Int)).length cz) := (blk_cell BgP.out 1).trans rfl; have hp2 : w20.cell? ⟨gP, 2, none⟩ = some (.slice none 0 0) := (blk_cell BgP.out 2).trans rfl)
   | ((with_reducible refine gate_callee (f := 45) rfl ?_); refine goesL_ (some 24) rfl rfl Try.func45 (by kernel_rfl) rfl #[.agg #[.int .i64 a0, .slice Az (List.replicate (wrap64 (a0 * a0)).toNat (0 : Int)).length cz, .slice none ([] : List S73).length 0], .slice Az (List.replicate (wrap64 (a0 * a0)).toNat (0 : Int)).length cz, .func (.func 46) #[] #[.pointer (some ⟨gN, 0, none⟩), .pointer (some ⟨gF, 0, none⟩)]] rfl (by (try simp only [List.map_toArray, List.map_cons, List.map_nil]); simp only [List.length_replicate]; rfl) ?_; (refine (impl_solutions.gen (impl_SquareNumber.teller w gN gF) k a0 Az cz (List.replicate (wrap64 (a0 * a0)).toNat (0 : Int)) none 0 ([] : List S73) Az cz (List.replicate (wrap64 (a0 * a0)).toNat (0 : Int)) (fun k_ => k_ < w20.heap.size ∧ k_ ≠ gN ∧ k_ ≠ gF) (a1, []) st w20 HW.out (fun _ h_ => h_.1) ⟨BgN.out, ⟨_, BgF.out, Kd.R_nil _ _ _ _ _⟩, fun h_ => h_.2.1 rfl, fun h_ => h_.2.2 rfl, HO.out.1, HO.out.2.1⟩ (fun W_ h_ => (Kd.R_reads' (Agr.R HZ.out h_ (fun k_ e_ => by have h1_ := HZB.out k_ e_; have h2_ := HO.out; exact ⟨by omega, by omega, by omega⟩))).2.2) (Kd.R_reads' HZ.out).2.1 (fun _ _ => Kd.C_nil _ _) (Nat.le_refl _) (Kd.R_reads' HZ.out).2.2 (Kd.R_reads' HZ.out).2.1 HS.out).mono ?_); rintro e w25 ⟨rfl, ⟨hN_, ⟨v_, hF_, hR_⟩, hn_⟩, hA, hB⟩; refine ⟨_, rfl, ?_⟩; have HRR := Aside0.mk hR_; have HBB := Aside0.mk hB; obtain ⟨Ar, cr, er⟩ := Kd.R_slice HRR.out; subst er; have hcF : w25.cell? ⟨gF, 0, none⟩ = some (.slice Ar st.2.length cr) := (blk_cell hF_ 0).trans rfl; clear hN_ hF_ hR_ hn_ hA hB hp0 hp1 hp2))
  go_ret
  exact ⟨_, rfl, Kd.R_mono HRR.out (fun _ _ => trivial), HBB.out⟩
 ·rw [if_neg hc] at h
  obtain rfl := Option.some.inj h
  by_cases hs : 2 ≤ a0 ∧ a0 ≤ 4
  ·have HL := Aside0.mk (show impl_sizeOk.f a0 = some true by unfold impl_sizeOk.f; rw [if_pos hs.1, decide_eq_true hs.2])
   have hn : decide (a1 < 0) = true := decide_eq_true (by omega)
   clear hc hs h
   go_enter Try.func12, Try.ntmps12
   go_wp2_with (first
    | ((with_reducible refine gate_dst (N := 3) rfl ?_); refine box_event ?hg (N := 3) ?hd (cs := #[.int .i64 a1]) (t := 3) ?hr ?_; (case hd => rfl); (case hg => rfl); (case hr => first | (go_simp; done) | (go_simp; rfl)); intro gN hg w3 hbox hb; have BgN := Aside0.mk hbox; have HW := Aside0.mk hb; have HO := Aside0.mk (show w.heap.size ≤ gN ∧ gN < w3.heap.size from ⟨Nat.le_of_eq hg.symm, blk_lt hbox⟩); clear hg hbox hb)
    | ((with_reducible refine gate_callee (f := 44) rfl ?_); refine goesL_ (some 8) rfl rfl Try.func44 (by kernel_rfl) rfl #[.int .i64 a0] rfl (by (try simp only [List.map_toArray, List.map_cons, List.map_nil]); first | done | rfl) ?_; (with_reducible refine (impl_sizeOk.calls a0 true w3 HL.out).mono ?_); rintro e w8 ⟨rfl, hd⟩; refine ⟨_, rfl, ?_⟩; have hb := hd.below; clear hd; replace BgN := Aside0.mk (blk_below BgN.out hb); replace HW := Aside0.mk (below_step HW.out hb); have HO_ := HO.out; clear HO; have HO := Aside0.mk (show w.heap.size ≤ gN ∧ gN < w8.heap.size from ⟨HO_.1, Nat.lt_of_lt_of_le HO_.2 hb.size⟩); clear HO_ hb; have hcN : w8.cell? ⟨gN, 0, none⟩ = some (.int .i64 a1) := (blk_cell BgN.out 0).trans rfl))
   go_ret
   exact ⟨_, rfl, Kd.R_nil _ _ _ _ _, HW.out⟩
  ·have HL := Aside0.mk (show impl_sizeOk.f a0 = some false by
    unfold impl_sizeOk.f
    by_cases h2 : a0 ≥ 2
    ·rw [if_pos h2, decide_eq_false (by omega)]
    ·rw [if_neg h2])
   clear hc hs h
   go_enter Try.func12, Try.ntmps12
   go_wp2_with (first
    | ((with_reducible refine gate_dst (N := 3) rfl ?_); refine box_event ?hg (N := 3) ?hd (cs := #[.int .i64 a1]) (t := 3) ?hr ?_; (case hd => rfl); (case hg => rfl); (case hr => first | (go_simp; done) | (go_simp; rfl)); intro gN hg w3 hbox hb; have BgN := Aside0.mk hbox; have HW := Aside0.mk hb; have HO := Aside0.mk (show w.heap.size ≤ gN ∧ gN < w3.heap.size from ⟨Nat.le_of_eq hg.symm, blk_lt hbox⟩); clear hg hbox hb)
    | ((with_reducible refine gate_callee (f := 44) rfl ?_); refine goesL_ (some 8) rfl rfl Try.func44 (by kernel_rfl) rfl #[.int .i64 a0] rfl (by (try simp only [List.map_toArray, List.map_cons, List.map_nil]); first | done | rfl) ?_; (with_reducible refine (impl_sizeOk.calls a0 false w3 HL.out).mono ?_); rintro e w8 ⟨rfl, hd⟩; refine ⟨_, rfl, ?_⟩; have hb := hd.below; clear hd; replace BgN := Aside0.mk (blk_below BgN.out hb); replace HW := Aside0.mk (below_step HW.out hb); have HO_ := HO.out; clear HO; have HO := Aside0.mk (show w.heap.size ≤ gN ∧ gN < w8.heap.size from ⟨HO_.1, Nat.lt_of_lt_of_le HO_.2 hb.size⟩); clear HO_ hb; have hcN : w8.cell? ⟨gN, 0, none⟩ = some (.int .i64 a1) := (blk_cell BgN.out 0).trans rfl))
   go_ret
   exact ⟨_, rfl, Kd.R_nil _ _ _ _ _, HW.out⟩
/-- A state of type 85 at block g of W; what its slices lead to came in by w0. -/
def IsS85 (w0 W : World) (g : Nat) (f0 : List Int) (f1 : Int) : Prop := ∃ A0 c0, W.heap[g]? = some (.cells #[.slice A0 f0.length c0, .int .i64 f1] 85 (0, 0)) ∧ w0.heap.size ≤ g ∧ Kd.C (Kd.int .u8) w0 A0 f0.length f0
theorem IsS85.grown {w0 W : World} {g : Nat} {f0 : List Int} {f1 : Int} {W1 : World} {row : Option Nat} (h : IsS85 w0 W g f0 f1) (hw : W.grownBy W1 row) (hne : some g ≠ row) : IsS85 w0 W1 g f0 f1 := by
 obtain ⟨A0, c0, hb, hg, hr0⟩ := h
 exact ⟨A0, c0, blk_grown hb hw hne, hg, hr0⟩
theorem IsS85.own_neN {w0 W : World} {g : Nat} {f0 : List Int} {f1 : Int} {α : Type} {d : Kd α} {e : Nat} {base : Nat} {ok : Nat → Prop} {v : Value} {xs : List α} (h : IsS85 w0 W g f0 f1) (ho : Kd.N d e W base ok v xs) (ht : e ≠ 85) : some g ≠ v.ownBlock := by
 obtain ⟨A0, c0, hb, hg, hr0⟩ := h
 exact Kd.N_ne ho hb ht
theorem IsS85.fresh {w0 W : World} {g : Nat} {f0 : List Int} {f1 : Int} (h : IsS85 w0 W g f0 f1) : ∀ k, W.heap.size ≤ k → k ≠ g := by
 obtain ⟨A0, c0, hb, hg, hr0⟩ := h
 exact Kd.freshB hb
theorem IsS85.kept {w0 W : World} {g : Nat} {f0 : List Int} {f1 : Int} {W1 : World} {S : Nat → Prop} (h : IsS85 w0 W g f0 f1) (hk : Kept W W1 S) (hne : ¬ S g) : IsS85 w0 W1 g f0 f1 := by
 obtain ⟨A0, c0, hb, hg, hr0⟩ := h
 exact ⟨A0, c0, blk_kept hb hk hne, hg, hr0⟩
theorem IsS85.below {w0 W : World} {g : Nat} {f0 : List Int} {f1 : Int} {W1 : World} (h : IsS85 w0 W g f0 f1) (hw : Below W.heap.size W W1) : IsS85 w0 W1 g f0 f1 := h.grown (grown_of_below hw none) (by simp)
theorem IsS85.alloc {w0 W : World} {g : Nat} {f0 : List Int} {f1 : Int} (h : IsS85 w0 W g f0 f1) (o : Obj) : IsS85 w0 (W.alloc o) g f0 f1 := h.below (yea (Below.refl _ _) o)
theorem IsS85.drewN {w0 W : World} {g : Nat} {f0 : List Int} {f1 : Int} (h : IsS85 w0 W g f0 f1) (m : Nat) : IsS85 w0 (W.drewN m) g f0 f1 := h
theorem IsS85.drew {w0 W : World} {g : Nat} {f0 : List Int} {f1 : Int} (h : IsS85 w0 W g f0 f1) : IsS85 w0 W.drew g f0 f1 := h
theorem IsS85.at_ {w0 W : World} {g : Nat} {f0 : List Int} {f1 : Int} {w' : World} {m : Nat} (hq : W.drewN m = w') (h : IsS85 w0 W g f0 f1) : IsS85 w0 w' g f0 f1 := by subst hq; exact IsS85.drewN h m
theorem IsS85.apart {w0 W : World} {g : Nat} {f0 : List Int} {f1 : Int} {α : Type} {d : Kd α} {e : Nat} {base : Nat} {ok : Nat → Prop} {v : Value} {xs : List α} (h : IsS85 w0 W g f0 f1) (ho : d.R e W base ok v xs) (ht : ∀ q, q ∈ e :: d.E → q ≠ 85) : d.R e W base (fun k => ok k ∧ k ≠ g) v xs := by
 obtain ⟨A0, c0, hb, hg, hr0⟩ := h
 exact Kd.R_types ho hb ht
theorem IsS85.own_ne {w0 W : World} {g : Nat} {f0 : List Int} {f1 : Int} {α : Type} {d : Kd α} {e : Nat} {base : Nat} {ok : Nat → Prop} {v : Value} {xs : List α} (h : IsS85 w0 W g f0 f1) (ho : d.R e W base ok v xs) (ht : e ≠ 85) : some g ≠ v.ownBlock := by
 obtain ⟨A0, c0, hb, hg, hr0⟩ := h
 exact Kd.R_ne ho hb ht
theorem IsS85.apartQ {w0 W : World} {g : Nat} {f0 : List Int} {f1 : Int} {α : Type} {d : Kd α} {e : Nat} {base : Nat} {ok : Nat → Prop} {v : Value} {xs : List α} (h : IsS85 w0 W g f0 f1) (ho : d.Q e W base ok v xs) (ht : ∀ q, q ∈ e :: d.E → q ≠ 85) : d.Q e W base (fun k => ok k ∧ k ≠ g) v xs := by
 obtain ⟨A0, c0, hb, hg, hr0⟩ := h
 exact Kd.Q_types ho hb ht
theorem IsS85.own_neQ {w0 W : World} {g : Nat} {f0 : List Int} {f1 : Int} {α : Type} {d : Kd α} {e : Nat} {base : Nat} {ok : Nat → Prop} {v : Value} {xs : List α} (h : IsS85 w0 W g f0 f1) (ho : d.Q e W base ok v xs) (ht : e ≠ 85) : some g ≠ v.ownBlock := by
 obtain ⟨A0, c0, hb, hg, hr0⟩ := h
 exact Kd.Q_ne ho hb ht
theorem IsS85.apartS {w0 W : World} {g : Nat} {f0 : List Int} {f1 : Int} {α : Type} {d : Kd α} {e : Nat} {base : Nat} {ok : Nat → Prop} {v : Value} {xs : List α} (h : IsS85 w0 W g f0 f1) (ho : d.S e W base ok v xs) (ht : ∀ q, q ∈ e :: d.E → q ≠ 85) : d.S e W base (fun k => ok k ∧ k ≠ g) v xs := by
 obtain ⟨A0, c0, hb, hg, hr0⟩ := h
 exact Kd.S_types ho hb ht
theorem IsS85.own_neS {w0 W : World} {g : Nat} {f0 : List Int} {f1 : Int} {α : Type} {d : Kd α} {e : Nat} {base : Nat} {ok : Nat → Prop} {v : Value} {xs : List α} (h : IsS85 w0 W g f0 f1) (ho : d.S e W base ok v xs) (ht : e ≠ 85) : some g ≠ v.ownBlock := by
 obtain ⟨A0, c0, hb, hg, hr0⟩ := h
 exact Kd.S_ne ho hb ht
theorem IsS85.lt {w0 W : World} {g : Nat} {f0 : List Int} {f1 : Int} (h : IsS85 w0 W g f0 f1) : g < W.heap.size := by
 obtain ⟨A0, c0, hb, hg, hr0⟩ := h
 exact blk_lt hb
theorem IsS85.ge {w0 W : World} {g : Nat} {f0 : List Int} {f1 : Int} (h : IsS85 w0 W g f0 f1) : w0.heap.size ≤ g := by
 obtain ⟨A0, c0, hb, hg, hr0⟩ := h
 exact hg
theorem IsS85.ne_blk {w0 W : World} {g : Nat} {f0 : List Int} {f1 : Int} {a : Nat} {cs : Array Value} {t : TypeId} {fr : Nat × Nat} (h : IsS85 w0 W g f0 f1) (hb2 : W.heap[a]? = some (.cells cs t fr)) (ht : t ≠ 85) : g ≠ a := by
 obtain ⟨A0, c0, hb, hg, hr0⟩ := h
 rintro rfl
 rw [hb] at hb2
 injection hb2 with hb2
 injection hb2 with _ ht2
 exact ht ht2.symm
theorem IsS85.far {w0 W : World} {g : Nat} {f0 : List Int} {f1 : Int} {p : Addr} (h : IsS85 w0 W g f0 f1) (hne : g ≠ p.block) (u : Value) : IsS85 w0 (W.setCell p u) g f0 f1 := by
 obtain ⟨A0, c0, hb, hg, hr0⟩ := h
 exact ⟨A0, c0, blk_far hb hne u, hg, hr0⟩
theorem cellS85_0 {W : World} {g : Nat} {A0 : Option Addr} {c0 : Nat} {f0 : List Int} {f1 : Int} (h : W.heap[g]? = some (.cells #[.slice A0 f0.length c0, .int .i64 f1] 85 (0, 0))) : W.cell? ⟨g, 0, none⟩ = some (.slice A0 f0.length c0) := (blk_cell h 0).trans rfl
theorem cellS85_1 {W : World} {g : Nat} {A0 : Option Addr} {c0 : Nat} {f0 : List Int} {f1 : Int} (h : W.heap[g]? = some (.cells #[.slice A0 f0.length c0, .int .i64 f1] 85 (0, 0))) : W.cell? ⟨g, 1, none⟩ = some (.int .i64 f1) := (blk_cell h 1).trans rfl
theorem IsS85.set_1 {w0 W : World} {g : Nat} {f0 : List Int} {f1 : Int} (h : IsS85 w0 W g f0 f1) (x : Int) : IsS85 w0 (W.setCell ⟨g, 1, none⟩ (.int .i64 x)) g f0 x := by
 obtain ⟨A0, c0, hb, hg, hr0⟩ := h
 exact ⟨A0, c0, by simpa using blk_set hb 1 (.int .i64 x), hg, hr0⟩
theorem IsS85.new (w0 W : World) (A0 : Option Addr) (c0 : Nat) (f0 : List Int) (f1 : Int) (hB : Below w0.heap.size w0 W) (hr0 : Kd.C (Kd.int .u8) w0 A0 f0.length f0) : IsS85 w0 (W.alloc (.cells #[.slice A0 f0.length c0, .int .i64 f1] 85)) W.heap.size f0 f1 := ⟨A0, c0, by simpa using heap_alloc_new W _, hB.size, hr0⟩

/-! ### spec_l20Open: function 48 -/
def spec_l20Open.f (l0 : List Int) : Option (List Int × Int) := if (l0.length : Int) > 2000 then (if 2000 ≤ (l0.length : Int) then (some (l0.take 2000, 0)) else (none)) else (some (l0, 0))
set_option maxHeartbeats 8000000 in
set_option maxRecDepth 100000 in
theorem spec_l20Open.calls (A0 : Option Addr) (c0 : Nat) (l0 : List Int) (r1 : List Int) (r2 : Int) (w0 w : World) (hB : Below w0.heap.size w0 w) (hr0 : Kd.C (Kd.int .u8) w0 A0 l0.length l0) (hc0 : l0.length ≤ c0) (h : spec_l20Open.f l0 = some (r1, r2)) :
  Calls Try.prog 48 #[.slice A0 l0.length c0] w fun e w' => ∃ g_ : Nat, e = .returned (.pointer (some ⟨g_, 0, none⟩)) ∧ IsS85 w0 w' g_ r1 r2 ∧ Below w0.heap.size w0 w' ∧ Below w.heap.size w w' := by
 have hu85 := Try.underlying85
 have HR0 := yam hr0
 have HC0 := yam hc0
 clear hr0 hc0
 have HBW := yam (Below.refl w.heap.size w)
 have HW0 := yam hB.size
 have HB := yam hB
 clear hB
 have H : (if (l0.length : Int) > 2000 then (if 2000 ≤ (l0.length : Int) then (some (l0.take 2000, 0)) else (none)) else (some (l0, 0))) = some (r1, r2) := h
 clear h
 by_cases c2 : (l0.length : Int) > 2000
 rotate_left
 ·rw [if_neg c2] at H
  have c2b0 : decide (2000 < (l0.length : Int)) = false := decide_eq_false c2
  have c2b1 : decide (2000 < l0.length) = false := decide_eq_false (by omega)
  clear c2
  simp only [Option.some.injEq, Prod.mk.injEq] at H
  obtain ⟨rfl, rfl⟩ := H
  go_enter Try.func48, Try.ntmps48
  go_wp2_with (first | ((with_reducible refine gate_dst (N := 10) rfl ?_); refine box_event ?hg (N := 10) ?hd (cs := #[.slice A0 l0.length c0, .int .i64 0]) (t := 85) ?hr ?_; (case hd => rfl); (case hg => rfl); (case hr => first | (go_simp; done) | (go_simp; rfl)); intro gb222 hg w6 hbox hb; have n0_ := yam (below_step HBW.out hb); have n1_ := yam (below_step (yez HB.out) hb); have n2_ := yam (hbox); have n3_ := yam ((by rw [hg]; exact (below_size (by repeat (first | (with_reducible first | exact HBW.out | apply yea | apply yen | apply yed) | exact HBW.out))) : w.heap.size ≤ gb222)); have n4_ := yam ((Nat.le_trans HW0.out (by rw [hg]; exact (below_size (by repeat (first | (with_reducible first | exact HBW.out | apply yea | apply yen | apply yed) | exact HBW.out))) : w.heap.size ≤ gb222) : w0.heap.size ≤ gb222)); clear HBW; clear HB; have HBW := n0_; have HB := n1_; have BK222 := n2_; have GW222 := n3_; have GE222 := n4_; clear n0_ n1_ n2_ n3_ n4_; clear hb hbox hg))
  go_ret
  exact ⟨_, rfl, (show IsS85 w0 _ gb222 l0 0 from ⟨_, _, by (with_reducible repeat (first | refine ybn ?_ _ | refine ybd ?_ | refine yba ?_ _)); exact BK222.out, GE222.out, HR0.out⟩), by repeat (first | (with_reducible first | exact HB.out | apply yea | apply yen | apply yed | refine below_set ?_ GE222.out) | exact HB.out), by repeat (first | (with_reducible first | exact HBW.out | apply yea | apply yen | apply yed | refine below_set ?_ GW222.out) | exact HBW.out)⟩

 rw [if_pos c2] at H
 have c2b0 : decide (2000 < (l0.length : Int)) = true := decide_eq_true c2
 have c2b1 : decide (2000 < l0.length) = true := decide_eq_true (by omega)
 clear c2
 by_cases c3 : 2000 ≤ (l0.length : Int)
 rotate_left
 ·rw [if_neg c3] at H
  exact absurd H (by simp)
 rw [if_pos c3] at H
 have c3b0 := eq_true c3
 have c3b1 : decide (2000 ≤ (l0.length : Int)) = true := decide_eq_true c3
 clear c3
 simp only [Option.some.injEq, Prod.mk.injEq] at H
 obtain ⟨rfl, rfl⟩ := H
 obtain ⟨i04, hi04, _, hsz4, _⟩ := info_parts info5
 obtain ⟨hcut4, hA4, hC4⟩ := print_take_of (P := Try.prog) (Value.int .u8) 0 27 5 .i64 Try.underlying27 hi04 hsz4 A0 c0 l0 2000 (by omega) (of_decide_eq_true (by first | (with_reducible assumption) | assumption)) HC0.out
 have HR220 := yam (Kd.C_of_reads (h1 := fun _ => rfl) (hA4 _ (Kd.reads_of_C HR0.out)))
 have HC220 := yam hC4
 clear hA4 hC4 hi04 hsz4
 go_enter Try.func48, Try.ntmps48
 go_wp2_with (first | ((with_reducible refine gate_dst (N := 10) rfl ?_); refine box_event ?hg (N := 10) ?hd (cs := #[.slice A0 (l0.take 2000).length c0, .int .i64 0]) (t := 85) ?hr ?_; (case hd => rfl); (case hg => rfl); (case hr => first | (go_simp; done) | (go_simp; rfl)); intro gb221 hg w5 hbox hb; have n0_ := yam (below_step HBW.out hb); have n1_ := yam (below_step (yez HB.out) hb); have n2_ := yam (hbox); have n3_ := yam ((by rw [hg]; exact (below_size (by repeat (first | (with_reducible first | exact HBW.out | apply yea | apply yen | apply yed) | exact HBW.out))) : w.heap.size ≤ gb221)); have n4_ := yam ((Nat.le_trans HW0.out (by rw [hg]; exact (below_size (by repeat (first | (with_reducible first | exact HBW.out | apply yea | apply yen | apply yed) | exact HBW.out))) : w.heap.size ≤ gb221) : w0.heap.size ≤ gb221)); clear HBW; clear HB; have HBW := n0_; have HB := n1_; have BK221 := n2_; have GW221 := n3_; have GE221 := n4_; clear n0_ n1_ n2_ n3_ n4_; clear hb hbox hg))
 go_ret
 exact ⟨_, rfl, (show IsS85 w0 _ gb221 (l0.take 2000) 0 from ⟨_, _, by (with_reducible repeat (first | refine ybn ?_ _ | refine ybd ?_ | refine yba ?_ _)); exact BK221.out, GE221.out, HR220.out⟩), by repeat (first | (with_reducible first | exact HB.out | apply yea | apply yen | apply yed | refine below_set ?_ GE221.out) | exact HB.out), by repeat (first | (with_reducible first | exact HBW.out | apply yea | apply yen | apply yed | refine below_set ?_ GW221.out) | exact HBW.out)⟩
/-! ### spec_l20Rd_pick: function 50 -/
def spec_l20Rd_pick.j0 : Nat → Int → Bool → List Int → Int → Option (Int × Int)
 | 0, _, _, _, _ => none
 | k + 1, x1, x24, x1000, x1001 => if x24 = true then (some (0, x1001)) else (if (wrap64 (x1001 - 1)) < (x1000.length : Int) then (if 0 ≤ (wrap64 (x1001 - 1)) then (if x1 = 0 then (none) else (some (Int.tmod (wrap64 (rd x1000 (wrap64 (x1001 - 1)))) x1, x1001))) else (none)) else (if (x1000.length : Int) = 0 then (none) else (if 0 ≤ (Int.tmod (wrap64 (x1001 - 1)) (x1000.length : Int)) then (if (Int.tmod (wrap64 (x1001 - 1)) (x1000.length : Int)) < (x1000.length : Int) then (if 0 ≤ (Int.tmod (wrap64 ((wrap64 ((wrap64 (x1001 - 1)) * 7)) + 3)) (x1000.length : Int)) then (if (Int.tmod (wrap64 ((wrap64 ((wrap64 (x1001 - 1)) * 7)) + 3)) (x1000.length : Int)) < (x1000.length : Int) then (if x1 = 0 then (none) else (some (Int.tmod (Go.bits .xor .i64 (wrap64 ((wrap64 ((wrap64 ((wrap64 ((wrap64 (rd x1000 (Int.tmod (wrap64 (x1001 - 1)) (x1000.length : Int)))) * 131)) + (wrap64 ((wrap64 (rd x1000 (Int.tmod (wrap64 ((wrap64 ((wrap64 (x1001 - 1)) * 7)) + 3)) (x1000.length : Int)))) * 1117)))) + (wrap64 ((wrap64 (x1001 - 1)) * 29)))) + (wrap64 ((wrap64 (Int.tdiv (wrap64 (x1001 - 1)) (x1000.length : Int))) * 53)))) (wrap64 (Int.tdiv (wrap64 ((wrap64 ((wrap64 ((wrap64 ((wrap64 (rd x1000 (Int.tmod (wrap64 (x1001 - 1)) (x1000.length : Int)))) * 131)) + (wrap64 ((wrap64 (rd x1000 (Int.tmod (wrap64 ((wrap64 ((wrap64 (x1001 - 1)) * 7)) + 3)) (x1000.length : Int)))) * 1117)))) + (wrap64 ((wrap64 (x1001 - 1)) * 29)))) + (wrap64 ((wrap64 (Int.tdiv (wrap64 (x1001 - 1)) (x1000.length : Int))) * 53)))) 64))) x1, x1001))) else (none)) else (none)) else (none)) else (none))))
def spec_l20Rd_pick.f (k : Nat) (s0_0 : List Int) (s0_1 : Int) (a1 : Int) : Option (Int × Int) := if a1 < 1 then (spec_l20Rd_pick.j0 k a1 true s0_0 (wrap64 (s0_1 + 1))) else (spec_l20Rd_pick.j0 k a1 ((s0_0.length : Int) == 0) s0_0 (wrap64 (s0_1 + 1)))
set_option maxHeartbeats 8000000 in
set_option maxRecDepth 100000 in
theorem spec_l20Rd_pick.calls (k : Nat) (g : Nat) (s0_0 : List Int) (s0_1 : Int) (a1 : Int) (r1 : Int) (r2 : Int) (w0 w : World) (hI : IsS85 w0 w g s0_0 s0_1) (hB : Below w0.heap.size w0 w) (h : spec_l20Rd_pick.f k s0_0 s0_1 a1 = some (r1, r2)) :
  Calls Try.prog 50 #[.pointer (some ⟨g, 0, none⟩), .int .i64 a1] w fun e w' => e = .returned (.int .i64 r1) ∧ IsS85 w0 w' g s0_0 r2 ∧ Below w0.heap.size w0 w' ∧ KeepBut w w' g none := by
 have HI0 := yam hI
 have HK := yam (KeepBut.refl w g none)
 have HL := yam hB.size
 clear hI
 have HW0 := yam hB.size
 have HB := yam hB
 clear hB
 have H : (if a1 < 1 then (spec_l20Rd_pick.j0 k a1 true s0_0 (wrap64 (s0_1 + 1))) else (spec_l20Rd_pick.j0 k a1 ((s0_0.length : Int) == 0) s0_0 (wrap64 (s0_1 + 1)))) = some (r1, r2) := h
 clear h
 have HC3 := yam H
 clear H
 obtain ⟨ASz4_0, cSz4_0, HGz4, hgz4, HSz4_0⟩ := HI0.out
 have hcz4_0 := cellS85_0 HGz4
 have hcz4_1 := cellS85_1 HGz4
 have hfz4_1 := blk_frozen HGz4 1
 clear HGz4 hgz4
 go_enter Try.func50, Try.ntmps50
 go_upto_region 2 with (fail)
 repeat (go_quiet (fail); go_upto_region 2 with (fail))
 go_cut [24] (fun v24 wc => ∃ (kq : Nat) (x24_2 : Bool), v24 = .bool x24_2 ∧ Aside0 (spec_l20Rd_pick.j0 kq a1 x24_2 s0_0 (wrap64 (s0_1 + 1)) = some (r1, r2)) ∧ Aside0 (kq ≤ k) ∧ Aside0 (IsS85 w0 wc g s0_0 (wrap64 (s0_1 + 1))) ∧ Aside0 (KeepBut w wc g none) ∧ Aside0 (Below w0.heap.size w0 wc))
 case first =>
  have H := HC3.out
  clear HC3
  by_cases c5 : a1 < 1
  ·rw [if_pos c5] at H
   have c5b0 : decide (a1 < 1) = true := decide_eq_true c5
   clear c5
   (first | rw [c5b0] | (simp only [i64_w, i32_w]; rw [c5b0]) | skip)
   have H' := yam H
   clear H
   go_wp2
   repeat (go_quiet (fail); try go_wp2)
   go_meet
   case rel => exact ⟨_, (true), (by first | rfl | (simp; done) | (simp [*]; done)), H', ⟨by first | omega | exact Nat.le_refl _⟩, ⟨by repeat (first | (with_reducible first | exact HI0.out | apply IsS85.alloc | apply IsS85.drewN | apply IsS85.drew | apply IsS85.set_1) | exact HI0.out)⟩, ⟨by repeat (first | (with_reducible first | exact HK.out | apply KeepBut.set_ | apply keep_drewN | apply keep_drew | apply keep_alloc) | exact HK.out)⟩, ⟨by repeat (first | (with_reducible first | exact HB.out | apply yea | apply yen | apply yed | refine below_set ?_ (IsS85.ge HI0.out)) | exact HB.out)⟩⟩
  rw [if_neg c5] at H
  have c5b0 : decide (a1 < 1) = false := decide_eq_false c5
  clear c5
  (first | rw [c5b0] | (simp only [i64_w, i32_w]; rw [c5b0]) | skip)
  have H' := yam H
  clear H
  obtain ⟨ASz6_0, cSz6_0, HGz6, hgz6, HSz6_0⟩ := HI0.out
  have hcz6_0 := cellS85_0 HGz6
  have hcz6_1 := cellS85_1 HGz6
  have hfz6_1 := blk_frozen HGz6 1
  clear HGz6 hgz6
  go_wp2
  repeat (go_quiet (fail); try go_wp2)
  go_meet
  case rel => exact ⟨_, (((s0_0.length : Int) == 0)), (by first | rfl | (simp; done) | (simp [*]; done)), H', ⟨by first | omega | exact Nat.le_refl _⟩, ⟨by repeat (first | (with_reducible first | exact HI0.out | apply IsS85.alloc | apply IsS85.drewN | apply IsS85.drew | apply IsS85.set_1) | exact HI0.out)⟩, ⟨by repeat (first | (with_reducible first | exact HK.out | apply KeepBut.set_ | apply keep_drewN | apply keep_drew | apply keep_alloc) | exact HK.out)⟩, ⟨by repeat (first | (with_reducible first | exact HB.out | apply yea | apply yen | apply yed | refine below_set ?_ (IsS85.ge HI0.out)) | exact HB.out)⟩⟩
 case rest =>
  clear HC3
  try clear p2
  try clear c5
  try clear c5b0
  try clear p6
  try clear hcz4_0
  try clear hcz4_1
  try clear hcz6_0
  try clear hcz6_1
  try clear hfz4_1
  try clear hfz6_1
  obtain ⟨kq, x24_2, rfl, HA, HJ2, HI0, HK, HB⟩ := hcut
  cases kq with
  | zero => exact absurd HA.out (by simp [spec_l20Rd_pick.j0])
  | succ kj2 =>
   have H := HA.out
   clear HA
   simp only [spec_l20Rd_pick.j0] at H
   by_cases c7 : x24_2 = true
   ·subst c7
    have H1 : (some (0, (wrap64 (s0_1 + 1)))) = some (r1, r2) := by rw [if_pos rfl] at H; exact H
    clear H
    have H := H1
    clear H1
    simp only [Option.some.injEq, Prod.mk.injEq] at H
    obtain ⟨rfl, rfl⟩ := H
    go_wp2
    repeat (go_quiet (fail); try go_wp2)
    go_ret
    exact ⟨by first | rfl | (simp [errW_none, errW_some] <;> rfl) | (simp [*, errW_none, errW_some] <;> rfl), by repeat (first | (with_reducible first | exact HI0.out | apply IsS85.alloc | apply IsS85.drewN | apply IsS85.drew | apply IsS85.set_1) | exact HI0.out), by repeat (first | (with_reducible first | exact HB.out | apply yea | apply yen | apply yed | refine below_set ?_ (IsS85.ge HI0.out)) | exact HB.out), by repeat (first | (with_reducible first | exact HK.out | apply KeepBut.set_ | apply keep_drewN | apply keep_drew | apply keep_alloc) | exact HK.out)⟩
   replace c7 := Bool.eq_false_iff.mpr c7
   subst c7
   have H1 : (if (wrap64 ((wrap64 (s0_1 + 1)) - 1)) < (s0_0.length : Int) then (if 0 ≤ (wrap64 ((wrap64 (s0_1 + 1)) - 1)) then (if a1 = 0 then (none) else (some (Int.tmod (wrap64 (rd s0_0 (wrap64 ((wrap64 (s0_1 + 1)) - 1)))) a1, (wrap64 (s0_1 + 1))))) else (none)) else (if (s0_0.length : Int) = 0 then (none) else (if 0 ≤ (Int.tmod (wrap64 ((wrap64 (s0_1 + 1)) - 1)) (s0_0.length : Int)) then (if (Int.tmod (wrap64 ((wrap64 (s0_1 + 1)) - 1)) (s0_0.length : Int)) < (s0_0.length : Int) then (if 0 ≤ (Int.tmod (wrap64 ((wrap64 ((wrap64 ((wrap64 (s0_1 + 1)) - 1)) * 7)) + 3)) (s0_0.length : Int)) then (if (Int.tmod (wrap64 ((wrap64 ((wrap64 ((wrap64 (s0_1 + 1)) - 1)) * 7)) + 3)) (s0_0.length : Int)) < (s0_0.length : Int) then (if a1 = 0 then (none) else (some (Int.tmod (Go.bits .xor .i64 (wrap64 ((wrap64 ((wrap64 ((wrap64 ((wrap64 (rd s0_0 (Int.tmod (wrap64 ((wrap64 (s0_1 + 1)) - 1)) (s0_0.length : Int)))) * 131)) + (wrap64 ((wrap64 (rd s0_0 (Int.tmod (wrap64 ((wrap64 ((wrap64 ((wrap64 (s0_1 + 1)) - 1)) * 7)) + 3)) (s0_0.length : Int)))) * 1117)))) + (wrap64 ((wrap64 ((wrap64 (s0_1 + 1)) - 1)) * 29)))) + (wrap64 ((wrap64 (Int.tdiv (wrap64 ((wrap64 (s0_1 + 1)) - 1)) (s0_0.length : Int))) * 53)))) (wrap64 (Int.tdiv (wrap64 ((wrap64 ((wrap64 ((wrap64 ((wrap64 (rd s0_0 (Int.tmod (wrap64 ((wrap64 (s0_1 + 1)) - 1)) (s0_0.length : Int)))) * 131)) + (wrap64 ((wrap64 (rd s0_0 (Int.tmod (wrap64 ((wrap64 ((wrap64 ((wrap64 (s0_1 + 1)) - 1)) * 7)) + 3)) (s0_0.length : Int)))) * 1117)))) + (wrap64 ((wrap64 ((wrap64 (s0_1 + 1)) - 1)) * 29)))) + (wrap64 ((wrap64 (Int.tdiv (wrap64 ((wrap64 (s0_1 + 1)) - 1)) (s0_0.length : Int))) * 53)))) 64))) a1, (wrap64 (s0_1 + 1))))) else (none)) else (none)) else (none)) else (none)))) = some (r1, r2) := by rw [if_neg (show ¬ (false = true) by decide)] at H; exact H
   clear H
   have H := H1
   clear H1
   by_cases c8 : (wrap64 ((wrap64 (s0_1 + 1)) - 1)) < (s0_0.length : Int)
   ·rw [if_pos c8] at H
    have c8b0 : decide ((wrap64 ((wrap64 (s0_1 + 1)) - 1)) < (s0_0.length : Int)) = true := decide_eq_true c8
    clear c8
    obtain ⟨ji9, hji9⟩ : ∃ j_ : Int, (wrap64 ((wrap64 (s0_1 + 1)) - 1)) = j_ := ⟨_, rfl⟩
    replace H : (if 0 ≤ (ji9) then (if a1 = 0 then (none) else (some (Int.tmod (wrap64 (rd s0_0 (ji9))) a1, (wrap64 (s0_1 + 1))))) else (none)) = some (r1, r2) := by first | (rw [hji9] at H; exact H) | (simp only [hji9] at H ⊢; exact H)
    (try rw [hji9] at c8b0)
    have hji9w : (IntKind.i64.wrap ((wrap64 (s0_1 + 1)) - 1)) = ji9 := (i64_w _).trans hji9
    by_cases c10 : 0 ≤ (ji9)
    rotate_left
    ·rw [if_neg c10] at H
     exact absurd H (by simp)
    rw [if_pos c10] at H
    have c10b0 : decide (0 ≤ (ji9)) = true := decide_eq_true c10
    clear c10
    by_cases c11 : a1 = 0
    ·rw [if_pos c11] at H
     exact absurd H (by simp)
    rw [if_neg c11] at H
    have c11b0 : (a1 == 0) = false := beq_eq_false_iff_ne.mpr c11
    have c11b1 : (a1 != 0) = true := bne_iff_ne.mpr c11
    simp only [Option.some.injEq, Prod.mk.injEq] at H
    obtain ⟨rfl, rfl⟩ := H
    obtain ⟨ASz12_0, cSz12_0, HGz12, hgz12, HSz12_0⟩ := HI0.out
    have hcz12_0 := cellS85_0 HGz12
    have hcz12_1 := cellS85_1 HGz12
    have hfz12_1 := blk_frozen HGz12 1
    clear HGz12 hgz12
    have p223 : 0 ≤ ((ji9) : Int) := of_decide_eq_true (by first | (with_reducible assumption) | assumption)
    have q223 : (ji9) < (s0_0.length : Int) := of_decide_eq_true (by first | (with_reducible assumption) | assumption)
    obtain ⟨ad223, e223, hx223_0⟩ := Kd.at_int HSz12_0 (ji9) p223 q223
    cases e223
    replace hx223_0 := pw_cell_below HB.out hx223_0
    replace p223 := eq_true p223
    replace q223 := eq_true q223
    go_wp2
    repeat (go_quiet (fail); try go_wp2)
    go_ret
    exact ⟨by first | rfl | (simp [errW_none, errW_some] <;> rfl) | (simp only [← hji9]; first | rfl | (simp [errW_none, errW_some] <;> rfl)) | (simp [*, errW_none, errW_some] <;> rfl), by repeat (first | (with_reducible first | exact HI0.out | apply IsS85.alloc | apply IsS85.drewN | apply IsS85.drew | apply IsS85.set_1) | exact HI0.out), by repeat (first | (with_reducible first | exact HB.out | apply yea | apply yen | apply yed | refine below_set ?_ (IsS85.ge HI0.out)) | exact HB.out), by repeat (first | (with_reducible first | exact HK.out | apply KeepBut.set_ | apply keep_drewN | apply keep_drew | apply keep_alloc) | exact HK.out)⟩
   rw [if_neg c8] at H
   have c8b0 : decide ((wrap64 ((wrap64 (s0_1 + 1)) - 1)) < (s0_0.length : Int)) = false := decide_eq_false c8
   clear c8
   by_cases c13 : (s0_0.length : Int) = 0
   ·rw [if_pos c13] at H
    exact absurd H (by simp)
   rw [if_neg c13] at H
   have c13b0 : ((s0_0.length : Int) == 0) = false := beq_eq_false_iff_ne.mpr c13
   have c13b1 : ((s0_0.length : Int) != 0) = true := bne_iff_ne.mpr c13
   have c13b2 : ¬ (s0_0 = []) := fun h_ => c13 (by rw [h_]; rfl)
   obtain ⟨ji14, hji14⟩ : ∃ j_ : Int, (Int.tmod (wrap64 ((wrap64 (s0_1 + 1)) - 1)) (s0_0.length : Int)) = j_ := ⟨_, rfl⟩
   replace H : (if 0 ≤ (ji14) then (if (ji14) < (s0_0.length : Int) then (if 0 ≤ (Int.tmod (wrap64 ((wrap64 ((wrap64 ((wrap64 (s0_1 + 1)) - 1)) * 7)) + 3)) (s0_0.length : Int)) then (if (Int.tmod (wrap64 ((wrap64 ((wrap64 ((wrap64 (s0_1 + 1)) - 1)) * 7)) + 3)) (s0_0.length : Int)) < (s0_0.length : Int) then (if a1 = 0 then (none) else (some (Int.tmod (Go.bits .xor .i64 (wrap64 ((wrap64 ((wrap64 ((wrap64 ((wrap64 (rd s0_0 (ji14))) * 131)) + (wrap64 ((wrap64 (rd s0_0 (Int.tmod (wrap64 ((wrap64 ((wrap64 ((wrap64 (s0_1 + 1)) - 1)) * 7)) + 3)) (s0_0.length : Int)))) * 1117)))) + (wrap64 ((wrap64 ((wrap64 (s0_1 + 1)) - 1)) * 29)))) + (wrap64 ((wrap64 (Int.tdiv (wrap64 ((wrap64 (s0_1 + 1)) - 1)) (s0_0.length : Int))) * 53)))) (wrap64 (Int.tdiv (wrap64 ((wrap64 ((wrap64 ((wrap64 ((wrap64 (rd s0_0 (ji14))) * 131)) + (wrap64 ((wrap64 (rd s0_0 (Int.tmod (wrap64 ((wrap64 ((wrap64 ((wrap64 (s0_1 + 1)) - 1)) * 7)) + 3)) (s0_0.length : Int)))) * 1117)))) + (wrap64 ((wrap64 ((wrap64 (s0_1 + 1)) - 1)) * 29)))) + (wrap64 ((wrap64 (Int.tdiv (wrap64 ((wrap64 (s0_1 + 1)) - 1)) (s0_0.length : Int))) * 53)))) 64))) a1, (wrap64 (s0_1 + 1))))) else (none)) else (none)) else (none)) else (none)) = some (r1, r2) := by first | (rw [hji14] at H; exact H) | (simp only [hji14] at H ⊢; exact H)
   by_cases c15 : 0 ≤ (ji14)
   rotate_left
   ·rw [if_neg c15] at H
    exact absurd H (by simp)

   rw [if_pos c15] at H
   have c15b0 : decide (0 ≤ (ji14)) = true := decide_eq_true c15
   clear c15
   by_cases c16 : (ji14) < (s0_0.length : Int)
   rotate_left
   ·rw [if_neg c16] at H
    exact absurd H (by simp)
   rw [if_pos c16] at H
   have c16b0 : decide ((ji14) < (s0_0.length : Int)) = true := decide_eq_true c16
   clear c16
   obtain ⟨ji17, hji17⟩ : ∃ j_ : Int, (Int.tmod (wrap64 ((wrap64 ((wrap64 ((wrap64 (s0_1 + 1)) - 1)) * 7)) + 3)) (s0_0.length : Int)) = j_ := ⟨_, rfl⟩
   replace H : (if 0 ≤ (ji17) then (if (ji17) < (s0_0.length : Int) then (if a1 = 0 then (none) else (some (Int.tmod (Go.bits .xor .i64 (wrap64 ((wrap64 ((wrap64 ((wrap64 ((wrap64 (rd s0_0 (ji14))) * 131)) + (wrap64 ((wrap64 (rd s0_0 (ji17))) * 1117)))) + (wrap64 ((wrap64 ((wrap64 (s0_1 + 1)) - 1)) * 29)))) + (wrap64 ((wrap64 (Int.tdiv (wrap64 ((wrap64 (s0_1 + 1)) - 1)) (s0_0.length : Int))) * 53)))) (wrap64 (Int.tdiv (wrap64 ((wrap64 ((wrap64 ((wrap64 ((wrap64 (rd s0_0 (ji14))) * 131)) + (wrap64 ((wrap64 (rd s0_0 (ji17))) * 1117)))) + (wrap64 ((wrap64 ((wrap64 (s0_1 + 1)) - 1)) * 29)))) + (wrap64 ((wrap64 (Int.tdiv (wrap64 ((wrap64 (s0_1 + 1)) - 1)) (s0_0.length : Int))) * 53)))) 64))) a1, (wrap64 (s0_1 + 1))))) else (none)) else (none)) = some (r1, r2) := by first | (rw [hji17] at H; exact H) | (simp only [hji17] at H ⊢; exact H)
   by_cases c18 : 0 ≤ (ji17)
   rotate_left
   ·rw [if_neg c18] at H
    exact absurd H (by simp)
   rw [if_pos c18] at H
   have c18b0 : decide (0 ≤ (ji17)) = true := decide_eq_true c18
   clear c18
   by_cases c19 : (ji17) < (s0_0.length : Int)
   rotate_left
   ·rw [if_neg c19] at H
    exact absurd H (by simp)
   rw [if_pos c19] at H
   have c19b0 : decide ((ji17) < (s0_0.length : Int)) = true := decide_eq_true c19
   clear c19
   by_cases c20 : a1 = 0
   ·rw [if_pos c20] at H
    exact absurd H (by simp)
   rw [if_neg c20] at H
   have c20b0 : (a1 == 0) = false := beq_eq_false_iff_ne.mpr c20
   have c20b1 : (a1 != 0) = true := bne_iff_ne.mpr c20
   simp only [Option.some.injEq, Prod.mk.injEq] at H
   obtain ⟨rfl, rfl⟩ := H
   obtain ⟨ASz21_0, cSz21_0, HGz21, hgz21, HSz21_0⟩ := HI0.out
   have hcz21_0 := cellS85_0 HGz21
   have hcz21_1 := cellS85_1 HGz21
   have hfz21_1 := blk_frozen HGz21 1
   clear HGz21 hgz21
   have p224 : 0 ≤ ((ji14) : Int) := of_decide_eq_true (by first | (with_reducible assumption) | assumption)
   have q224 : (ji14) < (s0_0.length : Int) := of_decide_eq_true (by first | (with_reducible assumption) | assumption)
   obtain ⟨ad224, e224, hx224_0⟩ := Kd.at_int HSz21_0 (ji14) p224 q224
   cases e224
   replace hx224_0 := pw_cell_below HB.out hx224_0
   replace p224 := eq_true p224
   replace q224 := eq_true q224
   have p225 : 0 ≤ ((ji17) : Int) := of_decide_eq_true (by first | (with_reducible assumption) | assumption)
   have q225 : (ji17) < (s0_0.length : Int) := of_decide_eq_true (by first | (with_reducible assumption) | assumption)
   obtain ⟨ad225, e225, hx225_0⟩ := Kd.at_int HSz21_0 (ji17) p225 q225
   obtain rfl : ad224 = ad225 := (by injection e225)
   replace hx225_0 := pw_cell_below HB.out hx225_0
   replace p225 := eq_true p225
   replace q225 := eq_true q225
   go_wp2
   repeat (go_quiet (fail); try go_wp2)
   go_ret
   exact ⟨by first | rfl | (simp [errW_none, errW_some] <;> rfl) | (simp only [← hji14, ← hji17]; first | rfl | (simp [errW_none, errW_some] <;> rfl)) | (simp [*, errW_none, errW_some] <;> rfl), by repeat (first | (with_reducible first | exact HI0.out | apply IsS85.alloc | apply IsS85.drewN | apply IsS85.drew | apply IsS85.set_1) | exact HI0.out), by repeat (first | (with_reducible first | exact HB.out | apply yea | apply yen | apply yed | refine below_set ?_ (IsS85.ge HI0.out)) | exact HB.out), by repeat (first | (with_reducible first | exact HK.out | apply KeepBut.set_ | apply keep_drewN | apply keep_drew | apply keep_alloc) | exact HK.out)⟩
/-! ### spec_l20Rd_odd: function 75 -/
def spec_l20Rd_odd.f (k : Nat) (s0_0 : List Int) (s0_1 : Int) (a1 : Int) : Option (Bool × Int) := if a1 > 0 then ((spec_l20Rd_pick.f k s0_0 s0_1 a1).bind fun bt226 => (some ((bt226.1 == (wrap64 (a1 - 1))), bt226.2))) else (some (false, s0_1))
set_option maxHeartbeats 8000000 in
set_option maxRecDepth 100000 in
theorem spec_l20Rd_odd.calls (k : Nat) (g : Nat) (s0_0 : List Int) (s0_1 : Int) (a1 : Int) (r1 : Bool) (r2 : Int) (w0 w : World) (hI : IsS85 w0 w g s0_0 s0_1) (hB : Below w0.heap.size w0 w) (h : spec_l20Rd_odd.f k s0_0 s0_1 a1 = some (r1, r2)) :
  Calls Try.prog 75 #[.pointer (some ⟨g, 0, none⟩), .int .i64 a1] w fun e w' => e = .returned (.bool r1) ∧ IsS85 w0 w' g s0_0 r2 ∧ Below w0.heap.size w0 w' ∧ KeepBut w w' g none := by
 have HI0 := yam hI
 have HK := yam (KeepBut.refl w g none)
 have HL := yam hB.size
 clear hI
 have HW0 := yam hB.size
 have HB := yam hB
 clear hB
 have H : (if a1 > 0 then ((spec_l20Rd_pick.f k s0_0 s0_1 a1).bind fun bt226 => (some ((bt226.1 == (wrap64 (a1 - 1))), bt226.2))) else (some (false, s0_1))) = some (r1, r2) := h
 clear h
 by_cases c3 : a1 > 0
 rotate_left
 ·rw [if_neg c3] at H
  have c3b0 : decide (0 < a1) = false := decide_eq_false c3
  clear c3
  simp only [Option.some.injEq, Prod.mk.injEq] at H
  obtain ⟨rfl, rfl⟩ := H
  go_enter Try.func75, Try.ntmps75
  go_wp2
  go_ret
  exact ⟨by first | rfl | (simp [errW_none, errW_some] <;> rfl) | (simp [*, errW_none, errW_some] <;> rfl), by repeat (first | (with_reducible first | exact HI0.out | apply IsS85.alloc | apply IsS85.drewN | apply IsS85.drew | apply IsS85.set_1) | exact HI0.out), by repeat (first | (with_reducible first | exact HB.out | apply yea | apply yen | apply yed | refine below_set ?_ (IsS85.ge HI0.out)) | exact HB.out), by repeat (first | (with_reducible first | exact HK.out | apply KeepBut.set_ | apply keep_drewN | apply keep_drew | apply keep_alloc) | exact HK.out)⟩

 rw [if_pos c3] at H
 have c3b0 : decide (0 < a1) = true := decide_eq_true c3
 clear c3
 replace H := Option.bind_eq_some_iff.mp H
 obtain ⟨⟨t226, t227⟩, A40, H⟩ := H
 replace H : (some ((t226 == (wrap64 (a1 - 1))), t227)) = some (r1, r2) := H
 have A4 := yam A40
 clear A40
 simp only [Option.some.injEq, Prod.mk.injEq] at H
 obtain ⟨rfl, rfl⟩ := H
 go_enter Try.func75, Try.ntmps75
 go_wp2_with (first | (go_at_call 50; (with_reducible refine (spec_l20Rd_pick.calls k g s0_0 s0_1 a1 t226 t227 w0 _ ?side1 ?side2 A4.out).mono ?_); (case side1 => repeat (first | (with_reducible first | exact HI0.out | apply IsS85.alloc | apply IsS85.drewN | apply IsS85.drew | apply IsS85.set_1) | exact HI0.out)); (case side2 => repeat (first | (with_reducible first | exact HB.out | apply yea | apply yen | apply yed | refine below_set ?_ (IsS85.ge HI0.out)) | exact HB.out)); rintro e w5 ⟨rfl, hi, hb, hk⟩; have n0_ := yam (KeepBut.trans (by repeat (first | (with_reducible first | exact HK.out | apply KeepBut.set_ | apply keep_drewN | apply keep_drew | apply keep_alloc) | exact HK.out)) hk (.inl rfl)); have n1_ := yam (hb); have n2_ := yam (hi); clear HK; clear HB; clear HI0; have HK := n0_; have HB := n1_; have HI0 := n2_; clear n0_ n1_ n2_; (try clear hb); (try clear hb2); (try clear hk); (try clear hi)))
 go_ret
 exact ⟨by first | rfl | (simp [errW_none, errW_some] <;> rfl) | (simp [*, errW_none, errW_some] <;> rfl), by repeat (first | (with_reducible first | exact HI0.out | apply IsS85.alloc | apply IsS85.drewN | apply IsS85.drew | apply IsS85.set_1) | exact HI0.out), by repeat (first | (with_reducible first | exact HB.out | apply yea | apply yen | apply yed | refine below_set ?_ (IsS85.ge HI0.out)) | exact HB.out), by repeat (first | (with_reducible first | exact HK.out | apply KeepBut.set_ | apply keep_drewN | apply keep_drew | apply keep_alloc) | exact HK.out)⟩
/-! ### spec_l20Size: function 49 -/
def spec_l20Size.f (k : Nat) (s0_0 : List Int) (s0_1 : Int) (a1 : Int) : Option (Int × Int) := (spec_l20Rd_odd.f k s0_0 s0_1 a1).bind fun bt228 => (if bt228.1 = true then ((some (([1, 5, (-1)] : List Int) : List Int)).bind fun y230 => ((spec_l20Rd_pick.f k s0_0 bt228.2 3).bind fun bt233 => (if 0 ≤ bt233.1 then (if bt233.1 < (y230.length : Int) then (some (rd y230 bt233.1, bt233.2)) else (none)) else (none)))) else ((some (([2, 3, 3, 4, 4] : List Int) : List Int)).bind fun y236 => ((spec_l20Rd_pick.f k s0_0 bt228.2 5).bind fun bt239 => (if 0 ≤ bt239.1 then (if bt239.1 < (y236.length : Int) then (some (rd y236 bt239.1, bt239.2)) else (none)) else (none)))))
set_option maxHeartbeats 8000000 in
set_option maxRecDepth 100000 in
theorem spec_l20Size.calls (k : Nat) (g : Nat) (s0_0 : List Int) (s0_1 : Int) (a1 : Int) (r1 : Int) (r2 : Int) (w0 w : World) (hI : IsS85 w0 w g s0_0 s0_1) (hB : Below w0.heap.size w0 w) (h : spec_l20Size.f k s0_0 s0_1 a1 = some (r1, r2)) :
  Calls Try.prog 49 #[.pointer (some ⟨g, 0, none⟩), .int .i64 a1] w fun e w' => e = .returned (.int .i64 r1) ∧ IsS85 w0 w' g s0_0 r2 ∧ Below w0.heap.size w0 w' ∧ KeepBut w w' g none := by
 have HI0 := yam hI
 have HK := yam (KeepBut.refl w g none)
 have HL := yam hB.size
 clear hI
 have HW0 := yam hB.size
 have HB := yam hB
 clear hB
 have H : ((spec_l20Rd_odd.f k s0_0 s0_1 a1).bind fun bt228 => (if bt228.1 = true then ((some (([1, 5, (-1)] : List Int) : List Int)).bind fun y230 => ((spec_l20Rd_pick.f k s0_0 bt228.2 3).bind fun bt233 => (if 0 ≤ bt233.1 then (if bt233.1 < (y230.length : Int) then (some (rd y230 bt233.1, bt233.2)) else (none)) else (none)))) else ((some (([2, 3, 3, 4, 4] : List Int) : List Int)).bind fun y236 => ((spec_l20Rd_pick.f k s0_0 bt228.2 5).bind fun bt239 => (if 0 ≤ bt239.1 then (if bt239.1 < (y236.length : Int) then (some (rd y236 bt239.1, bt239.2)) else (none)) else (none)))))) = some (r1, r2) := h
 clear h
 replace H := Option.bind_eq_some_iff.mp H
 obtain ⟨⟨t228, t229⟩, A30, H⟩ := H
 replace H : (if t228 = true then ((some (([1, 5, (-1)] : List Int) : List Int)).bind fun y230 => ((spec_l20Rd_pick.f k s0_0 t229 3).bind fun bt233 => (if 0 ≤ bt233.1 then (if bt233.1 < (y230.length : Int) then (some (rd y230 bt233.1, bt233.2)) else (none)) else (none)))) else ((some (([2, 3, 3, 4, 4] : List Int) : List Int)).bind fun y236 => ((spec_l20Rd_pick.f k s0_0 t229 5).bind fun bt239 => (if 0 ≤ bt239.1 then (if bt239.1 < (y236.length : Int) then (some (rd y236 bt239.1, bt239.2)) else (none)) else (none))))) = some (r1, r2) := H
 have A3 := yam A30
 clear A30
 by_cases c4 : t228 = true
 ·subst c4
  have H1 : ((some (([1, 5, (-1)] : List Int) : List Int)).bind fun y230 => ((spec_l20Rd_pick.f k s0_0 t229 3).bind fun bt233 => (if 0 ≤ bt233.1 then (if bt233.1 < (y230.length : Int) then (some (rd y230 bt233.1, bt233.2)) else (none)) else (none)))) = some (r1, r2) := by rw [if_pos rfl] at H; exact H
  clear H
  have H := H1
  clear H1
  obtain ⟨y230, hy230⟩ : ∃ y_ : List Int, y_ = (([1, 5, (-1)] : List Int)) := ⟨_, rfl⟩
  replace H : ((spec_l20Rd_pick.f k s0_0 t229 3).bind fun bt233 => (if 0 ≤ bt233.1 then (if bt233.1 < (y230.length : Int) then (some (rd y230 bt233.1, bt233.2)) else (none)) else (none))) = some (r1, r2) := by first | (rw [hy230]; with_reducible exact H) | (have H2_ := (Option.bind_some _ _).symm.trans H; rw [hy230]; with_reducible exact H2_) | (have H2_ := (Option.bind_some _ _).symm.trans H; with_reducible exact H2_) | with_reducible exact H | (rw [hy230]; exact H) | exact H
  have Ny230 := yam hy230
  clear hy230
  replace H := Option.bind_eq_some_iff.mp H
  obtain ⟨⟨t233, t234⟩, A50, H⟩ := H
  replace H : (if 0 ≤ t233 then (if t233 < (y230.length : Int) then (some (rd y230 t233, t234)) else (none)) else (none)) = some (r1, r2) := H
  have A5 := yam A50
  clear A50
  by_cases c6 : 0 ≤ t233
  rotate_left
  ·rw [if_neg c6] at H
   exact absurd H (by simp)
  rw [if_pos c6] at H
  have c6b0 : decide (0 ≤ t233) = true := decide_eq_true c6
  clear c6
  by_cases c7 : t233 < (y230.length : Int)
  rotate_left
  ·rw [if_neg c7] at H
   exact absurd H (by simp)
  rw [if_pos c7] at H
  have c7b0 : decide (t233 < (y230.length : Int)) = true := decide_eq_true c7
  clear c7
  simp only [Option.some.injEq, Prod.mk.injEq] at H
  obtain ⟨rfl, rfl⟩ := H
  go_enter Try.func49, Try.ntmps49
  go_wp2_with (first | ((with_reducible refine gate_callee (f := 75) rfl ?_); refine goesL_ (some 7) rfl rfl Try.func75 (by kernel_rfl) rfl #[.pointer (some ⟨g, 0, none⟩), .int .i64 a1] rfl (by (try simp only [List.map_toArray, List.map_cons, List.map_nil]); first | done | rfl | (simp only [List.length_drop, List.length_take]; rfl)) ?_; (with_reducible refine (spec_l20Rd_odd.calls k g s0_0 s0_1 a1 true t229 w0 _ ?side1 ?side2 A3.out).mono ?_); (case side1 => repeat (first | (with_reducible first | exact HI0.out | apply IsS85.alloc | apply IsS85.drewN | apply IsS85.drew | apply IsS85.set_1) | exact HI0.out)); (case side2 => repeat (first | (with_reducible first | exact HB.out | apply yea | apply yen | apply yed | refine below_set ?_ (IsS85.ge HI0.out)) | exact HB.out)); rintro e w8 ⟨rfl, hi, hb, hk⟩; refine ⟨_, rfl, ?_⟩; have n0_ := yam (KeepBut.trans (by repeat (first | (with_reducible first | exact HK.out | apply KeepBut.set_ | apply keep_drewN | apply keep_drew | apply keep_alloc) | exact HK.out)) hk (.inl rfl)); have n1_ := yam (hb); have n2_ := yam (hi); clear HK; clear HB; clear HI0; have HK := n0_; have HB := n1_; have HI0 := n2_; clear n0_ n1_ n2_; (try clear hb); (try clear hb2); (try clear hk); (try clear hi)) | ((with_reducible refine gate_dst (N := 8) rfl ?_); refine Kd.R_lit (Kd.int .i64) _ 3 ?hg (N := 8) ?hd (xs := ([1, 5, (-1)] : List Int)) (inner := [.int .i64 1, .int .i64 5, .int .i64 (-1)]) (ok := fun _ => True) (okp := fun _ => True) ?hr ?hp (fun _ hk => hk) trivial (Below.refl _ _) (Nat.le_refl _) (by simp) ?_; (case hd => rfl); (case hg => rfl); (case hr => first | (go_simp; done) | (go_simp; rfl)); (case hp => exact (Reps.one (show Kd.M (Kd.int .i64) _ _ _ 1 [.int .i64 1] from rfl) (Reps.one (show Kd.M (Kd.int .i64) _ _ _ 5 [.int .i64 5] from rfl) (Reps.one (show Kd.M (Kd.int .i64) _ _ _ (-1) [.int .i64 (-1)] from rfl) (Reps.none _ _))))); intro v231 w9 ho10 hb hg_ hnew_; clear hg_ hnew_; (first | rw [← Ny230.out] at ho10 | (simp only [Int.reduceToNat] at ho10; rw [← Ny230.out] at ho10)); have n0_ := yam (Kd.R_lower ho10 (keep_size (w := w) (g := g) (row := none) (by repeat (first | (with_reducible first | exact HK.out | apply KeepBut.set_ | apply keep_drewN | apply keep_drew | apply keep_alloc) | exact HK.out)))); have n1_ := yam (IsS85.below (by repeat (first | (with_reducible first | exact HI0.out | apply IsS85.alloc | apply IsS85.drewN | apply IsS85.drew | apply IsS85.set_1) | exact HI0.out)) hb); have n2_ := yam (KeepBut.trans (by repeat (first | (with_reducible first | exact HK.out | apply KeepBut.set_ | apply keep_drewN | apply keep_drew | apply keep_alloc) | exact HK.out)) (KeepBut.of_below hb g none) (.inl rfl)); have n3_ := yam (below_step (by repeat (first | (with_reducible first | exact HB.out | apply yea | apply yen | apply yed | refine below_set ?_ (IsS85.ge HI0.out)) | exact HB.out)) hb); clear HI0; clear HK; clear HB; have HO232 := n0_; have HI0 := n1_; have HK := n2_; have HB := n3_; clear n0_ n1_ n2_ n3_; clear hb ho10) | ((with_reducible refine gate_callee (f := 50) rfl ?_); refine goesL_ (some 10) rfl rfl Try.func50 (by kernel_rfl) rfl #[.pointer (some ⟨g, 0, none⟩), .int .i64 3] rfl (by (try simp only [List.map_toArray, List.map_cons, List.map_nil]); first | done | rfl | (simp only [List.length_drop, List.length_take]; rfl)) ?_; (with_reducible refine (spec_l20Rd_pick.calls k g s0_0 t229 3 t233 t234 w0 _ ?side1 ?side2 A5.out).mono ?_); (case side1 => repeat (first | (with_reducible first | exact HI0.out | apply IsS85.alloc | apply IsS85.drewN | apply IsS85.drew | apply IsS85.set_1) | exact HI0.out)); (case side2 => repeat (first | (with_reducible first | exact HB.out | apply yea | apply yen | apply yed | refine below_set ?_ (IsS85.ge HI0.out)) | exact HB.out)); rintro e w11 ⟨rfl, hi, hb, hk⟩; refine ⟨_, rfl, ?_⟩; have n0_ := yam (Kd.R_mono (Kd.R_keep (IsS85.apart (show IsS85 w0 _ g s0_0 t229 from by repeat (first | (with_reducible first | exact HI0.out | apply IsS85.alloc | apply IsS85.drewN | apply IsS85.drew | apply IsS85.set_1) | exact HI0.out)) (Kd.Yz HO232.out) (by decide)) hk (fun _ h => h.2)) (fun _ h => h.1)); have n1_ := yam (KeepBut.trans (by repeat (first | (with_reducible first | exact HK.out | apply KeepBut.set_ | apply keep_drewN | apply keep_drew | apply keep_alloc) | exact HK.out)) hk (.inl rfl)); have n2_ := yam (hb); have n3_ := yam (hi); clear HO232; clear HK; clear HB; clear HI0; have HO232 := n0_; have HK := n1_; have HB := n2_; have HI0 := n3_; clear n0_ n1_ n2_ n3_; (try clear hb); (try clear hb2); (try clear hk); (try clear hi); obtain ⟨Ao12, co12, eo12⟩ := Kd.R_slice HO232.out; subst eo12; have p235 : 0 ≤ (t233 : Int) := of_decide_eq_true (by first | (with_reducible assumption) | assumption); have q235 : t233 < (y230.length : Int) := of_decide_eq_true (by first | (with_reducible assumption) | assumption); obtain ⟨ad235, e235, hx235_0⟩ := Kd.at_int (Kd.Yr HO232.out).2.2 t233 p235 q235; cases e235; replace p235 := eq_true p235; replace q235 := eq_true q235))
  go_ret
  exact ⟨by first | rfl | (simp [errW_none, errW_some] <;> rfl) | (simp [*, errW_none, errW_some] <;> rfl), by repeat (first | (with_reducible first | exact HI0.out | apply IsS85.alloc | apply IsS85.drewN | apply IsS85.drew | apply IsS85.set_1) | exact HI0.out), by repeat (first | (with_reducible first | exact HB.out | apply yea | apply yen | apply yed | refine below_set ?_ (IsS85.ge HI0.out)) | exact HB.out), by repeat (first | (with_reducible first | exact HK.out | apply KeepBut.set_ | apply keep_drewN | apply keep_drew | apply keep_alloc) | exact HK.out)⟩
 replace c4 := Bool.eq_false_iff.mpr c4
 subst c4
 have H1 : ((some (([2, 3, 3, 4, 4] : List Int) : List Int)).bind fun y236 => ((spec_l20Rd_pick.f k s0_0 t229 5).bind fun bt239 => (if 0 ≤ bt239.1 then (if bt239.1 < (y236.length : Int) then (some (rd y236 bt239.1, bt239.2)) else (none)) else (none)))) = some (r1, r2) := by rw [if_neg (show ¬ (false = true) by decide)] at H; exact H
 clear H
 have H := H1
 clear H1
 obtain ⟨y236, hy236⟩ : ∃ y_ : List Int, y_ = (([2, 3, 3, 4, 4] : List Int)) := ⟨_, rfl⟩
 replace H : ((spec_l20Rd_pick.f k s0_0 t229 5).bind fun bt239 => (if 0 ≤ bt239.1 then (if bt239.1 < (y236.length : Int) then (some (rd y236 bt239.1, bt239.2)) else (none)) else (none))) = some (r1, r2) := by first | (rw [hy236]; with_reducible exact H) | (have H2_ := (Option.bind_some _ _).symm.trans H; rw [hy236]; with_reducible exact H2_) | (have H2_ := (Option.bind_some _ _).symm.trans H; with_reducible exact H2_) | with_reducible exact H | (rw [hy236]; exact H) | exact H
 have Ny236 := yam hy236
 clear hy236
 replace H := Option.bind_eq_some_iff.mp H
 obtain ⟨⟨t239, t240⟩, A130, H⟩ := H
 replace H : (if 0 ≤ t239 then (if t239 < (y236.length : Int) then (some (rd y236 t239, t240)) else (none)) else (none)) = some (r1, r2) := H
 have A13 := yam A130
 clear A130
 by_cases c14 : 0 ≤ t239
 rotate_left
 ·rw [if_neg c14] at H
  exact absurd H (by simp)

 rw [if_pos c14] at H
 have c14b0 : decide (0 ≤ t239) = true := decide_eq_true c14
 clear c14
 by_cases c15 : t239 < (y236.length : Int)
 rotate_left
 ·rw [if_neg c15] at H
  exact absurd H (by simp)
 rw [if_pos c15] at H
 have c15b0 : decide (t239 < (y236.length : Int)) = true := decide_eq_true c15
 clear c15
 simp only [Option.some.injEq, Prod.mk.injEq] at H
 obtain ⟨rfl, rfl⟩ := H
 go_enter Try.func49, Try.ntmps49
 go_wp2_with (first | ((with_reducible refine gate_callee (f := 75) rfl ?_); refine goesL_ (some 7) rfl rfl Try.func75 (by kernel_rfl) rfl #[.pointer (some ⟨g, 0, none⟩), .int .i64 a1] rfl (by (try simp only [List.map_toArray, List.map_cons, List.map_nil]); first | done | rfl | (simp only [List.length_drop, List.length_take]; rfl)) ?_; (with_reducible refine (spec_l20Rd_odd.calls k g s0_0 s0_1 a1 false t229 w0 _ ?side1 ?side2 A3.out).mono ?_); (case side1 => repeat (first | (with_reducible first | exact HI0.out | apply IsS85.alloc | apply IsS85.drewN | apply IsS85.drew | apply IsS85.set_1) | exact HI0.out)); (case side2 => repeat (first | (with_reducible first | exact HB.out | apply yea | apply yen | apply yed | refine below_set ?_ (IsS85.ge HI0.out)) | exact HB.out)); rintro e w16 ⟨rfl, hi, hb, hk⟩; refine ⟨_, rfl, ?_⟩; have n0_ := yam (KeepBut.trans (by repeat (first | (with_reducible first | exact HK.out | apply KeepBut.set_ | apply keep_drewN | apply keep_drew | apply keep_alloc) | exact HK.out)) hk (.inl rfl)); have n1_ := yam (hb); have n2_ := yam (hi); clear HK; clear HB; clear HI0; have HK := n0_; have HB := n1_; have HI0 := n2_; clear n0_ n1_ n2_; (try clear hb); (try clear hb2); (try clear hk); (try clear hi)) | ((with_reducible refine gate_dst (N := 13) rfl ?_); refine Kd.R_lit (Kd.int .i64) _ 3 ?hg (N := 13) ?hd (xs := ([2, 3, 3, 4, 4] : List Int)) (inner := [.int .i64 2, .int .i64 3, .int .i64 3, .int .i64 4, .int .i64 4]) (ok := fun _ => True) (okp := fun _ => True) ?hr ?hp (fun _ hk => hk) trivial (Below.refl _ _) (Nat.le_refl _) (by simp) ?_; (case hd => rfl); (case hg => rfl); (case hr => first | (go_simp; done) | (go_simp; rfl)); (case hp => exact (Reps.one (show Kd.M (Kd.int .i64) _ _ _ 2 [.int .i64 2] from rfl) (Reps.one (show Kd.M (Kd.int .i64) _ _ _ 3 [.int .i64 3] from rfl) (Reps.one (show Kd.M (Kd.int .i64) _ _ _ 3 [.int .i64 3] from rfl) (Reps.one (show Kd.M (Kd.int .i64) _ _ _ 4 [.int .i64 4] from rfl) (Reps.one (show Kd.M (Kd.int .i64) _ _ _ 4 [.int .i64 4] from rfl) (Reps.none _ _))))))); intro v237 w17 ho18 hb hg_ hnew_; clear hg_ hnew_; (first | rw [← Ny236.out] at ho18 | (simp only [Int.reduceToNat] at ho18; rw [← Ny236.out] at ho18)); have n0_ := yam (Kd.R_lower ho18 (keep_size (w := w) (g := g) (row := none) (by repeat (first | (with_reducible first | exact HK.out | apply KeepBut.set_ | apply keep_drewN | apply keep_drew | apply keep_alloc) | exact HK.out)))); have n1_ := yam (IsS85.below (by repeat (first | (with_reducible first | exact HI0.out | apply IsS85.alloc | apply IsS85.drewN | apply IsS85.drew | apply IsS85.set_1) | exact HI0.out)) hb); have n2_ := yam (KeepBut.trans (by repeat (first | (with_reducible first | exact HK.out | apply KeepBut.set_ | apply keep_drewN | apply keep_drew | apply keep_alloc) | exact HK.out)) (KeepBut.of_below hb g none) (.inl rfl)); have n3_ := yam (below_step (by repeat (first | (with_reducible first | exact HB.out | apply yea | apply yen | apply yed | refine below_set ?_ (IsS85.ge HI0.out)) | exact HB.out)) hb); clear HI0; clear HK; clear HB; have HO238 := n0_; have HI0 := n1_; have HK := n2_; have HB := n3_; clear n0_ n1_ n2_ n3_; clear hb ho18) | ((with_reducible refine gate_callee (f := 50) rfl ?_); refine goesL_ (some 15) rfl rfl Try.func50 (by kernel_rfl) rfl #[.pointer (some ⟨g, 0, none⟩), .int .i64 5] rfl (by (try simp only [List.map_toArray, List.map_cons, List.map_nil]); first | done | rfl | (simp only [List.length_drop, List.length_take]; rfl)) ?_; (with_reducible refine (spec_l20Rd_pick.calls k g s0_0 t229 5 t239 t240 w0 _ ?side1 ?side2 A13.out).mono ?_); (case side1 => repeat (first | (with_reducible first | exact HI0.out | apply IsS85.alloc | apply IsS85.drewN | apply IsS85.drew | apply IsS85.set_1) | exact HI0.out)); (case side2 => repeat (first | (with_reducible first | exact HB.out | apply yea | apply yen | apply yed | refine below_set ?_ (IsS85.ge HI0.out)) | exact HB.out)); rintro e w19 ⟨rfl, hi, hb, hk⟩; refine ⟨_, rfl, ?_⟩; have n0_ := yam (Kd.R_mono (Kd.R_keep (IsS85.apart (show IsS85 w0 _ g s0_0 t229 from by repeat (first | (with_reducible first | exact HI0.out | apply IsS85.alloc | apply IsS85.drewN | apply IsS85.drew | apply IsS85.set_1) | exact HI0.out)) (Kd.Yz HO238.out) (by decide)) hk (fun _ h => h.2)) (fun _ h => h.1)); have n1_ := yam (KeepBut.trans (by repeat (first | (with_reducible first | exact HK.out | apply KeepBut.set_ | apply keep_drewN | apply keep_drew | apply keep_alloc) | exact HK.out)) hk (.inl rfl)); have n2_ := yam (hb); have n3_ := yam (hi); clear HO238; clear HK; clear HB; clear HI0; have HO238 := n0_; have HK := n1_; have HB := n2_; have HI0 := n3_; clear n0_ n1_ n2_ n3_; (try clear hb); (try clear hb2); (try clear hk); (try clear hi); obtain ⟨Ao20, co20, eo20⟩ := Kd.R_slice HO238.out; subst eo20; have p241 : 0 ≤ (t239 : Int) := of_decide_eq_true (by first | (with_reducible assumption) | assumption); have q241 : t239 < (y236.length : Int) := of_decide_eq_true (by first | (with_reducible assumption) | assumption); obtain ⟨ad241, e241, hx241_0⟩ := Kd.at_int (Kd.Yr HO238.out).2.2 t239 p241 q241; cases e241; replace p241 := eq_true p241; replace q241 := eq_true q241))
 go_ret
 exact ⟨by first | rfl | (simp [errW_none, errW_some] <;> rfl) | (simp [*, errW_none, errW_some] <;> rfl), by repeat (first | (with_reducible first | exact HI0.out | apply IsS85.alloc | apply IsS85.drewN | apply IsS85.drew | apply IsS85.set_1) | exact HI0.out), by repeat (first | (with_reducible first | exact HB.out | apply yea | apply yen | apply yed | refine below_set ?_ (IsS85.ge HI0.out)) | exact HB.out), by repeat (first | (with_reducible first | exact HK.out | apply KeepBut.set_ | apply keep_drewN | apply keep_drew | apply keep_alloc) | exact HK.out)⟩
end Go.Proofs.Ytmjbnghhfadapaa.P
