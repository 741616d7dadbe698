/- The machine's side: each Go function as a plain Lean function and the proof that the machine's call does what that function says; written by this session's own program over the kit's print. -/
import Derived.ArgAppend
import Derived.Below
import Derived.BigQuiet
import Derived.Deep.AppendLies
import Derived.Deep.CutBlock
import Derived.Deep.DeepCutAuto
import Derived.Deep.Draws
import Derived.Deep.LoopGhost
import Derived.Deep.OwnRows
import Derived.Deep.QuietTactic
import Derived.Deep.RegionHeld3
import Derived.KernelRfl
import Derived.Laws.BitsLemmas
import Derived.Laws.BytesArg
import Derived.Laws.IdiomCopy
import Derived.Laws.MakeOwn
import Derived.Laws.OwnMore
import Derived.Laws.Rows
import Derived.Laws.Slices
import Derived.Lib.AppendStr
import Derived.Lib.ConvBytes
import Derived.Maps.AppendAt
import Derived.OrdersHeld
import Derived.OwnWalk
import Derived.RowKit
import Derived.RowKit3
import Derived.Tactics
import Derived.Test.YtmjbnghhfadapaaProg
import Derived.Test.YtmjbnghhfadapaaZW
import Derived.WalkKit
import Derived.WideLaws
namespace Go.Proofs.Ytmjbnghhfadapaa.P
open Go.RowKit Go.Proofs.YtmjbnghhfadapaaW.PrintWords Go.Proofs.YtmjbnghhfadapaaW.PrintLast Go.Proofs.YtmjbnghhfadapaaW.PrintMore
attribute [local go_sem] max2_int min2_int max_two min_two max_three min_three max_four min_four   -- for this text's walks alone
set_option linter.unusedVariables false
set_option linter.unusedSimpArgs false
def errW : Option Int → Value
 | none => .nilIface
 | some c => .iface 0 (.int .i64 c)
theorem errW_none : errW none = .nilIface := rfl
theorem errW_some (c : Int) : errW (some c) = .iface 0 (.int .i64 c) := rfl

theorem info3 : (Try.prog.info? 3).map (fun i => (i.zero, i.size, i.bytes)) = some (some (.int .i64 0), 1, 8) := by kernel_rfl
theorem info5 : (Try.prog.info? 5).map (fun i => (i.zero, i.size, i.bytes)) = some (some (.int .u8 0), 1, 1) := by kernel_rfl
theorem info22 : (Try.prog.info? 22).map (fun i => (i.zero, i.size, i.bytes)) = some (some (.slice none 0 0), 1, 24) := by kernel_rfl
theorem info70 : (Try.prog.info? 70).map (fun i => (i.zero, i.size, i.bytes)) = some (some (.agg #[(.int .i64 0), (.slice none 0 0), (.int .i64 0)]), 3, 40) := by kernel_rfl
theorem info73 : (Try.prog.info? 73).map (fun i => (i.zero, i.size, i.bytes)) = some (some (.agg #[(.int .i64 0), (.slice none 0 0), (.int .i64 0)]), 3, 40) := by kernel_rfl
-- the values' own types
def rd_L1 (xs : List (List Int)) (i : Int) : (List Int) := xs.getD i.toNat ([] : List Int)
theorem at_L1 {w : World} {A : Option Addr} {n : Nat} {xs : List (List Int)} (h : Kd.C (Kd.slice 3 (Kd.int .i64)) w A n xs) (i : Int) (h0 : 0 ≤ i) (h1 : i < n) : ∃ ad A0 c0, A = some ad ∧ w.cell? (ad.add i.toNat) = some (.slice A0 (rd_L1 xs i).length c0) ∧ (rd_L1 xs i).length ≤ c0 ∧ (Kd.int .i64).C w A0 (rd_L1 xs i).length (rd_L1 xs i) := by
 obtain ⟨ad, c, e, _, hK, hc0⟩ := Kd.C_get h ([] : List Int) i h0 h1
 have hc : ∀ j u, c[j]? = some u → w.cell? (ad.add (i.toNat * 1 + j)) = some u := hc0
 obtain ⟨A0, c0, rfl, l0, g0⟩ := hK
 exact ⟨ad, A0, c0, e, by have hq := hc 0 _ rfl; rwa [Nat.mul_one, Nat.add_zero] at hq, l0, g0⟩

/-! #### struct type 73 -/
structure S73 where
 f0 : Int
 f1 : (List Int)
 f2 : Int
def z73 : S73 := ⟨(0 : Int), ([] : List Int), (0 : Int)⟩
def k73 : Kd S73 := Kd.iso (Kd.pair (Kd.int .i64) (Kd.pair (Kd.slice 3 (Kd.int .i64)) (Kd.int .i64))) (fun x : S73 => (x.f0, x.f1, x.f2))
theorem k73_heap : Kd.Heap k73 := Kd.heap_iso _ (Kd.heap_pair (Kd.heap_int .i64) (Kd.heap_pair (Kd.heap_slice 3 (Kd.heap_int .i64)) (Kd.heap_int .i64)))
theorem k73_open {w : World} {x : S73} {cs : List Value} (h : k73.K w x cs) : ∃ A1 c1, cs = [.int .i64 x.f0, .slice A1 x.f1.length c1, .int .i64 x.f2] ∧ x.f1.length ≤ c1 ∧ (Kd.int .i64).C w A1 x.f1.length x.f1 := by
 obtain ⟨_, _, rfl, rfl, ⟨_, _, rfl, ⟨A1, c1, rfl, l1, g1⟩, rfl⟩⟩ := h
 exact ⟨A1, c1, rfl, l1, g1⟩
theorem k73_openM {w : World} {base : Nat} {ok : Nat → Prop} {x : S73} {cs : List Value} (h : k73.M w base ok x cs) : ∃ v1, cs = [.int .i64 x.f0, v1, .int .i64 x.f2] ∧ (Kd.int .i64).R 3 w base ok v1 x.f1 := by
 obtain ⟨_, _, rfl, rfl, ⟨_, _, rfl, ⟨v1, rfl, g1⟩, rfl⟩⟩ := h
 exact ⟨v1, rfl, g1⟩
theorem k73_mk (w : World) (x : S73) {A1 : Option Addr} {c1 : Nat} (l1 : x.f1.length ≤ c1) (g1 : (Kd.int .i64).C w A1 x.f1.length x.f1) : k73.K w x [.int .i64 x.f0, .slice A1 x.f1.length c1, .int .i64 x.f2] := ⟨[.int .i64 x.f0], [.slice A1 x.f1.length c1, .int .i64 x.f2], rfl, rfl, ⟨[.slice A1 x.f1.length c1], [.int .i64 x.f2], rfl, ⟨A1, c1, rfl, l1, g1⟩, rfl⟩⟩
theorem k73_mkM (w : World) (base : Nat) (ok : Nat → Prop) (x : S73) {v1 : Value} (g1 : (Kd.int .i64).R 3 w base ok v1 x.f1) : k73.M w base ok x [.int .i64 x.f0, v1, .int .i64 x.f2] := ⟨[.int .i64 x.f0], [v1, .int .i64 x.f2], rfl, rfl, ⟨[v1], [.int .i64 x.f2], rfl, ⟨v1, rfl, g1⟩, rfl⟩⟩
theorem k73_openF {W : World} {ok : Nat → Prop} {x : S73} {cs : List Value} (h : Kd.FK k73 W ok x cs) : ∃ A1 c1, cs = [.int .i64 x.f0, .slice A1 x.f1.length c1, .int .i64 x.f2] ∧ x.f1.length ≤ c1 ∧ Kd.F (Kd.int .i64) W ok A1 x.f1.length x.f1 := by
 obtain ⟨A1, c1, rfl, l1, _⟩ := k73_open (Kd.FK_now h)
 exact ⟨A1, c1, rfl, l1, (fun W' hW => by obtain ⟨A1_, c1_, he, l1_, g1_⟩ := k73_open (h W' hW); injection (Option.some.inj (show some (Value.slice A1 x.f1.length c1) = some (Value.slice A1_ x.f1.length c1_) from congrArg (fun l => l[1]?) he)) with ha_ _ _; rw [ha_]; exact g1_)⟩
theorem k73_mkF (W : World) (ok : Nat → Prop) (x : S73) {A1 : Option Addr} {c1 : Nat} (l1 : x.f1.length ≤ c1) (g1 : Kd.F (Kd.int .i64) W ok A1 x.f1.length x.f1) : Kd.FK k73 W ok x [.int .i64 x.f0, .slice A1 x.f1.length c1, .int .i64 x.f2] := fun W2 hW => k73_mk W2 x l1 (g1 W2 hW)
def rd_T73 (xs : List S73) (i : Int) : S73 := xs.getD i.toNat z73
theorem at_T73 {w : World} {A : Option Addr} {n : Nat} {xs : List S73} (h : Kd.C k73 w A n xs) (i : Int) (h0 : 0 ≤ i) (h1 : i < n) : ∃ ad A1 c1, A = some ad ∧ w.cell? (ad.add (i.toNat * 3)) = some (.int .i64 (rd_T73 xs i).f0) ∧ w.cell? ⟨(ad.add (i.toNat * 3)).block, (ad.add (i.toNat * 3)).off + 1, none⟩ = some (.slice A1 (rd_T73 xs i).f1.length c1) ∧ w.cell? ⟨(ad.add (i.toNat * 3)).block, (ad.add (i.toNat * 3)).off + 2, none⟩ = some (.int .i64 (rd_T73 xs i).f2) ∧ (rd_T73 xs i).f1.length ≤ c1 ∧ (Kd.int .i64).C w A1 (rd_T73 xs i).f1.length (rd_T73 xs i).f1 := by
 obtain ⟨ad, c, e, _, hK, hc0⟩ := Kd.C_get h z73 i h0 h1
 have hc : ∀ j u, c[j]? = some u → w.cell? (ad.add (i.toNat * 3 + j)) = some u := hc0
 obtain ⟨A1, c1, rfl, l1, g1⟩ := k73_open hK
 exact ⟨ad, A1, c1, e, hc 0 _ rfl, by rw [← add_field _ _ 1 (by omega)]; exact hc 1 _ rfl, by rw [← add_field _ _ 2 (by omega)]; exact hc 2 _ rfl, l1, g1⟩

def rd_L4 (xs : List (List S73)) (i : Int) : (List S73) := xs.getD i.toNat ([] : List S73)
theorem at_L4 {w : World} {A : Option Addr} {n : Nat} {xs : List (List S73)} (h : Kd.C (Kd.slice 73 k73) w A n xs) (i : Int) (h0 : 0 ≤ i) (h1 : i < n) : ∃ ad A0 c0, A = some ad ∧ w.cell? (ad.add i.toNat) = some (.slice A0 (rd_L4 xs i).length c0) ∧ (rd_L4 xs i).length ≤ c0 ∧ k73.C w A0 (rd_L4 xs i).length (rd_L4 xs i) := by
 obtain ⟨ad, c, e, _, hK, hc0⟩ := Kd.C_get h ([] : List S73) i h0 h1
 have hc : ∀ j u, c[j]? = some u → w.cell? (ad.add (i.toNat * 1 + j)) = some u := hc0
 obtain ⟨A0, c0, rfl, l0, g0⟩ := hK
 exact ⟨ad, A0, c0, e, by have hq := hc 0 _ rfl; rwa [Nat.mul_one, Nat.add_zero] at hq, l0, g0⟩

/-! #### struct type 70 -/
structure S70 where
 f0 : Int
 f1 : (List Int)
 f2 : Int
def z70 : S70 := ⟨(0 : Int), ([] : List Int), (0 : Int)⟩
def k70 : Kd S70 := Kd.iso (Kd.pair (Kd.int .i64) (Kd.pair (Kd.slice 3 (Kd.int .i64)) (Kd.int .i64))) (fun x : S70 => (x.f0, x.f1, x.f2))
theorem k70_heap : Kd.Heap k70 := Kd.heap_iso _ (Kd.heap_pair (Kd.heap_int .i64) (Kd.heap_pair (Kd.heap_slice 3 (Kd.heap_int .i64)) (Kd.heap_int .i64)))
theorem k70_open {w : World} {x : S70} {cs : List Value} (h : k70.K w x cs) : ∃ A1 c1, cs = [.int .i64 x.f0, .slice A1 x.f1.length c1, .int .i64 x.f2] ∧ x.f1.length ≤ c1 ∧ (Kd.int .i64).C w A1 x.f1.length x.f1 := by
 obtain ⟨_, _, rfl, rfl, ⟨_, _, rfl, ⟨A1, c1, rfl, l1, g1⟩, rfl⟩⟩ := h
 exact ⟨A1, c1, rfl, l1, g1⟩
theorem k70_openM {w : World} {base : Nat} {ok : Nat → Prop} {x : S70} {cs : List Value} (h : k70.M w base ok x cs) : ∃ v1, cs = [.int .i64 x.f0, v1, .int .i64 x.f2] ∧ (Kd.int .i64).R 3 w base ok v1 x.f1 := by
 obtain ⟨_, _, rfl, rfl, ⟨_, _, rfl, ⟨v1, rfl, g1⟩, rfl⟩⟩ := h
 exact ⟨v1, rfl, g1⟩
theorem k70_mk (w : World) (x : S70) {A1 : Option Addr} {c1 : Nat} (l1 : x.f1.length ≤ c1) (g1 : (Kd.int .i64).C w A1 x.f1.length x.f1) : k70.K w x [.int .i64 x.f0, .slice A1 x.f1.length c1, .int .i64 x.f2] := ⟨[.int .i64 x.f0], [.slice A1 x.f1.length c1, .int .i64 x.f2], rfl, rfl, ⟨[.slice A1 x.f1.length c1], [.int .i64 x.f2], rfl, ⟨A1, c1, rfl, l1, g1⟩, rfl⟩⟩
theorem k70_mkM (w : World) (base : Nat) (ok : Nat → Prop) (x : S70) {v1 : Value} (g1 : (Kd.int .i64).R 3 w base ok v1 x.f1) : k70.M w base ok x [.int .i64 x.f0, v1, .int .i64 x.f2] := ⟨[.int .i64 x.f0], [v1, .int .i64 x.f2], rfl, rfl, ⟨[v1], [.int .i64 x.f2], rfl, ⟨v1, rfl, g1⟩, rfl⟩⟩
theorem k70_openF {W : World} {ok : Nat → Prop} {x : S70} {cs : List Value} (h : Kd.FK k70 W ok x cs) : ∃ A1 c1, cs = [.int .i64 x.f0, .slice A1 x.f1.length c1, .int .i64 x.f2] ∧ x.f1.length ≤ c1 ∧ Kd.F (Kd.int .i64) W ok A1 x.f1.length x.f1 := by
 obtain ⟨A1, c1, rfl, l1, _⟩ := k70_open (Kd.FK_now h)
 exact ⟨A1, c1, rfl, l1, (fun W' hW => by obtain ⟨A1_, c1_, he, l1_, g1_⟩ := k70_open (h W' hW); injection (Option.some.inj (show some (Value.slice A1 x.f1.length c1) = some (Value.slice A1_ x.f1.length c1_) from congrArg (fun l => l[1]?) he)) with ha_ _ _; rw [ha_]; exact g1_)⟩
theorem k70_mkF (W : World) (ok : Nat → Prop) (x : S70) {A1 : Option Addr} {c1 : Nat} (l1 : x.f1.length ≤ c1) (g1 : Kd.F (Kd.int .i64) W ok A1 x.f1.length x.f1) : Kd.FK k70 W ok x [.int .i64 x.f0, .slice A1 x.f1.length c1, .int .i64 x.f2] := fun W2 hW => k70_mk W2 x l1 (g1 W2 hW)
def rd_T70 (xs : List S70) (i : Int) : S70 := xs.getD i.toNat z70
theorem at_T70 {w : World} {A : Option Addr} {n : Nat} {xs : List S70} (h : Kd.C k70 w A n xs) (i : Int) (h0 : 0 ≤ i) (h1 : i < n) : ∃ ad A1 c1, A = some ad ∧ w.cell? (ad.add (i.toNat * 3)) = some (.int .i64 (rd_T70 xs i).f0) ∧ w.cell? ⟨(ad.add (i.toNat * 3)).block, (ad.add (i.toNat * 3)).off + 1, none⟩ = some (.slice A1 (rd_T70 xs i).f1.length c1) ∧ w.cell? ⟨(ad.add (i.toNat * 3)).block, (ad.add (i.toNat * 3)).off + 2, none⟩ = some (.int .i64 (rd_T70 xs i).f2) ∧ (rd_T70 xs i).f1.length ≤ c1 ∧ (Kd.int .i64).C w A1 (rd_T70 xs i).f1.length (rd_T70 xs i).f1 := by
 obtain ⟨ad, c, e, _, hK, hc0⟩ := Kd.C_get h z70 i h0 h1
 have hc : ∀ j u, c[j]? = some u → w.cell? (ad.add (i.toNat * 3 + j)) = some u := hc0
 obtain ⟨A1, c1, rfl, l1, g1⟩ := k70_open hK
 exact ⟨ad, A1, c1, e, hc 0 _ rfl, by rw [← add_field _ _ 1 (by omega)]; exact hc 1 _ rfl, by rw [← add_field _ _ 2 (by omega)]; exact hc 2 _ rfl, l1, g1⟩

def rd_L7 (xs : List (List (List Int))) (i : Int) : (List (List Int)) := xs.getD i.toNat ([] : List (List Int))
theorem at_L7 {w : World} {A : Option Addr} {n : Nat} {xs : List (List (List Int))} (h : Kd.C (Kd.slice 22 (Kd.slice 3 (Kd.int .i64))) w A n xs) (i : Int) (h0 : 0 ≤ i) (h1 : i < n) : ∃ ad A0 c0, A = some ad ∧ w.cell? (ad.add i.toNat) = some (.slice A0 (rd_L7 xs i).length c0) ∧ (rd_L7 xs i).length ≤ c0 ∧ (Kd.slice 3 (Kd.int .i64)).C w A0 (rd_L7 xs i).length (rd_L7 xs i) := by
 obtain ⟨ad, c, e, _, hK, hc0⟩ := Kd.C_get h ([] : List (List Int)) i h0 h1
 have hc : ∀ j u, c[j]? = some u → w.cell? (ad.add (i.toNat * 1 + j)) = some u := hc0
 obtain ⟨A0, c0, rfl, l0, g0⟩ := hK
 exact ⟨ad, A0, c0, e, by have hq := hc 0 _ rfl; rwa [Nat.mul_one, Nat.add_zero] at hq, l0, g0⟩

def rd_L8 (xs : List (List S70)) (i : Int) : (List S70) := xs.getD i.toNat ([] : List S70)
theorem at_L8 {w : World} {A : Option Addr} {n : Nat} {xs : List (List S70)} (h : Kd.C (Kd.slice 70 k70) w A n xs) (i : Int) (h0 : 0 ≤ i) (h1 : i < n) : ∃ ad A0 c0, A = some ad ∧ w.cell? (ad.add i.toNat) = some (.slice A0 (rd_L8 xs i).length c0) ∧ (rd_L8 xs i).length ≤ c0 ∧ k70.C w A0 (rd_L8 xs i).length (rd_L8 xs i) := by
 obtain ⟨ad, c, e, _, hK, hc0⟩ := Kd.C_get h ([] : List S70) i h0 h1
 have hc : ∀ j u, c[j]? = some u → w.cell? (ad.add (i.toNat * 1 + j)) = some u := hc0
 obtain ⟨A0, c0, rfl, l0, g0⟩ := hK
 exact ⟨ad, A0, c0, e, by have hq := hc 0 _ rfl; rwa [Nat.mul_one, Nat.add_zero] at hq, l0, g0⟩
/-! ### laws_eqIntS: function 13 -/
def laws_eqIntS.l0 : Nat → List Int → List Int → Int → Option (Bool)
 | 0, _, _, _ => none
 | k + 1, x0, x1, x5 => if x5 < (x0.length : Int) then (if 0 ≤ x5 then (if x5 < (x1.length : Int) then (if (rd x0 x5) = (rd x1 x5) then (laws_eqIntS.l0 k x0 x1 (wrap64 (x5 + 1))) else (some false)) else (none)) else (none)) else (some true)
def laws_eqIntS.f (k : Nat) (l0 : List Int) (l1 : List Int) : Option (Bool) := if (l0.length : Int) = (l1.length : Int) then (laws_eqIntS.l0 k l0 l1 0) else (some false)
set_option maxHeartbeats 8000000 in
set_option maxRecDepth 100000 in
theorem laws_eqIntS.calls (k : Nat) (A0 : Option Addr) (c0 : Nat) (l0 : List Int) (A1 : Option Addr) (c1 : Nat) (l1 : List Int) (r : Bool) (w : World) (hr0 : Kd.C (Kd.int .i64) w A0 l0.length l0) (hc0 : l0.length ≤ c0) (hr1 : Kd.C (Kd.int .i64) w A1 l1.length l1) (hc1 : l1.length ≤ c1) (h : laws_eqIntS.f k l0 l1 = some r) :
  Calls Try.prog 13 #[.slice A0 l0.length c0, .slice A1 l1.length c1] w fun e w' => e = .returned (.bool r) ∧ Drawn0 w w' := by
 have HR0 := yam hr0
 have HC0 := yam hc0
 clear hr0 hc0
 have HR1 := yam hr1
 have HC1 := yam hc1
 clear hr1 hc1
 have H : (if (l0.length : Int) = (l1.length : Int) then (laws_eqIntS.l0 k l0 l1 0) else (some false)) = some r := h
 clear h
 by_cases c3 : (l0.length : Int) = (l1.length : Int)
 rotate_left
 ·rw [if_neg c3] at H
  have c3b0 : ((l0.length : Int) == (l1.length : Int)) = false := beq_eq_false_iff_ne.mpr c3
  have c3b1 : ((l0.length : Int) != (l1.length : Int)) = true := bne_iff_ne.mpr c3
  have c3b2 : (l0.length == l1.length) = false := by first | simpa using c3 | (simp at c3 ⊢; omega)
  obtain rfl := Option.some.inj H
  go_enter Try.func13, Try.ntmps13
  go_wp2
  repeat (go_quiet (fail); try go_wp2)
  go_ret
  exact ⟨by first | rfl | (simp; done) | (simp [*]; done), by repeat (first | exact Drawn0.refl _ | apply Drawn0.step)⟩

 rw [if_pos c3] at H
 have c3b0 : ((l0.length : Int) == (l1.length : Int)) = true := beq_iff_eq.mpr c3
 have c3b1 : ((l0.length : Int) != (l1.length : Int)) = false := bne_eq_false_iff_eq.mpr c3
 have c3b2 : (l0.length == l1.length) = true := by first | simpa using c3 | (simp at c3 ⊢; omega)
 clear c3
 have H' := yam H
 clear H
 go_enter Try.func13, Try.ntmps13
 go_wp2
 repeat (go_quiet (fail); try go_wp2)
 go_loopg [5] k (fun kq v5 w' => ∃ (x5_1 : Int), v5 = .int .i64 x5_1 ∧ Aside0 (laws_eqIntS.l0 kq l0 l1 x5_1 = some r) ∧ Aside0 (kq ≤ k) ∧ Drawn0 w w')
 case atStart => exact ⟨(0), (by first | rfl | (simp; done) | (simp [*]; done)), H', ⟨Nat.le_refl _⟩, by repeat (first | exact Drawn0.refl _ | apply Drawn0.step)⟩
 case round =>
  clear H'
  try clear c1
  try clear p2
  try clear c3
  try clear c3b0
  try clear c3b1
  try clear c3b2
  obtain ⟨x5_1, rfl, HA, HK1, ⟨m1, rfl⟩⟩ := hrel
  cases gk with
  | zero => exact absurd HA.out (by simp [laws_eqIntS.l0])
  | succ k1 =>
   have H := HA.out
   clear HA
   simp only [laws_eqIntS.l0] at H
   by_cases c4 : x5_1 < (l0.length : Int)
   rotate_left
   ·rw [if_neg c4] at H
    have c4b0 : decide (x5_1 < (l0.length : Int)) = false := decide_eq_false c4
    clear c4
    obtain rfl := Option.some.inj H
    go_wp2
    repeat (go_quiet (fail); try go_wp2)
    go_ret
    exact ⟨by first | rfl | (simp; done) | (simp [*]; done), by repeat (first | exact Drawn0.refl _ | apply Drawn0.step)⟩
   rw [if_pos c4] at H
   have c4b0 : decide (x5_1 < (l0.length : Int)) = true := decide_eq_true c4
   clear c4
   by_cases c5 : 0 ≤ x5_1
   rotate_left
   ·rw [if_neg c5] at H
    exact absurd H (by simp)
   rw [if_pos c5] at H
   have c5b0 : decide (0 ≤ x5_1) = true := decide_eq_true c5
   clear c5
   by_cases c6 : x5_1 < (l1.length : Int)
   rotate_left
   ·rw [if_neg c6] at H
    exact absurd H (by simp)
   rw [if_pos c6] at H
   have c6b0 : decide (x5_1 < (l1.length : Int)) = true := decide_eq_true c6
   clear c6
   by_cases c7 : (rd l0 x5_1) = (rd l1 x5_1)
   rotate_left
   ·rw [if_neg c7] at H
    have c7b0 : ((rd l0 x5_1) == (rd l1 x5_1)) = false := beq_eq_false_iff_ne.mpr c7
    have c7b1 : ((rd l0 x5_1) != (rd l1 x5_1)) = true := bne_iff_ne.mpr c7
    obtain rfl := Option.some.inj H
    have p201 : 0 ≤ (x5_1 : Int) := of_decide_eq_true (by first | (with_reducible assumption) | assumption)
    have q201 : x5_1 < (l0.length : Int) := of_decide_eq_true (by first | (with_reducible assumption) | assumption)
    obtain ⟨ad201, e201, hx201_0⟩ := Kd.at_int HR0.out x5_1 p201 q201
    cases e201
    replace p201 := eq_true p201
    replace q201 := eq_true q201
    have p202 : 0 ≤ (x5_1 : Int) := of_decide_eq_true (by first | (with_reducible assumption) | assumption)
    have q202 : x5_1 < (l1.length : Int) := of_decide_eq_true (by first | (with_reducible assumption) | assumption)
    obtain ⟨ad202, e202, hx202_0⟩ := Kd.at_int HR1.out x5_1 p202 q202
    cases e202
    replace p202 := eq_true p202
    replace q202 := eq_true q202
    go_wp2
    repeat (go_quiet (fail); try go_wp2)
    go_ret
    exact ⟨by first | rfl | (simp; done) | (simp [*]; done), by repeat (first | exact Drawn0.refl _ | apply Drawn0.step)⟩
   rw [if_pos c7] at H
   have c7b0 : ((rd l0 x5_1) == (rd l1 x5_1)) = true := beq_iff_eq.mpr c7
   have c7b1 : ((rd l0 x5_1) != (rd l1 x5_1)) = false := bne_eq_false_iff_eq.mpr c7
   clear c7
   have H' := yam H
   clear H
   have p201 : 0 ≤ (x5_1 : Int) := of_decide_eq_true (by first | (with_reducible assumption) | assumption)
   have q201 : x5_1 < (l0.length : Int) := of_decide_eq_true (by first | (with_reducible assumption) | assumption)
   obtain ⟨ad201, e201, hx201_0⟩ := Kd.at_int HR0.out x5_1 p201 q201
   cases e201
   replace p201 := eq_true p201
   replace q201 := eq_true q201
   have p202 : 0 ≤ (x5_1 : Int) := of_decide_eq_true (by first | (with_reducible assumption) | assumption)
   have q202 : x5_1 < (l1.length : Int) := of_decide_eq_true (by first | (with_reducible assumption) | assumption)
   obtain ⟨ad202, e202, hx202_0⟩ := Kd.at_int HR1.out x5_1 p202 q202
   cases e202
   replace p202 := eq_true p202
   replace q202 := eq_true q202
   go_wp2
   repeat (go_quiet (fail); try go_wp2)
   go_roundg k1
   case measure => have := HK1.out; omega
   case rel => exact ⟨(wrap64 (x5_1 + 1)), (by first | rfl | (simp; done) | (simp [*]; done)), H', ⟨by have := HK1.out; omega⟩, by repeat (first | exact Drawn0.refl _ | apply Drawn0.step)⟩
/-! ### laws_eqRule: function 59 -/
def laws_eqRule.f (k : Nat) (a0_0 : Int) (l0_1 : List Int) (a0_2 : Int) (a1_0 : Int) (l1_1 : List Int) (a1_2 : Int) : Option (Bool) := if a0_0 = a1_0 then ((laws_eqIntS.f k l0_1 l1_1).bind fun t510 => (if t510 = true then (if a0_2 = a1_2 then (some true) else (some false)) else (some false))) else (some false)
set_option maxHeartbeats 8000000 in
set_option maxRecDepth 100000 in
theorem laws_eqRule.calls (k : Nat) (a0_0 : Int) (A0_1 : Option Addr) (c0_1 : Nat) (l0_1 : List Int) (a0_2 : Int) (a1_0 : Int) (A1_1 : Option Addr) (c1_1 : Nat) (l1_1 : List Int) (a1_2 : Int) (r : Bool) (w : World) (hr0_1 : Kd.C (Kd.int .i64) w A0_1 l0_1.length l0_1) (hc0_1 : l0_1.length ≤ c0_1) (hr1_1 : Kd.C (Kd.int .i64) w A1_1 l1_1.length l1_1) (hc1_1 : l1_1.length ≤ c1_1) (h : laws_eqRule.f k a0_0 l0_1 a0_2 a1_0 l1_1 a1_2 = some r) :
  Calls Try.prog 59 #[.agg #[.int .i64 a0_0, .slice A0_1 l0_1.length c0_1, .int .i64 a0_2], .agg #[.int .i64 a1_0, .slice A1_1 l1_1.length c1_1, .int .i64 a1_2]] w fun e w' => e = .returned (.bool r) ∧ Below w.heap.size w w' := by
 have hu73 := Try.underlying73
 have HR0_1 := yam hr0_1
 have HC0_1 := yam hc0_1
 clear hr0_1 hc0_1
 have HR1_1 := yam hr1_1
 have HC1_1 := yam hc1_1
 clear hr1_1 hc1_1
 have HB := yam (Below.refl w.heap.size w)
 have H : (if a0_0 = a1_0 then ((laws_eqIntS.f k l0_1 l1_1).bind fun t510 => (if t510 = true then (if a0_2 = a1_2 then (some true) else (some false)) else (some false))) else (some false)) = some r := h
 clear h
 by_cases c3 : a0_0 = a1_0
 rotate_left
 ·rw [if_neg c3] at H
  have c3b0 : (a0_0 == a1_0) = false := beq_eq_false_iff_ne.mpr c3
  have c3b1 : (a0_0 != a1_0) = true := bne_iff_ne.mpr c3
  obtain rfl := Option.some.inj H
  go_enter Try.func59, Try.ntmps59
  go_wp2_with (first | ((with_reducible refine gate_dst (N := 2) rfl ?_); refine box_event ?hg (N := 2) ?hd (cs := #[.int .i64 a0_0, .slice A0_1 l0_1.length c0_1, .int .i64 a0_2]) (t := 73) ?hr ?_; (case hd => rfl); (case hg => rfl); (case hr => first | (go_simp; done) | (go_simp; rfl)); intro gb508 hg w22 hbox hb; have n0_ := yam (below_step (yez HB.out) hb); have n1_ := yam (hbox); have n2_ := yam ((by rw [hg]; exact (below_size (yez HB.out)) : w.heap.size ≤ gb508)); have n3_ := n2_; clear HB; have HB := n0_; have BK508 := n1_; have GW508 := n2_; have GE508 := n3_; clear n0_ n1_ n2_ n3_; clear hb hbox hg) | ((with_reducible refine gate_dst (N := 3) rfl ?_); refine box_event ?hg (N := 3) ?hd (cs := #[.int .i64 a1_0, .slice A1_1 l1_1.length c1_1, .int .i64 a1_2]) (t := 73) ?hr ?_; (case hd => rfl); (case hg => rfl); (case hr => first | (go_simp; done) | (go_simp; rfl)); intro gb509 hg w23 hbox hb; have n0_ := yam (blk_below (g := gb508) (o := .cells #[.int .i64 a0_0, .slice A0_1 l0_1.length c0_1, .int .i64 a0_2] 73 (0, 0)) (ybz BK508.out) hb); have n1_ := yam (below_step (by repeat (first | (with_reducible first | exact HB.out | apply yea | apply yen | apply yed | refine below_set ?_ GE508.out) | exact HB.out)) hb); have n2_ := yam (hbox); have n3_ := yam ((by rw [hg]; exact (below_size (by repeat (first | (with_reducible first | exact HB.out | apply yea | apply yen | apply yed | refine below_set ?_ GE508.out) | exact HB.out))) : w.heap.size ≤ gb509)); have n4_ := n3_; have n5_ := yam ((by rw [hg]; exact Nat.ne_of_lt (blk_lt (g := gb508) (o := .cells #[.int .i64 a0_0, .slice A0_1 l0_1.length c0_1, .int .i64 a0_2] 73 (0, 0)) (ybz BK508.out)) : gb508 ≠ gb509)); have n6_ := yam ((by rw [hg]; exact Nat.ne_of_gt (blk_lt (g := gb508) (o := .cells #[.int .i64 a0_0, .slice A0_1 l0_1.length c0_1, .int .i64 a0_2] 73 (0, 0)) (ybz BK508.out)) : gb509 ≠ gb508)); clear BK508; clear HB; have BK508 := n0_; have HB := n1_; have BK509 := n2_; have GW509 := n3_; have GE509 := n4_; have NB508_509 := n5_; have NB509_508 := n6_; clear n0_ n1_ n2_ n3_ n4_ n5_ n6_; clear hb hbox hg; have hnb24 := NB508_509.out; have hnc24 := NB509_508.out; obtain ⟨hcz25_0, hcz25_1, hcz25_2, hfz25_0, hfz25_1, hfz25_2⟩ := ybc BK508.out; obtain ⟨hcz26_0, hcz26_1, hcz26_2, hfz26_0, hfz26_1, hfz26_2⟩ := ybc BK509.out))
  go_ret
  exact ⟨by first | rfl | (simp [errW_none, errW_some] <;> rfl) | (simp [*, errW_none, errW_some] <;> rfl), by repeat (first | (with_reducible first | exact HB.out | apply yea | apply yen | apply yed | refine below_set ?_ GE508.out | refine below_set ?_ GE509.out) | exact HB.out)⟩

 rw [if_pos c3] at H
 have c3b0 : (a0_0 == a1_0) = true := beq_iff_eq.mpr c3
 have c3b1 : (a0_0 != a1_0) = false := bne_eq_false_iff_eq.mpr c3
 clear c3
 replace H := Option.bind_eq_some_iff.mp H
 obtain ⟨t510, A40, H⟩ := H
 try dsimp only at H
 have A4 := yam A40
 clear A40
 by_cases c5 : t510 = true
 rotate_left
 ·replace c5 := Bool.eq_false_iff.mpr c5
  subst c5
  have H1 : (some false) = some r := by rw [if_neg (show ¬ (false = true) by decide)] at H; exact H
  clear H
  have H := H1
  clear H1
  obtain rfl := Option.some.inj H
  go_enter Try.func59, Try.ntmps59
  go_wp2_with (first | ((with_reducible refine gate_dst (N := 2) rfl ?_); refine box_event ?hg (N := 2) ?hd (cs := #[.int .i64 a0_0, .slice A0_1 l0_1.length c0_1, .int .i64 a0_2]) (t := 73) ?hr ?_; (case hd => rfl); (case hg => rfl); (case hr => first | (go_simp; done) | (go_simp; rfl)); intro gb508 hg w17 hbox hb; have n0_ := yam (below_step (yez HB.out) hb); have n1_ := yam (hbox); have n2_ := yam ((by rw [hg]; exact (below_size (yez HB.out)) : w.heap.size ≤ gb508)); have n3_ := n2_; clear HB; have HB := n0_; have BK508 := n1_; have GW508 := n2_; have GE508 := n3_; clear n0_ n1_ n2_ n3_; clear hb hbox hg) | ((with_reducible refine gate_dst (N := 3) rfl ?_); refine box_event ?hg (N := 3) ?hd (cs := #[.int .i64 a1_0, .slice A1_1 l1_1.length c1_1, .int .i64 a1_2]) (t := 73) ?hr ?_; (case hd => rfl); (case hg => rfl); (case hr => first | (go_simp; done) | (go_simp; rfl)); intro gb509 hg w18 hbox hb; have n0_ := yam (blk_below (g := gb508) (o := .cells #[.int .i64 a0_0, .slice A0_1 l0_1.length c0_1, .int .i64 a0_2] 73 (0, 0)) (ybz BK508.out) hb); have n1_ := yam (below_step (by repeat (first | (with_reducible first | exact HB.out | apply yea | apply yen | apply yed | refine below_set ?_ GE508.out) | exact HB.out)) hb); have n2_ := yam (hbox); have n3_ := yam ((by rw [hg]; exact (below_size (by repeat (first | (with_reducible first | exact HB.out | apply yea | apply yen | apply yed | refine below_set ?_ GE508.out) | exact HB.out))) : w.heap.size ≤ gb509)); have n4_ := n3_; have n5_ := yam ((by rw [hg]; exact Nat.ne_of_lt (blk_lt (g := gb508) (o := .cells #[.int .i64 a0_0, .slice A0_1 l0_1.length c0_1, .int .i64 a0_2] 73 (0, 0)) (ybz BK508.out)) : gb508 ≠ gb509)); have n6_ := yam ((by rw [hg]; exact Nat.ne_of_gt (blk_lt (g := gb508) (o := .cells #[.int .i64 a0_0, .slice A0_1 l0_1.length c0_1, .int .i64 a0_2] 73 (0, 0)) (ybz BK508.out)) : gb509 ≠ gb508)); clear BK508; clear HB; have BK508 := n0_; have HB := n1_; have BK509 := n2_; have GW509 := n3_; have GE509 := n4_; have NB508_509 := n5_; have NB509_508 := n6_; clear n0_ n1_ n2_ n3_ n4_ n5_ n6_; clear hb hbox hg; have hnb19 := NB508_509.out; have hnc19 := NB509_508.out; obtain ⟨hcz20_0, hcz20_1, hcz20_2, hfz20_0, hfz20_1, hfz20_2⟩ := ybc BK508.out; obtain ⟨hcz21_0, hcz21_1, hcz21_2, hfz21_0, hfz21_1, hfz21_2⟩ := ybc BK509.out) | ((with_reducible refine gate_callee (f := 13) rfl ?_); refine goesL_ (some 14) rfl rfl Try.func13 (by kernel_rfl) rfl #[.slice A0_1 l0_1.length c0_1, .slice A1_1 l1_1.length c1_1] rfl (by (try simp only [List.map_toArray, List.map_cons, List.map_nil]); first | done | rfl | (simp only [List.length_drop, List.length_take]; rfl)) ?_; (with_reducible refine (laws_eqIntS.calls k _ _ l0_1 _ _ l1_1 false _ ?side1 ?side2 ?side3 ?side4 A4.out).mono ?_); (case side1 => exact Kd.Cz ((Kd.C_below HR0_1.out HB.out))); (case side2 => exact HC0_1.out); (case side3 => exact Kd.Cz ((Kd.C_below HR1_1.out HB.out))); (case side4 => exact HC1_1.out); rintro e w' ⟨rfl, ⟨nd, rfl⟩⟩; refine ⟨_, rfl, ?_⟩))
  go_ret
  exact ⟨by first | rfl | (simp [errW_none, errW_some] <;> rfl) | (simp [*, errW_none, errW_some] <;> rfl), by repeat (first | (with_reducible first | exact HB.out | apply yea | apply yen | apply yed | refine below_set ?_ GE508.out | refine below_set ?_ GE509.out) | exact HB.out)⟩
 subst c5
 have H1 : (if a0_2 = a1_2 then (some true) else (some false)) = some r := by rw [if_pos rfl] at H; exact H
 clear H
 have H := H1
 clear H1
 by_cases c6 : a0_2 = a1_2
 rotate_left
 ·rw [if_neg c6] at H
  have c6b0 : (a0_2 == a1_2) = false := beq_eq_false_iff_ne.mpr c6
  have c6b1 : (a0_2 != a1_2) = true := bne_iff_ne.mpr c6
  obtain rfl := Option.some.inj H
  go_enter Try.func59, Try.ntmps59
  go_wp2_with (first | ((with_reducible refine gate_dst (N := 2) rfl ?_); refine box_event ?hg (N := 2) ?hd (cs := #[.int .i64 a0_0, .slice A0_1 l0_1.length c0_1, .int .i64 a0_2]) (t := 73) ?hr ?_; (case hd => rfl); (case hg => rfl); (case hr => first | (go_simp; done) | (go_simp; rfl)); intro gb508 hg w12 hbox hb; have n0_ := yam (below_step (yez HB.out) hb); have n1_ := yam (hbox); have n2_ := yam ((by rw [hg]; exact (below_size (yez HB.out)) : w.heap.size ≤ gb508)); have n3_ := n2_; clear HB; have HB := n0_; have BK508 := n1_; have GW508 := n2_; have GE508 := n3_; clear n0_ n1_ n2_ n3_; clear hb hbox hg) | ((with_reducible refine gate_dst (N := 3) rfl ?_); refine box_event ?hg (N := 3) ?hd (cs := #[.int .i64 a1_0, .slice A1_1 l1_1.length c1_1, .int .i64 a1_2]) (t := 73) ?hr ?_; (case hd => rfl); (case hg => rfl); (case hr => first | (go_simp; done) | (go_simp; rfl)); intro gb509 hg w13 hbox hb; have n0_ := yam (blk_below (g := gb508) (o := .cells #[.int .i64 a0_0, .slice A0_1 l0_1.length c0_1, .int .i64 a0_2] 73 (0, 0)) (ybz BK508.out) hb); have n1_ := yam (below_step (by repeat (first | (with_reducible first | exact HB.out | apply yea | apply yen | apply yed | refine below_set ?_ GE508.out) | exact HB.out)) hb); have n2_ := yam (hbox); have n3_ := yam ((by rw [hg]; exact (below_size (by repeat (first | (with_reducible first | exact HB.out | apply yea | apply yen | apply yed | refine below_set ?_ GE508.out) | exact HB.out))) : w.heap.size ≤ gb509)); have n4_ := n3_; have n5_ := yam ((by rw [hg]; exact Nat.ne_of_lt (blk_lt (g := gb508) (o := .cells #[.int .i64 a0_0, .slice A0_1 l0_1.length c0_1, .int .i64 a0_2] 73 (0, 0)) (ybz BK508.out)) : gb508 ≠ gb509)); have n6_ := yam ((by rw [hg]; exact Nat.ne_of_gt (blk_lt (g := gb508) (o := .cells #[.int .i64 a0_0, .slice A0_1 l0_1.length c0_1, .int .i64 a0_2] 73 (0, 0)) (ybz BK508.out)) : gb509 ≠ gb508)); clear BK508; clear HB; have BK508 := n0_; have HB := n1_; have BK509 := n2_; have GW509 := n3_; have GE509 := n4_; have NB508_509 := n5_; have NB509_508 := n6_; clear n0_ n1_ n2_ n3_ n4_ n5_ n6_; clear hb hbox hg; have hnb14 := NB508_509.out; have hnc14 := NB509_508.out; obtain ⟨hcz15_0, hcz15_1, hcz15_2, hfz15_0, hfz15_1, hfz15_2⟩ := ybc BK508.out; obtain ⟨hcz16_0, hcz16_1, hcz16_2, hfz16_0, hfz16_1, hfz16_2⟩ := ybc BK509.out) | ((with_reducible refine gate_callee (f := 13) rfl ?_); refine goesL_ (some 14) rfl rfl Try.func13 (by kernel_rfl) rfl #[.slice A0_1 l0_1.length c0_1, .slice A1_1 l1_1.length c1_1] rfl (by (try simp only [List.map_toArray, List.map_cons, List.map_nil]); first | done | rfl | (simp only [List.length_drop, List.length_take]; rfl)) ?_; (with_reducible refine (laws_eqIntS.calls k _ _ l0_1 _ _ l1_1 true _ ?side1 ?side2 ?side3 ?side4 A4.out).mono ?_); (case side1 => exact Kd.Cz ((Kd.C_below HR0_1.out HB.out))); (case side2 => exact HC0_1.out); (case side3 => exact Kd.Cz ((Kd.C_below HR1_1.out HB.out))); (case side4 => exact HC1_1.out); rintro e w' ⟨rfl, ⟨nd, rfl⟩⟩; refine ⟨_, rfl, ?_⟩))
  go_ret
  exact ⟨by first | rfl | (simp [errW_none, errW_some] <;> rfl) | (simp [*, errW_none, errW_some] <;> rfl), by repeat (first | (with_reducible first | exact HB.out | apply yea | apply yen | apply yed | refine below_set ?_ GE508.out | refine below_set ?_ GE509.out) | exact HB.out)⟩
 rw [if_pos c6] at H
 have c6b0 : (a0_2 == a1_2) = true := beq_iff_eq.mpr c6
 have c6b1 : (a0_2 != a1_2) = false := bne_eq_false_iff_eq.mpr c6
 clear c6
 obtain rfl := Option.some.inj H
 go_enter Try.func59, Try.ntmps59
 go_wp2_with (first | ((with_reducible refine gate_dst (N := 2) rfl ?_); refine box_event ?hg (N := 2) ?hd (cs := #[.int .i64 a0_0, .slice A0_1 l0_1.length c0_1, .int .i64 a0_2]) (t := 73) ?hr ?_; (case hd => rfl); (case hg => rfl); (case hr => first | (go_simp; done) | (go_simp; rfl)); intro gb508 hg w7 hbox hb; have n0_ := yam (below_step (yez HB.out) hb); have n1_ := yam (hbox); have n2_ := yam ((by rw [hg]; exact (below_size (yez HB.out)) : w.heap.size ≤ gb508)); have n3_ := n2_; clear HB; have HB := n0_; have BK508 := n1_; have GW508 := n2_; have GE508 := n3_; clear n0_ n1_ n2_ n3_; clear hb hbox hg) | ((with_reducible refine gate_dst (N := 3) rfl ?_); refine box_event ?hg (N := 3) ?hd (cs := #[.int .i64 a1_0, .slice A1_1 l1_1.length c1_1, .int .i64 a1_2]) (t := 73) ?hr ?_; (case hd => rfl); (case hg => rfl); (case hr => first | (go_simp; done) | (go_simp; rfl)); intro gb509 hg w8 hbox hb; have n0_ := yam (blk_below (g := gb508) (o := .cells #[.int .i64 a0_0, .slice A0_1 l0_1.length c0_1, .int .i64 a0_2] 73 (0, 0)) (ybz BK508.out) hb); have n1_ := yam (below_step (by repeat (first | (with_reducible first | exact HB.out | apply yea | apply yen | apply yed | refine below_set ?_ GE508.out) | exact HB.out)) hb); have n2_ := yam (hbox); have n3_ := yam ((by rw [hg]; exact (below_size (by repeat (first | (with_reducible first | exact HB.out | apply yea | apply yen | apply yed | refine below_set ?_ GE508.out) | exact HB.out))) : w.heap.size ≤ gb509)); have n4_ := n3_; have n5_ := yam ((by rw [hg]; exact Nat.ne_of_lt (blk_lt (g := gb508) (o := .cells #[.int .i64 a0_0, .slice A0_1 l0_1.length c0_1, .int .i64 a0_2] 73 (0, 0)) (ybz BK508.out)) : gb508 ≠ gb509)); have n6_ := yam ((by rw [hg]; exact Nat.ne_of_gt (blk_lt (g := gb508) (o := .cells #[.int .i64 a0_0, .slice A0_1 l0_1.length c0_1, .int .i64 a0_2] 73 (0, 0)) (ybz BK508.out)) : gb509 ≠ gb508)); clear BK508; clear HB; have BK508 := n0_; have HB := n1_; have BK509 := n2_; have GW509 := n3_; have GE509 := n4_; have NB508_509 := n5_; have NB509_508 := n6_; clear n0_ n1_ n2_ n3_ n4_ n5_ n6_; clear hb hbox hg; have hnb9 := NB508_509.out; have hnc9 := NB509_508.out; obtain ⟨hcz10_0, hcz10_1, hcz10_2, hfz10_0, hfz10_1, hfz10_2⟩ := ybc BK508.out; obtain ⟨hcz11_0, hcz11_1, hcz11_2, hfz11_0, hfz11_1, hfz11_2⟩ := ybc BK509.out) | ((with_reducible refine gate_callee (f := 13) rfl ?_); refine goesL_ (some 14) rfl rfl Try.func13 (by kernel_rfl) rfl #[.slice A0_1 l0_1.length c0_1, .slice A1_1 l1_1.length c1_1] rfl (by (try simp only [List.map_toArray, List.map_cons, List.map_nil]); first | done | rfl | (simp only [List.length_drop, List.length_take]; rfl)) ?_; (with_reducible refine (laws_eqIntS.calls k _ _ l0_1 _ _ l1_1 true _ ?side1 ?side2 ?side3 ?side4 A4.out).mono ?_); (case side1 => exact Kd.Cz ((Kd.C_below HR0_1.out HB.out))); (case side2 => exact HC0_1.out); (case side3 => exact Kd.Cz ((Kd.C_below HR1_1.out HB.out))); (case side4 => exact HC1_1.out); rintro e w' ⟨rfl, ⟨nd, rfl⟩⟩; refine ⟨_, rfl, ?_⟩))
 go_ret
 exact ⟨by first | rfl | (simp [errW_none, errW_some] <;> rfl) | (simp [*, errW_none, errW_some] <;> rfl), by repeat (first | (with_reducible first | exact HB.out | apply yea | apply yen | apply yed | refine below_set ?_ GE508.out | refine below_set ?_ GE509.out) | exact HB.out)⟩
/-! ### laws_eqRuleS: function 26 -/
def laws_eqRuleS.l0 : Nat → List (S73) → List (S73) → Int → Option (Bool)
 | 0, _, _, _ => none
 | k + 1, x0, x1, x5 => if x5 < (x0.length : Int) then (if 0 ≤ x5 then (if x5 < (x1.length : Int) then ((laws_eqRule.f k ((rd_T73 x0 x5).f0) ((rd_T73 x0 x5).f1) ((rd_T73 x0 x5).f2) ((rd_T73 x1 x5).f0) ((rd_T73 x1 x5).f1) ((rd_T73 x1 x5).f2)).bind fun t513 => (if t513 = true then (laws_eqRuleS.l0 k x0 x1 (wrap64 (x5 + 1))) else (some false))) else (none)) else (none)) else (some true)
def laws_eqRuleS.f (k : Nat) (l0 : List (S73)) (l1 : List (S73)) : Option (Bool) := if (l0.length : Int) = (l1.length : Int) then (laws_eqRuleS.l0 k l0 l1 0) else (some false)
def laws_eqRuleS.T6 : Bool × List (List Nat × List Nat) := (true, [([], []), ([], []), ([0, 1], [0, 1]), ([2], [2]), ([], []), ([], []), ([4, 5], [4, 5]), ([6], [6]), ([3, 7], [3, 7]), ([8], [8])])
def laws_eqRuleS.B6 : List Nat := [0, 0, 3, 7, 0, 0, 48, 112, 255, 511]
theorem laws_eqRuleS.tab6 : rtab .any (opsOf Try.f26 6) = laws_eqRuleS.T6 := by kernel_rfl
theorem laws_eqRuleS.bits6 : waitsOk laws_eqRuleS.T6.2 laws_eqRuleS.B6 = true := by kernel_rfl
set_option maxHeartbeats 8000000 in
set_option maxRecDepth 100000 in
theorem laws_eqRuleS.calls (k : Nat) (A0 : Option Addr) (c0 : Nat) (l0 : List (S73)) (A1 : Option Addr) (c1 : Nat) (l1 : List (S73)) (r : Bool) (w : World) (hr0 : Kd.C k73 w A0 l0.length l0) (hc0 : l0.length ≤ c0) (hr1 : Kd.C k73 w A1 l1.length l1) (hc1 : l1.length ≤ c1) (h : laws_eqRuleS.f k l0 l1 = some r) :
  Calls Try.prog 26 #[.slice A0 l0.length c0, .slice A1 l1.length c1] w fun e w' => e = .returned (.bool r) ∧ Below w.heap.size w w' := by
 have hu73 := Try.underlying73
 have HR0 := yam hr0
 have HC0 := yam hc0
 clear hr0 hc0
 have HR1 := yam hr1
 have HC1 := yam hc1
 clear hr1 hc1
 have HB := yam (Below.refl w.heap.size w)
 have H : (if (l0.length : Int) = (l1.length : Int) then (laws_eqRuleS.l0 k l0 l1 0) else (some false)) = some r := h
 clear h
 by_cases c3 : (l0.length : Int) = (l1.length : Int)
 rotate_left
 ·rw [if_neg c3] at H
  have c3b0 : ((l0.length : Int) == (l1.length : Int)) = false := beq_eq_false_iff_ne.mpr c3
  have c3b1 : ((l0.length : Int) != (l1.length : Int)) = true := bne_iff_ne.mpr c3
  have c3b2 : (l0.length == l1.length) = false := by first | simpa using c3 | (simp at c3 ⊢; omega)
  obtain rfl := Option.some.inj H
  go_enter Try.func26, Try.ntmps26
  go_wp2
  go_ret
  exact ⟨by first | rfl | (simp [errW_none, errW_some] <;> rfl) | (simp [*, errW_none, errW_some] <;> rfl), by repeat (first | (with_reducible first | exact HB.out | apply yea | apply yen | apply yed) | exact HB.out)⟩

 rw [if_pos c3] at H
 have c3b0 : ((l0.length : Int) == (l1.length : Int)) = true := beq_iff_eq.mpr c3
 have c3b1 : ((l0.length : Int) != (l1.length : Int)) = false := bne_eq_false_iff_eq.mpr c3
 have c3b2 : (l0.length == l1.length) = true := by first | simpa using c3 | (simp at c3 ⊢; omega)
 clear c3
 have H' := yam H
 clear H
 go_enter Try.func26, Try.ntmps26
 go_wp2
 go_loopg [5] k (fun kq v5 w' => ∃ (x5_1 : Int), v5 = .int .i64 x5_1 ∧ Aside0 (laws_eqRuleS.l0 kq l0 l1 x5_1 = some r) ∧ Aside0 (kq ≤ k) ∧ Aside0 (Below w.heap.size w w'))
 case atStart => exact ⟨(0), (by first | rfl | (simp; done) | (simp [*]; done)), H', ⟨Nat.le_refl _⟩, ⟨by repeat (first | (with_reducible first | exact HB.out | apply yea | apply yen | apply yed) | exact HB.out)⟩⟩
 case round =>
  clear H'
  try clear c1
  try clear c2
  try clear p2
  try clear c3
  try clear c3b0
  try clear c3b1
  try clear c3b2
  obtain ⟨x5_1, rfl, HA, HK1, HB⟩ := hrel
  cases gk with
  | zero => exact absurd HA.out (by simp [laws_eqRuleS.l0])
  | succ k1 =>
   have H := HA.out
   clear HA
   simp only [laws_eqRuleS.l0] at H
   by_cases c4 : x5_1 < (l0.length : Int)
   rotate_left
   ·rw [if_neg c4] at H
    have c4b0 : decide (x5_1 < (l0.length : Int)) = false := decide_eq_false c4
    clear c4
    obtain rfl := Option.some.inj H
    go_wp2
    go_ret
    exact ⟨by first | rfl | (simp [errW_none, errW_some] <;> rfl) | (simp [*, errW_none, errW_some] <;> rfl), by repeat (first | (with_reducible first | exact HB.out | apply yea | apply yen | apply yed) | exact HB.out)⟩
   rw [if_pos c4] at H
   have c4b0 : decide (x5_1 < (l0.length : Int)) = true := decide_eq_true c4
   clear c4
   by_cases c5 : 0 ≤ x5_1
   rotate_left
   ·rw [if_neg c5] at H
    exact absurd H (by simp)
   rw [if_pos c5] at H
   have c5b0 : decide (0 ≤ x5_1) = true := decide_eq_true c5
   clear c5
   by_cases c6 : x5_1 < (l1.length : Int)
   rotate_left
   ·rw [if_neg c6] at H
    exact absurd H (by simp)
   rw [if_pos c6] at H
   have c6b0 : decide (x5_1 < (l1.length : Int)) = true := decide_eq_true c6
   clear c6
   replace H := Option.bind_eq_some_iff.mp H
   obtain ⟨t513, A70, H⟩ := H
   try dsimp only at H
   have A7 := yam A70
   clear A70
   by_cases c8 : t513 = true
   rotate_left
   ·replace c8 := Bool.eq_false_iff.mpr c8
    subst c8
    have H1 : (some false) = some r := by rw [if_neg (show ¬ (false = true) by decide)] at H; exact H
    clear H
    have H := H1
    clear H1
    obtain rfl := Option.some.inj H
    try go_wp2
    have n0_ := yam (yed HB.out)
    clear HB
    have HB := n0_
    clear n0_
    have p511 : 0 ≤ (x5_1 : Int) := of_decide_eq_true (by first | (with_reducible assumption) | assumption)
    have q511 : x5_1 < (l0.length : Int) := of_decide_eq_true (by first | (with_reducible assumption) | assumption)
    obtain ⟨ad511, A511_1, c511_1, e511, hx511_0, hx511_1, hx511_2, hl511_1, hi511_1⟩ := at_T73 HR0.out x5_1 p511 q511
    have hw511_2 := hx511_2
    have hw511_1 := hx511_1
    have hw511_0 := hx511_0
    cases e511
    replace hx511_0 := (HB.out.cell (World.block_lt_of_cell? w _ hx511_0)).trans hx511_0
    replace hx511_1 := (HB.out.cell (World.block_lt_of_cell? w _ hx511_1)).trans hx511_1
    replace hx511_2 := (HB.out.cell (World.block_lt_of_cell? w _ hx511_2)).trans hx511_2
    have HR511_1 := yam hi511_1
    have HC511_1 := yam hl511_1
    clear hi511_1 hl511_1
    replace p511 := eq_true p511
    replace q511 := eq_true q511
    have p512 : 0 ≤ (x5_1 : Int) := of_decide_eq_true (by first | (with_reducible assumption) | assumption)
    have q512 : x5_1 < (l1.length : Int) := of_decide_eq_true (by first | (with_reducible assumption) | assumption)
    obtain ⟨ad512, A512_1, c512_1, e512, hx512_0, hx512_1, hx512_2, hl512_1, hi512_1⟩ := at_T73 HR1.out x5_1 p512 q512
    have hw512_2 := hx512_2
    have hw512_1 := hx512_1
    have hw512_0 := hx512_0
    cases e512
    replace hx512_0 := (HB.out.cell (World.block_lt_of_cell? w _ hx512_0)).trans hx512_0
    replace hx512_1 := (HB.out.cell (World.block_lt_of_cell? w _ hx512_1)).trans hx512_1
    replace hx512_2 := (HB.out.cell (World.block_lt_of_cell? w _ hx512_2)).trans hx512_2
    have HR512_1 := yam hi512_1
    have HC512_1 := yam hl512_1
    clear hi512_1 hl512_1
    replace p512 := eq_true p512
    replace q512 := eq_true q512
    refine start_ (n := 10) (S := fun w' => w'.cell? (ad511.add ((x5_1).toNat * 3)) = some (.int .i64 ((rd_T73 l0 x5_1).f0)) ∧ w'.cell? ⟨(ad511.add ((x5_1).toNat * 3)).block, (ad511.add ((x5_1).toNat * 3)).off + 1, none⟩ = some (.slice A511_1 ((rd_T73 l0 x5_1).f1).length c511_1) ∧ w'.cell? ⟨(ad511.add ((x5_1).toNat * 3)).block, (ad511.add ((x5_1).toNat * 3)).off + 2, none⟩ = some (.int .i64 ((rd_T73 l0 x5_1).f2)) ∧ w'.cell? (ad512.add ((x5_1).toNat * 3)) = some (.int .i64 ((rd_T73 l1 x5_1).f0)) ∧ w'.cell? ⟨(ad512.add ((x5_1).toNat * 3)).block, (ad512.add ((x5_1).toNat * 3)).off + 1, none⟩ = some (.slice A512_1 ((rd_T73 l1 x5_1).f1).length c512_1) ∧ w'.cell? ⟨(ad512.add ((x5_1).toNat * 3)).block, (ad512.add ((x5_1).toNat * 3)).off + 2, none⟩ = some (.int .i64 ((rd_T73 l1 x5_1).f2))) (ds := []) #[false, false, false, false, false, false, false, false, false, false] (by kernel_rfl) rfl rfl ⟨((HB.out.cell (World.block_lt_of_cell? w _ hw511_0)).trans hw511_0), ((HB.out.cell (World.block_lt_of_cell? w _ hw511_1)).trans hw511_1), ((HB.out.cell (World.block_lt_of_cell? w _ hw511_2)).trans hw511_2), ((HB.out.cell (World.block_lt_of_cell? w _ hw512_0)).trans hw512_0), ((HB.out.cell (World.block_lt_of_cell? w _ hw512_1)).trans hw512_1), ((HB.out.cell (World.block_lt_of_cell? w _ hw512_2)).trans hw512_2)⟩ (fun hHeld => ?_); refine with_tabW laws_eqRuleS.tab6 laws_eqRuleS.bits6 (fun HT_ HW_ => ?_)
    generalize wr.drew = w11 at HB HR511_1 HR512_1 hx511_0 hx511_1 hx511_2 hx512_0 hx512_1 hx512_2 hHeld ⊢
    refine yvp 0 17 (yvb 10 1) HT_.out ?_
    refine yvp 1 18 (yvb 10 3) HT_.out ?_
    refine yvp 2 19 (yvb 10 7) HT_.out ?_
    refine yvp 4 21 (yvb 10 23) HT_.out ?_
    refine yvp 5 22 (yvb 10 55) HT_.out ?_
    refine yvp 6 23 (yvb 10 119) HT_.out ?_
    refine yvt 3 20 (yvb 10 127) HT_.out HW_.out hHeld ?_
    refine yvt 7 24 (yvb 10 255) HT_.out HW_.out hHeld ?_
    refine one_ (i := 8) (N := some 25) #[true, true, true, true, true, true, true, true, true, false] rfl rfl (one_of HT_.out (by kernel_rfl)) (by decide) (fun K hK => ?_)
    refine goes_ Try.func59 (by kernel_rfl) rfl #[.agg #[.int .i64 ((rd_T73 l0 x5_1).f0), .slice A511_1 ((rd_T73 l0 x5_1).f1).length c511_1, .int .i64 ((rd_T73 l0 x5_1).f2)], .agg #[.int .i64 ((rd_T73 l1 x5_1).f0), .slice A512_1 ((rd_T73 l1 x5_1).f1).length c512_1, .int .i64 ((rd_T73 l1 x5_1).f2)]] (by rfl) rfl rfl (by (try simp only [List.map_toArray, List.map_cons, List.map_nil]); first | done | rfl | (simp only [List.length_drop, List.length_take]; rfl)) ?_
    with_reducible refine (laws_eqRule.calls k1 ((rd_T73 l0 x5_1).f0) _ _ ((rd_T73 l0 x5_1).f1) ((rd_T73 l0 x5_1).f2) ((rd_T73 l1 x5_1).f0) _ _ ((rd_T73 l1 x5_1).f1) ((rd_T73 l1 x5_1).f2) false _ ?side1 ?side2 ?side3 ?side4 A7.out).mono ?_
    (case side1 => exact Kd.Cz ((Kd.C_below HR511_1.out HB.out)))
    (case side2 => exact HC511_1.out)
    (case side3 => exact Kd.Cz ((Kd.C_below HR512_1.out HB.out)))
    (case side4 => exact HC512_1.out)
    rintro e w12 ⟨rfl, hb⟩
    refine ⟨_, rfl, ?_⟩
    have n0_ := yam (below_step (yez HB.out) hb)
    clear HB
    have HB := n0_
    clear n0_
    (try clear hb)
    (try clear hb2)
    (try clear hk)
    (try clear hi)
    refine hK.out _ _ ⟨((HB.out.cell (World.block_lt_of_cell? w _ hw511_0)).trans hw511_0), ((HB.out.cell (World.block_lt_of_cell? w _ hw511_1)).trans hw511_1), ((HB.out.cell (World.block_lt_of_cell? w _ hw511_2)).trans hw511_2), ((HB.out.cell (World.block_lt_of_cell? w _ hw512_0)).trans hw512_0), ((HB.out.cell (World.block_lt_of_cell? w _ hw512_1)).trans hw512_1), ((HB.out.cell (World.block_lt_of_cell? w _ hw512_2)).trans hw512_2)⟩ (fun hHeld => ?_)
    clear hK K
    refine norm_ (a' := ?_) ?_ ?_
    rotate_left
    ·show Act.put _ (some 25) _ = _
     simp only [Act.put, yps, i64_w, i32_w]
     rfl
    refine yvp 9 26 (yvb 10 1023) HT_.out ?_
    refine done_ (done_of HT_.out (by kernel_rfl)) ?_
    try go_wp2
    go_ret
    exact ⟨by first | rfl | (simp [errW_none, errW_some] <;> rfl) | (simp [*, errW_none, errW_some] <;> rfl), by repeat (first | (with_reducible first | exact HB.out | apply yea | apply yen | apply yed) | exact HB.out)⟩
   subst c8
   have H1 : (laws_eqRuleS.l0 k1 l0 l1 (wrap64 (x5_1 + 1))) = some r := by rw [if_pos rfl] at H; exact H
   clear H
   have H := H1
   clear H1
   have H' := yam H
   clear H
   try go_wp2
   have n0_ := yam (yed HB.out)
   clear HB
   have HB := n0_
   clear n0_
   have p511 : 0 ≤ (x5_1 : Int) := of_decide_eq_true (by first | (with_reducible assumption) | assumption)
   have q511 : x5_1 < (l0.length : Int) := of_decide_eq_true (by first | (with_reducible assumption) | assumption)
   obtain ⟨ad511, A511_1, c511_1, e511, hx511_0, hx511_1, hx511_2, hl511_1, hi511_1⟩ := at_T73 HR0.out x5_1 p511 q511
   have hw511_2 := hx511_2
   have hw511_1 := hx511_1
   have hw511_0 := hx511_0
   cases e511
   replace hx511_0 := (HB.out.cell (World.block_lt_of_cell? w _ hx511_0)).trans hx511_0
   replace hx511_1 := (HB.out.cell (World.block_lt_of_cell? w _ hx511_1)).trans hx511_1
   replace hx511_2 := (HB.out.cell (World.block_lt_of_cell? w _ hx511_2)).trans hx511_2
   have HR511_1 := yam hi511_1
   have HC511_1 := yam hl511_1
   clear hi511_1 hl511_1
   replace p511 := eq_true p511
   replace q511 := eq_true q511
   have p512 : 0 ≤ (x5_1 : Int) := of_decide_eq_true (by first | (with_reducible assumption) | assumption)
   have q512 : x5_1 < (l1.length : Int) := of_decide_eq_true (by first | (with_reducible assumption) | assumption)
   obtain ⟨ad512, A512_1, c512_1, e512, hx512_0, hx512_1, hx512_2, hl512_1, hi512_1⟩ := at_T73 HR1.out x5_1 p512 q512
   have hw512_2 := hx512_2
   have hw512_1 := hx512_1
   have hw512_0 := hx512_0
   cases e512
   replace hx512_0 := (HB.out.cell (World.block_lt_of_cell? w _ hx512_0)).trans hx512_0
   replace hx512_1 := (HB.out.cell (World.block_lt_of_cell? w _ hx512_1)).trans hx512_1
   replace hx512_2 := (HB.out.cell (World.block_lt_of_cell? w _ hx512_2)).trans hx512_2
   have HR512_1 := yam hi512_1
   have HC512_1 := yam hl512_1
   clear hi512_1 hl512_1
   replace p512 := eq_true p512
   replace q512 := eq_true q512
   refine start_ (n := 10) (S := fun w' => w'.cell? (ad511.add ((x5_1).toNat * 3)) = some (.int .i64 ((rd_T73 l0 x5_1).f0)) ∧ w'.cell? ⟨(ad511.add ((x5_1).toNat * 3)).block, (ad511.add ((x5_1).toNat * 3)).off + 1, none⟩ = some (.slice A511_1 ((rd_T73 l0 x5_1).f1).length c511_1) ∧ w'.cell? ⟨(ad511.add ((x5_1).toNat * 3)).block, (ad511.add ((x5_1).toNat * 3)).off + 2, none⟩ = some (.int .i64 ((rd_T73 l0 x5_1).f2)) ∧ w'.cell? (ad512.add ((x5_1).toNat * 3)) = some (.int .i64 ((rd_T73 l1 x5_1).f0)) ∧ w'.cell? ⟨(ad512.add ((x5_1).toNat * 3)).block, (ad512.add ((x5_1).toNat * 3)).off + 1, none⟩ = some (.slice A512_1 ((rd_T73 l1 x5_1).f1).length c512_1) ∧ w'.cell? ⟨(ad512.add ((x5_1).toNat * 3)).block, (ad512.add ((x5_1).toNat * 3)).off + 2, none⟩ = some (.int .i64 ((rd_T73 l1 x5_1).f2))) (ds := []) #[false, false, false, false, false, false, false, false, false, false] (by kernel_rfl) rfl rfl ⟨((HB.out.cell (World.block_lt_of_cell? w _ hw511_0)).trans hw511_0), ((HB.out.cell (World.block_lt_of_cell? w _ hw511_1)).trans hw511_1), ((HB.out.cell (World.block_lt_of_cell? w _ hw511_2)).trans hw511_2), ((HB.out.cell (World.block_lt_of_cell? w _ hw512_0)).trans hw512_0), ((HB.out.cell (World.block_lt_of_cell? w _ hw512_1)).trans hw512_1), ((HB.out.cell (World.block_lt_of_cell? w _ hw512_2)).trans hw512_2)⟩ (fun hHeld => ?_); refine with_tabW laws_eqRuleS.tab6 laws_eqRuleS.bits6 (fun HT_ HW_ => ?_)
   generalize wr.drew = w9 at HB HR511_1 HR512_1 hx511_0 hx511_1 hx511_2 hx512_0 hx512_1 hx512_2 hHeld ⊢
   refine yvp 0 17 (yvb 10 1) HT_.out ?_
   refine yvp 1 18 (yvb 10 3) HT_.out ?_
   refine yvp 2 19 (yvb 10 7) HT_.out ?_
   refine yvp 4 21 (yvb 10 23) HT_.out ?_
   refine yvp 5 22 (yvb 10 55) HT_.out ?_
   refine yvp 6 23 (yvb 10 119) HT_.out ?_
   refine yvt 3 20 (yvb 10 127) HT_.out HW_.out hHeld ?_
   refine yvt 7 24 (yvb 10 255) HT_.out HW_.out hHeld ?_
   refine one_ (i := 8) (N := some 25) #[true, true, true, true, true, true, true, true, true, false] rfl rfl (one_of HT_.out (by kernel_rfl)) (by decide) (fun K hK => ?_)
   refine goes_ Try.func59 (by kernel_rfl) rfl #[.agg #[.int .i64 ((rd_T73 l0 x5_1).f0), .slice A511_1 ((rd_T73 l0 x5_1).f1).length c511_1, .int .i64 ((rd_T73 l0 x5_1).f2)], .agg #[.int .i64 ((rd_T73 l1 x5_1).f0), .slice A512_1 ((rd_T73 l1 x5_1).f1).length c512_1, .int .i64 ((rd_T73 l1 x5_1).f2)]] (by rfl) rfl rfl (by (try simp only [List.map_toArray, List.map_cons, List.map_nil]); first | done | rfl | (simp only [List.length_drop, List.length_take]; rfl)) ?_
   with_reducible refine (laws_eqRule.calls k1 ((rd_T73 l0 x5_1).f0) _ _ ((rd_T73 l0 x5_1).f1) ((rd_T73 l0 x5_1).f2) ((rd_T73 l1 x5_1).f0) _ _ ((rd_T73 l1 x5_1).f1) ((rd_T73 l1 x5_1).f2) true _ ?side1 ?side2 ?side3 ?side4 A7.out).mono ?_
   (case side1 => exact Kd.Cz ((Kd.C_below HR511_1.out HB.out)))
   (case side2 => exact HC511_1.out)
   (case side3 => exact Kd.Cz ((Kd.C_below HR512_1.out HB.out)))
   (case side4 => exact HC512_1.out)
   rintro e w10 ⟨rfl, hb⟩
   refine ⟨_, rfl, ?_⟩
   have n0_ := yam (below_step (yez HB.out) hb)
   clear HB
   have HB := n0_
   clear n0_
   (try clear hb)
   (try clear hb2)
   (try clear hk)
   (try clear hi)
   refine hK.out _ _ ⟨((HB.out.cell (World.block_lt_of_cell? w _ hw511_0)).trans hw511_0), ((HB.out.cell (World.block_lt_of_cell? w _ hw511_1)).trans hw511_1), ((HB.out.cell (World.block_lt_of_cell? w _ hw511_2)).trans hw511_2), ((HB.out.cell (World.block_lt_of_cell? w _ hw512_0)).trans hw512_0), ((HB.out.cell (World.block_lt_of_cell? w _ hw512_1)).trans hw512_1), ((HB.out.cell (World.block_lt_of_cell? w _ hw512_2)).trans hw512_2)⟩ (fun hHeld => ?_)
   clear hK K
   refine norm_ (a' := ?_) ?_ ?_
   rotate_left
   ·show Act.put _ (some 25) _ = _
    simp only [Act.put, yps, i64_w, i32_w]
    rfl
   refine yvp 9 26 (yvb 10 1023) HT_.out ?_
   refine done_ (done_of HT_.out (by kernel_rfl)) ?_
   try go_wp2
   go_roundg k1
   case measure => have := HK1.out; omega
   case rel => exact ⟨(wrap64 (x5_1 + 1)), (by first | rfl | (simp; done) | (simp [*]; done)), H', ⟨by have := HK1.out; omega⟩, ⟨by repeat (first | (with_reducible first | exact HB.out | apply yea | apply yen | apply yed) | exact HB.out)⟩⟩
/-! ### laws_eqPuzzle: function 25 -/
def laws_eqPuzzle.f (k : Nat) (a0_0 : Int) (l0_1 : List Int) (l0_2 : List (S73)) (a1_0 : Int) (l1_1 : List Int) (l1_2 : List (S73)) : Option (Bool) := if a0_0 = a1_0 then ((laws_eqIntS.f k l0_1 l1_1).bind fun t516 => (if t516 = true then ((laws_eqRuleS.f k l0_2 l1_2).bind fun t517 => (if t517 = true then (some true) else (some false))) else (some false))) else (some false)
set_option maxHeartbeats 8000000 in
set_option maxRecDepth 100000 in
theorem laws_eqPuzzle.calls (k : Nat) (a0_0 : Int) (A0_1 : Option Addr) (c0_1 : Nat) (l0_1 : List Int) (A0_2 : Option Addr) (c0_2 : Nat) (l0_2 : List (S73)) (a1_0 : Int) (A1_1 : Option Addr) (c1_1 : Nat) (l1_1 : List Int) (A1_2 : Option Addr) (c1_2 : Nat) (l1_2 : List (S73)) (r : Bool) (w : World) (hr0_1 : Kd.C (Kd.int .i64) w A0_1 l0_1.length l0_1) (hc0_1 : l0_1.length ≤ c0_1) (hr0_2 : Kd.C k73 w A0_2 l0_2.length l0_2) (hc0_2 : l0_2.length ≤ c0_2) (hr1_1 : Kd.C (Kd.int .i64) w A1_1 l1_1.length l1_1) (hc1_1 : l1_1.length ≤ c1_1) (hr1_2 : Kd.C k73 w A1_2 l1_2.length l1_2) (hc1_2 : l1_2.length ≤ c1_2) (h : laws_eqPuzzle.f k a0_0 l0_1 l0_2 a1_0 l1_1 l1_2 = some r) :
  Calls Try.prog 25 #[.agg #[.int .i64 a0_0, .slice A0_1 l0_1.length c0_1, .slice A0_2 l0_2.length c0_2], .agg #[.int .i64 a1_0, .slice A1_1 l1_1.length c1_1, .slice A1_2 l1_2.length c1_2]] w fun e w' => e = .returned (.bool r) ∧ Below w.heap.size w w' := by
 have hu37 := Try.underlying37
 have HR0_1 := yam hr0_1
 have HC0_1 := yam hc0_1
 clear hr0_1 hc0_1
 have HR0_2 := yam hr0_2
 have HC0_2 := yam hc0_2
 clear hr0_2 hc0_2
 have HR1_1 := yam hr1_1
 have HC1_1 := yam hc1_1
 clear hr1_1 hc1_1
 have HR1_2 := yam hr1_2
 have HC1_2 := yam hc1_2
 clear hr1_2 hc1_2
 have HB := yam (Below.refl w.heap.size w)
 have H : (if a0_0 = a1_0 then ((laws_eqIntS.f k l0_1 l1_1).bind fun t516 => (if t516 = true then ((laws_eqRuleS.f k l0_2 l1_2).bind fun t517 => (if t517 = true then (some true) else (some false))) else (some false))) else (some false)) = some r := h
 clear h
 by_cases c3 : a0_0 = a1_0
 rotate_left
 ·rw [if_neg c3] at H
  have c3b0 : (a0_0 == a1_0) = false := beq_eq_false_iff_ne.mpr c3
  have c3b1 : (a0_0 != a1_0) = true := bne_iff_ne.mpr c3
  obtain rfl := Option.some.inj H
  go_enter Try.func25, Try.ntmps25
  go_wp2_with (first | ((with_reducible refine gate_dst (N := 2) rfl ?_); refine box_event ?hg (N := 2) ?hd (cs := #[.int .i64 a0_0, .slice A0_1 l0_1.length c0_1, .slice A0_2 l0_2.length c0_2]) (t := 37) ?hr ?_; (case hd => rfl); (case hg => rfl); (case hr => first | (go_simp; done) | (go_simp; rfl)); intro gb514 hg w25 hbox hb; have n0_ := yam (below_step (yez HB.out) hb); have n1_ := yam (hbox); have n2_ := yam ((by rw [hg]; exact (below_size (yez HB.out)) : w.heap.size ≤ gb514)); have n3_ := n2_; clear HB; have HB := n0_; have BK514 := n1_; have GW514 := n2_; have GE514 := n3_; clear n0_ n1_ n2_ n3_; clear hb hbox hg) | ((with_reducible refine gate_dst (N := 3) rfl ?_); refine box_event ?hg (N := 3) ?hd (cs := #[.int .i64 a1_0, .slice A1_1 l1_1.length c1_1, .slice A1_2 l1_2.length c1_2]) (t := 37) ?hr ?_; (case hd => rfl); (case hg => rfl); (case hr => first | (go_simp; done) | (go_simp; rfl)); intro gb515 hg w26 hbox hb; have n0_ := yam (blk_below (g := gb514) (o := .cells #[.int .i64 a0_0, .slice A0_1 l0_1.length c0_1, .slice A0_2 l0_2.length c0_2] 37 (0, 0)) (ybz BK514.out) hb); have n1_ := yam (below_step (by repeat (first | (with_reducible first | exact HB.out | apply yea | apply yen | apply yed | refine below_set ?_ GE514.out) | exact HB.out)) hb); have n2_ := yam (hbox); have n3_ := yam ((by rw [hg]; exact (below_size (by repeat (first | (with_reducible first | exact HB.out | apply yea | apply yen | apply yed | refine below_set ?_ GE514.out) | exact HB.out))) : w.heap.size ≤ gb515)); have n4_ := n3_; have n5_ := yam ((by rw [hg]; exact Nat.ne_of_lt (blk_lt (g := gb514) (o := .cells #[.int .i64 a0_0, .slice A0_1 l0_1.length c0_1, .slice A0_2 l0_2.length c0_2] 37 (0, 0)) (ybz BK514.out)) : gb514 ≠ gb515)); have n6_ := yam ((by rw [hg]; exact Nat.ne_of_gt (blk_lt (g := gb514) (o := .cells #[.int .i64 a0_0, .slice A0_1 l0_1.length c0_1, .slice A0_2 l0_2.length c0_2] 37 (0, 0)) (ybz BK514.out)) : gb515 ≠ gb514)); clear BK514; clear HB; have BK514 := n0_; have HB := n1_; have BK515 := n2_; have GW515 := n3_; have GE515 := n4_; have NB514_515 := n5_; have NB515_514 := n6_; clear n0_ n1_ n2_ n3_ n4_ n5_ n6_; clear hb hbox hg; have hnb27 := NB514_515.out; have hnc27 := NB515_514.out; obtain ⟨hcz28_0, hcz28_1, hcz28_2, hfz28_0, hfz28_1, hfz28_2⟩ := ybc BK514.out; obtain ⟨hcz29_0, hcz29_1, hcz29_2, hfz29_0, hfz29_1, hfz29_2⟩ := ybc BK515.out))
  go_ret
  exact ⟨by first | rfl | (simp [errW_none, errW_some] <;> rfl) | (simp [*, errW_none, errW_some] <;> rfl), by repeat (first | (with_reducible first | exact HB.out | apply yea | apply yen | apply yed | refine below_set ?_ GE514.out | refine below_set ?_ GE515.out) | exact HB.out)⟩

 rw [if_pos c3] at H
 have c3b0 : (a0_0 == a1_0) = true := beq_iff_eq.mpr c3
 have c3b1 : (a0_0 != a1_0) = false := bne_eq_false_iff_eq.mpr c3
 clear c3
 replace H := Option.bind_eq_some_iff.mp H
 obtain ⟨t516, A40, H⟩ := H
 try dsimp only at H
 have A4 := yam A40
 clear A40
 by_cases c5 : t516 = true
 rotate_left
 ·replace c5 := Bool.eq_false_iff.mpr c5
  subst c5
  have H1 : (some false) = some r := by rw [if_neg (show ¬ (false = true) by decide)] at H; exact H
  clear H
  have H := H1
  clear H1
  obtain rfl := Option.some.inj H
  go_enter Try.func25, Try.ntmps25
  go_wp2_with (first | ((with_reducible refine gate_dst (N := 2) rfl ?_); refine box_event ?hg (N := 2) ?hd (cs := #[.int .i64 a0_0, .slice A0_1 l0_1.length c0_1, .slice A0_2 l0_2.length c0_2]) (t := 37) ?hr ?_; (case hd => rfl); (case hg => rfl); (case hr => first | (go_simp; done) | (go_simp; rfl)); intro gb514 hg w20 hbox hb; have n0_ := yam (below_step (yez HB.out) hb); have n1_ := yam (hbox); have n2_ := yam ((by rw [hg]; exact (below_size (yez HB.out)) : w.heap.size ≤ gb514)); have n3_ := n2_; clear HB; have HB := n0_; have BK514 := n1_; have GW514 := n2_; have GE514 := n3_; clear n0_ n1_ n2_ n3_; clear hb hbox hg) | ((with_reducible refine gate_dst (N := 3) rfl ?_); refine box_event ?hg (N := 3) ?hd (cs := #[.int .i64 a1_0, .slice A1_1 l1_1.length c1_1, .slice A1_2 l1_2.length c1_2]) (t := 37) ?hr ?_; (case hd => rfl); (case hg => rfl); (case hr => first | (go_simp; done) | (go_simp; rfl)); intro gb515 hg w21 hbox hb; have n0_ := yam (blk_below (g := gb514) (o := .cells #[.int .i64 a0_0, .slice A0_1 l0_1.length c0_1, .slice A0_2 l0_2.length c0_2] 37 (0, 0)) (ybz BK514.out) hb); have n1_ := yam (below_step (by repeat (first | (with_reducible first | exact HB.out | apply yea | apply yen | apply yed | refine below_set ?_ GE514.out) | exact HB.out)) hb); have n2_ := yam (hbox); have n3_ := yam ((by rw [hg]; exact (below_size (by repeat (first | (with_reducible first | exact HB.out | apply yea | apply yen | apply yed | refine below_set ?_ GE514.out) | exact HB.out))) : w.heap.size ≤ gb515)); have n4_ := n3_; have n5_ := yam ((by rw [hg]; exact Nat.ne_of_lt (blk_lt (g := gb514) (o := .cells #[.int .i64 a0_0, .slice A0_1 l0_1.length c0_1, .slice A0_2 l0_2.length c0_2] 37 (0, 0)) (ybz BK514.out)) : gb514 ≠ gb515)); have n6_ := yam ((by rw [hg]; exact Nat.ne_of_gt (blk_lt (g := gb514) (o := .cells #[.int .i64 a0_0, .slice A0_1 l0_1.length c0_1, .slice A0_2 l0_2.length c0_2] 37 (0, 0)) (ybz BK514.out)) : gb515 ≠ gb514)); clear BK514; clear HB; have BK514 := n0_; have HB := n1_; have BK515 := n2_; have GW515 := n3_; have GE515 := n4_; have NB514_515 := n5_; have NB515_514 := n6_; clear n0_ n1_ n2_ n3_ n4_ n5_ n6_; clear hb hbox hg; have hnb22 := NB514_515.out; have hnc22 := NB515_514.out; obtain ⟨hcz23_0, hcz23_1, hcz23_2, hfz23_0, hfz23_1, hfz23_2⟩ := ybc BK514.out; obtain ⟨hcz24_0, hcz24_1, hcz24_2, hfz24_0, hfz24_1, hfz24_2⟩ := ybc BK515.out) | ((with_reducible refine gate_callee (f := 13) rfl ?_); refine goesL_ (some 14) rfl rfl Try.func13 (by kernel_rfl) rfl #[.slice A0_1 l0_1.length c0_1, .slice A1_1 l1_1.length c1_1] rfl (by (try simp only [List.map_toArray, List.map_cons, List.map_nil]); first | done | rfl | (simp only [List.length_drop, List.length_take]; rfl)) ?_; (with_reducible refine (laws_eqIntS.calls k _ _ l0_1 _ _ l1_1 false _ ?side1 ?side2 ?side3 ?side4 A4.out).mono ?_); (case side1 => exact Kd.Cz ((Kd.C_below HR0_1.out HB.out))); (case side2 => exact HC0_1.out); (case side3 => exact Kd.Cz ((Kd.C_below HR1_1.out HB.out))); (case side4 => exact HC1_1.out); rintro e w' ⟨rfl, ⟨nd, rfl⟩⟩; refine ⟨_, rfl, ?_⟩))
  go_ret
  exact ⟨by first | rfl | (simp [errW_none, errW_some] <;> rfl) | (simp [*, errW_none, errW_some] <;> rfl), by repeat (first | (with_reducible first | exact HB.out | apply yea | apply yen | apply yed | refine below_set ?_ GE514.out | refine below_set ?_ GE515.out) | exact HB.out)⟩
 subst c5
 have H1 : ((laws_eqRuleS.f k l0_2 l1_2).bind fun t517 => (if t517 = true then (some true) else (some false))) = some r := by rw [if_pos rfl] at H; exact H
 clear H
 have H := H1
 clear H1
 replace H := Option.bind_eq_some_iff.mp H
 obtain ⟨t517, A60, H⟩ := H
 try dsimp only at H
 have A6 := yam A60
 clear A60
 by_cases c7 : t517 = true
 ·subst c7
  have H1 : (some true) = some r := by rw [if_pos rfl] at H; exact H
  clear H
  have H := H1
  clear H1
  obtain rfl := Option.some.inj H
  go_enter Try.func25, Try.ntmps25
  go_wp2_with (first | ((with_reducible refine gate_dst (N := 2) rfl ?_); refine box_event ?hg (N := 2) ?hd (cs := #[.int .i64 a0_0, .slice A0_1 l0_1.length c0_1, .slice A0_2 l0_2.length c0_2]) (t := 37) ?hr ?_; (case hd => rfl); (case hg => rfl); (case hr => first | (go_simp; done) | (go_simp; rfl)); intro gb514 hg w8 hbox hb; have n0_ := yam (below_step (yez HB.out) hb); have n1_ := yam (hbox); have n2_ := yam ((by rw [hg]; exact (below_size (yez HB.out)) : w.heap.size ≤ gb514)); have n3_ := n2_; clear HB; have HB := n0_; have BK514 := n1_; have GW514 := n2_; have GE514 := n3_; clear n0_ n1_ n2_ n3_; clear hb hbox hg) | ((with_reducible refine gate_dst (N := 3) rfl ?_); refine box_event ?hg (N := 3) ?hd (cs := #[.int .i64 a1_0, .slice A1_1 l1_1.length c1_1, .slice A1_2 l1_2.length c1_2]) (t := 37) ?hr ?_; (case hd => rfl); (case hg => rfl); (case hr => first | (go_simp; done) | (go_simp; rfl)); intro gb515 hg w9 hbox hb; have n0_ := yam (blk_below (g := gb514) (o := .cells #[.int .i64 a0_0, .slice A0_1 l0_1.length c0_1, .slice A0_2 l0_2.length c0_2] 37 (0, 0)) (ybz BK514.out) hb); have n1_ := yam (below_step (by repeat (first | (with_reducible first | exact HB.out | apply yea | apply yen | apply yed | refine below_set ?_ GE514.out) | exact HB.out)) hb); have n2_ := yam (hbox); have n3_ := yam ((by rw [hg]; exact (below_size (by repeat (first | (with_reducible first | exact HB.out | apply yea | apply yen | apply yed | refine below_set ?_ GE514.out) | exact HB.out))) : w.heap.size ≤ gb515)); have n4_ := n3_; have n5_ := yam ((by rw [hg]; exact Nat.ne_of_lt (blk_lt (g := gb514) (o := .cells #[.int .i64 a0_0, .slice A0_1 l0_1.length c0_1, .slice A0_2 l0_2.length c0_2] 37 (0, 0)) (ybz BK514.out)) : gb514 ≠ gb515)); have n6_ := yam ((by rw [hg]; exact Nat.ne_of_gt (blk_lt (g := gb514) (o := .cells #[.int .i64 a0_0, .slice A0_1 l0_1.length c0_1, .slice A0_2 l0_2.length c0_2] 37 (0, 0)) (ybz BK514.out)) : gb515 ≠ gb514)); clear BK514; clear HB; have BK514 := n0_; have HB := n1_; have BK515 := n2_; have GW515 := n3_; have GE515 := n4_; have NB514_515 := n5_; have NB515_514 := n6_; clear n0_ n1_ n2_ n3_ n4_ n5_ n6_; clear hb hbox hg; have hnb10 := NB514_515.out; have hnc10 := NB515_514.out; obtain ⟨hcz11_0, hcz11_1, hcz11_2, hfz11_0, hfz11_1, hfz11_2⟩ := ybc BK514.out; obtain ⟨hcz12_0, hcz12_1, hcz12_2, hfz12_0, hfz12_1, hfz12_2⟩ := ybc BK515.out) | ((with_reducible refine gate_callee (f := 13) rfl ?_); refine goesL_ (some 14) rfl rfl Try.func13 (by kernel_rfl) rfl #[.slice A0_1 l0_1.length c0_1, .slice A1_1 l1_1.length c1_1] rfl (by (try simp only [List.map_toArray, List.map_cons, List.map_nil]); first | done | rfl | (simp only [List.length_drop, List.length_take]; rfl)) ?_; (with_reducible refine (laws_eqIntS.calls k _ _ l0_1 _ _ l1_1 true _ ?side1 ?side2 ?side3 ?side4 A4.out).mono ?_); (case side1 => exact Kd.Cz ((Kd.C_below HR0_1.out HB.out))); (case side2 => exact HC0_1.out); (case side3 => exact Kd.Cz ((Kd.C_below HR1_1.out HB.out))); (case side4 => exact HC1_1.out); rintro e w' ⟨rfl, ⟨nd, rfl⟩⟩; refine ⟨_, rfl, ?_⟩) | ((with_reducible refine gate_callee (f := 26) rfl ?_); refine goesL_ (some 20) rfl rfl Try.func26 (by kernel_rfl) rfl #[.slice A0_2 l0_2.length c0_2, .slice A1_2 l1_2.length c1_2] rfl (by (try simp only [List.map_toArray, List.map_cons, List.map_nil]); first | done | rfl | (simp only [List.length_drop, List.length_take]; rfl)) ?_; (with_reducible refine (laws_eqRuleS.calls k _ _ l0_2 _ _ l1_2 true _ ?side1 ?side2 ?side3 ?side4 A6.out).mono ?_); (case side1 => repeat (first | exact (Kd.C_below HR0_2.out (by repeat (first | (with_reducible first | exact HB.out | apply yea | apply yen | apply yed | refine below_set ?_ GE514.out | refine below_set ?_ GE515.out) | exact HB.out))) | (with_reducible refine Kd.C_alloc ?_ _) | (with_reducible refine Kd.C_drewN ?_ _) | (with_reducible refine Kd.C_drew ?_))); (case side2 => exact HC0_2.out); (case side3 => repeat (first | exact (Kd.C_below HR1_2.out (by repeat (first | (with_reducible first | exact HB.out | apply yea | apply yen | apply yed | refine below_set ?_ GE514.out | refine below_set ?_ GE515.out) | exact HB.out))) | (with_reducible refine Kd.C_alloc ?_ _) | (with_reducible refine Kd.C_drewN ?_ _) | (with_reducible refine Kd.C_drew ?_))); (case side4 => exact HC1_2.out); rintro e w13 ⟨rfl, hb⟩; refine ⟨_, rfl, ?_⟩; have n0_ := yam (blk_below (g := gb514) (o := .cells #[.int .i64 a0_0, .slice A0_1 l0_1.length c0_1, .slice A0_2 l0_2.length c0_2] 37 (0, 0)) (ybz BK514.out) hb); have n1_ := yam (blk_below (g := gb515) (o := .cells #[.int .i64 a1_0, .slice A1_1 l1_1.length c1_1, .slice A1_2 l1_2.length c1_2] 37 (0, 0)) (ybz BK515.out) hb); have n2_ := yam (below_step (by repeat (first | (with_reducible first | exact HB.out | apply yea | apply yen | apply yed | refine below_set ?_ GE514.out | refine below_set ?_ GE515.out) | exact HB.out)) hb); clear BK514; clear BK515; clear HB; have BK514 := n0_; have BK515 := n1_; have HB := n2_; clear n0_ n1_ n2_; (try clear hb); (try clear hb2); (try clear hk); (try clear hi)))
  go_ret
  exact ⟨by first | rfl | (simp [errW_none, errW_some] <;> rfl) | (simp [*, errW_none, errW_some] <;> rfl), by repeat (first | (with_reducible first | exact HB.out | apply yea | apply yen | apply yed | refine below_set ?_ GE514.out | refine below_set ?_ GE515.out) | exact HB.out)⟩
 replace c7 := Bool.eq_false_iff.mpr c7
 subst c7
 have H1 : (some false) = some r := by rw [if_neg (show ¬ (false = true) by decide)] at H; exact H
 clear H
 have H := H1
 clear H1
 obtain rfl := Option.some.inj H
 go_enter Try.func25, Try.ntmps25
 go_wp2_with (first | ((with_reducible refine gate_dst (N := 2) rfl ?_); refine box_event ?hg (N := 2) ?hd (cs := #[.int .i64 a0_0, .slice A0_1 l0_1.length c0_1, .slice A0_2 l0_2.length c0_2]) (t := 37) ?hr ?_; (case hd => rfl); (case hg => rfl); (case hr => first | (go_simp; done) | (go_simp; rfl)); intro gb514 hg w14 hbox hb; have n0_ := yam (below_step (yez HB.out) hb); have n1_ := yam (hbox); have n2_ := yam ((by rw [hg]; exact (below_size (yez HB.out)) : w.heap.size ≤ gb514)); have n3_ := n2_; clear HB; have HB := n0_; have BK514 := n1_; have GW514 := n2_; have GE514 := n3_; clear n0_ n1_ n2_ n3_; clear hb hbox hg) | ((with_reducible refine gate_dst (N := 3) rfl ?_); refine box_event ?hg (N := 3) ?hd (cs := #[.int .i64 a1_0, .slice A1_1 l1_1.length c1_1, .slice A1_2 l1_2.length c1_2]) (t := 37) ?hr ?_; (case hd => rfl); (case hg => rfl); (case hr => first | (go_simp; done) | (go_simp; rfl)); intro gb515 hg w15 hbox hb; have n0_ := yam (blk_below (g := gb514) (o := .cells #[.int .i64 a0_0, .slice A0_1 l0_1.length c0_1, .slice A0_2 l0_2.length c0_2] 37 (0, 0)) (ybz BK514.out) hb); have n1_ := yam (below_step (by repeat (first | (with_reducible first | exact HB.out | apply yea | apply yen | apply yed | refine below_set ?_ GE514.out) | exact HB.out)) hb); have n2_ := yam (hbox); have n3_ := yam ((by rw [hg]; exact (below_size (by repeat (first | (with_reducible first | exact HB.out | apply yea | apply yen | apply yed | refine below_set ?_ GE514.out) | exact HB.out))) : w.heap.size ≤ gb515)); have n4_ := n3_; have n5_ := yam ((by rw [hg]; exact Nat.ne_of_lt (blk_lt (g := gb514) (o := .cells #[.int .i64 a0_0, .slice A0_1 l0_1.length c0_1, .slice A0_2 l0_2.length c0_2] 37 (0, 0)) (ybz BK514.out)) : gb514 ≠ gb515)); have n6_ := yam ((by rw [hg]; exact Nat.ne_of_gt (blk_lt (g := gb514) (o := .cells #[.int .i64 a0_0, .slice A0_1 l0_1.length c0_1, .slice A0_2 l0_2.length c0_2] 37 (0, 0)) (ybz BK514.out)) : gb515 ≠ gb514)); clear BK514; clear HB; have BK514 := n0_; have HB := n1_; have BK515 := n2_; have GW515 := n3_; have GE515 := n4_; have NB514_515 := n5_; have NB515_514 := n6_; clear n0_ n1_ n2_ n3_ n4_ n5_ n6_; clear hb hbox hg; have hnb16 := NB514_515.out; have hnc16 := NB515_514.out; obtain ⟨hcz17_0, hcz17_1, hcz17_2, hfz17_0, hfz17_1, hfz17_2⟩ := ybc BK514.out; obtain ⟨hcz18_0, hcz18_1, hcz18_2, hfz18_0, hfz18_1, hfz18_2⟩ := ybc BK515.out) | ((with_reducible refine gate_callee (f := 13) rfl ?_); refine goesL_ (some 14) rfl rfl Try.func13 (by kernel_rfl) rfl #[.slice A0_1 l0_1.length c0_1, .slice A1_1 l1_1.length c1_1] rfl (by (try simp only [List.map_toArray, List.map_cons, List.map_nil]); first | done | rfl | (simp only [List.length_drop, List.length_take]; rfl)) ?_; (with_reducible refine (laws_eqIntS.calls k _ _ l0_1 _ _ l1_1 true _ ?side1 ?side2 ?side3 ?side4 A4.out).mono ?_); (case side1 => exact Kd.Cz ((Kd.C_below HR0_1.out HB.out))); (case side2 => exact HC0_1.out); (case side3 => exact Kd.Cz ((Kd.C_below HR1_1.out HB.out))); (case side4 => exact HC1_1.out); rintro e w' ⟨rfl, ⟨nd, rfl⟩⟩; refine ⟨_, rfl, ?_⟩) | ((with_reducible refine gate_callee (f := 26) rfl ?_); refine goesL_ (some 20) rfl rfl Try.func26 (by kernel_rfl) rfl #[.slice A0_2 l0_2.length c0_2, .slice A1_2 l1_2.length c1_2] rfl (by (try simp only [List.map_toArray, List.map_cons, List.map_nil]); first | done | rfl | (simp only [List.length_drop, List.length_take]; rfl)) ?_; (with_reducible refine (laws_eqRuleS.calls k _ _ l0_2 _ _ l1_2 false _ ?side1 ?side2 ?side3 ?side4 A6.out).mono ?_); (case side1 => repeat (first | exact (Kd.C_below HR0_2.out (by repeat (first | (with_reducible first | exact HB.out | apply yea | apply yen | apply yed | refine below_set ?_ GE514.out | refine below_set ?_ GE515.out) | exact HB.out))) | (with_reducible refine Kd.C_alloc ?_ _) | (with_reducible refine Kd.C_drewN ?_ _) | (with_reducible refine Kd.C_drew ?_))); (case side2 => exact HC0_2.out); (case side3 => repeat (first | exact (Kd.C_below HR1_2.out (by repeat (first | (with_reducible first | exact HB.out | apply yea | apply yen | apply yed | refine below_set ?_ GE514.out | refine below_set ?_ GE515.out) | exact HB.out))) | (with_reducible refine Kd.C_alloc ?_ _) | (with_reducible refine Kd.C_drewN ?_ _) | (with_reducible refine Kd.C_drew ?_))); (case side4 => exact HC1_2.out); rintro e w19 ⟨rfl, hb⟩; refine ⟨_, rfl, ?_⟩; have n0_ := yam (blk_below (g := gb514) (o := .cells #[.int .i64 a0_0, .slice A0_1 l0_1.length c0_1, .slice A0_2 l0_2.length c0_2] 37 (0, 0)) (ybz BK514.out) hb); have n1_ := yam (blk_below (g := gb515) (o := .cells #[.int .i64 a1_0, .slice A1_1 l1_1.length c1_1, .slice A1_2 l1_2.length c1_2] 37 (0, 0)) (ybz BK515.out) hb); have n2_ := yam (below_step (by repeat (first | (with_reducible first | exact HB.out | apply yea | apply yen | apply yed | refine below_set ?_ GE514.out | refine below_set ?_ GE515.out) | exact HB.out)) hb); clear BK514; clear BK515; clear HB; have BK514 := n0_; have BK515 := n1_; have HB := n2_; clear n0_ n1_ n2_; (try clear hb); (try clear hb2); (try clear hk); (try clear hi)))
 go_ret
 exact ⟨by first | rfl | (simp [errW_none, errW_some] <;> rfl) | (simp [*, errW_none, errW_some] <;> rfl), by repeat (first | (with_reducible first | exact HB.out | apply yea | apply yen | apply yed | refine below_set ?_ GE514.out | refine below_set ?_ GE515.out) | exact HB.out)⟩
/-! ### laws_szIntS: function 61 -/
def laws_szIntS.f (l0 : List Int) (a1 : Int) : Option (Int) := if (wrap64 (a1 - (l0.length : Int))) < 0 then (some (-1)) else (some (wrap64 (a1 - (l0.length : Int))))
set_option maxHeartbeats 8000000 in
set_option maxRecDepth 100000 in
theorem laws_szIntS.calls (A0 : Option Addr) (c0 : Nat) (l0 : List Int) (a1 : Int) (r : Int) (w : World) (hr0 : Kd.C (Kd.int .i64) w A0 l0.length l0) (hc0 : l0.length ≤ c0) (h : laws_szIntS.f l0 a1 = some r) :
  Calls Try.prog 61 #[.slice A0 l0.length c0, .int .i64 a1] w fun e w' => e = .returned (.int .i64 r) ∧ Drawn0 w w' := by
 have HR0 := yam hr0
 have HC0 := yam hc0
 clear hr0 hc0
 have H : (if (wrap64 (a1 - (l0.length : Int))) < 0 then (some (-1)) else (some (wrap64 (a1 - (l0.length : Int))))) = some r := h
 clear h
 by_cases c3 : (wrap64 (a1 - (l0.length : Int))) < 0
 ·rw [if_pos c3] at H
  have c3b0 : decide ((wrap64 (a1 - (l0.length : Int))) < 0) = true := decide_eq_true c3
  clear c3
  obtain rfl := Option.some.inj H
  go_enter Try.func61, Try.ntmps61
  go_wp2
  go_ret
  exact ⟨by first | rfl | (simp; done) | (simp [*]; done), by repeat (first | exact Drawn0.refl _ | apply Drawn0.step)⟩
 rw [if_neg c3] at H
 have c3b0 : decide ((wrap64 (a1 - (l0.length : Int))) < 0) = false := decide_eq_false c3
 clear c3
 obtain rfl := Option.some.inj H
 go_enter Try.func61, Try.ntmps61
 go_wp2
 go_ret
 exact ⟨by first | rfl | (simp; done) | (simp [*]; done), by repeat (first | exact Drawn0.refl _ | apply Drawn0.step)⟩
/-! ### laws_szRule: function 53 -/
def laws_szRule.f (a0_0 : Int) (l0_1 : List Int) (a0_2 : Int) (a1 : Int) : Option (Int) := (laws_szIntS.f l0_1 a1).bind fun t296 => (if t296 < 0 then (some (-1)) else (some t296))
set_option maxHeartbeats 8000000 in
set_option maxRecDepth 100000 in
theorem laws_szRule.calls (a0_0 : Int) (A0_1 : Option Addr) (c0_1 : Nat) (l0_1 : List Int) (a0_2 : Int) (a1 : Int) (r : Int) (w : World) (hr0_1 : Kd.C (Kd.int .i64) w A0_1 l0_1.length l0_1) (hc0_1 : l0_1.length ≤ c0_1) (h : laws_szRule.f a0_0 l0_1 a0_2 a1 = some r) :
  Calls Try.prog 53 #[.agg #[.int .i64 a0_0, .slice A0_1 l0_1.length c0_1, .int .i64 a0_2], .int .i64 a1] w fun e w' => e = .returned (.int .i64 r) ∧ Below w.heap.size w w' := by
 have hu70 := Try.underlying70
 have HR0_1 := yam hr0_1
 have HC0_1 := yam hc0_1
 clear hr0_1 hc0_1
 have HB := yam (Below.refl w.heap.size w)
 have H : ((laws_szIntS.f l0_1 a1).bind fun t296 => (if t296 < 0 then (some (-1)) else (some t296))) = some r := h
 clear h
 replace H := Option.bind_eq_some_iff.mp H
 obtain ⟨t296, A30, H⟩ := H
 try dsimp only at H
 have A3 := yam A30
 clear A30
 by_cases c4 : t296 < 0
 ·rw [if_pos c4] at H
  have c4b0 : decide (t296 < 0) = true := decide_eq_true c4
  clear c4
  obtain rfl := Option.some.inj H
  go_enter Try.func53, Try.ntmps53
  go_wp2_with (first | ((with_reducible refine gate_dst (N := 2) rfl ?_); refine box_event ?hg (N := 2) ?hd (cs := #[.int .i64 a0_0, .slice A0_1 l0_1.length c0_1, .int .i64 a0_2]) (t := 70) ?hr ?_; (case hd => rfl); (case hg => rfl); (case hr => first | (go_simp; done) | (go_simp; rfl)); intro gb295 hg w5 hbox hb; have n0_ := yam (below_step (yez HB.out) hb); have n1_ := yam (hbox); have n2_ := yam ((by rw [hg]; exact (below_size (yez HB.out)) : w.heap.size ≤ gb295)); have n3_ := n2_; clear HB; have HB := n0_; have BK295 := n1_; have GW295 := n2_; have GE295 := n3_; clear n0_ n1_ n2_ n3_; clear hb hbox hg; obtain ⟨hcz6_0, hcz6_1, hcz6_2, hfz6_0, hfz6_1, hfz6_2⟩ := ybc BK295.out) | ((with_reducible refine gate_callee (f := 61) rfl ?_); refine goesL_ (some 8) rfl rfl Try.func61 (by kernel_rfl) rfl #[.slice A0_1 l0_1.length c0_1, .int .i64 a1] rfl (by (try simp only [List.map_toArray, List.map_cons, List.map_nil]); first | done | rfl | (simp only [List.length_drop, List.length_take]; rfl)) ?_; (with_reducible refine (laws_szIntS.calls _ _ l0_1 a1 t296 _ ?side1 ?side2 A3.out).mono ?_); (case side1 => exact Kd.Cz ((Kd.C_below HR0_1.out HB.out))); (case side2 => exact HC0_1.out); rintro e w' ⟨rfl, ⟨nd, rfl⟩⟩; refine ⟨_, rfl, ?_⟩))
  go_ret
  exact ⟨by first | rfl | (simp [errW_none, errW_some] <;> rfl) | (simp [*, errW_none, errW_some] <;> rfl), by repeat (first | (with_reducible first | exact HB.out | apply yea | apply yen | apply yed | refine below_set ?_ GE295.out) | exact HB.out)⟩
 rw [if_neg c4] at H
 have c4b0 : decide (t296 < 0) = false := decide_eq_false c4
 clear c4
 obtain rfl := Option.some.inj H
 go_enter Try.func53, Try.ntmps53
 go_wp2_with (first | ((with_reducible refine gate_dst (N := 2) rfl ?_); refine box_event ?hg (N := 2) ?hd (cs := #[.int .i64 a0_0, .slice A0_1 l0_1.length c0_1, .int .i64 a0_2]) (t := 70) ?hr ?_; (case hd => rfl); (case hg => rfl); (case hr => first | (go_simp; done) | (go_simp; rfl)); intro gb295 hg w7 hbox hb; have n0_ := yam (below_step (yez HB.out) hb); have n1_ := yam (hbox); have n2_ := yam ((by rw [hg]; exact (below_size (yez HB.out)) : w.heap.size ≤ gb295)); have n3_ := n2_; clear HB; have HB := n0_; have BK295 := n1_; have GW295 := n2_; have GE295 := n3_; clear n0_ n1_ n2_ n3_; clear hb hbox hg; obtain ⟨hcz8_0, hcz8_1, hcz8_2, hfz8_0, hfz8_1, hfz8_2⟩ := ybc BK295.out) | ((with_reducible refine gate_callee (f := 61) rfl ?_); refine goesL_ (some 8) rfl rfl Try.func61 (by kernel_rfl) rfl #[.slice A0_1 l0_1.length c0_1, .int .i64 a1] rfl (by (try simp only [List.map_toArray, List.map_cons, List.map_nil]); first | done | rfl | (simp only [List.length_drop, List.length_take]; rfl)) ?_; (with_reducible refine (laws_szIntS.calls _ _ l0_1 a1 t296 _ ?side1 ?side2 A3.out).mono ?_); (case side1 => exact Kd.Cz ((Kd.C_below HR0_1.out HB.out))); (case side2 => exact HC0_1.out); rintro e w' ⟨rfl, ⟨nd, rfl⟩⟩; refine ⟨_, rfl, ?_⟩))
 go_ret
 exact ⟨by first | rfl | (simp [errW_none, errW_some] <;> rfl) | (simp [*, errW_none, errW_some] <;> rfl), by repeat (first | (with_reducible first | exact HB.out | apply yea | apply yen | apply yed | refine below_set ?_ GE295.out) | exact HB.out)⟩
/-! ### laws_szRuleS: function 20 -/
def laws_szRuleS.l0 : Nat → List (S70) → Int → Int → Option (Int)
 | 0, _, _, _ => none
 | k + 1, x0, x1, x5 => if x5 < (x0.length : Int) then (if 0 ≤ x5 then ((laws_szRule.f ((rd_T70 x0 x5).f0) ((rd_T70 x0 x5).f1) ((rd_T70 x0 x5).f2) x1).bind fun t298 => (if t298 < 0 then (some (-1)) else (laws_szRuleS.l0 k x0 t298 (wrap64 (x5 + 1))))) else (none)) else (some x1)
def laws_szRuleS.f (k : Nat) (l0 : List (S70)) (a1 : Int) : Option (Int) := if (wrap64 (a1 - (l0.length : Int))) < 0 then (some (-1)) else (laws_szRuleS.l0 k l0 (wrap64 (a1 - (l0.length : Int))) 0)
set_option maxHeartbeats 8000000 in
set_option maxRecDepth 100000 in
theorem laws_szRuleS.calls (k : Nat) (A0 : Option Addr) (c0 : Nat) (l0 : List (S70)) (a1 : Int) (r : Int) (w : World) (hr0 : Kd.C k70 w A0 l0.length l0) (hc0 : l0.length ≤ c0) (h : laws_szRuleS.f k l0 a1 = some r) :
  Calls Try.prog 20 #[.slice A0 l0.length c0, .int .i64 a1] w fun e w' => e = .returned (.int .i64 r) ∧ Below w.heap.size w w' := by
 have hu70 := Try.underlying70
 have HR0 := yam hr0
 have HC0 := yam hc0
 clear hr0 hc0
 have HB := yam (Below.refl w.heap.size w)
 have H : (if (wrap64 (a1 - (l0.length : Int))) < 0 then (some (-1)) else (laws_szRuleS.l0 k l0 (wrap64 (a1 - (l0.length : Int))) 0)) = some r := h
 clear h
 by_cases c3 : (wrap64 (a1 - (l0.length : Int))) < 0
 ·rw [if_pos c3] at H
  have c3b0 : decide ((wrap64 (a1 - (l0.length : Int))) < 0) = true := decide_eq_true c3
  clear c3
  obtain rfl := Option.some.inj H
  go_enter Try.func20, Try.ntmps20
  go_wp2
  go_ret
  exact ⟨by first | rfl | (simp [errW_none, errW_some] <;> rfl) | (simp [*, errW_none, errW_some] <;> rfl), by repeat (first | (with_reducible first | exact HB.out | apply yea | apply yen | apply yed) | exact HB.out)⟩
 rw [if_neg c3] at H
 have c3b0 : decide ((wrap64 (a1 - (l0.length : Int))) < 0) = false := decide_eq_false c3
 clear c3
 have H' := yam H
 clear H
 go_enter Try.func20, Try.ntmps20
 go_wp2
 go_loopg [1, 5] k (fun kq v1 v5 w' => ∃ (x1_1 : Int) (x5_1 : Int), v1 = .int .i64 x1_1 ∧ v5 = .int .i64 x5_1 ∧ Aside0 (laws_szRuleS.l0 kq l0 x1_1 x5_1 = some r) ∧ Aside0 (kq ≤ k) ∧ Aside0 (Below w.heap.size w w'))
 case atStart => exact ⟨(wrap64 (a1 - (l0.length : Int))), (0), (by first | rfl | (simp; done) | (simp [*]; done)), (by first | rfl | (simp; done) | (simp [*]; done)), H', ⟨Nat.le_refl _⟩, ⟨by repeat (first | (with_reducible first | exact HB.out | apply yea | apply yen | apply yed) | exact HB.out)⟩⟩
 case round =>
  clear H'
  try clear c2
  try clear p2
  try clear c3
  try clear c3b0
  obtain ⟨x1_1, x5_1, rfl, rfl, HA, HK1, HB⟩ := hrel
  cases gk with
  | zero => exact absurd HA.out (by simp [laws_szRuleS.l0])
  | succ k1 =>
   have H := HA.out
   clear HA
   simp only [laws_szRuleS.l0] at H
   by_cases c4 : x5_1 < (l0.length : Int)
   rotate_left
   ·rw [if_neg c4] at H
    have c4b0 : decide (x5_1 < (l0.length : Int)) = false := decide_eq_false c4
    clear c4
    obtain rfl := Option.some.inj H
    go_wp2
    go_ret
    exact ⟨by first | rfl | (simp [errW_none, errW_some] <;> rfl) | (simp [*, errW_none, errW_some] <;> rfl), by repeat (first | (with_reducible first | exact HB.out | apply yea | apply yen | apply yed) | exact HB.out)⟩

   rw [if_pos c4] at H
   have c4b0 : decide (x5_1 < (l0.length : Int)) = true := decide_eq_true c4
   clear c4
   by_cases c5 : 0 ≤ x5_1
   rotate_left
   ·rw [if_neg c5] at H
    exact absurd H (by simp)
   rw [if_pos c5] at H
   have c5b0 : decide (0 ≤ x5_1) = true := decide_eq_true c5
   clear c5
   replace H := Option.bind_eq_some_iff.mp H
   obtain ⟨t298, A60, H⟩ := H
   try dsimp only at H
   have A6 := yam A60
   clear A60
   by_cases c7 : t298 < 0
   ·rw [if_pos c7] at H
    have c7b0 : decide (t298 < 0) = true := decide_eq_true c7
    clear c7
    obtain rfl := Option.some.inj H
    have p297 : 0 ≤ (x5_1 : Int) := of_decide_eq_true (by first | (with_reducible assumption) | assumption)
    have q297 : x5_1 < (l0.length : Int) := of_decide_eq_true (by first | (with_reducible assumption) | assumption)
    obtain ⟨ad297, A297_1, c297_1, e297, hx297_0, hx297_1, hx297_2, hl297_1, hi297_1⟩ := at_T70 HR0.out x5_1 p297 q297
    cases e297
    replace hx297_0 := (HB.out.cell (World.block_lt_of_cell? w _ hx297_0)).trans hx297_0
    replace hx297_1 := (HB.out.cell (World.block_lt_of_cell? w _ hx297_1)).trans hx297_1
    replace hx297_2 := (HB.out.cell (World.block_lt_of_cell? w _ hx297_2)).trans hx297_2
    have HR297_1 := yam hi297_1
    have HC297_1 := yam hl297_1
    clear hi297_1 hl297_1
    replace p297 := eq_true p297
    replace q297 := eq_true q297
    go_wp2_with (first | ((with_reducible refine gate_callee (f := 53) rfl ?_); refine goesL_ (some 23) rfl rfl Try.func53 (by kernel_rfl) rfl #[.agg #[.int .i64 ((rd_T70 l0 x5_1).f0), .slice A297_1 ((rd_T70 l0 x5_1).f1).length c297_1, .int .i64 ((rd_T70 l0 x5_1).f2)], .int .i64 x1_1] rfl (by (try simp only [List.map_toArray, List.map_cons, List.map_nil]); first | done | rfl | (simp only [List.length_drop, List.length_take]; rfl)) ?_; (with_reducible refine (laws_szRule.calls ((rd_T70 l0 x5_1).f0) _ _ ((rd_T70 l0 x5_1).f1) ((rd_T70 l0 x5_1).f2) x1_1 t298 _ ?side1 ?side2 A6.out).mono ?_); (case side1 => exact Kd.Cz ((Kd.C_below HR297_1.out HB.out))); (case side2 => exact HC297_1.out); rintro e w8 ⟨rfl, hb⟩; refine ⟨_, rfl, ?_⟩; have n0_ := yam (below_step (yez HB.out) hb); clear HB; have HB := n0_; clear n0_; (try clear hb); (try clear hb2); (try clear hk); (try clear hi)))
    go_ret
    exact ⟨by first | rfl | (simp [errW_none, errW_some] <;> rfl) | (simp [*, errW_none, errW_some] <;> rfl), by repeat (first | (with_reducible first | exact HB.out | apply yea | apply yen | apply yed) | exact HB.out)⟩
   rw [if_neg c7] at H
   have c7b0 : decide (t298 < 0) = false := decide_eq_false c7
   clear c7
   have H' := yam H
   clear H
   have p297 : 0 ≤ (x5_1 : Int) := of_decide_eq_true (by first | (with_reducible assumption) | assumption)
   have q297 : x5_1 < (l0.length : Int) := of_decide_eq_true (by first | (with_reducible assumption) | assumption)
   obtain ⟨ad297, A297_1, c297_1, e297, hx297_0, hx297_1, hx297_2, hl297_1, hi297_1⟩ := at_T70 HR0.out x5_1 p297 q297
   cases e297
   replace hx297_0 := (HB.out.cell (World.block_lt_of_cell? w _ hx297_0)).trans hx297_0
   replace hx297_1 := (HB.out.cell (World.block_lt_of_cell? w _ hx297_1)).trans hx297_1
   replace hx297_2 := (HB.out.cell (World.block_lt_of_cell? w _ hx297_2)).trans hx297_2
   have HR297_1 := yam hi297_1
   have HC297_1 := yam hl297_1
   clear hi297_1 hl297_1
   replace p297 := eq_true p297
   replace q297 := eq_true q297
   go_wp2_with (first | ((with_reducible refine gate_callee (f := 53) rfl ?_); refine goesL_ (some 23) rfl rfl Try.func53 (by kernel_rfl) rfl #[.agg #[.int .i64 ((rd_T70 l0 x5_1).f0), .slice A297_1 ((rd_T70 l0 x5_1).f1).length c297_1, .int .i64 ((rd_T70 l0 x5_1).f2)], .int .i64 x1_1] rfl (by (try simp only [List.map_toArray, List.map_cons, List.map_nil]); first | done | rfl | (simp only [List.length_drop, List.length_take]; rfl)) ?_; (with_reducible refine (laws_szRule.calls ((rd_T70 l0 x5_1).f0) _ _ ((rd_T70 l0 x5_1).f1) ((rd_T70 l0 x5_1).f2) x1_1 t298 _ ?side1 ?side2 A6.out).mono ?_); (case side1 => exact Kd.Cz ((Kd.C_below HR297_1.out HB.out))); (case side2 => exact HC297_1.out); rintro e w9 ⟨rfl, hb⟩; refine ⟨_, rfl, ?_⟩; have n0_ := yam (below_step (yez HB.out) hb); clear HB; have HB := n0_; clear n0_; (try clear hb); (try clear hb2); (try clear hk); (try clear hi)))
   go_roundg k1
   case measure => have := HK1.out; omega
   case rel => exact ⟨(t298), (wrap64 (x5_1 + 1)), (by first | rfl | (simp; done) | (simp [*]; done)), (by first | rfl | (simp; done) | (simp [*]; done)), H', ⟨by have := HK1.out; omega⟩, ⟨by repeat (first | (with_reducible first | exact HB.out | apply yea | apply yen | apply yed) | exact HB.out)⟩⟩
/-! ### laws_szPuzzle: function 30 -/
def laws_szPuzzle.f (k : Nat) (a0_0 : Int) (l0_1 : List Int) (l0_2 : List (S70)) (a1 : Int) : Option (Int) := (laws_szIntS.f l0_1 a1).bind fun t589 => (if t589 < 0 then (some (-1)) else ((laws_szRuleS.f k l0_2 t589).bind fun t590 => (if t590 < 0 then (some (-1)) else (some t590))))
set_option maxHeartbeats 8000000 in
set_option maxRecDepth 100000 in
theorem laws_szPuzzle.calls (k : Nat) (a0_0 : Int) (A0_1 : Option Addr) (c0_1 : Nat) (l0_1 : List Int) (A0_2 : Option Addr) (c0_2 : Nat) (l0_2 : List (S70)) (a1 : Int) (r : Int) (w : World) (hr0_1 : Kd.C (Kd.int .i64) w A0_1 l0_1.length l0_1) (hc0_1 : l0_1.length ≤ c0_1) (hr0_2 : Kd.C k70 w A0_2 l0_2.length l0_2) (hc0_2 : l0_2.length ≤ c0_2) (h : laws_szPuzzle.f k a0_0 l0_1 l0_2 a1 = some r) :
  Calls Try.prog 30 #[.agg #[.int .i64 a0_0, .slice A0_1 l0_1.length c0_1, .slice A0_2 l0_2.length c0_2], .int .i64 a1] w fun e w' => e = .returned (.int .i64 r) ∧ Below w.heap.size w w' := by
 have hu48 := Try.underlying48
 have HR0_1 := yam hr0_1
 have HC0_1 := yam hc0_1
 clear hr0_1 hc0_1
 have HR0_2 := yam hr0_2
 have HC0_2 := yam hc0_2
 clear hr0_2 hc0_2
 have HB := yam (Below.refl w.heap.size w)
 have H : ((laws_szIntS.f l0_1 a1).bind fun t589 => (if t589 < 0 then (some (-1)) else ((laws_szRuleS.f k l0_2 t589).bind fun t590 => (if t590 < 0 then (some (-1)) else (some t590))))) = some r := h
 clear h
 replace H := Option.bind_eq_some_iff.mp H
 obtain ⟨t589, A30, H⟩ := H
 try dsimp only at H
 have A3 := yam A30
 clear A30
 by_cases c4 : t589 < 0
 ·rw [if_pos c4] at H
  have c4b0 : decide (t589 < 0) = true := decide_eq_true c4
  clear c4
  obtain rfl := Option.some.inj H
  go_enter Try.func30, Try.ntmps30
  go_wp2_with (first | ((with_reducible refine gate_dst (N := 2) rfl ?_); refine box_event ?hg (N := 2) ?hd (cs := #[.int .i64 a0_0, .slice A0_1 l0_1.length c0_1, .slice A0_2 l0_2.length c0_2]) (t := 48) ?hr ?_; (case hd => rfl); (case hg => rfl); (case hr => first | (go_simp; done) | (go_simp; rfl)); intro gb588 hg w5 hbox hb; have n0_ := yam (below_step (yez HB.out) hb); have n1_ := yam (hbox); have n2_ := yam ((by rw [hg]; exact (below_size (yez HB.out)) : w.heap.size ≤ gb588)); have n3_ := n2_; clear HB; have HB := n0_; have BK588 := n1_; have GW588 := n2_; have GE588 := n3_; clear n0_ n1_ n2_ n3_; clear hb hbox hg; obtain ⟨hcz6_0, hcz6_1, hcz6_2, hfz6_0, hfz6_1, hfz6_2⟩ := ybc BK588.out) | ((with_reducible refine gate_callee (f := 61) rfl ?_); refine goesL_ (some 8) rfl rfl Try.func61 (by kernel_rfl) rfl #[.slice A0_1 l0_1.length c0_1, .int .i64 a1] rfl (by (try simp only [List.map_toArray, List.map_cons, List.map_nil]); first | done | rfl | (simp only [List.length_drop, List.length_take]; rfl)) ?_; (with_reducible refine (laws_szIntS.calls _ _ l0_1 a1 t589 _ ?side1 ?side2 A3.out).mono ?_); (case side1 => exact Kd.Cz ((Kd.C_below HR0_1.out HB.out))); (case side2 => exact HC0_1.out); rintro e w' ⟨rfl, ⟨nd, rfl⟩⟩; refine ⟨_, rfl, ?_⟩))
  go_ret
  exact ⟨by first | rfl | (simp [errW_none, errW_some] <;> rfl) | (simp [*, errW_none, errW_some] <;> rfl), by repeat (first | (with_reducible first | exact HB.out | apply yea | apply yen | apply yed | refine below_set ?_ GE588.out) | exact HB.out)⟩
 rw [if_neg c4] at H
 have c4b0 : decide (t589 < 0) = false := decide_eq_false c4
 clear c4
 replace H := Option.bind_eq_some_iff.mp H
 obtain ⟨t590, A70, H⟩ := H
 try dsimp only at H
 have A7 := yam A70
 clear A70
 by_cases c8 : t590 < 0
 ·rw [if_pos c8] at H
  have c8b0 : decide (t590 < 0) = true := decide_eq_true c8
  clear c8
  obtain rfl := Option.some.inj H
  go_enter Try.func30, Try.ntmps30
  go_wp2_with (first | ((with_reducible refine gate_dst (N := 2) rfl ?_); refine box_event ?hg (N := 2) ?hd (cs := #[.int .i64 a0_0, .slice A0_1 l0_1.length c0_1, .slice A0_2 l0_2.length c0_2]) (t := 48) ?hr ?_; (case hd => rfl); (case hg => rfl); (case hr => first | (go_simp; done) | (go_simp; rfl)); intro gb588 hg w9 hbox hb; have n0_ := yam (below_step (yez HB.out) hb); have n1_ := yam (hbox); have n2_ := yam ((by rw [hg]; exact (below_size (yez HB.out)) : w.heap.size ≤ gb588)); have n3_ := n2_; clear HB; have HB := n0_; have BK588 := n1_; have GW588 := n2_; have GE588 := n3_; clear n0_ n1_ n2_ n3_; clear hb hbox hg; obtain ⟨hcz10_0, hcz10_1, hcz10_2, hfz10_0, hfz10_1, hfz10_2⟩ := ybc BK588.out) | ((with_reducible refine gate_callee (f := 61) rfl ?_); refine goesL_ (some 8) rfl rfl Try.func61 (by kernel_rfl) rfl #[.slice A0_1 l0_1.length c0_1, .int .i64 a1] rfl (by (try simp only [List.map_toArray, List.map_cons, List.map_nil]); first | done | rfl | (simp only [List.length_drop, List.length_take]; rfl)) ?_; (with_reducible refine (laws_szIntS.calls _ _ l0_1 a1 t589 _ ?side1 ?side2 A3.out).mono ?_); (case side1 => exact Kd.Cz ((Kd.C_below HR0_1.out HB.out))); (case side2 => exact HC0_1.out); rintro e w' ⟨rfl, ⟨nd, rfl⟩⟩; refine ⟨_, rfl, ?_⟩) | ((with_reducible refine gate_callee (f := 20) rfl ?_); refine goesL_ (some 14) rfl rfl Try.func20 (by kernel_rfl) rfl #[.slice A0_2 l0_2.length c0_2, .int .i64 t589] rfl (by (try simp only [List.map_toArray, List.map_cons, List.map_nil]); first | done | rfl | (simp only [List.length_drop, List.length_take]; rfl)) ?_; (with_reducible refine (laws_szRuleS.calls k _ _ l0_2 t589 t590 _ ?side1 ?side2 A7.out).mono ?_); (case side1 => repeat (first | exact (Kd.C_below HR0_2.out (by repeat (first | (with_reducible first | exact HB.out | apply yea | apply yen | apply yed | refine below_set ?_ GE588.out) | exact HB.out))) | (with_reducible refine Kd.C_alloc ?_ _) | (with_reducible refine Kd.C_drewN ?_ _) | (with_reducible refine Kd.C_drew ?_))); (case side2 => exact HC0_2.out); rintro e w11 ⟨rfl, hb⟩; refine ⟨_, rfl, ?_⟩; have n0_ := yam (blk_below (g := gb588) (o := .cells #[.int .i64 a0_0, .slice A0_1 l0_1.length c0_1, .slice A0_2 l0_2.length c0_2] 48 (0, 0)) (ybz BK588.out) hb); have n1_ := yam (below_step (by repeat (first | (with_reducible first | exact HB.out | apply yea | apply yen | apply yed | refine below_set ?_ GE588.out) | exact HB.out)) hb); clear BK588; clear HB; have BK588 := n0_; have HB := n1_; clear n0_ n1_; (try clear hb); (try clear hb2); (try clear hk); (try clear hi)))
  go_ret
  exact ⟨by first | rfl | (simp [errW_none, errW_some] <;> rfl) | (simp [*, errW_none, errW_some] <;> rfl), by repeat (first | (with_reducible first | exact HB.out | apply yea | apply yen | apply yed | refine below_set ?_ GE588.out) | exact HB.out)⟩
 rw [if_neg c8] at H
 have c8b0 : decide (t590 < 0) = false := decide_eq_false c8
 clear c8
 obtain rfl := Option.some.inj H
 go_enter Try.func30, Try.ntmps30
 go_wp2_with (first | ((with_reducible refine gate_dst (N := 2) rfl ?_); refine box_event ?hg (N := 2) ?hd (cs := #[.int .i64 a0_0, .slice A0_1 l0_1.length c0_1, .slice A0_2 l0_2.length c0_2]) (t := 48) ?hr ?_; (case hd => rfl); (case hg => rfl); (case hr => first | (go_simp; done) | (go_simp; rfl)); intro gb588 hg w12 hbox hb; have n0_ := yam (below_step (yez HB.out) hb); have n1_ := yam (hbox); have n2_ := yam ((by rw [hg]; exact (below_size (yez HB.out)) : w.heap.size ≤ gb588)); have n3_ := n2_; clear HB; have HB := n0_; have BK588 := n1_; have GW588 := n2_; have GE588 := n3_; clear n0_ n1_ n2_ n3_; clear hb hbox hg; obtain ⟨hcz13_0, hcz13_1, hcz13_2, hfz13_0, hfz13_1, hfz13_2⟩ := ybc BK588.out) | ((with_reducible refine gate_callee (f := 61) rfl ?_); refine goesL_ (some 8) rfl rfl Try.func61 (by kernel_rfl) rfl #[.slice A0_1 l0_1.length c0_1, .int .i64 a1] rfl (by (try simp only [List.map_toArray, List.map_cons, List.map_nil]); first | done | rfl | (simp only [List.length_drop, List.length_take]; rfl)) ?_; (with_reducible refine (laws_szIntS.calls _ _ l0_1 a1 t589 _ ?side1 ?side2 A3.out).mono ?_); (case side1 => exact Kd.Cz ((Kd.C_below HR0_1.out HB.out))); (case side2 => exact HC0_1.out); rintro e w' ⟨rfl, ⟨nd, rfl⟩⟩; refine ⟨_, rfl, ?_⟩) | ((with_reducible refine gate_callee (f := 20) rfl ?_); refine goesL_ (some 14) rfl rfl Try.func20 (by kernel_rfl) rfl #[.slice A0_2 l0_2.length c0_2, .int .i64 t589] rfl (by (try simp only [List.map_toArray, List.map_cons, List.map_nil]); first | done | rfl | (simp only [List.length_drop, List.length_take]; rfl)) ?_; (with_reducible refine (laws_szRuleS.calls k _ _ l0_2 t589 t590 _ ?side1 ?side2 A7.out).mono ?_); (case side1 => repeat (first | exact (Kd.C_below HR0_2.out (by repeat (first | (with_reducible first | exact HB.out | apply yea | apply yen | apply yed | refine below_set ?_ GE588.out) | exact HB.out))) | (with_reducible refine Kd.C_alloc ?_ _) | (with_reducible refine Kd.C_drewN ?_ _) | (with_reducible refine Kd.C_drew ?_))); (case side2 => exact HC0_2.out); rintro e w14 ⟨rfl, hb⟩; refine ⟨_, rfl, ?_⟩; have n0_ := yam (blk_below (g := gb588) (o := .cells #[.int .i64 a0_0, .slice A0_1 l0_1.length c0_1, .slice A0_2 l0_2.length c0_2] 48 (0, 0)) (ybz BK588.out) hb); have n1_ := yam (below_step (by repeat (first | (with_reducible first | exact HB.out | apply yea | apply yen | apply yed | refine below_set ?_ GE588.out) | exact HB.out)) hb); clear BK588; clear HB; have BK588 := n0_; have HB := n1_; clear n0_ n1_; (try clear hb); (try clear hb2); (try clear hk); (try clear hi)))
 go_ret
 exact ⟨by first | rfl | (simp [errW_none, errW_some] <;> rfl) | (simp [*, errW_none, errW_some] <;> rfl), by repeat (first | (with_reducible first | exact HB.out | apply yea | apply yen | apply yed | refine below_set ?_ GE588.out) | exact HB.out)⟩
/-! ### spec_l1In: function 42 -/
def spec_l1In.f (a0 : Int) (a1 : Int) (a2 : Int) : Option (Bool) := if a0 ≥ a1 then (some (decide (a0 ≤ a2))) else (some false)
set_option maxHeartbeats 8000000 in
set_option maxRecDepth 100000 in
theorem spec_l1In.calls (a0 : Int) (a1 : Int) (a2 : Int) (r : Bool) (w : World) (h : spec_l1In.f a0 a1 a2 = some r) :
  Calls Try.prog 42 #[.int .i64 a0, .int .i64 a1, .int .i64 a2] w fun e w' => e = .returned (.bool r) ∧ Drawn0 w w' := by
 have H : (if a0 ≥ a1 then (some (decide (a0 ≤ a2))) else (some false)) = some r := h
 clear h
 by_cases c4 : a0 ≥ a1
 ·rw [if_pos c4] at H
  have c4b0 : decide (a1 ≤ a0) = true := decide_eq_true c4
  clear c4
  obtain rfl := Option.some.inj H
  go_enter Try.func42, Try.ntmps42
  go_wp2
  go_ret
  exact ⟨by first | rfl | (simp; done) | (simp [*]; done), by repeat (first | exact Drawn0.refl _ | apply Drawn0.step)⟩
 rw [if_neg c4] at H
 have c4b0 : decide (a1 ≤ a0) = false := decide_eq_false c4
 clear c4
 obtain rfl := Option.some.inj H
 go_enter Try.func42, Try.ntmps42
 go_wp2
 go_ret
 exact ⟨by first | rfl | (simp; done) | (simp [*]; done), by repeat (first | exact Drawn0.refl _ | apply Drawn0.step)⟩
/-! ### spec_RuleValid: function 83 -/
mutual
def spec_RuleValid.l0 : Nat → Int → Int → Int → List Int → Int → Option (Bool)
 | 0, _, _, _, _, _ => none
 | k + 1, x1, x5, x321000, x321001, x321002 => if x5 < (x321001.length : Int) then (if 0 ≤ x5 then ((spec_l1In.f (rd x321001 x5) 0 (wrap64 ((wrap64 (x1 * x1)) - 1))).bind fun t322 => (if t322 = true then (spec_RuleValid.l1 k x1 x5 0 x321000 x321001 x321002) else (some false))) else (none)) else ((spec_l1In.f x1 2 4).bind fun t325 => (if t325 = true then (spec_RuleValid.j2 k x1 (x321001.length : Int) (decide ((x321001.length : Int) > 4)) x321000 x321001 x321002) else (spec_RuleValid.j2 k x1 (x321001.length : Int) true x321000 x321001 x321002)))
def spec_RuleValid.l1 : Nat → Int → Int → Int → Int → List Int → Int → Option (Bool)
 | 0, _, _, _, _, _, _ => none
 | k + 1, x1, x5, x6, x321000, x321001, x321002 => if x6 < x5 then (if 0 ≤ x6 then (if x6 < (x321001.length : Int) then (if 0 ≤ x5 then (if x5 < (x321001.length : Int) then (if (rd x321001 x6) = (rd x321001 x5) then (some false) else (spec_RuleValid.l1 k x1 x5 (wrap64 (x6 + 1)) x321000 x321001 x321002)) else (none)) else (none)) else (none)) else (none)) else (spec_RuleValid.l0 k x1 (wrap64 (x5 + 1)) x321000 x321001 x321002)
def spec_RuleValid.j2 : Nat → Int → Int → Bool → Int → List Int → Int → Option (Bool)
 | 0, _, _, _, _, _, _ => none
 | k + 1, x1, x7, x51, x321000, x321001, x321002 => if x51 = true then (some false) else (if x321000 = 1 then (if x7 ≥ 2 then (some (x321002 == 0)) else (some false)) else (if x321000 = 2 then (spec_RuleValid.j3 k x1 x7 x321000 (x321000 == 2) x321000 x321001 x321002) else (spec_RuleValid.j3 k x1 x7 x321000 (x321000 == 3) x321000 x321001 x321002)))
def spec_RuleValid.j3 : Nat → Int → Int → Int → Bool → Int → List Int → Int → Option (Bool)
 | 0, _, _, _, _, _, _, _ => none
 | k + 1, x1, x7, x53, x63, x321000, x321001, x321002 => if x63 = true then (if x7 ≥ 1 then ((spec_l1In.f x321002 1 (wrap64 ((wrap64 ((wrap64 (x1 * x1)) * x1)) * x1))).bind fun t326 => (some t326)) else (some false)) else (if x53 = 4 then (if x7 = 2 then (some (x321002 == 0)) else (some false)) else (if x53 = 5 then (if x7 = 2 then ((spec_l1In.f x321002 0 (wrap64 (x1 - 1))).bind fun t327 => (some t327)) else (some false)) else (some false)))
end
def spec_RuleValid.f (k : Nat) (a0_0 : Int) (l0_1 : List Int) (a0_2 : Int) (a1 : Int) : Option (Bool) := spec_RuleValid.l0 k a1 0 a0_0 l0_1 a0_2
set_option maxHeartbeats 8000000 in
set_option maxRecDepth 100000 in
theorem spec_RuleValid.calls (k : Nat) (a0_0 : Int) (A0_1 : Option Addr) (c0_1 : Nat) (l0_1 : List Int) (a0_2 : Int) (a1 : Int) (r : Bool) (w : World) (hr0_1 : Kd.C (Kd.int .i64) w A0_1 l0_1.length l0_1) (hc0_1 : l0_1.length ≤ c0_1) (h : spec_RuleValid.f k a0_0 l0_1 a0_2 a1 = some r) :
  Calls Try.prog 83 #[.agg #[.int .i64 a0_0, .slice A0_1 l0_1.length c0_1, .int .i64 a0_2], .int .i64 a1] w fun e w' => e = .returned (.bool r) ∧ Below w.heap.size w w' := by
 have hu73 := Try.underlying73
 have HR0_1 := yam hr0_1
 have HC0_1 := yam hc0_1
 clear hr0_1 hc0_1
 have HB := yam (Below.refl w.heap.size w)
 have H : (spec_RuleValid.l0 k a1 0 a0_0 l0_1 a0_2) = some r := h
 clear h
 have H' := yam H
 clear H
 go_enter Try.func83, Try.ntmps83
 go_wp2_with (first | ((with_reducible refine gate_dst (N := 2) rfl ?_); refine box_event ?hg (N := 2) ?hd (cs := #[.int .i64 a0_0, .slice A0_1 l0_1.length c0_1, .int .i64 a0_2]) (t := 73) ?hr ?_; (case hd => rfl); (case hg => rfl); (case hr => first | (go_simp; done) | (go_simp; rfl)); intro gb320 hg w3 hbox hb; have n0_ := yam (below_step (yez HB.out) hb); have n1_ := yam (hbox); have n2_ := yam ((by rw [hg]; exact (below_size (yez HB.out)) : w.heap.size ≤ gb320)); have n3_ := n2_; clear HB; have HB := n0_; have BK320 := n1_; have GW320 := n2_; have GE320 := n3_; clear n0_ n1_ n2_ n3_; clear hb hbox hg))
 repeat (go_quiet (first | ((with_reducible refine gate_dst (N := 2) rfl ?_); refine box_event ?hg (N := 2) ?hd (cs := #[.int .i64 a0_0, .slice A0_1 l0_1.length c0_1, .int .i64 a0_2]) (t := 73) ?hr ?_; (case hd => rfl); (case hg => rfl); (case hr => first | (go_simp; done) | (go_simp; rfl)); intro gb320 hg w3 hbox hb; have n0_ := yam (below_step (yez HB.out) hb); have n1_ := yam (hbox); have n2_ := yam ((by rw [hg]; exact (below_size (yez HB.out)) : w.heap.size ≤ gb320)); have n3_ := n2_; clear HB; have HB := n0_; have BK320 := n1_; have GW320 := n2_; have GE320 := n3_; clear n0_ n1_ n2_ n3_; clear hb hbox hg)); try go_wp2_with (first | ((with_reducible refine gate_dst (N := 2) rfl ?_); refine box_event ?hg (N := 2) ?hd (cs := #[.int .i64 a0_0, .slice A0_1 l0_1.length c0_1, .int .i64 a0_2]) (t := 73) ?hr ?_; (case hd => rfl); (case hg => rfl); (case hr => first | (go_simp; done) | (go_simp; rfl)); intro gb320 hg w3 hbox hb; have n0_ := yam (below_step (yez HB.out) hb); have n1_ := yam (hbox); have n2_ := yam ((by rw [hg]; exact (below_size (yez HB.out)) : w.heap.size ≤ gb320)); have n3_ := n2_; clear HB; have HB := n0_; have BK320 := n1_; have GW320 := n2_; have GE320 := n3_; clear n0_ n1_ n2_ n3_; clear hb hbox hg)))
 go_loopg [5] k (fun kq v5 w' => ∃ (x5_1 : Int), v5 = .int .i64 x5_1 ∧ Aside0 (spec_RuleValid.l0 kq a1 x5_1 a0_0 l0_1 a0_2 = some r) ∧ Aside0 (kq ≤ k) ∧ Aside0 (w'.heap[gb320]? = some (.cells #[.int .i64 a0_0, (.slice A0_1 l0_1.length c0_1), .int .i64 a0_2] 73 (0, 0))) ∧ Aside0 (Below w.heap.size w w'))
 case atStart => exact ⟨(0), (by first | rfl | (simp; done) | (simp [*]; done)), H', ⟨Nat.le_refl _⟩, ⟨by (with_reducible repeat (first | refine ybn ?_ _ | refine ybd ?_ | refine yba ?_ _)); exact BK320.out⟩, ⟨by repeat (first | (with_reducible first | exact HB.out | apply yea | apply yen | apply yed | refine below_set ?_ GE320.out) | exact HB.out)⟩⟩
 case round =>
  clear H'
  try clear p2
  obtain ⟨x5_1, rfl, HA, HK1, BK320, HB⟩ := hrel
  cases gk with
  | zero => exact absurd HA.out (by simp [spec_RuleValid.l0])
  | succ k1 =>
   have H := HA.out
   clear HA
   simp only [spec_RuleValid.l0] at H
   by_cases c4 : x5_1 < (l0_1.length : Int)
   ·rw [if_pos c4] at H
    have c4b0 : decide (x5_1 < (l0_1.length : Int)) = true := decide_eq_true c4
    clear c4
    by_cases c5 : 0 ≤ x5_1
    rotate_left
    ·rw [if_neg c5] at H
     exact absurd H (by simp)
    rw [if_pos c5] at H
    have c5b0 : decide (0 ≤ x5_1) = true := decide_eq_true c5
    clear c5
    replace H := Option.bind_eq_some_iff.mp H
    obtain ⟨t322, A60, H⟩ := H
    try dsimp only at H
    have A6 := yam A60
    clear A60
    by_cases c7 : t322 = true
    rotate_left
    ·replace c7 := Bool.eq_false_iff.mpr c7
     subst c7
     have H1 : (some false) = some r := by rw [if_neg (show ¬ (false = true) by decide)] at H; exact H
     clear H
     have H := H1
     clear H1
     obtain rfl := Option.some.inj H
     obtain ⟨hcz17_0, hcz17_1, hcz17_2, hfz17_0, hfz17_1, hfz17_2⟩ := ybc BK320.out
     have p321 : 0 ≤ (x5_1 : Int) := of_decide_eq_true (by first | (with_reducible assumption) | assumption)
     have q321 : x5_1 < (l0_1.length : Int) := of_decide_eq_true (by first | (with_reducible assumption) | assumption)
     obtain ⟨ad321, e321, hx321_0⟩ := Kd.at_int HR0_1.out x5_1 p321 q321
     cases e321
     replace hx321_0 := (HB.out.cell (World.block_lt_of_cell? w _ hx321_0)).trans hx321_0
     replace p321 := eq_true p321
     replace q321 := eq_true q321
     have hwq0_ : IntKind.i64.wrap (a1 * a1) = wrap64 (a1 * a1) := i64_w _
     have hwq1_ : IntKind.i64.wrap ((wrap64 (a1 * a1)) - 1) = wrap64 ((wrap64 (a1 * a1)) - 1) := i64_w _
     go_wp2_with (first | (go_at_call 42; (with_reducible refine (spec_l1In.calls (rd l0_1 x5_1) 0 (wrap64 ((wrap64 (a1 * a1)) - 1)) false _ A6.out).mono ?_); rintro e w' ⟨rfl, ⟨nd, rfl⟩⟩; (try first | exact ⟨rfl, _, World.drewN_drewN _ _ _⟩ | exact ⟨rfl, _, Eq.trans (World.drewN_drewN _ _ _) (congrArg (World.drewN _) (Nat.add_assoc _ _ _))⟩)))
     repeat (go_quiet (first | (go_at_call 42; (with_reducible refine (spec_l1In.calls (rd l0_1 x5_1) 0 (wrap64 ((wrap64 (a1 * a1)) - 1)) false _ A6.out).mono ?_); rintro e w' ⟨rfl, ⟨nd, rfl⟩⟩; (try first | exact ⟨rfl, _, World.drewN_drewN _ _ _⟩ | exact ⟨rfl, _, Eq.trans (World.drewN_drewN _ _ _) (congrArg (World.drewN _) (Nat.add_assoc _ _ _))⟩))); try go_wp2_with (first | (go_at_call 42; (with_reducible refine (spec_l1In.calls (rd l0_1 x5_1) 0 (wrap64 ((wrap64 (a1 * a1)) - 1)) false _ A6.out).mono ?_); rintro e w' ⟨rfl, ⟨nd, rfl⟩⟩; (try first | exact ⟨rfl, _, World.drewN_drewN _ _ _⟩ | exact ⟨rfl, _, Eq.trans (World.drewN_drewN _ _ _) (congrArg (World.drewN _) (Nat.add_assoc _ _ _))⟩))))
     go_ret
     exact ⟨by first | rfl | (simp [errW_none, errW_some] <;> rfl) | (simp [*, errW_none, errW_some] <;> rfl), by repeat (first | (with_reducible first | exact HB.out | apply yea | apply yen | apply yed | refine below_set ?_ GE320.out) | exact HB.out)⟩
    subst c7
    have H1 : (spec_RuleValid.l1 k1 a1 x5_1 0 a0_0 l0_1 a0_2) = some r := by rw [if_pos rfl] at H; exact H
    clear H
    have H := H1
    clear H1
    have H' := yam H
    clear H
    obtain ⟨hcz8_0, hcz8_1, hcz8_2, hfz8_0, hfz8_1, hfz8_2⟩ := ybc BK320.out
    have p321 : 0 ≤ (x5_1 : Int) := of_decide_eq_true (by first | (with_reducible assumption) | assumption)
    have q321 : x5_1 < (l0_1.length : Int) := of_decide_eq_true (by first | (with_reducible assumption) | assumption)
    obtain ⟨ad321, e321, hx321_0⟩ := Kd.at_int HR0_1.out x5_1 p321 q321
    cases e321
    replace hx321_0 := (HB.out.cell (World.block_lt_of_cell? w _ hx321_0)).trans hx321_0
    replace p321 := eq_true p321
    replace q321 := eq_true q321
    have hwq0_ : IntKind.i64.wrap (a1 * a1) = wrap64 (a1 * a1) := i64_w _
    have hwq1_ : IntKind.i64.wrap ((wrap64 (a1 * a1)) - 1) = wrap64 ((wrap64 (a1 * a1)) - 1) := i64_w _
    go_wp2_with (first | (go_at_call 42; (with_reducible refine (spec_l1In.calls (rd l0_1 x5_1) 0 (wrap64 ((wrap64 (a1 * a1)) - 1)) true _ A6.out).mono ?_); rintro e w' ⟨rfl, ⟨nd, rfl⟩⟩; (try first | exact ⟨rfl, _, World.drewN_drewN _ _ _⟩ | exact ⟨rfl, _, Eq.trans (World.drewN_drewN _ _ _) (congrArg (World.drewN _) (Nat.add_assoc _ _ _))⟩)))
    repeat (go_quiet (first | (go_at_call 42; (with_reducible refine (spec_l1In.calls (rd l0_1 x5_1) 0 (wrap64 ((wrap64 (a1 * a1)) - 1)) true _ A6.out).mono ?_); rintro e w' ⟨rfl, ⟨nd, rfl⟩⟩; (try first | exact ⟨rfl, _, World.drewN_drewN _ _ _⟩ | exact ⟨rfl, _, Eq.trans (World.drewN_drewN _ _ _) (congrArg (World.drewN _) (Nat.add_assoc _ _ _))⟩))); try go_wp2_with (first | (go_at_call 42; (with_reducible refine (spec_l1In.calls (rd l0_1 x5_1) 0 (wrap64 ((wrap64 (a1 * a1)) - 1)) true _ A6.out).mono ?_); rintro e w' ⟨rfl, ⟨nd, rfl⟩⟩; (try first | exact ⟨rfl, _, World.drewN_drewN _ _ _⟩ | exact ⟨rfl, _, Eq.trans (World.drewN_drewN _ _ _) (congrArg (World.drewN _) (Nat.add_assoc _ _ _))⟩))))
    go_loopg [6] k1 (fun kq v6 w' => ∃ (x6_2 : Int), v6 = .int .i64 x6_2 ∧ Aside0 (spec_RuleValid.l1 kq a1 x5_1 x6_2 a0_0 l0_1 a0_2 = some r) ∧ Aside0 (kq ≤ k1) ∧ Aside0 (w'.heap[gb320]? = some (.cells #[.int .i64 a0_0, (.slice (some ad321) l0_1.length c0_1), .int .i64 a0_2] 73 (0, 0))) ∧ Aside0 (Below w.heap.size w w'))
    case atStart => exact ⟨(0), (by first | rfl | (simp; done) | (simp [*]; done)), H', ⟨Nat.le_refl _⟩, ⟨by (with_reducible repeat (first | refine ybn ?_ _ | refine ybd ?_ | refine yba ?_ _)); exact BK320.out⟩, ⟨by repeat (first | (with_reducible first | exact HB.out | apply yea | apply yen | apply yed | refine below_set ?_ GE320.out) | exact HB.out)⟩⟩
    case round =>
     clear H'
     try clear p2
     try clear p3
     try clear q3
     try clear hx3
     try clear c4
     try clear c4b0
     try clear c5
     try clear c5b0
     try clear p6
     try clear c7
     try clear c8
     try clear hcz8_0
     try clear hcz8_1
     try clear hcz8_2
     try clear hfz8_0
     try clear hfz8_1
     try clear hfz8_2
     try clear hx321_0
     try clear p2
     try clear p321
     try clear q321
     obtain ⟨x6_2, rfl, HA, HK2, BK320, HB⟩ := hrel
     cases gk with
     | zero => exact absurd HA.out (by simp [spec_RuleValid.l1])
     | succ k2 =>
      have H := HA.out
      clear HA
      simp only [spec_RuleValid.l1] at H
      by_cases c9 : x6_2 < x5_1
      rotate_left
      ·rw [if_neg c9] at H
       have c9b0 : decide (x6_2 < x5_1) = false := decide_eq_false c9
       clear c9
       have H' := yam H
       clear H
       go_wp2
       repeat (go_quiet (fail); try go_wp2)
       go_roundg k2
       case measure => have := HK1.out; have := HK2.out; omega
       case rel => exact ⟨(wrap64 (x5_1 + 1)), (by first | rfl | (simp; done) | (simp [*]; done)), H', ⟨by have := HK1.out; have := HK2.out; omega⟩, ⟨by (with_reducible repeat (first | refine ybn ?_ _ | refine ybd ?_ | refine yba ?_ _)); exact BK320.out⟩, ⟨by repeat (first | (with_reducible first | exact HB.out | apply yea | apply yen | apply yed | refine below_set ?_ GE320.out) | exact HB.out)⟩⟩
      rw [if_pos c9] at H
      have c9b0 : decide (x6_2 < x5_1) = true := decide_eq_true c9
      clear c9
      by_cases c10 : 0 ≤ x6_2
      rotate_left
      ·rw [if_neg c10] at H
       exact absurd H (by simp)
      rw [if_pos c10] at H
      have c10b0 : decide (0 ≤ x6_2) = true := decide_eq_true c10
      clear c10
      by_cases c11 : x6_2 < (l0_1.length : Int)
      rotate_left
      ·rw [if_neg c11] at H
       exact absurd H (by simp)
      rw [if_pos c11] at H
      have c11b0 : decide (x6_2 < (l0_1.length : Int)) = true := decide_eq_true c11
      clear c11
      by_cases c12 : 0 ≤ x5_1
      rotate_left
      ·rw [if_neg c12] at H
       exact absurd H (by simp)
      rw [if_pos c12] at H
      have c12b0 : decide (0 ≤ x5_1) = true := decide_eq_true c12
      clear c12
      by_cases c13 : x5_1 < (l0_1.length : Int)
      rotate_left
      ·rw [if_neg c13] at H
       exact absurd H (by simp)
      rw [if_pos c13] at H
      have c13b0 : decide (x5_1 < (l0_1.length : Int)) = true := decide_eq_true c13
      clear c13
      by_cases c14 : (rd l0_1 x6_2) = (rd l0_1 x5_1)
      ·rw [if_pos c14] at H
       have c14b0 : ((rd l0_1 x6_2) == (rd l0_1 x5_1)) = true := beq_iff_eq.mpr c14
       have c14b1 : ((rd l0_1 x6_2) != (rd l0_1 x5_1)) = false := bne_eq_false_iff_eq.mpr c14
       clear c14
       obtain rfl := Option.some.inj H
       obtain ⟨hcz15_0, hcz15_1, hcz15_2, hfz15_0, hfz15_1, hfz15_2⟩ := ybc BK320.out
       have p323 : 0 ≤ (x6_2 : Int) := of_decide_eq_true (by first | (with_reducible assumption) | assumption)
       have q323 : x6_2 < (l0_1.length : Int) := of_decide_eq_true (by first | (with_reducible assumption) | assumption)
       obtain ⟨ad323, e323, hx323_0⟩ := Kd.at_int HR0_1.out x6_2 p323 q323
       obtain rfl : ad321 = ad323 := (by injection e323)
       replace hx323_0 := (HB.out.cell (World.block_lt_of_cell? w _ hx323_0)).trans hx323_0
       replace p323 := eq_true p323
       replace q323 := eq_true q323
       have p324 : 0 ≤ (x5_1 : Int) := of_decide_eq_true (by first | (with_reducible assumption) | assumption)
       have q324 : x5_1 < (l0_1.length : Int) := of_decide_eq_true (by first | (with_reducible assumption) | assumption)
       obtain ⟨ad324, e324, hx324_0⟩ := Kd.at_int HR0_1.out x5_1 p324 q324
       obtain rfl : ad321 = ad324 := (by injection e324)
       replace hx324_0 := (HB.out.cell (World.block_lt_of_cell? w _ hx324_0)).trans hx324_0
       replace p324 := eq_true p324
       replace q324 := eq_true q324
       go_wp2
       repeat (go_quiet (fail); try go_wp2)
       go_ret
       exact ⟨by first | rfl | (simp [errW_none, errW_some] <;> rfl) | (simp [*, errW_none, errW_some] <;> rfl), by repeat (first | (with_reducible first | exact HB.out | apply yea | apply yen | apply yed | refine below_set ?_ GE320.out) | exact HB.out)⟩
      rw [if_neg c14] at H
      have c14b0 : ((rd l0_1 x6_2) == (rd l0_1 x5_1)) = false := beq_eq_false_iff_ne.mpr c14
      have c14b1 : ((rd l0_1 x6_2) != (rd l0_1 x5_1)) = true := bne_iff_ne.mpr c14
      have H' := yam H
      clear H
      obtain ⟨hcz16_0, hcz16_1, hcz16_2, hfz16_0, hfz16_1, hfz16_2⟩ := ybc BK320.out
      have p323 : 0 ≤ (x6_2 : Int) := of_decide_eq_true (by first | (with_reducible assumption) | assumption)
      have q323 : x6_2 < (l0_1.length : Int) := of_decide_eq_true (by first | (with_reducible assumption) | assumption)
      obtain ⟨ad323, e323, hx323_0⟩ := Kd.at_int HR0_1.out x6_2 p323 q323
      obtain rfl : ad321 = ad323 := (by injection e323)
      replace hx323_0 := (HB.out.cell (World.block_lt_of_cell? w _ hx323_0)).trans hx323_0
      replace p323 := eq_true p323
      replace q323 := eq_true q323
      have p324 : 0 ≤ (x5_1 : Int) := of_decide_eq_true (by first | (with_reducible assumption) | assumption)
      have q324 : x5_1 < (l0_1.length : Int) := of_decide_eq_true (by first | (with_reducible assumption) | assumption)
      obtain ⟨ad324, e324, hx324_0⟩ := Kd.at_int HR0_1.out x5_1 p324 q324
      obtain rfl : ad321 = ad324 := (by injection e324)
      replace hx324_0 := (HB.out.cell (World.block_lt_of_cell? w _ hx324_0)).trans hx324_0
      replace p324 := eq_true p324
      replace q324 := eq_true q324
      go_wp2
      repeat (go_quiet (fail); try go_wp2)
      go_roundg k2
      case measure => have := HK1.out; have := HK2.out; omega
      case rel => exact ⟨(wrap64 (x6_2 + 1)), (by first | rfl | (simp; done) | (simp [*]; done)), H', ⟨by have := HK1.out; have := HK2.out; omega⟩, ⟨by (with_reducible repeat (first | refine ybn ?_ _ | refine ybd ?_ | refine yba ?_ _)); exact BK320.out⟩, ⟨by repeat (first | (with_reducible first | exact HB.out | apply yea | apply yen | apply yed | refine below_set ?_ GE320.out) | exact HB.out)⟩⟩
   rw [if_neg c4] at H
   have c4b0 : decide (x5_1 < (l0_1.length : Int)) = false := decide_eq_false c4
   clear c4
   have HC18 := yam H
   clear H
   obtain ⟨hcz19_0, hcz19_1, hcz19_2, hfz19_0, hfz19_1, hfz19_2⟩ := ybc BK320.out
   go_upto_region 12 with (fail)
   repeat (go_quiet (fail); go_upto_region 12 with (fail))
   go_cut [51] (fun v51 wc => ∃ (kq : Nat) (x51_17 : Bool), v51 = .bool x51_17 ∧ Aside0 (spec_RuleValid.j2 kq a1 (l0_1.length : Int) x51_17 a0_0 l0_1 a0_2 = some r) ∧ Aside0 (kq ≤ k1) ∧ Aside0 (wc.heap[gb320]? = some (.cells #[.int .i64 a0_0, (.slice A0_1 l0_1.length c0_1), .int .i64 a0_2] 73 (0, 0))) ∧ Aside0 (Below w.heap.size w wc))
   case first =>
    have H := HC18.out
    clear HC18
    replace H := Option.bind_eq_some_iff.mp H
    obtain ⟨t325, A200, H⟩ := H
    try dsimp only at H
    have A20 := yam A200
    clear A200
    by_cases c21 : t325 = true
    ·subst c21
     have H1 : (spec_RuleValid.j2 k1 a1 (l0_1.length : Int) (decide ((l0_1.length : Int) > 4)) a0_0 l0_1 a0_2) = some r := by rw [if_pos rfl] at H; exact H
     clear H
     have H := H1
     clear H1
     have H' := yam H
     clear H
     go_wp2_with (first | (go_at_call 42; (with_reducible refine (spec_l1In.calls a1 2 4 true _ A20.out).mono ?_); rintro e w' ⟨rfl, ⟨nd, rfl⟩⟩; (try first | exact ⟨rfl, _, World.drewN_drewN _ _ _⟩ | exact ⟨rfl, _, Eq.trans (World.drewN_drewN _ _ _) (congrArg (World.drewN _) (Nat.add_assoc _ _ _))⟩)))
     repeat (go_quiet (first | (go_at_call 42; (with_reducible refine (spec_l1In.calls a1 2 4 true _ A20.out).mono ?_); rintro e w' ⟨rfl, ⟨nd, rfl⟩⟩; (try first | exact ⟨rfl, _, World.drewN_drewN _ _ _⟩ | exact ⟨rfl, _, Eq.trans (World.drewN_drewN _ _ _) (congrArg (World.drewN _) (Nat.add_assoc _ _ _))⟩))); try go_wp2_with (first | (go_at_call 42; (with_reducible refine (spec_l1In.calls a1 2 4 true _ A20.out).mono ?_); rintro e w' ⟨rfl, ⟨nd, rfl⟩⟩; (try first | exact ⟨rfl, _, World.drewN_drewN _ _ _⟩ | exact ⟨rfl, _, Eq.trans (World.drewN_drewN _ _ _) (congrArg (World.drewN _) (Nat.add_assoc _ _ _))⟩))))
     go_meet
     case rel => exact ⟨_, (decide ((l0_1.length : Int) > 4)), (by first | rfl | (simp; done) | (simp [*]; done)), H', ⟨by have := HK1.out; first | omega | exact Nat.le_refl _⟩, ⟨by (with_reducible repeat (first | refine ybn ?_ _ | refine ybd ?_ | refine yba ?_ _)); exact BK320.out⟩, ⟨by repeat (first | (with_reducible first | exact HB.out | apply yea | apply yen | apply yed | refine below_set ?_ GE320.out) | exact HB.out)⟩⟩
    replace c21 := Bool.eq_false_iff.mpr c21
    subst c21
    have H1 : (spec_RuleValid.j2 k1 a1 (l0_1.length : Int) true a0_0 l0_1 a0_2) = some r := by rw [if_neg (show ¬ (false = true) by decide)] at H; exact H
    clear H
    have H := H1
    clear H1
    have H' := yam H
    clear H
    go_wp2_with (first | (go_at_call 42; (with_reducible refine (spec_l1In.calls a1 2 4 false _ A20.out).mono ?_); rintro e w' ⟨rfl, ⟨nd, rfl⟩⟩; (try first | exact ⟨rfl, _, World.drewN_drewN _ _ _⟩ | exact ⟨rfl, _, Eq.trans (World.drewN_drewN _ _ _) (congrArg (World.drewN _) (Nat.add_assoc _ _ _))⟩)))
    repeat (go_quiet (first | (go_at_call 42; (with_reducible refine (spec_l1In.calls a1 2 4 false _ A20.out).mono ?_); rintro e w' ⟨rfl, ⟨nd, rfl⟩⟩; (try first | exact ⟨rfl, _, World.drewN_drewN _ _ _⟩ | exact ⟨rfl, _, Eq.trans (World.drewN_drewN _ _ _) (congrArg (World.drewN _) (Nat.add_assoc _ _ _))⟩))); try go_wp2_with (first | (go_at_call 42; (with_reducible refine (spec_l1In.calls a1 2 4 false _ A20.out).mono ?_); rintro e w' ⟨rfl, ⟨nd, rfl⟩⟩; (try first | exact ⟨rfl, _, World.drewN_drewN _ _ _⟩ | exact ⟨rfl, _, Eq.trans (World.drewN_drewN _ _ _) (congrArg (World.drewN _) (Nat.add_assoc _ _ _))⟩))))
    go_meet
    case rel => exact ⟨_, (true), (by first | rfl | (simp; done) | (simp [*]; done)), H', ⟨by have := HK1.out; first | omega | exact Nat.le_refl _⟩, ⟨by (with_reducible repeat (first | refine ybn ?_ _ | refine ybd ?_ | refine yba ?_ _)); exact BK320.out⟩, ⟨by repeat (first | (with_reducible first | exact HB.out | apply yea | apply yen | apply yed | refine below_set ?_ GE320.out) | exact HB.out)⟩⟩
   case rest =>
    clear HC18
    try clear c1
    try clear c2
    try clear p2
    try clear p3
    try clear q3
    try clear hx3
    try clear c4
    try clear c4b0
    try clear c5
    try clear c5b0
    try clear p6
    try clear c7
    try clear c8
    try clear c9
    try clear c9b0
    try clear c10
    try clear c10b0
    try clear c11
    try clear c11b0
    try clear c12
    try clear c12b0
    try clear c13
    try clear c13b0
    try clear c14
    try clear c14b0
    try clear c14b1
    try clear c21
    try clear hcz15_0
    try clear hcz15_1
    try clear hcz15_2
    try clear hcz16_0
    try clear hcz16_1
    try clear hcz16_2
    try clear hcz17_0
    try clear hcz17_1
    try clear hcz17_2
    try clear hcz19_0
    try clear hcz19_1
    try clear hcz19_2
    try clear hcz8_0
    try clear hcz8_1
    try clear hcz8_2
    try clear hfz15_0
    try clear hfz15_1
    try clear hfz15_2
    try clear hfz16_0
    try clear hfz16_1
    try clear hfz16_2
    try clear hfz17_0
    try clear hfz17_1
    try clear hfz17_2
    try clear hfz19_0
    try clear hfz19_1
    try clear hfz19_2
    try clear hfz8_0
    try clear hfz8_1
    try clear hfz8_2
    try clear hx321_0
    try clear hx323_0
    try clear hx324_0
    try clear p2
    try clear p3
    try clear p321
    try clear p323
    try clear p324
    try clear p6
    try clear q3
    try clear q321
    try clear q323
    try clear q324
    obtain ⟨kq, x51_17, rfl, HA, HJ17, BK320, HB⟩ := hcut
    cases kq with
    | zero => exact absurd HA.out (by simp [spec_RuleValid.j2])
    | succ kj17 =>
     have H := HA.out
     clear HA
     simp only [spec_RuleValid.j2] at H
     by_cases c22 : x51_17 = true
     ·subst c22
      have H1 : (some false) = some r := by rw [if_pos rfl] at H; exact H
      clear H
      have H := H1
      clear H1
      obtain rfl := Option.some.inj H
      go_wp2
      repeat (go_quiet (fail); try go_wp2)
      go_ret
      exact ⟨by first | rfl | (simp [errW_none, errW_some] <;> rfl) | (simp [*, errW_none, errW_some] <;> rfl), by repeat (first | (with_reducible first | exact HB.out | apply yea | apply yen | apply yed | refine below_set ?_ GE320.out) | exact HB.out)⟩
     replace c22 := Bool.eq_false_iff.mpr c22
     subst c22
     have H1 : (if a0_0 = 1 then (if (l0_1.length : Int) ≥ 2 then (some (a0_2 == 0)) else (some false)) else (if a0_0 = 2 then (spec_RuleValid.j3 kj17 a1 (l0_1.length : Int) a0_0 (a0_0 == 2) a0_0 l0_1 a0_2) else (spec_RuleValid.j3 kj17 a1 (l0_1.length : Int) a0_0 (a0_0 == 3) a0_0 l0_1 a0_2))) = some r := by rw [if_neg (show ¬ (false = true) by decide)] at H; exact H
     clear H
     have H := H1
     clear H1
     by_cases c23 : a0_0 = 1
     ·rw [if_pos c23] at H
      have c23b0 : (a0_0 == 1) = true := beq_iff_eq.mpr c23
      have c23b1 : (a0_0 != 1) = false := bne_eq_false_iff_eq.mpr c23
      clear c23
      by_cases c24 : (l0_1.length : Int) ≥ 2
      ·rw [if_pos c24] at H
       have c24b0 : decide (2 ≤ (l0_1.length : Int)) = true := decide_eq_true c24
       have c24b1 : decide (2 ≤ l0_1.length) = true := decide_eq_true (by omega)
       clear c24
       obtain rfl := Option.some.inj H
       obtain ⟨hcz25_0, hcz25_1, hcz25_2, hfz25_0, hfz25_1, hfz25_2⟩ := ybc BK320.out
       go_wp2
       repeat (go_quiet (fail); try go_wp2)
       go_ret
       exact ⟨by first | rfl | (simp [errW_none, errW_some] <;> rfl) | (simp [*, errW_none, errW_some] <;> rfl), by repeat (first | (with_reducible first | exact HB.out | apply yea | apply yen | apply yed | refine below_set ?_ GE320.out) | exact HB.out)⟩
      rw [if_neg c24] at H
      have c24b0 : decide (2 ≤ (l0_1.length : Int)) = false := decide_eq_false c24
      have c24b1 : decide (2 ≤ l0_1.length) = false := decide_eq_false (by omega)
      clear c24
      obtain rfl := Option.some.inj H
      obtain ⟨hcz26_0, hcz26_1, hcz26_2, hfz26_0, hfz26_1, hfz26_2⟩ := ybc BK320.out
      go_wp2
      repeat (go_quiet (fail); try go_wp2)
      go_ret
      exact ⟨by first | rfl | (simp [errW_none, errW_some] <;> rfl) | (simp [*, errW_none, errW_some] <;> rfl), by repeat (first | (with_reducible first | exact HB.out | apply yea | apply yen | apply yed | refine below_set ?_ GE320.out) | exact HB.out)⟩
     rw [if_neg c23] at H
     have c23b0 : (a0_0 == 1) = false := beq_eq_false_iff_ne.mpr c23
     have c23b1 : (a0_0 != 1) = true := bne_iff_ne.mpr c23
     have HC27 := yam H
     clear H
     obtain ⟨hcz28_0, hcz28_1, hcz28_2, hfz28_0, hfz28_1, hfz28_2⟩ := ybc BK320.out
     go_upto_if 63 with (fail)
     repeat (go_quiet (fail); go_upto_if 63 with (fail))
     go_cut [63] (fun v63 wc => ∃ (kq : Nat) (x63_26 : Bool), v63 = .bool x63_26 ∧ Aside0 (spec_RuleValid.j3 kq a1 (l0_1.length : Int) a0_0 x63_26 a0_0 l0_1 a0_2 = some r) ∧ Aside0 (kq ≤ kj17) ∧ Aside0 (wc.heap[gb320]? = some (.cells #[.int .i64 a0_0, (.slice A0_1 l0_1.length c0_1), .int .i64 a0_2] 73 (0, 0))) ∧ Aside0 (Below w.heap.size w wc))
     case first =>
      have H := HC27.out
      clear HC27
      by_cases c29 : a0_0 = 2
      rotate_left
      ·rw [if_neg c29] at H
       have c29b0 : (a0_0 == 2) = false := beq_eq_false_iff_ne.mpr c29
       have c29b1 : (a0_0 != 2) = true := bne_iff_ne.mpr c29
       (first | rw [c29b0] | (simp only [i64_w, i32_w]; rw [c29b0]) | skip)
       have H' := yam H
       clear H
       go_wp2
       repeat (go_quiet (fail); try go_wp2)
       go_meet
       case rel => exact ⟨_, ((a0_0 == 3)), (by first | rfl | (simp; done) | (simp [*]; done)), H', ⟨by have := HK1.out; have := HJ17.out; first | omega | exact Nat.le_refl _⟩, ⟨by (with_reducible repeat (first | refine ybn ?_ _ | refine ybd ?_ | refine yba ?_ _)); exact BK320.out⟩, ⟨by repeat (first | (with_reducible first | exact HB.out | apply yea | apply yen | apply yed | refine below_set ?_ GE320.out) | exact HB.out)⟩⟩
      rw [if_pos c29] at H
      have c29b0 : (a0_0 == 2) = true := beq_iff_eq.mpr c29
      have c29b1 : (a0_0 != 2) = false := bne_eq_false_iff_eq.mpr c29
      clear c29
      (first | rw [c29b0] | (simp only [i64_w, i32_w]; rw [c29b0]) | skip)
      have H' := yam H
      clear H
      go_wp2
      repeat (go_quiet (fail); try go_wp2)
      go_meet
      case rel => exact ⟨_, ((a0_0 == 2)), (by first | rfl | (simp; done) | (simp [*]; done)), H', ⟨by have := HK1.out; have := HJ17.out; first | omega | exact Nat.le_refl _⟩, ⟨by (with_reducible repeat (first | refine ybn ?_ _ | refine ybd ?_ | refine yba ?_ _)); exact BK320.out⟩, ⟨by repeat (first | (with_reducible first | exact HB.out | apply yea | apply yen | apply yed | refine below_set ?_ GE320.out) | exact HB.out)⟩⟩
     case rest =>
      clear HC27
      try clear c1
      try clear c2
      try clear p2
      try clear p3
      try clear q3
      try clear hx3
      try clear c4
      try clear c4b0
      try clear c5
      try clear c5b0
      try clear p6
      try clear c7
      try clear c8
      try clear c9
      try clear c9b0
      try clear c10
      try clear c10b0
      try clear c11
      try clear c11b0
      try clear c12
      try clear c12b0
      try clear c13
      try clear c13b0
      try clear c14
      try clear c14b0
      try clear c14b1
      try clear c21
      try clear c22
      try clear c23
      try clear c23b0
      try clear c23b1
      try clear c24
      try clear c24b0
      try clear c24b1
      try clear c29
      try clear c29b0
      try clear c29b1
      try clear hcz15_0
      try clear hcz15_1
      try clear hcz15_2
      try clear hcz16_0
      try clear hcz16_1
      try clear hcz16_2
      try clear hcz17_0
      try clear hcz17_1
      try clear hcz17_2
      try clear hcz19_0
      try clear hcz19_1
      try clear hcz19_2
      try clear hcz25_0
      try clear hcz25_1
      try clear hcz25_2
      try clear hcz26_0
      try clear hcz26_1
      try clear hcz26_2
      try clear hcz28_0
      try clear hcz28_1
      try clear hcz28_2
      try clear hcz8_0
      try clear hcz8_1
      try clear hcz8_2
      try clear hfz15_0
      try clear hfz15_1
      try clear hfz15_2
      try clear hfz16_0
      try clear hfz16_1
      try clear hfz16_2
      try clear hfz17_0
      try clear hfz17_1
      try clear hfz17_2
      try clear hfz19_0
      try clear hfz19_1
      try clear hfz19_2
      try clear hfz25_0
      try clear hfz25_1
      try clear hfz25_2
      try clear hfz26_0
      try clear hfz26_1
      try clear hfz26_2
      try clear hfz28_0
      try clear hfz28_1
      try clear hfz28_2
      try clear hfz8_0
      try clear hfz8_1
      try clear hfz8_2
      try clear hx321_0
      try clear hx323_0
      try clear hx324_0
      try clear p2
      try clear p3
      try clear p321
      try clear p323
      try clear p324
      try clear p6
      try clear q3
      try clear q321
      try clear q323
      try clear q324
      obtain ⟨kq, x63_26, rfl, HA, HJ26, BK320, HB⟩ := hcut
      cases kq with
      | zero => exact absurd HA.out (by simp [spec_RuleValid.j3])
      | succ kj26 =>
       have H := HA.out
       clear HA
       simp only [spec_RuleValid.j3] at H
       by_cases c30 : x63_26 = true
       ·subst c30
        have H1 : (if (l0_1.length : Int) ≥ 1 then ((spec_l1In.f a0_2 1 (wrap64 ((wrap64 ((wrap64 (a1 * a1)) * a1)) * a1))).bind fun t326 => (some t326)) else (some false)) = some r := by rw [if_pos rfl] at H; exact H
        clear H
        have H := H1
        clear H1
        by_cases c31 : (l0_1.length : Int) ≥ 1
        rotate_left
        ·rw [if_neg c31] at H
         have c31b0 : decide (1 ≤ (l0_1.length : Int)) = false := decide_eq_false c31
         have c31b1 : decide (1 ≤ l0_1.length) = false := decide_eq_false (by omega)
         clear c31
         obtain rfl := Option.some.inj H
         go_wp2
         repeat (go_quiet (fail); try go_wp2)
         go_ret
         exact ⟨by first | rfl | (simp [errW_none, errW_some] <;> rfl) | (simp [*, errW_none, errW_some] <;> rfl), by repeat (first | (with_reducible first | exact HB.out | apply yea | apply yen | apply yed | refine below_set ?_ GE320.out) | exact HB.out)⟩
        rw [if_pos c31] at H
        have c31b0 : decide (1 ≤ (l0_1.length : Int)) = true := decide_eq_true c31
        have c31b1 : decide (1 ≤ l0_1.length) = true := decide_eq_true (by omega)
        clear c31
        replace H := Option.bind_eq_some_iff.mp H
        obtain ⟨t326, A320, H⟩ := H
        try dsimp only at H
        have A32 := yam A320
        clear A320
        obtain rfl := Option.some.inj H
        obtain ⟨hcz33_0, hcz33_1, hcz33_2, hfz33_0, hfz33_1, hfz33_2⟩ := ybc BK320.out
        have hwq0_ : IntKind.i64.wrap (a1 * a1) = wrap64 (a1 * a1) := i64_w _
        have hwq1_ : IntKind.i64.wrap ((wrap64 (a1 * a1)) * a1) = wrap64 ((wrap64 (a1 * a1)) * a1) := i64_w _
        have hwq2_ : IntKind.i64.wrap ((wrap64 ((wrap64 (a1 * a1)) * a1)) * a1) = wrap64 ((wrap64 ((wrap64 (a1 * a1)) * a1)) * a1) := i64_w _
        go_wp2_with (first | (go_at_call 42; (with_reducible refine (spec_l1In.calls a0_2 1 (wrap64 ((wrap64 ((wrap64 (a1 * a1)) * a1)) * a1)) t326 _ A32.out).mono ?_); rintro e w' ⟨rfl, ⟨nd, rfl⟩⟩; (try first | exact ⟨rfl, _, World.drewN_drewN _ _ _⟩ | exact ⟨rfl, _, Eq.trans (World.drewN_drewN _ _ _) (congrArg (World.drewN _) (Nat.add_assoc _ _ _))⟩)))
        repeat (go_quiet (first | (go_at_call 42; (with_reducible refine (spec_l1In.calls a0_2 1 (wrap64 ((wrap64 ((wrap64 (a1 * a1)) * a1)) * a1)) t326 _ A32.out).mono ?_); rintro e w' ⟨rfl, ⟨nd, rfl⟩⟩; (try first | exact ⟨rfl, _, World.drewN_drewN _ _ _⟩ | exact ⟨rfl, _, Eq.trans (World.drewN_drewN _ _ _) (congrArg (World.drewN _) (Nat.add_assoc _ _ _))⟩))); try go_wp2_with (first | (go_at_call 42; (with_reducible refine (spec_l1In.calls a0_2 1 (wrap64 ((wrap64 ((wrap64 (a1 * a1)) * a1)) * a1)) t326 _ A32.out).mono ?_); rintro e w' ⟨rfl, ⟨nd, rfl⟩⟩; (try first | exact ⟨rfl, _, World.drewN_drewN _ _ _⟩ | exact ⟨rfl, _, Eq.trans (World.drewN_drewN _ _ _) (congrArg (World.drewN _) (Nat.add_assoc _ _ _))⟩))))
        go_ret
        exact ⟨by first | rfl | (simp [errW_none, errW_some] <;> rfl) | (simp [*, errW_none, errW_some] <;> rfl), by repeat (first | (with_reducible first | exact HB.out | apply yea | apply yen | apply yed | refine below_set ?_ GE320.out) | exact HB.out)⟩
       replace c30 := Bool.eq_false_iff.mpr c30
       subst c30
       have H1 : (if a0_0 = 4 then (if (l0_1.length : Int) = 2 then (some (a0_2 == 0)) else (some false)) else (if a0_0 = 5 then (if (l0_1.length : Int) = 2 then ((spec_l1In.f a0_2 0 (wrap64 (a1 - 1))).bind fun t327 => (some t327)) else (some false)) else (some false))) = some r := by rw [if_neg (show ¬ (false = true) by decide)] at H; exact H
       clear H
       have H := H1
       clear H1
       by_cases c34 : a0_0 = 4
       ·rw [if_pos c34] at H
        have c34b0 : (a0_0 == 4) = true := beq_iff_eq.mpr c34
        have c34b1 : (a0_0 != 4) = false := bne_eq_false_iff_eq.mpr c34
        clear c34
        by_cases c35 : (l0_1.length : Int) = 2
        rotate_left
        ·rw [if_neg c35] at H
         have c35b0 : ((l0_1.length : Int) == 2) = false := beq_eq_false_iff_ne.mpr c35
         have c35b1 : ((l0_1.length : Int) != 2) = true := bne_iff_ne.mpr c35
         obtain rfl := Option.some.inj H
         go_wp2
         repeat (go_quiet (fail); try go_wp2)
         go_ret
         exact ⟨by first | rfl | (simp [errW_none, errW_some] <;> rfl) | (simp [*, errW_none, errW_some] <;> rfl), by repeat (first | (with_reducible first | exact HB.out | apply yea | apply yen | apply yed | refine below_set ?_ GE320.out) | exact HB.out)⟩
        rw [if_pos c35] at H
        have c35b0 : ((l0_1.length : Int) == 2) = true := beq_iff_eq.mpr c35
        have c35b1 : ((l0_1.length : Int) != 2) = false := bne_eq_false_iff_eq.mpr c35
        clear c35
        obtain rfl := Option.some.inj H
        obtain ⟨hcz36_0, hcz36_1, hcz36_2, hfz36_0, hfz36_1, hfz36_2⟩ := ybc BK320.out
        go_wp2
        repeat (go_quiet (fail); try go_wp2)
        go_ret
        exact ⟨by first | rfl | (simp [errW_none, errW_some] <;> rfl) | (simp [*, errW_none, errW_some] <;> rfl), by repeat (first | (with_reducible first | exact HB.out | apply yea | apply yen | apply yed | refine below_set ?_ GE320.out) | exact HB.out)⟩
       rw [if_neg c34] at H
       have c34b0 : (a0_0 == 4) = false := beq_eq_false_iff_ne.mpr c34
       have c34b1 : (a0_0 != 4) = true := bne_iff_ne.mpr c34
       by_cases c37 : a0_0 = 5
       rotate_left
       ·rw [if_neg c37] at H
        have c37b0 : (a0_0 == 5) = false := beq_eq_false_iff_ne.mpr c37
        have c37b1 : (a0_0 != 5) = true := bne_iff_ne.mpr c37
        obtain rfl := Option.some.inj H
        go_wp2
        repeat (go_quiet (fail); try go_wp2)
        go_ret
        exact ⟨by first | rfl | (simp [errW_none, errW_some] <;> rfl) | (simp [*, errW_none, errW_some] <;> rfl), by repeat (first | (with_reducible first | exact HB.out | apply yea | apply yen | apply yed | refine below_set ?_ GE320.out) | exact HB.out)⟩

       rw [if_pos c37] at H
       have c37b0 : (a0_0 == 5) = true := beq_iff_eq.mpr c37
       have c37b1 : (a0_0 != 5) = false := bne_eq_false_iff_eq.mpr c37
       clear c37
       by_cases c38 : (l0_1.length : Int) = 2
       rotate_left
       ·rw [if_neg c38] at H
        have c38b0 : ((l0_1.length : Int) == 2) = false := beq_eq_false_iff_ne.mpr c38
        have c38b1 : ((l0_1.length : Int) != 2) = true := bne_iff_ne.mpr c38
        obtain rfl := Option.some.inj H
        go_wp2
        repeat (go_quiet (fail); try go_wp2)
        go_ret
        exact ⟨by first | rfl | (simp [errW_none, errW_some] <;> rfl) | (simp [*, errW_none, errW_some] <;> rfl), by repeat (first | (with_reducible first | exact HB.out | apply yea | apply yen | apply yed | refine below_set ?_ GE320.out) | exact HB.out)⟩
       rw [if_pos c38] at H
       have c38b0 : ((l0_1.length : Int) == 2) = true := beq_iff_eq.mpr c38
       have c38b1 : ((l0_1.length : Int) != 2) = false := bne_eq_false_iff_eq.mpr c38
       clear c38
       replace H := Option.bind_eq_some_iff.mp H
       obtain ⟨t327, A390, H⟩ := H
       try dsimp only at H
       have A39 := yam A390
       clear A390
       obtain rfl := Option.some.inj H
       obtain ⟨hcz40_0, hcz40_1, hcz40_2, hfz40_0, hfz40_1, hfz40_2⟩ := ybc BK320.out
       have hwq0_ : IntKind.i64.wrap (a1 - 1) = wrap64 (a1 - 1) := i64_w _
       go_wp2_with (first | (go_at_call 42; (with_reducible refine (spec_l1In.calls a0_2 0 (wrap64 (a1 - 1)) t327 _ A39.out).mono ?_); rintro e w' ⟨rfl, ⟨nd, rfl⟩⟩; (try first | exact ⟨rfl, _, World.drewN_drewN _ _ _⟩ | exact ⟨rfl, _, Eq.trans (World.drewN_drewN _ _ _) (congrArg (World.drewN _) (Nat.add_assoc _ _ _))⟩)))
       repeat (go_quiet (first | (go_at_call 42; (with_reducible refine (spec_l1In.calls a0_2 0 (wrap64 (a1 - 1)) t327 _ A39.out).mono ?_); rintro e w' ⟨rfl, ⟨nd, rfl⟩⟩; (try first | exact ⟨rfl, _, World.drewN_drewN _ _ _⟩ | exact ⟨rfl, _, Eq.trans (World.drewN_drewN _ _ _) (congrArg (World.drewN _) (Nat.add_assoc _ _ _))⟩))); try go_wp2_with (first | (go_at_call 42; (with_reducible refine (spec_l1In.calls a0_2 0 (wrap64 (a1 - 1)) t327 _ A39.out).mono ?_); rintro e w' ⟨rfl, ⟨nd, rfl⟩⟩; (try first | exact ⟨rfl, _, World.drewN_drewN _ _ _⟩ | exact ⟨rfl, _, Eq.trans (World.drewN_drewN _ _ _) (congrArg (World.drewN _) (Nat.add_assoc _ _ _))⟩))))
       go_ret
       exact ⟨by first | rfl | (simp [errW_none, errW_some] <;> rfl) | (simp [*, errW_none, errW_some] <;> rfl), by repeat (first | (with_reducible first | exact HB.out | apply yea | apply yen | apply yed | refine below_set ?_ GE320.out) | exact HB.out)⟩
/-! ### spec_GridValid: function 84 -/
def spec_GridValid.l0 : Nat → List Int → Int → Int → Option (Bool)
 | 0, _, _, _ => none
 | k + 1, x0, x1, x5 => if x5 < (x0.length : Int) then (if 0 ≤ x5 then ((spec_l1In.f (rd x0 x5) 0 x1).bind fun t329 => (if t329 = true then (spec_GridValid.l0 k x0 x1 (wrap64 (x5 + 1))) else (some false))) else (none)) else ((spec_l1In.f x1 2 4).bind fun t330 => (if t330 = true then (some ((x0.length : Int) == (wrap64 (x1 * x1)))) else (some false)))
def spec_GridValid.f (k : Nat) (l0 : List Int) (a1 : Int) : Option (Bool) := spec_GridValid.l0 k l0 a1 0
set_option maxHeartbeats 8000000 in
set_option maxRecDepth 100000 in
theorem spec_GridValid.calls (k : Nat) (A0 : Option Addr) (c0 : Nat) (l0 : List Int) (a1 : Int) (r : Bool) (w : World) (hr0 : Kd.C (Kd.int .i64) w A0 l0.length l0) (hc0 : l0.length ≤ c0) (h : spec_GridValid.f k l0 a1 = some r) :
  Calls Try.prog 84 #[.slice A0 l0.length c0, .int .i64 a1] w fun e w' => e = .returned (.bool r) ∧ Drawn0 w w' := by
 have HR0 := yam hr0
 have HC0 := yam hc0
 clear hr0 hc0
 have H : (spec_GridValid.l0 k l0 a1 0) = some r := h
 clear h
 have H' := yam H
 clear H
 go_enter Try.func84, Try.ntmps84
 go_wp2
 go_loopg [5] k (fun kq v5 w' => ∃ (x5_1 : Int), v5 = .int .i64 x5_1 ∧ Aside0 (spec_GridValid.l0 kq l0 a1 x5_1 = some r) ∧ Aside0 (kq ≤ k) ∧ Drawn0 w w')
 case atStart => exact ⟨(0), (by first | rfl | (simp; done) | (simp [*]; done)), H', ⟨Nat.le_refl _⟩, by repeat (first | exact Drawn0.refl _ | apply Drawn0.step)⟩
 case round =>
  clear H'
  try clear p2
  obtain ⟨x5_1, rfl, HA, HK1, ⟨m1, rfl⟩⟩ := hrel
  cases gk with
  | zero => exact absurd HA.out (by simp [spec_GridValid.l0])
  | succ k1 =>
   have H := HA.out
   clear HA
   simp only [spec_GridValid.l0] at H
   by_cases c3 : x5_1 < (l0.length : Int)
   rotate_left
   ·rw [if_neg c3] at H
    have c3b0 : decide (x5_1 < (l0.length : Int)) = false := decide_eq_false c3
    clear c3
    replace H := Option.bind_eq_some_iff.mp H
    obtain ⟨t330, A70, H⟩ := H
    try dsimp only at H
    have A7 := yam A70
    clear A70
    by_cases c8 : t330 = true
    ·subst c8
     have H1 : (some ((l0.length : Int) == (wrap64 (a1 * a1)))) = some r := by rw [if_pos rfl] at H; exact H
     clear H
     have H := H1
     clear H1
     obtain rfl := Option.some.inj H
     go_wp2_with (first | ((with_reducible refine gate_callee (f := 42) rfl ?_); refine goesL_ (some 20) rfl rfl Try.func42 (by kernel_rfl) rfl #[.int .i64 a1, .int .i64 2, .int .i64 4] rfl (by (try simp only [List.map_toArray, List.map_cons, List.map_nil]); first | done | rfl | (simp only [List.length_drop, List.length_take]; rfl)) ?_; (with_reducible refine (spec_l1In.calls a1 2 4 true _ A7.out).mono ?_); rintro e w' ⟨rfl, ⟨nd, rfl⟩⟩; refine ⟨_, rfl, ?_⟩))
     go_ret
     exact ⟨by first | rfl | (simp; done) | (simp [*]; done), by repeat (first | exact Drawn0.refl _ | apply Drawn0.step)⟩
    replace c8 := Bool.eq_false_iff.mpr c8
    subst c8
    have H1 : (some false) = some r := by rw [if_neg (show ¬ (false = true) by decide)] at H; exact H
    clear H
    have H := H1
    clear H1
    obtain rfl := Option.some.inj H
    go_wp2_with (first | ((with_reducible refine gate_callee (f := 42) rfl ?_); refine goesL_ (some 20) rfl rfl Try.func42 (by kernel_rfl) rfl #[.int .i64 a1, .int .i64 2, .int .i64 4] rfl (by (try simp only [List.map_toArray, List.map_cons, List.map_nil]); first | done | rfl | (simp only [List.length_drop, List.length_take]; rfl)) ?_; (with_reducible refine (spec_l1In.calls a1 2 4 false _ A7.out).mono ?_); rintro e w' ⟨rfl, ⟨nd, rfl⟩⟩; refine ⟨_, rfl, ?_⟩))
    go_ret
    exact ⟨by first | rfl | (simp; done) | (simp [*]; done), by repeat (first | exact Drawn0.refl _ | apply Drawn0.step)⟩

   rw [if_pos c3] at H
   have c3b0 : decide (x5_1 < (l0.length : Int)) = true := decide_eq_true c3
   clear c3
   by_cases c4 : 0 ≤ x5_1
   rotate_left
   ·rw [if_neg c4] at H
    exact absurd H (by simp)
   rw [if_pos c4] at H
   have c4b0 : decide (0 ≤ x5_1) = true := decide_eq_true c4
   clear c4
   replace H := Option.bind_eq_some_iff.mp H
   obtain ⟨t329, A50, H⟩ := H
   try dsimp only at H
   have A5 := yam A50
   clear A50
   by_cases c6 : t329 = true
   rotate_left
   ·replace c6 := Bool.eq_false_iff.mpr c6
    subst c6
    have H1 : (some false) = some r := by rw [if_neg (show ¬ (false = true) by decide)] at H; exact H
    clear H
    have H := H1
    clear H1
    obtain rfl := Option.some.inj H
    have p328 : 0 ≤ (x5_1 : Int) := of_decide_eq_true (by first | (with_reducible assumption) | assumption)
    have q328 : x5_1 < (l0.length : Int) := of_decide_eq_true (by first | (with_reducible assumption) | assumption)
    obtain ⟨ad328, e328, hx328_0⟩ := Kd.at_int HR0.out x5_1 p328 q328
    cases e328
    replace p328 := eq_true p328
    replace q328 := eq_true q328
    go_wp2_with (first | ((with_reducible refine gate_callee (f := 42) rfl ?_); refine goesL_ (some 17) rfl rfl Try.func42 (by kernel_rfl) rfl #[.int .i64 (rd l0 x5_1), .int .i64 0, .int .i64 a1] rfl (by (try simp only [List.map_toArray, List.map_cons, List.map_nil]); first | done | rfl | (simp only [List.length_drop, List.length_take]; rfl)) ?_; (with_reducible refine (spec_l1In.calls (rd l0 x5_1) 0 a1 false _ A5.out).mono ?_); rintro e w' ⟨rfl, ⟨nd, rfl⟩⟩; refine ⟨_, rfl, ?_⟩))
    go_ret
    exact ⟨by first | rfl | (simp; done) | (simp [*]; done), by repeat (first | exact Drawn0.refl _ | apply Drawn0.step)⟩
   subst c6
   have H1 : (spec_GridValid.l0 k1 l0 a1 (wrap64 (x5_1 + 1))) = some r := by rw [if_pos rfl] at H; exact H
   clear H
   have H := H1
   clear H1
   have H' := yam H
   clear H
   have p328 : 0 ≤ (x5_1 : Int) := of_decide_eq_true (by first | (with_reducible assumption) | assumption)
   have q328 : x5_1 < (l0.length : Int) := of_decide_eq_true (by first | (with_reducible assumption) | assumption)
   obtain ⟨ad328, e328, hx328_0⟩ := Kd.at_int HR0.out x5_1 p328 q328
   cases e328
   replace p328 := eq_true p328
   replace q328 := eq_true q328
   go_wp2_with (first | ((with_reducible refine gate_callee (f := 42) rfl ?_); refine goesL_ (some 17) rfl rfl Try.func42 (by kernel_rfl) rfl #[.int .i64 (rd l0 x5_1), .int .i64 0, .int .i64 a1] rfl (by (try simp only [List.map_toArray, List.map_cons, List.map_nil]); first | done | rfl | (simp only [List.length_drop, List.length_take]; rfl)) ?_; (with_reducible refine (spec_l1In.calls (rd l0 x5_1) 0 a1 true _ A5.out).mono ?_); rintro e w' ⟨rfl, ⟨nd, rfl⟩⟩; refine ⟨_, rfl, ?_⟩))
   go_roundg k1
   case measure => have := HK1.out; omega
   case rel => exact ⟨(wrap64 (x5_1 + 1)), (by first | rfl | (simp; done) | (simp [*]; done)), H', ⟨by have := HK1.out; omega⟩, by repeat (first | exact Drawn0.refl _ | apply Drawn0.step)⟩
end Go.Proofs.Ytmjbnghhfadapaa.P
