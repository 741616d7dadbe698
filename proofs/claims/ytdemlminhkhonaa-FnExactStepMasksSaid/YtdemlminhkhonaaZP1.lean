/- The machine's side: each Go function as a plain Lean function and the proof that the machine's call does what that function says; written by this session's own program over the kit's print. -/
import Derived.ArgAppend
import Derived.Below
import Derived.BigQuiet
import Derived.Deep.AppendLies
import Derived.Deep.CutBlock
import Derived.Deep.DeepCutAuto
import Derived.Deep.Draws
import Derived.Deep.LoopGhost
import Derived.Deep.OwnRows
import Derived.Deep.QuietTactic
import Derived.Deep.RegionHeld3
import Derived.KernelRfl
import Derived.Laws.BitsLemmas
import Derived.Laws.BytesArg
import Derived.Laws.IdiomCopy
import Derived.Laws.MakeOwn
import Derived.Laws.OwnMore
import Derived.Laws.Rows
import Derived.Laws.Slices
import Derived.Lib.AppendStr
import Derived.Lib.ConvBytes
import Derived.Maps.AppendAt
import Derived.OrdersHeld
import Derived.OwnWalk
import Derived.RowKit
import Derived.RowKit3
import Derived.Tactics
import Derived.Test.YtdemlminhkhonaaProg
import Derived.Test.YtdemlminhkhonaaZW
import Derived.WalkKit
import Derived.WideLaws
namespace Go.Proofs.Ytdemlminhkhonaa.P
open Go.RowKit Go.Proofs.YtdemlminhkhonaaW.PrintWords Go.Proofs.YtdemlminhkhonaaW.PrintLast Go.Proofs.YtdemlminhkhonaaW.PrintMore
attribute [local go_sem] max2_int min2_int max_two min_two max_three min_three max_four min_four   -- for this text's walks alone
set_option linter.unusedVariables false
set_option linter.unusedSimpArgs false
def errW : Option Int → Value
 | none => .nilIface
 | some c => .iface 0 (.int .i64 c)
theorem errW_none : errW none = .nilIface := rfl
theorem errW_some (c : Int) : errW (some c) = .iface 0 (.int .i64 c) := rfl

theorem info3 : (Try.prog.info? 3).map (fun i => (i.zero, i.size, i.bytes)) = some (some (.int .i64 0), 1, 8) := by kernel_rfl
theorem info22 : (Try.prog.info? 22).map (fun i => (i.zero, i.size, i.bytes)) = some (some (.slice none 0 0), 1, 24) := by kernel_rfl
theorem info52 : (Try.prog.info? 52).map (fun i => (i.zero, i.size, i.bytes)) = some (some (.agg #[(.int .i64 0), (.int .i64 0)]), 2, 16) := by kernel_rfl
theorem info65 : (Try.prog.info? 65).map (fun i => (i.zero, i.size, i.bytes)) = some (some (.agg #[(.int .i64 0), (.slice none 0 0), (.int .i64 0)]), 3, 40) := by kernel_rfl
theorem info67 : (Try.prog.info? 67).map (fun i => (i.zero, i.size, i.bytes)) = some (some (.agg #[(.int .i64 0), (.slice none 0 0), (.int .i64 0)]), 3, 40) := by kernel_rfl
-- the values' own types
def rd_L1 (xs : List (List Int)) (i : Int) : (List Int) := xs.getD i.toNat ([] : List Int)
theorem at_L1 {w : World} {A : Option Addr} {n : Nat} {xs : List (List Int)} (h : Kd.C (Kd.slice 3 (Kd.int .i64)) w A n xs) (i : Int) (h0 : 0 ≤ i) (h1 : i < n) : ∃ ad A0 c0, A = some ad ∧ w.cell? (ad.add i.toNat) = some (.slice A0 (rd_L1 xs i).length c0) ∧ (rd_L1 xs i).length ≤ c0 ∧ (Kd.int .i64).C w A0 (rd_L1 xs i).length (rd_L1 xs i) := by
 obtain ⟨ad, c, e, _, hK, hc0⟩ := Kd.C_get h ([] : List Int) i h0 h1
 have hc : ∀ j u, c[j]? = some u → w.cell? (ad.add (i.toNat * 1 + j)) = some u := hc0
 obtain ⟨A0, c0, rfl, l0, g0⟩ := hK
 exact ⟨ad, A0, c0, e, by have hq := hc 0 _ rfl; rwa [Nat.mul_one, Nat.add_zero] at hq, l0, g0⟩

structure S65 where
 f0 : Int
 f1 : (List Int)
 f2 : Int
def z65 : S65 := ⟨(0 : Int), ([] : List Int), (0 : Int)⟩
def k65 : Kd S65 := Kd.iso (Kd.pair (Kd.int .i64) (Kd.pair (Kd.slice 3 (Kd.int .i64)) (Kd.int .i64))) (fun x : S65 => (x.f0, x.f1, x.f2))
theorem k65_heap : Kd.Heap k65 := Kd.heap_iso _ (Kd.heap_pair (Kd.heap_int .i64) (Kd.heap_pair (Kd.heap_slice 3 (Kd.heap_int .i64)) (Kd.heap_int .i64)))
theorem k65_open {w : World} {x : S65} {cs : List Value} (h : k65.K w x cs) : ∃ A1 c1, cs = [.int .i64 x.f0, .slice A1 x.f1.length c1, .int .i64 x.f2] ∧ x.f1.length ≤ c1 ∧ (Kd.int .i64).C w A1 x.f1.length x.f1 := by
 obtain ⟨_, _, rfl, rfl, ⟨_, _, rfl, ⟨A1, c1, rfl, l1, g1⟩, rfl⟩⟩ := h
 exact ⟨A1, c1, rfl, l1, g1⟩
theorem k65_openM {w : World} {base : Nat} {ok : Nat → Prop} {x : S65} {cs : List Value} (h : k65.M w base ok x cs) : ∃ v1, cs = [.int .i64 x.f0, v1, .int .i64 x.f2] ∧ (Kd.int .i64).R 3 w base ok v1 x.f1 := by
 obtain ⟨_, _, rfl, rfl, ⟨_, _, rfl, ⟨v1, rfl, g1⟩, rfl⟩⟩ := h
 exact ⟨v1, rfl, g1⟩
theorem k65_mk (w : World) (x : S65) {A1 : Option Addr} {c1 : Nat} (l1 : x.f1.length ≤ c1) (g1 : (Kd.int .i64).C w A1 x.f1.length x.f1) : k65.K w x [.int .i64 x.f0, .slice A1 x.f1.length c1, .int .i64 x.f2] := ⟨[.int .i64 x.f0], [.slice A1 x.f1.length c1, .int .i64 x.f2], rfl, rfl, ⟨[.slice A1 x.f1.length c1], [.int .i64 x.f2], rfl, ⟨A1, c1, rfl, l1, g1⟩, rfl⟩⟩
theorem k65_mkM (w : World) (base : Nat) (ok : Nat → Prop) (x : S65) {v1 : Value} (g1 : (Kd.int .i64).R 3 w base ok v1 x.f1) : k65.M w base ok x [.int .i64 x.f0, v1, .int .i64 x.f2] := ⟨[.int .i64 x.f0], [v1, .int .i64 x.f2], rfl, rfl, ⟨[v1], [.int .i64 x.f2], rfl, ⟨v1, rfl, g1⟩, rfl⟩⟩
def rd_T65 (xs : List S65) (i : Int) : S65 := xs.getD i.toNat z65
theorem at_T65 {w : World} {A : Option Addr} {n : Nat} {xs : List S65} (h : Kd.C k65 w A n xs) (i : Int) (h0 : 0 ≤ i) (h1 : i < n) : ∃ ad A1 c1, A = some ad ∧ w.cell? (ad.add (i.toNat * 3)) = some (.int .i64 (rd_T65 xs i).f0) ∧ w.cell? ⟨(ad.add (i.toNat * 3)).block, (ad.add (i.toNat * 3)).off + 1, none⟩ = some (.slice A1 (rd_T65 xs i).f1.length c1) ∧ w.cell? ⟨(ad.add (i.toNat * 3)).block, (ad.add (i.toNat * 3)).off + 2, none⟩ = some (.int .i64 (rd_T65 xs i).f2) ∧ (rd_T65 xs i).f1.length ≤ c1 ∧ (Kd.int .i64).C w A1 (rd_T65 xs i).f1.length (rd_T65 xs i).f1 := by
 obtain ⟨ad, c, e, _, hK, hc0⟩ := Kd.C_get h z65 i h0 h1
 have hc : ∀ j u, c[j]? = some u → w.cell? (ad.add (i.toNat * 3 + j)) = some u := hc0
 obtain ⟨A1, c1, rfl, l1, g1⟩ := k65_open hK
 exact ⟨ad, A1, c1, e, hc 0 _ rfl, by rw [← add_field _ _ 1 (by omega)]; exact hc 1 _ rfl, by rw [← add_field _ _ 2 (by omega)]; exact hc 2 _ rfl, l1, g1⟩

structure S67 where
 f0 : Int
 f1 : (List Int)
 f2 : Int
def z67 : S67 := ⟨(0 : Int), ([] : List Int), (0 : Int)⟩
def k67 : Kd S67 := Kd.iso (Kd.pair (Kd.int .i64) (Kd.pair (Kd.slice 3 (Kd.int .i64)) (Kd.int .i64))) (fun x : S67 => (x.f0, x.f1, x.f2))
theorem k67_heap : Kd.Heap k67 := Kd.heap_iso _ (Kd.heap_pair (Kd.heap_int .i64) (Kd.heap_pair (Kd.heap_slice 3 (Kd.heap_int .i64)) (Kd.heap_int .i64)))
theorem k67_open {w : World} {x : S67} {cs : List Value} (h : k67.K w x cs) : ∃ A1 c1, cs = [.int .i64 x.f0, .slice A1 x.f1.length c1, .int .i64 x.f2] ∧ x.f1.length ≤ c1 ∧ (Kd.int .i64).C w A1 x.f1.length x.f1 := by
 obtain ⟨_, _, rfl, rfl, ⟨_, _, rfl, ⟨A1, c1, rfl, l1, g1⟩, rfl⟩⟩ := h
 exact ⟨A1, c1, rfl, l1, g1⟩
theorem k67_openM {w : World} {base : Nat} {ok : Nat → Prop} {x : S67} {cs : List Value} (h : k67.M w base ok x cs) : ∃ v1, cs = [.int .i64 x.f0, v1, .int .i64 x.f2] ∧ (Kd.int .i64).R 3 w base ok v1 x.f1 := by
 obtain ⟨_, _, rfl, rfl, ⟨_, _, rfl, ⟨v1, rfl, g1⟩, rfl⟩⟩ := h
 exact ⟨v1, rfl, g1⟩
theorem k67_mk (w : World) (x : S67) {A1 : Option Addr} {c1 : Nat} (l1 : x.f1.length ≤ c1) (g1 : (Kd.int .i64).C w A1 x.f1.length x.f1) : k67.K w x [.int .i64 x.f0, .slice A1 x.f1.length c1, .int .i64 x.f2] := ⟨[.int .i64 x.f0], [.slice A1 x.f1.length c1, .int .i64 x.f2], rfl, rfl, ⟨[.slice A1 x.f1.length c1], [.int .i64 x.f2], rfl, ⟨A1, c1, rfl, l1, g1⟩, rfl⟩⟩
theorem k67_mkM (w : World) (base : Nat) (ok : Nat → Prop) (x : S67) {v1 : Value} (g1 : (Kd.int .i64).R 3 w base ok v1 x.f1) : k67.M w base ok x [.int .i64 x.f0, v1, .int .i64 x.f2] := ⟨[.int .i64 x.f0], [v1, .int .i64 x.f2], rfl, rfl, ⟨[v1], [.int .i64 x.f2], rfl, ⟨v1, rfl, g1⟩, rfl⟩⟩
def rd_T67 (xs : List S67) (i : Int) : S67 := xs.getD i.toNat z67
theorem at_T67 {w : World} {A : Option Addr} {n : Nat} {xs : List S67} (h : Kd.C k67 w A n xs) (i : Int) (h0 : 0 ≤ i) (h1 : i < n) : ∃ ad A1 c1, A = some ad ∧ w.cell? (ad.add (i.toNat * 3)) = some (.int .i64 (rd_T67 xs i).f0) ∧ w.cell? ⟨(ad.add (i.toNat * 3)).block, (ad.add (i.toNat * 3)).off + 1, none⟩ = some (.slice A1 (rd_T67 xs i).f1.length c1) ∧ w.cell? ⟨(ad.add (i.toNat * 3)).block, (ad.add (i.toNat * 3)).off + 2, none⟩ = some (.int .i64 (rd_T67 xs i).f2) ∧ (rd_T67 xs i).f1.length ≤ c1 ∧ (Kd.int .i64).C w A1 (rd_T67 xs i).f1.length (rd_T67 xs i).f1 := by
 obtain ⟨ad, c, e, _, hK, hc0⟩ := Kd.C_get h z67 i h0 h1
 have hc : ∀ j u, c[j]? = some u → w.cell? (ad.add (i.toNat * 3 + j)) = some u := hc0
 obtain ⟨A1, c1, rfl, l1, g1⟩ := k67_open hK
 exact ⟨ad, A1, c1, e, hc 0 _ rfl, by rw [← add_field _ _ 1 (by omega)]; exact hc 1 _ rfl, by rw [← add_field _ _ 2 (by omega)]; exact hc 2 _ rfl, l1, g1⟩

structure S52 where
 f0 : Int
 f1 : Int
def z52 : S52 := ⟨(0 : Int), (0 : Int)⟩
def k52 : Kd S52 := Kd.iso (Kd.pair (Kd.int .i64) (Kd.int .i64)) (fun x : S52 => (x.f0, x.f1))
theorem k52_heap : Kd.Heap k52 := Kd.heap_iso _ (Kd.heap_pair (Kd.heap_int .i64) (Kd.heap_int .i64))
theorem k52_open {w : World} {x : S52} {cs : List Value} (h : k52.K w x cs) : cs = [.int .i64 x.f0, .int .i64 x.f1] := by
 obtain ⟨_, _, rfl, rfl, rfl⟩ := h
 exact rfl
theorem k52_openM {w : World} {base : Nat} {ok : Nat → Prop} {x : S52} {cs : List Value} (h : k52.M w base ok x cs) : cs = [.int .i64 x.f0, .int .i64 x.f1] := by
 obtain ⟨_, _, rfl, rfl, rfl⟩ := h
 exact rfl
theorem k52_mk (w : World) (x : S52)  : k52.K w x [.int .i64 x.f0, .int .i64 x.f1] := ⟨[.int .i64 x.f0], [.int .i64 x.f1], rfl, rfl, rfl⟩
theorem k52_mkM (w : World) (base : Nat) (ok : Nat → Prop) (x : S52)  : k52.M w base ok x [.int .i64 x.f0, .int .i64 x.f1] := ⟨[.int .i64 x.f0], [.int .i64 x.f1], rfl, rfl, rfl⟩
def rd_T52 (xs : List S52) (i : Int) : S52 := xs.getD i.toNat z52
theorem at_T52 {w : World} {A : Option Addr} {n : Nat} {xs : List S52} (h : Kd.C k52 w A n xs) (i : Int) (h0 : 0 ≤ i) (h1 : i < n) : ∃ ad , A = some ad ∧ w.cell? (ad.add (i.toNat * 2)) = some (.int .i64 (rd_T52 xs i).f0) ∧ w.cell? ⟨(ad.add (i.toNat * 2)).block, (ad.add (i.toNat * 2)).off + 1, none⟩ = some (.int .i64 (rd_T52 xs i).f1) := by
 obtain ⟨ad, c, e, _, hK, hc0⟩ := Kd.C_get h z52 i h0 h1
 have hc : ∀ j u, c[j]? = some u → w.cell? (ad.add (i.toNat * 2 + j)) = some u := hc0
 obtain rfl := k52_open hK
 exact ⟨ad, e, hc 0 _ rfl, by rw [← add_field _ _ 1 (by omega)]; exact hc 1 _ rfl⟩

def rd_L6 (xs : List (List S67)) (i : Int) : (List S67) := xs.getD i.toNat ([] : List S67)
theorem at_L6 {w : World} {A : Option Addr} {n : Nat} {xs : List (List S67)} (h : Kd.C (Kd.slice 67 k67) w A n xs) (i : Int) (h0 : 0 ≤ i) (h1 : i < n) : ∃ ad A0 c0, A = some ad ∧ w.cell? (ad.add i.toNat) = some (.slice A0 (rd_L6 xs i).length c0) ∧ (rd_L6 xs i).length ≤ c0 ∧ k67.C w A0 (rd_L6 xs i).length (rd_L6 xs i) := by
 obtain ⟨ad, c, e, _, hK, hc0⟩ := Kd.C_get h ([] : List S67) i h0 h1
 have hc : ∀ j u, c[j]? = some u → w.cell? (ad.add (i.toNat * 1 + j)) = some u := hc0
 obtain ⟨A0, c0, rfl, l0, g0⟩ := hK
 exact ⟨ad, A0, c0, e, by have hq := hc 0 _ rfl; rwa [Nat.mul_one, Nat.add_zero] at hq, l0, g0⟩

def rd_L7 (xs : List (List S65)) (i : Int) : (List S65) := xs.getD i.toNat ([] : List S65)
theorem at_L7 {w : World} {A : Option Addr} {n : Nat} {xs : List (List S65)} (h : Kd.C (Kd.slice 65 k65) w A n xs) (i : Int) (h0 : 0 ≤ i) (h1 : i < n) : ∃ ad A0 c0, A = some ad ∧ w.cell? (ad.add i.toNat) = some (.slice A0 (rd_L7 xs i).length c0) ∧ (rd_L7 xs i).length ≤ c0 ∧ k65.C w A0 (rd_L7 xs i).length (rd_L7 xs i) := by
 obtain ⟨ad, c, e, _, hK, hc0⟩ := Kd.C_get h ([] : List S65) i h0 h1
 have hc : ∀ j u, c[j]? = some u → w.cell? (ad.add (i.toNat * 1 + j)) = some u := hc0
 obtain ⟨A0, c0, rfl, l0, g0⟩ := hK
 exact ⟨ad, A0, c0, e, by have hq := hc 0 _ rfl; rwa [Nat.mul_one, Nat.add_zero] at hq, l0, g0⟩

def rd_L9 (xs : List (List (List Int))) (i : Int) : (List (List Int)) := xs.getD i.toNat ([] : List (List Int))
theorem at_L9 {w : World} {A : Option Addr} {n : Nat} {xs : List (List (List Int))} (h : Kd.C (Kd.slice 22 (Kd.slice 3 (Kd.int .i64))) w A n xs) (i : Int) (h0 : 0 ≤ i) (h1 : i < n) : ∃ ad A0 c0, A = some ad ∧ w.cell? (ad.add i.toNat) = some (.slice A0 (rd_L9 xs i).length c0) ∧ (rd_L9 xs i).length ≤ c0 ∧ (Kd.slice 3 (Kd.int .i64)).C w A0 (rd_L9 xs i).length (rd_L9 xs i) := by
 obtain ⟨ad, c, e, _, hK, hc0⟩ := Kd.C_get h ([] : List (List Int)) i h0 h1
 have hc : ∀ j u, c[j]? = some u → w.cell? (ad.add (i.toNat * 1 + j)) = some u := hc0
 obtain ⟨A0, c0, rfl, l0, g0⟩ := hK
 exact ⟨ad, A0, c0, e, by have hq := hc 0 _ rfl; rwa [Nat.mul_one, Nat.add_zero] at hq, l0, g0⟩
def laws_szIntS.f (l0 : List Int) (a1 : Int) : Option (Int) := if (wrap64 (a1 - (l0.length : Int))) < 0 then (some (-1)) else (some (wrap64 (a1 - (l0.length : Int))))
set_option maxHeartbeats 8000000 in
set_option maxRecDepth 100000 in
theorem laws_szIntS.calls (A0 : Option Addr) (c0 : Nat) (l0 : List Int) (a1 : Int) (r : Int) (w : World) (hr0 : Kd.C (Kd.int .i64) w A0 l0.length l0) (hc0 : l0.length ≤ c0) (h : laws_szIntS.f l0 a1 = some r) :
  Calls Try.prog 32 #[.slice A0 l0.length c0, .int .i64 a1] w fun e w' => e = .returned (.int .i64 r) ∧ Drawn0 w w' := by
 have HR0 := yam hr0
 have HC0 := yam hc0
 clear hr0 hc0
 have H : (if (wrap64 (a1 - (l0.length : Int))) < 0 then (some (-1)) else (some (wrap64 (a1 - (l0.length : Int))))) = some r := h
 clear h
 by_cases c3 : (wrap64 (a1 - (l0.length : Int))) < 0
 ·rw [if_pos c3] at H
  have c3b0 : decide ((wrap64 (a1 - (l0.length : Int))) < 0) = true := decide_eq_true c3
  clear c3
  obtain rfl := Option.some.inj H
  go_enter Try.func32, Try.ntmps32
  go_wp2
  go_ret
  exact ⟨yeq, by repeat (first | exact Drawn0.refl _ | apply Drawn0.step)⟩
 rw [if_neg c3] at H
 have c3b0 : decide ((wrap64 (a1 - (l0.length : Int))) < 0) = false := decide_eq_false c3
 clear c3
 obtain rfl := Option.some.inj H
 go_enter Try.func32, Try.ntmps32
 go_wp2
 go_ret
 exact ⟨yeq, by repeat (first | exact Drawn0.refl _ | apply Drawn0.step)⟩
def laws_szRule.f (a0_0 : Int) (l0_1 : List Int) (a0_2 : Int) (a1 : Int) : Option (Int) := (laws_szIntS.f l0_1 a1).bind fun t102 => (if t102 < 0 then (some (-1)) else (some t102))
set_option maxHeartbeats 8000000 in
set_option maxRecDepth 100000 in
theorem laws_szRule.calls (a0_0 : Int) (A0_1 : Option Addr) (c0_1 : Nat) (l0_1 : List Int) (a0_2 : Int) (a1 : Int) (r : Int) (w : World) (hr0_1 : Kd.C (Kd.int .i64) w A0_1 l0_1.length l0_1) (hc0_1 : l0_1.length ≤ c0_1) (h : laws_szRule.f a0_0 l0_1 a0_2 a1 = some r) :
  Calls Try.prog 65 #[.agg #[.int .i64 a0_0, .slice A0_1 l0_1.length c0_1, .int .i64 a0_2], .int .i64 a1] w fun e w' => e = .returned (.int .i64 r) ∧ Below w.heap.size w w' := by
 have hu65 := Try.underlying65
 have HR0_1 := yam hr0_1
 have HC0_1 := yam hc0_1
 clear hr0_1 hc0_1
 have HB := yam (Below.refl w.heap.size w)
 have H : ((laws_szIntS.f l0_1 a1).bind fun t102 => (if t102 < 0 then (some (-1)) else (some t102))) = some r := h
 clear h
 replace H := Option.bind_eq_some_iff.mp H
 obtain ⟨t102, A30, H⟩ := H
 try dsimp only at H
 have A3 := yam A30
 clear A30
 by_cases c4 : t102 < 0
 ·rw [if_pos c4] at H
  have c4b0 : decide (t102 < 0) = true := decide_eq_true c4
  clear c4
  obtain rfl := Option.some.inj H
  go_enter Try.func65, Try.ntmps65
  go_wp2_with (first | (refine ybe 2 #[.int .i64 a0_0, .slice A0_1 l0_1.length c0_1, .int .i64 a0_2] 65 ?_; intro gb101 hg w5 hbox hb; have n0_ := yam (below_step (yez HB.out) hb); have n1_ := yam (hbox); have n2_ := yam ((by rw [hg]; exact (below_size (yez HB.out)) : w.heap.size ≤ gb101)); have n3_ := n2_; clear HB; have HB := n0_; have BK101 := n1_; have GW101 := n2_; have GE101 := n3_; clear n0_ n1_ n2_ n3_; clear hb hbox hg; obtain ⟨hcz6_0, hcz6_1, hcz6_2, hfz6_0, hfz6_1, hfz6_2⟩ := ybc BK101.out) | (refine goesL_ (some 8) rfl rfl Try.func32 (by kernel_rfl) rfl #[.slice A0_1 l0_1.length c0_1, .int .i64 a1] rfl ymd ?_; (with_reducible refine (laws_szIntS.calls _ _ l0_1 a1 t102 _ ?side1 ?side2 A3.out).mono ?_); (case side1 => exact Kd.Cz ((Kd.C_below HR0_1.out HB.out))); (case side2 => exact HC0_1.out); rintro e w' ⟨rfl, ⟨nd, rfl⟩⟩; refine ⟨_, rfl, ?_⟩))
  go_ret
  exact ⟨yer, yhb⟩
 rw [if_neg c4] at H
 have c4b0 : decide (t102 < 0) = false := decide_eq_false c4
 clear c4
 obtain rfl := Option.some.inj H
 go_enter Try.func65, Try.ntmps65
 go_wp2_with (first | (refine ybe 2 #[.int .i64 a0_0, .slice A0_1 l0_1.length c0_1, .int .i64 a0_2] 65 ?_; intro gb101 hg w7 hbox hb; have n0_ := yam (below_step (yez HB.out) hb); have n1_ := yam (hbox); have n2_ := yam ((by rw [hg]; exact (below_size (yez HB.out)) : w.heap.size ≤ gb101)); have n3_ := n2_; clear HB; have HB := n0_; have BK101 := n1_; have GW101 := n2_; have GE101 := n3_; clear n0_ n1_ n2_ n3_; clear hb hbox hg; obtain ⟨hcz8_0, hcz8_1, hcz8_2, hfz8_0, hfz8_1, hfz8_2⟩ := ybc BK101.out) | (refine goesL_ (some 8) rfl rfl Try.func32 (by kernel_rfl) rfl #[.slice A0_1 l0_1.length c0_1, .int .i64 a1] rfl ymd ?_; (with_reducible refine (laws_szIntS.calls _ _ l0_1 a1 t102 _ ?side1 ?side2 A3.out).mono ?_); (case side1 => exact Kd.Cz ((Kd.C_below HR0_1.out HB.out))); (case side2 => exact HC0_1.out); rintro e w' ⟨rfl, ⟨nd, rfl⟩⟩; refine ⟨_, rfl, ?_⟩))
 go_ret
 exact ⟨yer, yhb⟩
def laws_szRuleS.l0 : Nat → List (S65) → Int → Int → Option (Int)
 | 0, _, _, _ => none
 | k + 1, x0, x1, x5 => if x5 < (x0.length : Int) then (if 0 ≤ x5 then ((laws_szRule.f ((rd_T65 x0 x5).f0) ((rd_T65 x0 x5).f1) ((rd_T65 x0 x5).f2) x1).bind fun t104 => (if t104 < 0 then (some (-1)) else (laws_szRuleS.l0 k x0 t104 (wrap64 (x5 + 1))))) else (none)) else (some x1)
def laws_szRuleS.f (k : Nat) (l0 : List (S65)) (a1 : Int) : Option (Int) := if (wrap64 (a1 - (l0.length : Int))) < 0 then (some (-1)) else (laws_szRuleS.l0 k l0 (wrap64 (a1 - (l0.length : Int))) 0)
set_option maxHeartbeats 8000000 in
set_option maxRecDepth 100000 in
theorem laws_szRuleS.calls (k : Nat) (A0 : Option Addr) (c0 : Nat) (l0 : List (S65)) (a1 : Int) (r : Int) (w : World) (hr0 : Kd.C k65 w A0 l0.length l0) (hc0 : l0.length ≤ c0) (h : laws_szRuleS.f k l0 a1 = some r) :
  Calls Try.prog 33 #[.slice A0 l0.length c0, .int .i64 a1] w fun e w' => e = .returned (.int .i64 r) ∧ Below w.heap.size w w' := by
 have hu65 := Try.underlying65
 have HR0 := yam hr0
 have HC0 := yam hc0
 clear hr0 hc0
 have HB := yam (Below.refl w.heap.size w)
 have H : (if (wrap64 (a1 - (l0.length : Int))) < 0 then (some (-1)) else (laws_szRuleS.l0 k l0 (wrap64 (a1 - (l0.length : Int))) 0)) = some r := h
 clear h
 by_cases c3 : (wrap64 (a1 - (l0.length : Int))) < 0
 ·rw [if_pos c3] at H
  have c3b0 : decide ((wrap64 (a1 - (l0.length : Int))) < 0) = true := decide_eq_true c3
  clear c3
  obtain rfl := Option.some.inj H
  go_enter Try.func33, Try.ntmps33
  go_wp2
  go_ret
  exact ⟨yer, yhb⟩
 rw [if_neg c3] at H
 have c3b0 : decide ((wrap64 (a1 - (l0.length : Int))) < 0) = false := decide_eq_false c3
 clear c3
 have H' := yam H
 clear H
 go_enter Try.func33, Try.ntmps33
 go_wp2
 go_loopg [1, 5] k (fun kq v1 v5 w' => ∃ (x1_1 : Int) (x5_1 : Int), v1 = .int .i64 x1_1 ∧ v5 = .int .i64 x5_1 ∧ Aside0 (laws_szRuleS.l0 kq l0 x1_1 x5_1 = some r) ∧ Aside0 (kq ≤ k) ∧ Aside0 (Below w.heap.size w w'))
 case atStart => exact ⟨(wrap64 (a1 - (l0.length : Int))), (0), yeq, yeq, H', ⟨Nat.le_refl _⟩, ⟨yhb⟩⟩
 case round =>
  clear H'
  try clear p2
  try clear c3
  try clear c3b0
  obtain ⟨x1_1, x5_1, rfl, rfl, HA, HK1, HB⟩ := hrel
  cases gk with
  | zero => exact absurd HA.out (by simp [laws_szRuleS.l0])
  | succ k1 =>
   have H := HA.out
   clear HA
   simp only [laws_szRuleS.l0] at H
   by_cases c4 : x5_1 < (l0.length : Int)
   rotate_left
   ·rw [if_neg c4] at H
    have c4b0 : decide (x5_1 < (l0.length : Int)) = false := decide_eq_false c4
    clear c4
    obtain rfl := Option.some.inj H
    go_wp2
    go_ret
    exact ⟨yer, yhb⟩

   rw [if_pos c4] at H
   have c4b0 : decide (x5_1 < (l0.length : Int)) = true := decide_eq_true c4
   clear c4
   replace H := yif H
   obtain ⟨c5b0, H⟩ := H
   replace H := Option.bind_eq_some_iff.mp H
   obtain ⟨t104, A60, H⟩ := H
   try dsimp only at H
   have A6 := yam A60
   clear A60
   by_cases c7 : t104 < 0
   ·rw [if_pos c7] at H
    have c7b0 : decide (t104 < 0) = true := decide_eq_true c7
    clear c7
    obtain rfl := Option.some.inj H
    have p103 : 0 ≤ (x5_1 : Int) := ydt
    have q103 : x5_1 < (l0.length : Int) := ydt
    obtain ⟨ad103, A103_1, c103_1, e103, hx103_0, hx103_1, hx103_2, hl103_1, hi103_1⟩ := at_T65 HR0.out x5_1 p103 q103
    cases e103
    replace hx103_0 := ybx HB.out hx103_0
    replace hx103_1 := ybx HB.out hx103_1
    replace hx103_2 := ybx HB.out hx103_2
    have HR103_1 := yam hi103_1
    have HC103_1 := yam hl103_1
    clear hi103_1 hl103_1
    replace p103 := eq_true p103
    replace q103 := eq_true q103
    go_wp2_with (first | (refine goesL_ (some 23) rfl rfl Try.func65 (by kernel_rfl) rfl #[.agg #[.int .i64 ((rd_T65 l0 x5_1).f0), .slice A103_1 ((rd_T65 l0 x5_1).f1).length c103_1, .int .i64 ((rd_T65 l0 x5_1).f2)], .int .i64 x1_1] rfl ymd ?_; (with_reducible refine (laws_szRule.calls ((rd_T65 l0 x5_1).f0) _ _ ((rd_T65 l0 x5_1).f1) ((rd_T65 l0 x5_1).f2) x1_1 t104 _ ?side1 ?side2 A6.out).mono ?_); (case side1 => exact Kd.Cz ((Kd.C_below HR103_1.out HB.out))); (case side2 => exact HC103_1.out); rintro e w8 ⟨rfl, hb⟩; refine ⟨_, rfl, ?_⟩; replace HB := yam (below_step (yez HB.out) hb); (try clear hb); (try clear hb2); (try clear hk); (try clear hi)))
    go_ret
    exact ⟨yer, yhb⟩
   rw [if_neg c7] at H
   have c7b0 : decide (t104 < 0) = false := decide_eq_false c7
   clear c7
   have H' := yam H
   clear H
   have p103 : 0 ≤ (x5_1 : Int) := ydt
   have q103 : x5_1 < (l0.length : Int) := ydt
   obtain ⟨ad103, A103_1, c103_1, e103, hx103_0, hx103_1, hx103_2, hl103_1, hi103_1⟩ := at_T65 HR0.out x5_1 p103 q103
   cases e103
   replace hx103_0 := ybx HB.out hx103_0
   replace hx103_1 := ybx HB.out hx103_1
   replace hx103_2 := ybx HB.out hx103_2
   have HR103_1 := yam hi103_1
   have HC103_1 := yam hl103_1
   clear hi103_1 hl103_1
   replace p103 := eq_true p103
   replace q103 := eq_true q103
   go_wp2_with (first | (refine goesL_ (some 23) rfl rfl Try.func65 (by kernel_rfl) rfl #[.agg #[.int .i64 ((rd_T65 l0 x5_1).f0), .slice A103_1 ((rd_T65 l0 x5_1).f1).length c103_1, .int .i64 ((rd_T65 l0 x5_1).f2)], .int .i64 x1_1] rfl ymd ?_; (with_reducible refine (laws_szRule.calls ((rd_T65 l0 x5_1).f0) _ _ ((rd_T65 l0 x5_1).f1) ((rd_T65 l0 x5_1).f2) x1_1 t104 _ ?side1 ?side2 A6.out).mono ?_); (case side1 => exact Kd.Cz ((Kd.C_below HR103_1.out HB.out))); (case side2 => exact HC103_1.out); rintro e w9 ⟨rfl, hb⟩; refine ⟨_, rfl, ?_⟩; replace HB := yam (below_step (yez HB.out) hb); (try clear hb); (try clear hb2); (try clear hk); (try clear hi)))
   go_roundg k1
   case measure => have := HK1.out; omega
   case rel => exact ⟨(t104), (wrap64 (x5_1 + 1)), yeq, yeq, H', ⟨by have := HK1.out; omega⟩, ⟨yhb⟩⟩
def laws_szPuzzle.f (k : Nat) (a0_0 : Int) (l0_1 : List Int) (l0_2 : List (S65)) (a1 : Int) : Option (Int) := (laws_szIntS.f l0_1 a1).bind fun t106 => (if t106 < 0 then (some (-1)) else ((laws_szRuleS.f k l0_2 t106).bind fun t107 => (if t107 < 0 then (some (-1)) else (some t107))))
set_option maxHeartbeats 8000000 in
set_option maxRecDepth 100000 in
theorem laws_szPuzzle.calls (k : Nat) (a0_0 : Int) (A0_1 : Option Addr) (c0_1 : Nat) (l0_1 : List Int) (A0_2 : Option Addr) (c0_2 : Nat) (l0_2 : List (S65)) (a1 : Int) (r : Int) (w : World) (hr0_1 : Kd.C (Kd.int .i64) w A0_1 l0_1.length l0_1) (hc0_1 : l0_1.length ≤ c0_1) (hr0_2 : Kd.C k65 w A0_2 l0_2.length l0_2) (hc0_2 : l0_2.length ≤ c0_2) (h : laws_szPuzzle.f k a0_0 l0_1 l0_2 a1 = some r) :
  Calls Try.prog 9 #[.agg #[.int .i64 a0_0, .slice A0_1 l0_1.length c0_1, .slice A0_2 l0_2.length c0_2], .int .i64 a1] w fun e w' => e = .returned (.int .i64 r) ∧ Below w.heap.size w w' := by
 have hu25 := Try.underlying25
 have HR0_1 := yam hr0_1
 have HC0_1 := yam hc0_1
 clear hr0_1 hc0_1
 have HR0_2 := yam hr0_2
 have HC0_2 := yam hc0_2
 clear hr0_2 hc0_2
 have HB := yam (Below.refl w.heap.size w)
 have H : ((laws_szIntS.f l0_1 a1).bind fun t106 => (if t106 < 0 then (some (-1)) else ((laws_szRuleS.f k l0_2 t106).bind fun t107 => (if t107 < 0 then (some (-1)) else (some t107))))) = some r := h
 clear h
 replace H := Option.bind_eq_some_iff.mp H
 obtain ⟨t106, A30, H⟩ := H
 try dsimp only at H
 have A3 := yam A30
 clear A30
 by_cases c4 : t106 < 0
 ·rw [if_pos c4] at H
  have c4b0 : decide (t106 < 0) = true := decide_eq_true c4
  clear c4
  obtain rfl := Option.some.inj H
  go_enter Try.func9, Try.ntmps9
  go_wp2_with (first | (refine ybe 2 #[.int .i64 a0_0, .slice A0_1 l0_1.length c0_1, .slice A0_2 l0_2.length c0_2] 25 ?_; intro gb105 hg w5 hbox hb; have n0_ := yam (below_step (yez HB.out) hb); have n1_ := yam (hbox); have n2_ := yam ((by rw [hg]; exact (below_size (yez HB.out)) : w.heap.size ≤ gb105)); have n3_ := n2_; clear HB; have HB := n0_; have BK105 := n1_; have GW105 := n2_; have GE105 := n3_; clear n0_ n1_ n2_ n3_; clear hb hbox hg; obtain ⟨hcz6_0, hcz6_1, hcz6_2, hfz6_0, hfz6_1, hfz6_2⟩ := ybc BK105.out) | (refine goesL_ (some 8) rfl rfl Try.func32 (by kernel_rfl) rfl #[.slice A0_1 l0_1.length c0_1, .int .i64 a1] rfl ymd ?_; (with_reducible refine (laws_szIntS.calls _ _ l0_1 a1 t106 _ ?side1 ?side2 A3.out).mono ?_); (case side1 => exact Kd.Cz ((Kd.C_below HR0_1.out HB.out))); (case side2 => exact HC0_1.out); rintro e w' ⟨rfl, ⟨nd, rfl⟩⟩; refine ⟨_, rfl, ?_⟩))
  go_ret
  exact ⟨yer, yhb⟩
 rw [if_neg c4] at H
 have c4b0 : decide (t106 < 0) = false := decide_eq_false c4
 clear c4
 replace H := Option.bind_eq_some_iff.mp H
 obtain ⟨t107, A70, H⟩ := H
 try dsimp only at H
 have A7 := yam A70
 clear A70
 by_cases c8 : t107 < 0
 ·rw [if_pos c8] at H
  have c8b0 : decide (t107 < 0) = true := decide_eq_true c8
  clear c8
  obtain rfl := Option.some.inj H
  go_enter Try.func9, Try.ntmps9
  go_wp2_with (first | (refine ybe 2 #[.int .i64 a0_0, .slice A0_1 l0_1.length c0_1, .slice A0_2 l0_2.length c0_2] 25 ?_; intro gb105 hg w9 hbox hb; have n0_ := yam (below_step (yez HB.out) hb); have n1_ := yam (hbox); have n2_ := yam ((by rw [hg]; exact (below_size (yez HB.out)) : w.heap.size ≤ gb105)); have n3_ := n2_; clear HB; have HB := n0_; have BK105 := n1_; have GW105 := n2_; have GE105 := n3_; clear n0_ n1_ n2_ n3_; clear hb hbox hg; obtain ⟨hcz10_0, hcz10_1, hcz10_2, hfz10_0, hfz10_1, hfz10_2⟩ := ybc BK105.out) | (refine goesL_ (some 8) rfl rfl Try.func32 (by kernel_rfl) rfl #[.slice A0_1 l0_1.length c0_1, .int .i64 a1] rfl ymd ?_; (with_reducible refine (laws_szIntS.calls _ _ l0_1 a1 t106 _ ?side1 ?side2 A3.out).mono ?_); (case side1 => exact Kd.Cz ((Kd.C_below HR0_1.out HB.out))); (case side2 => exact HC0_1.out); rintro e w' ⟨rfl, ⟨nd, rfl⟩⟩; refine ⟨_, rfl, ?_⟩) | (refine goesL_ (some 14) rfl rfl Try.func33 (by kernel_rfl) rfl #[.slice A0_2 l0_2.length c0_2, .int .i64 t106] rfl ymd ?_; (with_reducible refine (laws_szRuleS.calls k _ _ l0_2 t106 t107 _ ?side1 ?side2 A7.out).mono ?_); (case side1 => repeat (first | exact (Kd.C_below HR0_2.out yhb) | (with_reducible refine Kd.C_alloc ?_ _) | (with_reducible refine Kd.C_drewN ?_ _) | (with_reducible refine Kd.C_drew ?_))); (case side2 => exact HC0_2.out); rintro e w11 ⟨rfl, hb⟩; refine ⟨_, rfl, ?_⟩; replace BK105 := yam (blk_below (g := gb105) (o := .cells #[.int .i64 a0_0, .slice A0_1 l0_1.length c0_1, .slice A0_2 l0_2.length c0_2] 25 (0, 0)) (ybz BK105.out) hb); replace HB := yam (below_step yhb hb); (try clear hb); (try clear hb2); (try clear hk); (try clear hi)))
  go_ret
  exact ⟨yer, yhb⟩
 rw [if_neg c8] at H
 have c8b0 : decide (t107 < 0) = false := decide_eq_false c8
 clear c8
 obtain rfl := Option.some.inj H
 go_enter Try.func9, Try.ntmps9
 go_wp2_with (first | (refine ybe 2 #[.int .i64 a0_0, .slice A0_1 l0_1.length c0_1, .slice A0_2 l0_2.length c0_2] 25 ?_; intro gb105 hg w12 hbox hb; have n0_ := yam (below_step (yez HB.out) hb); have n1_ := yam (hbox); have n2_ := yam ((by rw [hg]; exact (below_size (yez HB.out)) : w.heap.size ≤ gb105)); have n3_ := n2_; clear HB; have HB := n0_; have BK105 := n1_; have GW105 := n2_; have GE105 := n3_; clear n0_ n1_ n2_ n3_; clear hb hbox hg; obtain ⟨hcz13_0, hcz13_1, hcz13_2, hfz13_0, hfz13_1, hfz13_2⟩ := ybc BK105.out) | (refine goesL_ (some 8) rfl rfl Try.func32 (by kernel_rfl) rfl #[.slice A0_1 l0_1.length c0_1, .int .i64 a1] rfl ymd ?_; (with_reducible refine (laws_szIntS.calls _ _ l0_1 a1 t106 _ ?side1 ?side2 A3.out).mono ?_); (case side1 => exact Kd.Cz ((Kd.C_below HR0_1.out HB.out))); (case side2 => exact HC0_1.out); rintro e w' ⟨rfl, ⟨nd, rfl⟩⟩; refine ⟨_, rfl, ?_⟩) | (refine goesL_ (some 14) rfl rfl Try.func33 (by kernel_rfl) rfl #[.slice A0_2 l0_2.length c0_2, .int .i64 t106] rfl ymd ?_; (with_reducible refine (laws_szRuleS.calls k _ _ l0_2 t106 t107 _ ?side1 ?side2 A7.out).mono ?_); (case side1 => repeat (first | exact (Kd.C_below HR0_2.out yhb) | (with_reducible refine Kd.C_alloc ?_ _) | (with_reducible refine Kd.C_drewN ?_ _) | (with_reducible refine Kd.C_drew ?_))); (case side2 => exact HC0_2.out); rintro e w14 ⟨rfl, hb⟩; refine ⟨_, rfl, ?_⟩; replace BK105 := yam (blk_below (g := gb105) (o := .cells #[.int .i64 a0_0, .slice A0_1 l0_1.length c0_1, .slice A0_2 l0_2.length c0_2] 25 (0, 0)) (ybz BK105.out) hb); replace HB := yam (below_step yhb hb); (try clear hb); (try clear hb2); (try clear hk); (try clear hi)))
 go_ret
 exact ⟨yer, yhb⟩
def laws_toIntS.l0 : Nat → List Int → List Int → Int → Option (List Int)
 | 0, _, _, _ => none
 | k + 1, x0, x3, x4 => if x4 < (x0.length : Int) then (if 0 ≤ x4 then (if x4 < (x3.length : Int) then (laws_toIntS.l0 k x0 (x3.set (x4 : Int).toNat (rd x0 x4)) (wrap64 (x4 + 1))) else (none)) else (none)) else (some x3)
def laws_toIntS.f (k : Nat) (l0 : List Int) : Option (List Int) := if 0 ≤ (l0.length : Int) then (if ((l0.length : Int) : Int).toNat ≤ 35184372088832 then (laws_toIntS.l0 k l0 (List.replicate ((l0.length : Int) : Int).toNat 0) 0) else (none)) else (none)
set_option maxHeartbeats 8000000 in
set_option maxRecDepth 100000 in
theorem laws_toIntS.calls (k : Nat) (A0 : Option Addr) (c0 : Nat) (l0 : List Int) (r : List Int) (w : World) (hr0 : Kd.C (Kd.int .i64) w A0 l0.length l0) (hc0 : l0.length ≤ c0) (h : laws_toIntS.f k l0 = some r) :
  Calls Try.prog 26 #[.slice A0 l0.length c0] w fun e w' => ∃ v0_ : Value, e = .returned (v0_) ∧ Kd.R (Kd.int .i64) 3 w' w.heap.size (fun _ => True) v0_ r ∧ Below w.heap.size w w' := by
 have HR0 := yam hr0
 have HC0 := yam hc0
 clear hr0 hc0
 have HB := yam (Below.refl w.heap.size w)
 have H : (if 0 ≤ (l0.length : Int) then (if ((l0.length : Int) : Int).toNat ≤ 35184372088832 then (laws_toIntS.l0 k l0 (List.replicate ((l0.length : Int) : Int).toNat 0) 0) else (none)) else (none)) = some r := h
 clear h
 by_cases c2 : 0 ≤ (l0.length : Int)
 rotate_left
 ·rw [if_neg c2] at H
  exact absurd H (by simp)

 rw [if_pos c2] at H
 have c2b0 := eq_true c2
 have c2b1 : decide (0 ≤ (l0.length : Int)) = true := decide_eq_true c2
 clear c2
 replace H := yig H
 obtain ⟨c3, H⟩ := H
 have c3b0 := eq_true c3
 have c3b1 : decide (((l0.length : Int) : Int).toNat ≤ 35184372088832) = true := decide_eq_true c3
 clear c3
 obtain ⟨y343, hy343⟩ : ∃ y_ : List Int, y_ = (List.replicate ((l0.length : Int) : Int).toNat 0) := ⟨_, rfl⟩
 replace H : (laws_toIntS.l0 k l0 y343 0) = some r := by first | (rw [hy343]; with_reducible exact H) | (have H2_ := (Option.bind_some _ _).symm.trans H; rw [hy343]; with_reducible exact H2_) | (have H2_ := (Option.bind_some _ _).symm.trans H; with_reducible exact H2_) | with_reducible exact H | (rw [hy343]; exact H) | exact H
 have Ny343 := yam hy343
 clear hy343
 have H' := yam H
 clear H
 go_enter Try.func26, Try.ntmps26
 go_wp2_with (first | ((with_reducible refine gate_dst (N := 7) rfl ?_); refine Kd.R_make (Kd.int .i64) _ 3 rfl (N := 7) rfl 22 _ _ rfl (l0.length : Int) rfl rfl Try.underlying22 (.int .i64 0) 8 info3 rfl (by decide) (by omega) 0 (ok := fun _ => True) (okp := fun _ => True) rfl (fun _ hk => hk) trivial (ydt) (Nat.le_trans (Nat.mul_le_mul_right _ (ydt : (l0.length : Int).toNat ≤ 35184372088832)) (by omega)) (Below.refl _ _) (Nat.le_refl _) ?_; intro v344 w4 ho5 hb hg_ hnew_; clear hg_ hnew_; (first | rw [← Ny343.out] at ho5 | (simp only [Int.reduceToNat] at ho5; rw [← Ny343.out] at ho5)); have HO345 := yam (Kd.R_lower ho5 (below_size (yez HB.out))); replace HB := yam (below_step (yez HB.out) hb); clear hb ho5))
 go_loopg [4] k (fun kq v4 w' => ∃ (x3_1 : List Int) (x4_1 : Int), v4 = .int .i64 x4_1 ∧ Aside0 (laws_toIntS.l0 kq l0 x3_1 x4_1 = some r) ∧ Aside0 (kq ≤ k) ∧ Aside0 (Kd.R (Kd.int .i64) 3 w' w.heap.size (fun _ => True) v344 x3_1) ∧ Aside0 (Below w.heap.size w w'))
 case atStart => exact ⟨(y343), (0), yeq, H', ⟨Nat.le_refl _⟩, ⟨yka HO345.out⟩, ⟨yhb⟩⟩
 case round =>
  clear H'
  try clear c2
  try clear c2b0
  try clear c2b1
  try clear p2
  try clear c3
  try clear c3b0
  try clear c3b1
  obtain ⟨x3_1, x4_1, rfl, HA, HK1, HO_3, HB⟩ := hrel
  cases gk with
  | zero => exact absurd HA.out (by simp [laws_toIntS.l0])
  | succ k1 =>
   have H := HA.out
   clear HA
   simp only [laws_toIntS.l0] at H
   by_cases c6 : x4_1 < (l0.length : Int)
   rotate_left
   ·rw [if_neg c6] at H
    have c6b0 : decide (x4_1 < (l0.length : Int)) = false := decide_eq_false c6
    clear c6
    obtain rfl := Option.some.inj H
    go_wp2
    go_ret
    exact ⟨_, yer, yka HO_3.out, yhb⟩
   rw [if_pos c6] at H
   have c6b0 : decide (x4_1 < (l0.length : Int)) = true := decide_eq_true c6
   clear c6
   replace H := yif H
   obtain ⟨c7b0, H⟩ := H
   replace H := yif H
   obtain ⟨c8b0, H⟩ := H
   obtain ⟨y347, hy347⟩ : ∃ y_ : List Int, y_ = (x3_1.set (x4_1 : Int).toNat (rd l0 x4_1)) := ⟨_, rfl⟩
   replace H : (laws_toIntS.l0 k1 l0 y347 (wrap64 (x4_1 + 1))) = some r := by first | (rw [hy347]; with_reducible exact H) | (have H2_ := (Option.bind_some _ _).symm.trans H; rw [hy347]; with_reducible exact H2_) | (have H2_ := (Option.bind_some _ _).symm.trans H; with_reducible exact H2_) | with_reducible exact H | (rw [hy347]; exact H) | exact H
   have Ny347 := yam hy347
   clear hy347
   have H' := yam H
   clear H
   have p346 : 0 ≤ (x4_1 : Int) := ydt
   have q346 : x4_1 < (l0.length : Int) := ydt
   obtain ⟨ad346, e346, hx346_0⟩ := Kd.at_int HR0.out x4_1 p346 q346
   cases e346
   replace hx346_0 := ybx HB.out hx346_0
   replace p346 := eq_true p346
   replace q346 := eq_true q346
   have p9 : 0 ≤ (x4_1 : Int) := ydt
   have q9 : (x4_1 : Int) < ((x3_1.length : Int) : Int) := ydt
   obtain ⟨go9, co9, eo9, gb9, gl9, cl9, HG9⟩ := Kd.R_form HO_3.out (by omega)
   (first | cases eo9 | (injection eo9 with ea_ en_ ec_; (first | subst ea_ | (injection ea_ with ea_; subst ea_)); subst ec_; clear en_))
   have GB9 := yam gb9
   have GG9 := yam HG9
   clear gb9 gl9 HG9
   obtain ⟨hx9_0, hf9_0⟩ := Kd.R_celln 0 HO_3.out (x4_1 : Int) p9 q9
   replace p9 := eq_true p9
   replace q9 := eq_true q9
   have HP10 := Kd.R_putg HO_3.out (x4_1 : Int) (rd l0 x4_1)
   go_wp2_with (first | ((with_reducible refine gate_store (t := 3) (p := 20) rfl ?_); refine store_event (t := 3) (p := 20) (v := ?vo_w11) (w1 := (wr.setCell ⟨go9, (x4_1 : Int).toNat, none⟩ (.int .i64 (rd l0 x4_1)))) ?hg ?ho ?hn ?hr ?_; (case ho => rfl); (case hg => rfl); (case hn => rfl); (case hr => first | (go_simp; done) | (go_simp; rfl)); intro w11 hw; have hg : wr.grownBy w11 (some go9) := (by rw [hw]; exact HP10.2); have hp_ : Kd.R (Kd.int .i64) 3 w11 w.heap.size (fun _ => True) (.slice (some ⟨go9, 0, none⟩) x3_1.length co9) y347 := (by rw [hw, Ny347.out]; exact HP10.1); clear HP10; replace HO_3 := yam (hp_); replace HB := yam ((by rw [hw]; exact below_set (HB.out) GB9.out : Below w.heap.size w w11)); clear hg hw hp_))
   go_roundg k1
   case measure => have := HK1.out; omega
   case rel => exact ⟨(y347), (wrap64 (x4_1 + 1)), yeq, H', ⟨by have := HK1.out; omega⟩, ⟨yka HO_3.out⟩, ⟨yhb⟩⟩
def laws_toRule.f (k : Nat) (a0_0 : Int) (l0_1 : List Int) (a0_2 : Int) : Option (Int × List Int × Int) := (laws_toIntS.f k l0_1).bind fun t351 => (some (a0_0, t351, a0_2))
set_option maxHeartbeats 8000000 in
set_option maxRecDepth 100000 in
theorem laws_toRule.calls (k : Nat) (a0_0 : Int) (A0_1 : Option Addr) (c0_1 : Nat) (l0_1 : List Int) (a0_2 : Int) (r1 : Int) (r2 : List Int) (r3 : Int) (w : World) (hr0_1 : Kd.C (Kd.int .i64) w A0_1 l0_1.length l0_1) (hc0_1 : l0_1.length ≤ c0_1) (h : laws_toRule.f k a0_0 l0_1 a0_2 = some (r1, r2, r3)) :
  Calls Try.prog 68 #[.agg #[.int .i64 a0_0, .slice A0_1 l0_1.length c0_1, .int .i64 a0_2]] w fun e w' => ∃ v1_ : Value, e = .returned (.agg #[.int .i64 r1, v1_, .int .i64 r3]) ∧ Kd.R (Kd.int .i64) 3 w' w.heap.size (fun _ => True) v1_ r2 ∧ Below w.heap.size w w' := by
 have hu65 := Try.underlying65
 have hu67 := Try.underlying67
 have HR0_1 := yam hr0_1
 have HC0_1 := yam hc0_1
 clear hr0_1 hc0_1
 have HB := yam (Below.refl w.heap.size w)
 have H : ((laws_toIntS.f k l0_1).bind fun t351 => (some (a0_0, t351, a0_2))) = some (r1, r2, r3) := h
 clear h
 replace H := Option.bind_eq_some_iff.mp H
 obtain ⟨t351, A20, H⟩ := H
 replace H : (some (a0_0, t351, a0_2)) = some (r1, r2, r3) := H
 have A2 := yam A20
 clear A20
 simp only [Option.some.injEq, Prod.mk.injEq] at H
 obtain ⟨rfl, rfl, rfl⟩ := H
 go_enter Try.func68, Try.ntmps68
 go_wp2_with (first | (refine ybe 1 #[.int .i64 a0_0, .slice A0_1 l0_1.length c0_1, .int .i64 a0_2] 65 ?_; intro gb348 hg w3 hbox hb; have n0_ := yam (below_step (yez HB.out) hb); have n1_ := yam (hbox); have n2_ := yam ((by rw [hg]; exact (below_size (yez HB.out)) : w.heap.size ≤ gb348)); have n3_ := n2_; clear HB; have HB := n0_; have BK348 := n1_; have GW348 := n2_; have GE348 := n3_; clear n0_ n1_ n2_ n3_; clear hb hbox hg) | (refine ybe 2 #[.int .i64 0, .slice none 0 0, .int .i64 0] 67 ?_; intro gb349 hg w4 hbox hb; have n0_ := yam (blk_below (g := gb348) (o := .cells #[.int .i64 a0_0, .slice A0_1 l0_1.length c0_1, .int .i64 a0_2] 65 (0, 0)) (ybz BK348.out) hb); have n1_ := yam (below_step yhb hb); have n2_ := yam (hbox); have n3_ := yam ((by rw [hg]; exact (below_size yhb) : w.heap.size ≤ gb349)); have n4_ := n3_; have n5_ := yam ((by rw [hg]; exact Nat.ne_of_lt (blk_lt (g := gb348) (o := .cells #[.int .i64 a0_0, .slice A0_1 l0_1.length c0_1, .int .i64 a0_2] 65 (0, 0)) (ybz BK348.out)) : gb348 ≠ gb349)); have n6_ := yam ((by rw [hg]; exact Nat.ne_of_gt (blk_lt (g := gb348) (o := .cells #[.int .i64 a0_0, .slice A0_1 l0_1.length c0_1, .int .i64 a0_2] 65 (0, 0)) (ybz BK348.out)) : gb349 ≠ gb348)); clear BK348; clear HB; have BK348 := n0_; have HB := n1_; have BK349 := n2_; have GW349 := n3_; have GE349 := n4_; have NB348_349 := n5_; have NB349_348 := n6_; clear n0_ n1_ n2_ n3_ n4_ n5_ n6_; clear hb hbox hg) | (refine ybe 3 #[.int .i64 0, .slice none 0 0, .int .i64 0] 67 ?_; intro gb350 hg w5 hbox hb; have n0_ := yam (blk_below (g := gb348) (o := .cells #[.int .i64 a0_0, .slice A0_1 l0_1.length c0_1, .int .i64 a0_2] 65 (0, 0)) (ybz BK348.out) hb); have n1_ := yam (blk_below (g := gb349) (o := .cells #[.int .i64 0, .slice none 0 0, .int .i64 0] 67 (0, 0)) (ybz BK349.out) hb); have n2_ := yam (below_step yhb hb); have n3_ := yam (hbox); have n4_ := yam ((by rw [hg]; exact (below_size yhb) : w.heap.size ≤ gb350)); have n5_ := n4_; have n6_ := yam ((by rw [hg]; exact Nat.ne_of_lt (blk_lt (g := gb348) (o := .cells #[.int .i64 a0_0, .slice A0_1 l0_1.length c0_1, .int .i64 a0_2] 65 (0, 0)) (ybz BK348.out)) : gb348 ≠ gb350)); have n7_ := yam ((by rw [hg]; exact Nat.ne_of_gt (blk_lt (g := gb348) (o := .cells #[.int .i64 a0_0, .slice A0_1 l0_1.length c0_1, .int .i64 a0_2] 65 (0, 0)) (ybz BK348.out)) : gb350 ≠ gb348)); have n8_ := yam ((by rw [hg]; exact Nat.ne_of_lt (blk_lt (g := gb349) (o := .cells #[.int .i64 0, .slice none 0 0, .int .i64 0] 67 (0, 0)) (ybz BK349.out)) : gb349 ≠ gb350)); have n9_ := yam ((by rw [hg]; exact Nat.ne_of_gt (blk_lt (g := gb349) (o := .cells #[.int .i64 0, .slice none 0 0, .int .i64 0] 67 (0, 0)) (ybz BK349.out)) : gb350 ≠ gb349)); clear BK348; clear BK349; clear HB; have BK348 := n0_; have BK349 := n1_; have HB := n2_; have BK350 := n3_; have GW350 := n4_; have GE350 := n5_; have NB348_350 := n6_; have NB350_348 := n7_; have NB349_350 := n8_; have NB350_349 := n9_; clear n0_ n1_ n2_ n3_ n4_ n5_ n6_ n7_ n8_ n9_; clear hb hbox hg; have hnb6 := NB348_349.out; have hnc6 := NB349_348.out; have hnb7 := NB348_350.out; have hnc7 := NB350_348.out; obtain ⟨hcz8_0, hcz8_1, hcz8_2, hfz8_0, hfz8_1, hfz8_2⟩ := ybc BK348.out; have hnb9 := NB350_349.out; have hnc9 := NB349_350.out; obtain ⟨hcz10_0, hcz10_1, hcz10_2, hfz10_0, hfz10_1, hfz10_2⟩ := ybc BK350.out) | (refine goesL_ (some 9) rfl rfl Try.func26 (by kernel_rfl) rfl #[.slice A0_1 l0_1.length c0_1] rfl ymd ?_; (with_reducible refine (laws_toIntS.calls k _ _ l0_1 t351 _ ?side1 ?side2 A2.out).mono ?_); (case side1 => exact Kd.C_below HR0_1.out yhb); (case side2 => exact HC0_1.out); rintro e w11 ⟨v352, rfl, ho0, hb⟩; refine ⟨_, rfl, ?_⟩; have HO353 := yam (Kd.R_lower ho0 (below_size yhb)); replace BK348 := yam (blk_below (g := gb348) (o := .cells #[.int .i64 a0_0, .slice A0_1 l0_1.length c0_1, .int .i64 a0_2] 65 (0, 0)) (by (with_reducible repeat (first | refine ybn ?_ _ | refine ybd ?_ | refine yba ?_ _)); refine blk_far ?_ NB348_350.out _; (with_reducible repeat (first | refine ybn ?_ _ | refine ybd ?_ | refine yba ?_ _)); exact BK348.out) hb); replace BK349 := yam (blk_below (g := gb349) (o := .cells #[.int .i64 0, .slice none 0 0, .int .i64 0] 67 (0, 0)) (by (with_reducible repeat (first | refine ybn ?_ _ | refine ybd ?_ | refine yba ?_ _)); refine blk_far ?_ NB349_350.out _; (with_reducible repeat (first | refine ybn ?_ _ | refine ybd ?_ | refine yba ?_ _)); exact BK349.out) hb); replace BK350 := yam (blk_below (g := gb350) (o := .cells #[.int .i64 a0_0, .slice none 0 0, .int .i64 0] 67 (0, 0)) (by (with_reducible repeat (first | refine ybn ?_ _ | refine ybd ?_ | refine yba ?_ _)); refine blk_put (cs := #[.int .i64 0, .slice none 0 0, .int .i64 0]) ?_ 0 _ rfl; (with_reducible repeat (first | refine ybn ?_ _ | refine ybd ?_ | refine yba ?_ _)); exact BK350.out) hb); replace HB := yam (below_step yhb hb); (try clear hb); (try clear hb2); (try clear hk); (try clear hi); (try clear ho0); obtain ⟨Ao12, co12, eo12⟩ := Kd.R_slice HO353.out; subst eo12; obtain ⟨hcz13_0, hcz13_1, hcz13_2, hfz13_0, hfz13_1, hfz13_2⟩ := ybc BK350.out; obtain ⟨hcz14_0, hcz14_1, hcz14_2, hfz14_0, hfz14_1, hfz14_2⟩ := ybc BK348.out; obtain ⟨hcz15_0, hcz15_1, hcz15_2, hfz15_0, hfz15_1, hfz15_2⟩ := ybc BK349.out))
 refine bodyPost_ret (results_cell_row rfl _ _ gb349 67 #[.int .i64 a0_0, .slice Ao12 t351.length co12, .int .i64 a0_2] (0, 0) _ rfl (by (with_reducible repeat (first | refine ybn ?_ _ | refine ybd ?_ | refine yba ?_ _)); refine blk_put (cs := #[.int .i64 a0_0, .slice Ao12 t351.length co12, .int .i64 0]) ?_ 2 _ rfl; (with_reducible repeat (first | refine ybn ?_ _ | refine ybd ?_ | refine yba ?_ _)); refine blk_put (cs := #[.int .i64 a0_0, .slice none 0 0, .int .i64 0]) ?_ 1 _ rfl; (with_reducible repeat (first | refine ybn ?_ _ | refine ybd ?_ | refine yba ?_ _)); refine blk_put (cs := #[.int .i64 0, .slice none 0 0, .int .i64 0]) ?_ 0 _ rfl; (with_reducible repeat (first | refine ybn ?_ _ | refine ybd ?_ | refine yba ?_ _)); refine blk_far ?_ NB349_350.out _; (with_reducible repeat (first | refine ybn ?_ _ | refine ybd ?_ | refine yba ?_ _)); refine blk_far ?_ NB349_350.out _; (with_reducible repeat (first | refine ybn ?_ _ | refine ybd ?_ | refine yba ?_ _)); exact BK349.out) Try.underlying67 rfl (by kernel_rfl)) rfl ?_
 exact ⟨_, yer, by (with_reducible repeat (first | apply Kd.Ya | apply Kd.Yn | apply Kd.Yd)); exact Kd.R_mono (Kd.R_far (p := ⟨gb349, 2, none⟩) (Kd.R_far (p := ⟨gb349, 1, none⟩) (Kd.R_far (p := ⟨gb349, 0, none⟩) (Kd.R_far (p := ⟨gb350, 2, none⟩) (Kd.R_far (p := ⟨gb350, 1, none⟩) (Kd.R_types (Kd.R_types HO353.out BK350.out (by decide)) BK349.out (by decide)) (fun _ hk => hk.1.2) (.slice Ao12 t351.length co12)) (fun _ hk => hk.1.2) (.int .i64 a0_2)) (fun _ hk => hk.2) (.int .i64 a0_0)) (fun _ hk => hk.2) (.slice Ao12 t351.length co12)) (fun _ hk => hk.2) (.int .i64 a0_2)) (fun _ hk => trivial), yhb⟩
def laws_toRuleS.l0 : Nat → List (S65) → List (S67) → Int → Option ((List (S67)))
 | 0, _, _, _ => none
 | k + 1, x0, x3, x4 => if x4 < (x0.length : Int) then (if 0 ≤ x4 then ((laws_toRule.f k ((rd_T65 x0 x4).f0) ((rd_T65 x0 x4).f1) ((rd_T65 x0 x4).f2)).bind fun bt358 => (if x4 < (x3.length : Int) then (laws_toRuleS.l0 k x0 (x3.set (x4 : Int).toNat (⟨bt358.1, bt358.2.1, bt358.2.2⟩ : S67)) (wrap64 (x4 + 1))) else (none))) else (none)) else (some x3)
def laws_toRuleS.f (k : Nat) (l0 : List (S65)) : Option ((List (S67))) := if 0 ≤ (l0.length : Int) then (if ((l0.length : Int) : Int).toNat ≤ 7036874417766 then (laws_toRuleS.l0 k l0 (List.replicate ((l0.length : Int) : Int).toNat z67) 0) else (none)) else (none)
set_option maxHeartbeats 8000000 in
set_option maxRecDepth 100000 in
theorem laws_toRuleS.calls (k : Nat) (A0 : Option Addr) (c0 : Nat) (l0 : List (S65)) (r : List (S67)) (w : World) (hr0 : Kd.C k65 w A0 l0.length l0) (hc0 : l0.length ≤ c0) (h : laws_toRuleS.f k l0 = some r) :
  Calls Try.prog 35 #[.slice A0 l0.length c0] w fun e w' => ∃ v0_ : Value, e = .returned (v0_) ∧ Kd.S k67 67 w' w.heap.size (fun _ => True) v0_ r ∧ Below w.heap.size w w' := by
 have hu65 := Try.underlying65
 have hu67 := Try.underlying67
 have HR0 := yam hr0
 have HC0 := yam hc0
 clear hr0 hc0
 have HB := yam (Below.refl w.heap.size w)
 have H : (if 0 ≤ (l0.length : Int) then (if ((l0.length : Int) : Int).toNat ≤ 7036874417766 then (laws_toRuleS.l0 k l0 (List.replicate ((l0.length : Int) : Int).toNat z67) 0) else (none)) else (none)) = some r := h
 clear h
 by_cases c2 : 0 ≤ (l0.length : Int)
 rotate_left
 ·rw [if_neg c2] at H
  exact absurd H (by simp)

 rw [if_pos c2] at H
 have c2b0 := eq_true c2
 have c2b1 : decide (0 ≤ (l0.length : Int)) = true := decide_eq_true c2
 clear c2
 replace H := yig H
 obtain ⟨c3, H⟩ := H
 have c3b0 := eq_true c3
 have c3b1 : decide (((l0.length : Int) : Int).toNat ≤ 7036874417766) = true := decide_eq_true c3
 clear c3
 obtain ⟨y354, hy354⟩ : ∃ y_ : List (S67), y_ = (List.replicate ((l0.length : Int) : Int).toNat z67) := ⟨_, rfl⟩
 replace H : (laws_toRuleS.l0 k l0 y354 0) = some r := by first | (rw [hy354]; with_reducible exact H) | (have H2_ := (Option.bind_some _ _).symm.trans H; rw [hy354]; with_reducible exact H2_) | (have H2_ := (Option.bind_some _ _).symm.trans H; with_reducible exact H2_) | with_reducible exact H | (rw [hy354]; exact H) | exact H
 have Ny354 := yam hy354
 clear hy354
 have H' := yam H
 clear H
 go_enter Try.func35, Try.ntmps35
 go_wp2_with (first | ((with_reducible refine gate_dst (N := 7) rfl ?_); refine Kd.S_make k67 _ 67 rfl (N := 7) rfl 28 _ _ rfl (l0.length : Int) rfl rfl Try.underlying28 (.agg #[(.int .i64 0), (.slice none 0 0), (.int .i64 0)]) 40 info67 rfl (by decide) (by omega) z67 (ok := fun _ => True) (okp := fun _ => True) (k67_mkM _ _ _ z67 (Kd.R_nil _ _ _ _ _)) (fun _ hk => hk) trivial (ydt) (Nat.le_trans (Nat.mul_le_mul_right _ (ydt : (l0.length : Int).toNat ≤ 7036874417766)) (by omega)) (Below.refl _ _) (Nat.le_refl _) ?_; intro v355 w4 ho5 hb hg_ hnew_; clear hg_ hnew_; (first | rw [← Ny354.out] at ho5 | (simp only [Int.reduceToNat] at ho5; rw [← Ny354.out] at ho5)); have HO356 := yam (Kd.S_lower ho5 (below_size (yez HB.out))); replace HB := yam (below_step (yez HB.out) hb); clear hb ho5))
 go_loopg [4] k (fun kq v4 w' => ∃ (x3_1 : List (S67)) (x4_1 : Int), v4 = .int .i64 x4_1 ∧ Aside0 (laws_toRuleS.l0 kq l0 x3_1 x4_1 = some r) ∧ Aside0 (kq ≤ k) ∧ Aside0 (Kd.S k67 67 w' w.heap.size (fun _ => True) v355 x3_1) ∧ Aside0 (Below w.heap.size w w'))
 case atStart => exact ⟨(y354), (0), yeq, H', ⟨Nat.le_refl _⟩, ⟨by (with_reducible repeat (first | apply Kd.S_alloc | apply Kd.S_drewN | apply Kd.S_drew)); exact HO356.out⟩, ⟨yhb⟩⟩
 case round =>
  clear H'
  try clear c2
  try clear c2b0
  try clear c2b1
  try clear p2
  try clear c3
  try clear c3b0
  try clear c3b1
  obtain ⟨x3_1, x4_1, rfl, HA, HK1, HO_3, HB⟩ := hrel
  cases gk with
  | zero => exact absurd HA.out (by simp [laws_toRuleS.l0])
  | succ k1 =>
   have H := HA.out
   clear HA
   simp only [laws_toRuleS.l0] at H
   by_cases c6 : x4_1 < (l0.length : Int)
   rotate_left
   ·rw [if_neg c6] at H
    have c6b0 : decide (x4_1 < (l0.length : Int)) = false := decide_eq_false c6
    clear c6
    obtain rfl := Option.some.inj H
    go_wp2
    go_ret
    exact ⟨_, yer, by (with_reducible repeat (first | apply Kd.S_alloc | apply Kd.S_drewN | apply Kd.S_drew)); exact HO_3.out, yhb⟩
   rw [if_pos c6] at H
   have c6b0 : decide (x4_1 < (l0.length : Int)) = true := decide_eq_true c6
   clear c6
   replace H := yif H
   obtain ⟨c7b0, H⟩ := H
   replace H := Option.bind_eq_some_iff.mp H
   obtain ⟨⟨t358, t359, t362⟩, A80, H⟩ := H
   try dsimp only at H
   have A8 := yam A80
   clear A80
   replace H := yif H
   obtain ⟨c9b0, H⟩ := H
   obtain ⟨y363, hy363⟩ : ∃ y_ : List (S67), y_ = (x3_1.set (x4_1 : Int).toNat (⟨t358, t359, t362⟩ : S67)) := ⟨_, rfl⟩
   replace H : (laws_toRuleS.l0 k1 l0 y363 (wrap64 (x4_1 + 1))) = some r := by first | (rw [hy363]; with_reducible exact H) | (have H2_ := (Option.bind_some _ _).symm.trans H; rw [hy363]; with_reducible exact H2_) | (have H2_ := (Option.bind_some _ _).symm.trans H; with_reducible exact H2_) | with_reducible exact H | (rw [hy363]; exact H) | exact H
   have Ny363 := yam hy363
   clear hy363
   have H' := yam H
   clear H
   have p357 : 0 ≤ (x4_1 : Int) := ydt
   have q357 : x4_1 < (l0.length : Int) := ydt
   obtain ⟨ad357, A357_1, c357_1, e357, hx357_0, hx357_1, hx357_2, hl357_1, hi357_1⟩ := at_T65 HR0.out x4_1 p357 q357
   cases e357
   replace hx357_0 := ybx HB.out hx357_0
   replace hx357_1 := ybx HB.out hx357_1
   replace hx357_2 := ybx HB.out hx357_2
   have HR357_1 := yam hi357_1
   have HC357_1 := yam hl357_1
   clear hi357_1 hl357_1
   replace p357 := eq_true p357
   replace q357 := eq_true q357
   go_wp2_with (first | (refine goesL_ (some 20) rfl rfl Try.func68 (by kernel_rfl) rfl #[.agg #[.int .i64 ((rd_T65 l0 x4_1).f0), .slice A357_1 ((rd_T65 l0 x4_1).f1).length c357_1, .int .i64 ((rd_T65 l0 x4_1).f2)]] rfl ymd ?_; (with_reducible refine (laws_toRule.calls k1 ((rd_T65 l0 x4_1).f0) _ _ ((rd_T65 l0 x4_1).f1) ((rd_T65 l0 x4_1).f2) t358 t359 t362 _ ?side1 ?side2 A8.out).mono ?_); (case side1 => exact Kd.Cz ((Kd.C_below HR357_1.out HB.out))); (case side2 => exact HC357_1.out); rintro e w11 ⟨v360, rfl, ho0, hb⟩; obtain ⟨Aq_v360, cq_v360, eq_v360⟩ := Kd.R_slice ho0; subst eq_v360; refine ⟨_, rfl, ?_⟩; replace HO_3 := yam (Kd.S_elder' (by (with_reducible repeat (first | apply Kd.S_alloc | apply Kd.S_drewN | apply Kd.S_drew)); exact HO_3.out) (Kd.Yb ho0) hb); have HO361 := yam (Kd.R_lower ho0 (below_size (yez HB.out))); replace HB := yam (below_step (yez HB.out) hb); (try clear hb); (try clear hb2); (try clear hk); (try clear hi); (try clear ho0); have p10 : 0 ≤ (x4_1 : Int) := ydt; have q10 : (x4_1 : Int) < ((x3_1.length : Int) : Int) := ydt; obtain ⟨go10, co10, eo10, gb10, gl10, cl10, HG10⟩ := Kd.S_form HO_3.out (by omega); (first | cases eo10 | (injection eo10 with ea_ en_ ec_; (first | subst ea_ | (injection ea_ with ea_; subst ea_)); subst ec_; clear en_)); have GB10 := yam gb10; have GG10 := yam HG10; clear gb10 gl10 HG10; obtain ⟨_, ce10, hcl10, hM10, hcc10, hfr10, _, _⟩ := Kd.S_elem HO_3.out z67 (x4_1 : Int) p10 q10; obtain ⟨ve10_1, rfl, ge10_1⟩ := k67_openM hM10; have hx10_0 : w11.cell? ⟨go10, (x4_1 : Int).toNat * 3, none⟩ = some (.int .i64 ((rd_T67 x3_1 x4_1).f0)) := hcc10 0 _ rfl; have hx10_1 : w11.cell? ⟨go10, (x4_1 : Int).toNat * 3 + 1, none⟩ = some (ve10_1) := hcc10 1 _ rfl; have hx10_2 : w11.cell? ⟨go10, (x4_1 : Int).toNat * 3 + 2, none⟩ = some (.int .i64 ((rd_T67 x3_1 x4_1).f2)) := hcc10 2 _ rfl; have hf10_0 : w11.frozen? ⟨go10, (x4_1 : Int).toNat * 3, none⟩ = false := hfr10 0; have hf10_1 : w11.frozen? ⟨go10, (x4_1 : Int).toNat * 3 + 1, none⟩ = false := hfr10 1; have hf10_2 : w11.frozen? ⟨go10, (x4_1 : Int).toNat * 3 + 2, none⟩ = false := hfr10 2; clear hcl10 hcc10 hfr10 hM10; replace p10 := eq_true p10; replace q10 := eq_true q10; have n_ := yam (Kd.S_mono (ok' := (fun k_ => some k_ ≠ ((.slice Aq_v360 (t359).length cq_v360) : Value).ownBlock)) HO_3.out (fun k_ hk => hk.2)); clear HO_3; have HO_3 := n_; clear n_; have HX12 := yam (show Kd.S k67 67 w11 w.heap.size (fun k_ => ((fun _ => True)) k_ ∧ ¬ ((fun k_ => some k_ = ((.slice Aq_v360 (t359).length cq_v360) : Value).ownBlock)) k_) (.slice (some ⟨go10, 0, none⟩) x3_1.length co10) x3_1 from (by (with_reducible repeat (first | apply Kd.S_alloc | apply Kd.S_drewN | apply Kd.S_drew)); exact Kd.S_mono HO_3.out (fun k_ hk => ⟨trivial, fun e_ => hk e_⟩))); obtain ⟨oki12, ce12, hcl12, hM12, hcc12, hfr12, hoki12, hH12⟩ := Kd.S_elem HX12.out z67 (x4_1 : Int) (ydt) (by have h_ : (x4_1 : Int) < ((x3_1.length : Int) : Int) := ydt; first | exact h_ | (have e_ := (Kd.S_reads' HO_3.out).1; omega) | simpa using h_); obtain ⟨ve12_1, rfl, ge12_1⟩ := k67_openM hM12; have HP12 := Kd.S_seg hH12 (ydt) (by have h_ : (x4_1 : Int) < ((x3_1.length : Int) : Int) := ydt; first | exact h_ | (have e_ := (Kd.S_reads' HO_3.out).1; omega) | simpa using h_) (seg := [.int .i64 t358, (.slice Aq_v360 (t359).length cq_v360), .int .i64 t362]) (j := 0) (show 3 ≤ 3 from by decide) (x' := (⟨t358, t359, t362⟩ : S67)) (k67_mkM _ _ _ (⟨t358, t359, t362⟩ : S67) (Kd.R_mono (Kd.R_tight rfl (Kd.R_mono (ok' := fun k_ => ((fun _ => True)) k_ ∧ k_ ≠ go10) (Kd.R_apart' (HO361.out) (Kd.S_typed HO_3.out) (by decide)) (fun k_ hk => ⟨trivial, fun e_ => (hk.2) (by rw [e_]; rfl)⟩))) (fun _ h_ => Or.inr (h_)))) (fun _ hk => hk) (fun k_ hk_ => ((Kd.R_mono (ok' := fun k_ => ((fun _ => True)) k_ ∧ k_ ≠ go10) (Kd.R_apart' (HO361.out) (Kd.S_typed HO_3.out) (by decide)) (fun k_ hk => ⟨trivial, fun e_ => (hk.2) (by rw [e_]; rfl)⟩))).1 k_ hk_.symm); have hx12_0 := hcc12 0 _ rfl; (try simp only [show (k67).sz = 3 from rfl, Nat.mul_one, Nat.add_zero] at hx12_0); have hf12_0 := hfr12 0; (try simp only [show (k67).sz = 3 from rfl, Nat.mul_one, Nat.add_zero] at hf12_0); have hx12_1 := hcc12 1 _ rfl; (try simp only [show (k67).sz = 3 from rfl, Nat.mul_one, Nat.add_zero] at hx12_1); have hf12_1 := hfr12 1; (try simp only [show (k67).sz = 3 from rfl, Nat.mul_one, Nat.add_zero] at hf12_1); have hx12_2 := hcc12 2 _ rfl; (try simp only [show (k67).sz = 3 from rfl, Nat.mul_one, Nat.add_zero] at hx12_2); have hf12_2 := hfr12 2; (try simp only [show (k67).sz = 3 from rfl, Nat.mul_one, Nat.add_zero] at hf12_2); clear hcl12 hcc12 hfr12 hM12 hoki12 hH12) | ((with_reducible refine gate_store (t := 67) (p := 21) rfl ?_); refine store_event (t := 67) (p := 21) (v := ?vo_w13) (w1 := (((w11.setCell ⟨go10, (x4_1 : Int).toNat * 3, none⟩ (.int .i64 t358)).setCell ⟨go10, (x4_1 : Int).toNat * 3 + 1, none⟩ ((.slice Aq_v360 (t359).length cq_v360))).setCell ⟨go10, (x4_1 : Int).toNat * 3 + 2, none⟩ (.int .i64 t362))) ?hg ?ho ?hn ?hr ?_; (case ho => rfl); (case hg => rfl); (case hn => rfl); (case hr => first | (go_simp; done) | (go_simp; rfl)); intro w13 hw; have hg : w11.grownBy w13 (some go10) := (by rw [hw]; exact HP12.2); have hp_ : Kd.S k67 67 w13 w.heap.size (fun _ => True) (.slice (some ⟨go10, 0, none⟩) x3_1.length co10) y363 := (by rw [hw, Ny363.out]; exact HP12.1); clear HP12; replace HO_3 := yam (hp_); replace HB := yam ((by rw [hw]; exact below_set (below_set (below_set (HB.out) GB10.out) GB10.out) GB10.out : Below w.heap.size w w13)); clear HO361; clear hg hw hp_))
   go_roundg k1
   case measure => have := HK1.out; omega
   case rel => exact ⟨(y363), (wrap64 (x4_1 + 1)), yeq, H', ⟨by have := HK1.out; omega⟩, ⟨by (with_reducible repeat (first | apply Kd.S_alloc | apply Kd.S_drewN | apply Kd.S_drew)); exact HO_3.out⟩, ⟨yhb⟩⟩
def laws_toPuzzle.f (k : Nat) (a0_0 : Int) (l0_1 : List Int) (l0_2 : List (S65)) : Option (Int × List Int × (List (S67))) := (laws_toIntS.f k l0_1).bind fun t367 => ((laws_toRuleS.f k l0_2).bind fun t370 => (some (a0_0, t367, t370)))
set_option maxHeartbeats 8000000 in
set_option maxRecDepth 100000 in
theorem laws_toPuzzle.calls (k : Nat) (a0_0 : Int) (A0_1 : Option Addr) (c0_1 : Nat) (l0_1 : List Int) (A0_2 : Option Addr) (c0_2 : Nat) (l0_2 : List (S65)) (r1 : Int) (r2 : List Int) (r3 : List (S67)) (w : World) (hr0_1 : Kd.C (Kd.int .i64) w A0_1 l0_1.length l0_1) (hc0_1 : l0_1.length ≤ c0_1) (hr0_2 : Kd.C k65 w A0_2 l0_2.length l0_2) (hc0_2 : l0_2.length ≤ c0_2) (h : laws_toPuzzle.f k a0_0 l0_1 l0_2 = some (r1, r2, r3)) :
  Calls Try.prog 11 #[.agg #[.int .i64 a0_0, .slice A0_1 l0_1.length c0_1, .slice A0_2 l0_2.length c0_2]] w fun e w' => ∃ v1_ v2_ : Value, e = .returned (.agg #[.int .i64 r1, v1_, v2_]) ∧ Kd.R (Kd.int .i64) 3 w' w.heap.size (fun _ => True) v1_ r2 ∧ Kd.S k67 67 w' w.heap.size (fun k_ => some k_ ≠ (v1_ : Value).ownBlock) v2_ r3 ∧ Below w.heap.size w w' := by
 have hu25 := Try.underlying25
 have hu30 := Try.underlying30
 have HR0_1 := yam hr0_1
 have HC0_1 := yam hc0_1
 clear hr0_1 hc0_1
 have HR0_2 := yam hr0_2
 have HC0_2 := yam hc0_2
 clear hr0_2 hc0_2
 have HB := yam (Below.refl w.heap.size w)
 have H : ((laws_toIntS.f k l0_1).bind fun t367 => ((laws_toRuleS.f k l0_2).bind fun t370 => (some (a0_0, t367, t370)))) = some (r1, r2, r3) := h
 clear h
 replace H := Option.bind_eq_some_iff.mp H
 obtain ⟨t367, A20, H⟩ := H
 replace H : ((laws_toRuleS.f k l0_2).bind fun t370 => (some (a0_0, t367, t370))) = some (r1, r2, r3) := H
 have A2 := yam A20
 clear A20
 replace H := Option.bind_eq_some_iff.mp H
 obtain ⟨t370, A30, H⟩ := H
 replace H : (some (a0_0, t367, t370)) = some (r1, r2, r3) := H
 have A3 := yam A30
 clear A30
 simp only [Option.some.injEq, Prod.mk.injEq] at H
 obtain ⟨rfl, rfl, rfl⟩ := H
 go_enter Try.func11, Try.ntmps11
 go_wp2_with (first | (refine ybe 1 #[.int .i64 a0_0, .slice A0_1 l0_1.length c0_1, .slice A0_2 l0_2.length c0_2] 25 ?_; intro gb364 hg w4 hbox hb; have n0_ := yam (below_step (yez HB.out) hb); have n1_ := yam (hbox); have n2_ := yam ((by rw [hg]; exact (below_size (yez HB.out)) : w.heap.size ≤ gb364)); have n3_ := n2_; clear HB; have HB := n0_; have BK364 := n1_; have GW364 := n2_; have GE364 := n3_; clear n0_ n1_ n2_ n3_; clear hb hbox hg) | (refine ybe 2 #[.int .i64 0, .slice none 0 0, .slice none 0 0] 30 ?_; intro gb365 hg w5 hbox hb; have n0_ := yam (blk_below (g := gb364) (o := .cells #[.int .i64 a0_0, .slice A0_1 l0_1.length c0_1, .slice A0_2 l0_2.length c0_2] 25 (0, 0)) (ybz BK364.out) hb); have n1_ := yam (below_step yhb hb); have n2_ := yam (hbox); have n3_ := yam ((by rw [hg]; exact (below_size yhb) : w.heap.size ≤ gb365)); have n4_ := n3_; have n5_ := yam ((by rw [hg]; exact Nat.ne_of_lt (blk_lt (g := gb364) (o := .cells #[.int .i64 a0_0, .slice A0_1 l0_1.length c0_1, .slice A0_2 l0_2.length c0_2] 25 (0, 0)) (ybz BK364.out)) : gb364 ≠ gb365)); have n6_ := yam ((by rw [hg]; exact Nat.ne_of_gt (blk_lt (g := gb364) (o := .cells #[.int .i64 a0_0, .slice A0_1 l0_1.length c0_1, .slice A0_2 l0_2.length c0_2] 25 (0, 0)) (ybz BK364.out)) : gb365 ≠ gb364)); clear BK364; clear HB; have BK364 := n0_; have HB := n1_; have BK365 := n2_; have GW365 := n3_; have GE365 := n4_; have NB364_365 := n5_; have NB365_364 := n6_; clear n0_ n1_ n2_ n3_ n4_ n5_ n6_; clear hb hbox hg) | (refine ybe 3 #[.int .i64 0, .slice none 0 0, .slice none 0 0] 30 ?_; intro gb366 hg w6 hbox hb; have n0_ := yam (blk_below (g := gb364) (o := .cells #[.int .i64 a0_0, .slice A0_1 l0_1.length c0_1, .slice A0_2 l0_2.length c0_2] 25 (0, 0)) (ybz BK364.out) hb); have n1_ := yam (blk_below (g := gb365) (o := .cells #[.int .i64 0, .slice none 0 0, .slice none 0 0] 30 (0, 0)) (ybz BK365.out) hb); have n2_ := yam (below_step yhb hb); have n3_ := yam (hbox); have n4_ := yam ((by rw [hg]; exact (below_size yhb) : w.heap.size ≤ gb366)); have n5_ := n4_; have n6_ := yam ((by rw [hg]; exact Nat.ne_of_lt (blk_lt (g := gb364) (o := .cells #[.int .i64 a0_0, .slice A0_1 l0_1.length c0_1, .slice A0_2 l0_2.length c0_2] 25 (0, 0)) (ybz BK364.out)) : gb364 ≠ gb366)); have n7_ := yam ((by rw [hg]; exact Nat.ne_of_gt (blk_lt (g := gb364) (o := .cells #[.int .i64 a0_0, .slice A0_1 l0_1.length c0_1, .slice A0_2 l0_2.length c0_2] 25 (0, 0)) (ybz BK364.out)) : gb366 ≠ gb364)); have n8_ := yam ((by rw [hg]; exact Nat.ne_of_lt (blk_lt (g := gb365) (o := .cells #[.int .i64 0, .slice none 0 0, .slice none 0 0] 30 (0, 0)) (ybz BK365.out)) : gb365 ≠ gb366)); have n9_ := yam ((by rw [hg]; exact Nat.ne_of_gt (blk_lt (g := gb365) (o := .cells #[.int .i64 0, .slice none 0 0, .slice none 0 0] 30 (0, 0)) (ybz BK365.out)) : gb366 ≠ gb365)); clear BK364; clear BK365; clear HB; have BK364 := n0_; have BK365 := n1_; have HB := n2_; have BK366 := n3_; have GW366 := n4_; have GE366 := n5_; have NB364_366 := n6_; have NB366_364 := n7_; have NB365_366 := n8_; have NB366_365 := n9_; clear n0_ n1_ n2_ n3_ n4_ n5_ n6_ n7_ n8_ n9_; clear hb hbox hg; have hnb7 := NB364_365.out; have hnc7 := NB365_364.out; have hnb8 := NB364_366.out; have hnc8 := NB366_364.out; obtain ⟨hcz9_0, hcz9_1, hcz9_2, hfz9_0, hfz9_1, hfz9_2⟩ := ybc BK364.out; have hnb10 := NB366_365.out; have hnc10 := NB365_366.out; obtain ⟨hcz11_0, hcz11_1, hcz11_2, hfz11_0, hfz11_1, hfz11_2⟩ := ybc BK366.out) | (refine goesL_ (some 9) rfl rfl Try.func26 (by kernel_rfl) rfl #[.slice A0_1 l0_1.length c0_1] rfl ymd ?_; (with_reducible refine (laws_toIntS.calls k _ _ l0_1 t367 _ ?side1 ?side2 A2.out).mono ?_); (case side1 => exact Kd.C_below HR0_1.out yhb); (case side2 => exact HC0_1.out); rintro e w12 ⟨v368, rfl, ho0, hb⟩; refine ⟨_, rfl, ?_⟩; have HO369 := yam (Kd.R_lower ho0 (below_size yhb)); replace BK364 := yam (blk_below (g := gb364) (o := .cells #[.int .i64 a0_0, .slice A0_1 l0_1.length c0_1, .slice A0_2 l0_2.length c0_2] 25 (0, 0)) (by (with_reducible repeat (first | refine ybn ?_ _ | refine ybd ?_ | refine yba ?_ _)); refine blk_far ?_ NB364_366.out _; (with_reducible repeat (first | refine ybn ?_ _ | refine ybd ?_ | refine yba ?_ _)); exact BK364.out) hb); replace BK365 := yam (blk_below (g := gb365) (o := .cells #[.int .i64 0, .slice none 0 0, .slice none 0 0] 30 (0, 0)) (by (with_reducible repeat (first | refine ybn ?_ _ | refine ybd ?_ | refine yba ?_ _)); refine blk_far ?_ NB365_366.out _; (with_reducible repeat (first | refine ybn ?_ _ | refine ybd ?_ | refine yba ?_ _)); exact BK365.out) hb); replace BK366 := yam (blk_below (g := gb366) (o := .cells #[.int .i64 a0_0, .slice none 0 0, .slice none 0 0] 30 (0, 0)) (by (with_reducible repeat (first | refine ybn ?_ _ | refine ybd ?_ | refine yba ?_ _)); refine blk_put (cs := #[.int .i64 0, .slice none 0 0, .slice none 0 0]) ?_ 0 _ rfl; (with_reducible repeat (first | refine ybn ?_ _ | refine ybd ?_ | refine yba ?_ _)); exact BK366.out) hb); replace HB := yam (below_step yhb hb); (try clear hb); (try clear hb2); (try clear hk); (try clear hi); (try clear ho0); obtain ⟨Ao13, co13, eo13⟩ := Kd.R_slice HO369.out; subst eo13; obtain ⟨hcz14_0, hcz14_1, hcz14_2, hfz14_0, hfz14_1, hfz14_2⟩ := ybc BK366.out; obtain ⟨hcz15_0, hcz15_1, hcz15_2, hfz15_0, hfz15_1, hfz15_2⟩ := ybc BK364.out) | (refine goesL_ (some 13) rfl rfl Try.func35 (by kernel_rfl) rfl #[.slice A0_2 l0_2.length c0_2] rfl ymd ?_; (with_reducible refine (laws_toRuleS.calls k _ _ l0_2 t370 _ ?side1 ?side2 A3.out).mono ?_); (case side1 => exact Kd.C_below HR0_2.out yhb); (case side2 => exact HC0_2.out); rintro e w16 ⟨v371, rfl, ho0, hb⟩; refine ⟨_, rfl, ?_⟩; have HO372 := yam (Kd.S_lower (Kd.S_new' ho0 (Kd.R_lt (by (with_reducible repeat (first | apply Kd.Ya | apply Kd.Yn | apply Kd.Yd)); exact (Kd.R_mono (Kd.R_far (p := ⟨gb366, 1, none⟩) (Kd.R_types HO369.out BK366.out (by decide)) (fun _ hk => hk.2) (.slice Ao13 t367.length co13)) (fun _ h_ => h_.1))))) (below_size yhb)); replace HO369 := yam (Kd.R_below (by (with_reducible repeat (first | apply Kd.Ya | apply Kd.Yn | apply Kd.Yd)); exact (Kd.R_mono (Kd.R_far (p := ⟨gb366, 1, none⟩) (Kd.R_types HO369.out BK366.out (by decide)) (fun _ hk => hk.2) (.slice Ao13 t367.length co13)) (fun _ h_ => h_.1))) hb); replace BK364 := yam (blk_below (g := gb364) (o := .cells #[.int .i64 a0_0, .slice A0_1 l0_1.length c0_1, .slice A0_2 l0_2.length c0_2] 25 (0, 0)) (by (with_reducible repeat (first | refine ybn ?_ _ | refine ybd ?_ | refine yba ?_ _)); refine blk_far ?_ NB364_366.out _; (with_reducible repeat (first | refine ybn ?_ _ | refine ybd ?_ | refine yba ?_ _)); exact BK364.out) hb); replace BK365 := yam (blk_below (g := gb365) (o := .cells #[.int .i64 0, .slice none 0 0, .slice none 0 0] 30 (0, 0)) (by (with_reducible repeat (first | refine ybn ?_ _ | refine ybd ?_ | refine yba ?_ _)); refine blk_far ?_ NB365_366.out _; (with_reducible repeat (first | refine ybn ?_ _ | refine ybd ?_ | refine yba ?_ _)); exact BK365.out) hb); replace BK366 := yam (blk_below (g := gb366) (o := .cells #[.int .i64 a0_0, .slice Ao13 t367.length co13, .slice none 0 0] 30 (0, 0)) (by (with_reducible repeat (first | refine ybn ?_ _ | refine ybd ?_ | refine yba ?_ _)); refine blk_put (cs := #[.int .i64 a0_0, .slice none 0 0, .slice none 0 0]) ?_ 1 _ rfl; (with_reducible repeat (first | refine ybn ?_ _ | refine ybd ?_ | refine yba ?_ _)); exact BK366.out) hb); replace HB := yam (below_step yhb hb); (try clear hb); (try clear hb2); (try clear hk); (try clear hi); (try clear ho0); obtain ⟨Ao17, co17, eo17⟩ := Kd.S_slice HO372.out; subst eo17; obtain ⟨hcz18_0, hcz18_1, hcz18_2, hfz18_0, hfz18_1, hfz18_2⟩ := ybc BK366.out; obtain ⟨hcz19_0, hcz19_1, hcz19_2, hfz19_0, hfz19_1, hfz19_2⟩ := ybc BK365.out))
 refine bodyPost_ret (results_cell_row rfl _ _ gb365 30 #[.int .i64 a0_0, .slice Ao13 t367.length co13, .slice Ao17 t370.length co17] (0, 0) _ rfl (by (with_reducible repeat (first | refine ybn ?_ _ | refine ybd ?_ | refine yba ?_ _)); refine blk_put (cs := #[.int .i64 a0_0, .slice Ao13 t367.length co13, .slice none 0 0]) ?_ 2 _ rfl; (with_reducible repeat (first | refine ybn ?_ _ | refine ybd ?_ | refine yba ?_ _)); refine blk_put (cs := #[.int .i64 a0_0, .slice none 0 0, .slice none 0 0]) ?_ 1 _ rfl; (with_reducible repeat (first | refine ybn ?_ _ | refine ybd ?_ | refine yba ?_ _)); refine blk_put (cs := #[.int .i64 0, .slice none 0 0, .slice none 0 0]) ?_ 0 _ rfl; (with_reducible repeat (first | refine ybn ?_ _ | refine ybd ?_ | refine yba ?_ _)); refine blk_far ?_ NB365_366.out _; (with_reducible repeat (first | refine ybn ?_ _ | refine ybd ?_ | refine yba ?_ _)); exact BK365.out) Try.underlying30 rfl (by kernel_rfl)) rfl ?_
 exact ⟨_, _, yer, by (with_reducible repeat (first | apply Kd.Ya | apply Kd.Yn | apply Kd.Yd)); exact Kd.R_mono (Kd.R_far (p := ⟨gb365, 2, none⟩) (Kd.R_far (p := ⟨gb365, 1, none⟩) (Kd.R_far (p := ⟨gb365, 0, none⟩) (Kd.R_far (p := ⟨gb366, 2, none⟩) (Kd.R_types (Kd.R_types HO369.out BK366.out (by decide)) BK365.out (by decide)) (fun _ hk => hk.1.2) (.slice Ao17 t370.length co17)) (fun _ hk => hk.2) (.int .i64 a0_0)) (fun _ hk => hk.2) (.slice Ao13 t367.length co13)) (fun _ hk => hk.2) (.slice Ao17 t370.length co17)) (fun _ hk => trivial), by (with_reducible repeat (first | apply Kd.S_alloc | apply Kd.S_drewN | apply Kd.S_drew)); exact Kd.S_mono (Kd.S_far (p := ⟨gb365, 2, none⟩) (Kd.S_far (p := ⟨gb365, 1, none⟩) (Kd.S_far (p := ⟨gb365, 0, none⟩) (Kd.S_far (p := ⟨gb366, 2, none⟩) (Kd.S_types (Kd.S_types HO372.out BK366.out (by decide)) BK365.out (by decide)) (fun _ hk => hk.1.2) (.slice Ao17 t370.length co17)) (fun _ hk => hk.2) (.int .i64 a0_0)) (fun _ hk => hk.2) (.slice Ao13 t367.length co13)) (fun _ hk => hk.2) (.slice Ao17 t370.length co17)) (fun _ hk => hk.1.1.2), yhb⟩
def laws_eqIntS.l0 : Nat → List Int → List Int → Int → Option (Bool)
 | 0, _, _, _ => none
 | k + 1, x0, x1, x5 => if x5 < (x0.length : Int) then (if 0 ≤ x5 then (if x5 < (x1.length : Int) then (if (rd x0 x5) = (rd x1 x5) then (laws_eqIntS.l0 k x0 x1 (wrap64 (x5 + 1))) else (some false)) else (none)) else (none)) else (some true)
def laws_eqIntS.f (k : Nat) (l0 : List Int) (l1 : List Int) : Option (Bool) := if (l0.length : Int) = (l1.length : Int) then (laws_eqIntS.l0 k l0 l1 0) else (some false)
set_option maxHeartbeats 8000000 in
set_option maxRecDepth 100000 in
theorem laws_eqIntS.calls (k : Nat) (A0 : Option Addr) (c0 : Nat) (l0 : List Int) (A1 : Option Addr) (c1 : Nat) (l1 : List Int) (r : Bool) (w : World) (hr0 : Kd.C (Kd.int .i64) w A0 l0.length l0) (hc0 : l0.length ≤ c0) (hr1 : Kd.C (Kd.int .i64) w A1 l1.length l1) (hc1 : l1.length ≤ c1) (h : laws_eqIntS.f k l0 l1 = some r) :
  Calls Try.prog 13 #[.slice A0 l0.length c0, .slice A1 l1.length c1] w fun e w' => e = .returned (.bool r) ∧ Drawn0 w w' := by
 have HR0 := yam hr0
 have HC0 := yam hc0
 clear hr0 hc0
 have HR1 := yam hr1
 have HC1 := yam hc1
 clear hr1 hc1
 have H : (if (l0.length : Int) = (l1.length : Int) then (laws_eqIntS.l0 k l0 l1 0) else (some false)) = some r := h
 clear h
 by_cases c3 : (l0.length : Int) = (l1.length : Int)
 rotate_left
 ·rw [if_neg c3] at H
  have c3b0 : ((l0.length : Int) == (l1.length : Int)) = false := beq_eq_false_iff_ne.mpr c3
  have c3b1 : ((l0.length : Int) != (l1.length : Int)) = true := bne_iff_ne.mpr c3
  have c3b2 : (l0.length == l1.length) = false := by first | simpa using c3 | (simp at c3 ⊢; omega)
  obtain rfl := Option.some.inj H
  go_enter Try.func13, Try.ntmps13
  go_wp2
  repeat (go_quiet (fail); try go_wp2)
  go_ret
  exact ⟨yeq, by repeat (first | exact Drawn0.refl _ | apply Drawn0.step)⟩

 rw [if_pos c3] at H
 have c3b0 : ((l0.length : Int) == (l1.length : Int)) = true := beq_iff_eq.mpr c3
 have c3b1 : ((l0.length : Int) != (l1.length : Int)) = false := bne_eq_false_iff_eq.mpr c3
 have c3b2 : (l0.length == l1.length) = true := by first | simpa using c3 | (simp at c3 ⊢; omega)
 clear c3
 have H' := yam H
 clear H
 go_enter Try.func13, Try.ntmps13
 go_wp2
 repeat (go_quiet (fail); try go_wp2)
 go_loopg [5] k (fun kq v5 w' => ∃ (x5_1 : Int), v5 = .int .i64 x5_1 ∧ Aside0 (laws_eqIntS.l0 kq l0 l1 x5_1 = some r) ∧ Aside0 (kq ≤ k) ∧ Drawn0 w w')
 case atStart => exact ⟨(0), yeq, H', ⟨Nat.le_refl _⟩, by repeat (first | exact Drawn0.refl _ | apply Drawn0.step)⟩
 case round =>
  clear H'
  try clear c1
  try clear p2
  try clear c3
  try clear c3b0
  try clear c3b1
  try clear c3b2
  obtain ⟨x5_1, rfl, HA, HK1, ⟨m1, rfl⟩⟩ := hrel
  cases gk with
  | zero => exact absurd HA.out (by simp [laws_eqIntS.l0])
  | succ k1 =>
   have H := HA.out
   clear HA
   simp only [laws_eqIntS.l0] at H
   by_cases c4 : x5_1 < (l0.length : Int)
   rotate_left
   ·rw [if_neg c4] at H
    have c4b0 : decide (x5_1 < (l0.length : Int)) = false := decide_eq_false c4
    clear c4
    obtain rfl := Option.some.inj H
    go_wp2
    repeat (go_quiet (fail); try go_wp2)
    go_ret
    exact ⟨yeq, by repeat (first | exact Drawn0.refl _ | apply Drawn0.step)⟩
   rw [if_pos c4] at H
   have c4b0 : decide (x5_1 < (l0.length : Int)) = true := decide_eq_true c4
   clear c4
   replace H := yif H
   obtain ⟨c5b0, H⟩ := H
   replace H := yif H
   obtain ⟨c6b0, H⟩ := H
   by_cases c7 : (rd l0 x5_1) = (rd l1 x5_1)
   rotate_left
   ·rw [if_neg c7] at H
    have c7b0 : ((rd l0 x5_1) == (rd l1 x5_1)) = false := beq_eq_false_iff_ne.mpr c7
    have c7b1 : ((rd l0 x5_1) != (rd l1 x5_1)) = true := bne_iff_ne.mpr c7
    obtain rfl := Option.some.inj H
    have p544 : 0 ≤ (x5_1 : Int) := ydt
    have q544 : x5_1 < (l0.length : Int) := ydt
    obtain ⟨ad544, e544, hx544_0⟩ := Kd.at_int HR0.out x5_1 p544 q544
    cases e544
    replace p544 := eq_true p544
    replace q544 := eq_true q544
    have p545 : 0 ≤ (x5_1 : Int) := ydt
    have q545 : x5_1 < (l1.length : Int) := ydt
    obtain ⟨ad545, e545, hx545_0⟩ := Kd.at_int HR1.out x5_1 p545 q545
    cases e545
    replace p545 := eq_true p545
    replace q545 := eq_true q545
    go_wp2
    repeat (go_quiet (fail); try go_wp2)
    go_ret
    exact ⟨yeq, by repeat (first | exact Drawn0.refl _ | apply Drawn0.step)⟩
   rw [if_pos c7] at H
   have c7b0 : ((rd l0 x5_1) == (rd l1 x5_1)) = true := beq_iff_eq.mpr c7
   have c7b1 : ((rd l0 x5_1) != (rd l1 x5_1)) = false := bne_eq_false_iff_eq.mpr c7
   clear c7
   have H' := yam H
   clear H
   have p544 : 0 ≤ (x5_1 : Int) := ydt
   have q544 : x5_1 < (l0.length : Int) := ydt
   obtain ⟨ad544, e544, hx544_0⟩ := Kd.at_int HR0.out x5_1 p544 q544
   cases e544
   replace p544 := eq_true p544
   replace q544 := eq_true q544
   have p545 : 0 ≤ (x5_1 : Int) := ydt
   have q545 : x5_1 < (l1.length : Int) := ydt
   obtain ⟨ad545, e545, hx545_0⟩ := Kd.at_int HR1.out x5_1 p545 q545
   cases e545
   replace p545 := eq_true p545
   replace q545 := eq_true q545
   go_wp2
   repeat (go_quiet (fail); try go_wp2)
   go_roundg k1
   case measure => have := HK1.out; omega
   case rel => exact ⟨(wrap64 (x5_1 + 1)), yeq, H', ⟨by have := HK1.out; omega⟩, by repeat (first | exact Drawn0.refl _ | apply Drawn0.step)⟩
def laws_eqRule.f (k : Nat) (a0_0 : Int) (l0_1 : List Int) (a0_2 : Int) (a1_0 : Int) (l1_1 : List Int) (a1_2 : Int) : Option (Bool) := if a0_0 = a1_0 then ((laws_eqIntS.f k l0_1 l1_1).bind fun t548 => (if t548 = true then (if a0_2 = a1_2 then (some true) else (some false)) else (some false))) else (some false)
set_option maxHeartbeats 8000000 in
set_option maxRecDepth 100000 in
theorem laws_eqRule.calls (k : Nat) (a0_0 : Int) (A0_1 : Option Addr) (c0_1 : Nat) (l0_1 : List Int) (a0_2 : Int) (a1_0 : Int) (A1_1 : Option Addr) (c1_1 : Nat) (l1_1 : List Int) (a1_2 : Int) (r : Bool) (w : World) (hr0_1 : Kd.C (Kd.int .i64) w A0_1 l0_1.length l0_1) (hc0_1 : l0_1.length ≤ c0_1) (hr1_1 : Kd.C (Kd.int .i64) w A1_1 l1_1.length l1_1) (hc1_1 : l1_1.length ≤ c1_1) (h : laws_eqRule.f k a0_0 l0_1 a0_2 a1_0 l1_1 a1_2 = some r) :
  Calls Try.prog 71 #[.agg #[.int .i64 a0_0, .slice A0_1 l0_1.length c0_1, .int .i64 a0_2], .agg #[.int .i64 a1_0, .slice A1_1 l1_1.length c1_1, .int .i64 a1_2]] w fun e w' => e = .returned (.bool r) ∧ Below w.heap.size w w' := by
 have hu67 := Try.underlying67
 have HR0_1 := yam hr0_1
 have HC0_1 := yam hc0_1
 clear hr0_1 hc0_1
 have HR1_1 := yam hr1_1
 have HC1_1 := yam hc1_1
 clear hr1_1 hc1_1
 have HB := yam (Below.refl w.heap.size w)
 have H : (if a0_0 = a1_0 then ((laws_eqIntS.f k l0_1 l1_1).bind fun t548 => (if t548 = true then (if a0_2 = a1_2 then (some true) else (some false)) else (some false))) else (some false)) = some r := h
 clear h
 by_cases c3 : a0_0 = a1_0
 rotate_left
 ·rw [if_neg c3] at H
  have c3b0 : (a0_0 == a1_0) = false := beq_eq_false_iff_ne.mpr c3
  have c3b1 : (a0_0 != a1_0) = true := bne_iff_ne.mpr c3
  obtain rfl := Option.some.inj H
  go_enter Try.func71, Try.ntmps71
  go_wp2_with (first | (refine ybe 2 #[.int .i64 a0_0, .slice A0_1 l0_1.length c0_1, .int .i64 a0_2] 67 ?_; intro gb546 hg w22 hbox hb; have n0_ := yam (below_step (yez HB.out) hb); have n1_ := yam (hbox); have n2_ := yam ((by rw [hg]; exact (below_size (yez HB.out)) : w.heap.size ≤ gb546)); have n3_ := n2_; clear HB; have HB := n0_; have BK546 := n1_; have GW546 := n2_; have GE546 := n3_; clear n0_ n1_ n2_ n3_; clear hb hbox hg) | (refine ybe 3 #[.int .i64 a1_0, .slice A1_1 l1_1.length c1_1, .int .i64 a1_2] 67 ?_; intro gb547 hg w23 hbox hb; have n0_ := yam (blk_below (g := gb546) (o := .cells #[.int .i64 a0_0, .slice A0_1 l0_1.length c0_1, .int .i64 a0_2] 67 (0, 0)) (ybz BK546.out) hb); have n1_ := yam (below_step yhb hb); have n2_ := yam (hbox); have n3_ := yam ((by rw [hg]; exact (below_size yhb) : w.heap.size ≤ gb547)); have n4_ := n3_; have n5_ := yam ((by rw [hg]; exact Nat.ne_of_lt (blk_lt (g := gb546) (o := .cells #[.int .i64 a0_0, .slice A0_1 l0_1.length c0_1, .int .i64 a0_2] 67 (0, 0)) (ybz BK546.out)) : gb546 ≠ gb547)); have n6_ := yam ((by rw [hg]; exact Nat.ne_of_gt (blk_lt (g := gb546) (o := .cells #[.int .i64 a0_0, .slice A0_1 l0_1.length c0_1, .int .i64 a0_2] 67 (0, 0)) (ybz BK546.out)) : gb547 ≠ gb546)); clear BK546; clear HB; have BK546 := n0_; have HB := n1_; have BK547 := n2_; have GW547 := n3_; have GE547 := n4_; have NB546_547 := n5_; have NB547_546 := n6_; clear n0_ n1_ n2_ n3_ n4_ n5_ n6_; clear hb hbox hg; have hnb24 := NB546_547.out; have hnc24 := NB547_546.out; obtain ⟨hcz25_0, hcz25_1, hcz25_2, hfz25_0, hfz25_1, hfz25_2⟩ := ybc BK546.out; obtain ⟨hcz26_0, hcz26_1, hcz26_2, hfz26_0, hfz26_1, hfz26_2⟩ := ybc BK547.out))
  go_ret
  exact ⟨yer, yhb⟩

 rw [if_pos c3] at H
 have c3b0 : (a0_0 == a1_0) = true := beq_iff_eq.mpr c3
 have c3b1 : (a0_0 != a1_0) = false := bne_eq_false_iff_eq.mpr c3
 clear c3
 replace H := Option.bind_eq_some_iff.mp H
 obtain ⟨t548, A40, H⟩ := H
 try dsimp only at H
 have A4 := yam A40
 clear A40
 by_cases c5 : t548 = true
 rotate_left
 ·replace c5 := Bool.eq_false_iff.mpr c5
  subst c5
  have H1 : (some false) = some r := by rw [if_neg (show ¬ (false = true) by decide)] at H; exact H
  clear H
  have H := H1
  clear H1
  obtain rfl := Option.some.inj H
  go_enter Try.func71, Try.ntmps71
  go_wp2_with (first | (refine ybe 2 #[.int .i64 a0_0, .slice A0_1 l0_1.length c0_1, .int .i64 a0_2] 67 ?_; intro gb546 hg w17 hbox hb; have n0_ := yam (below_step (yez HB.out) hb); have n1_ := yam (hbox); have n2_ := yam ((by rw [hg]; exact (below_size (yez HB.out)) : w.heap.size ≤ gb546)); have n3_ := n2_; clear HB; have HB := n0_; have BK546 := n1_; have GW546 := n2_; have GE546 := n3_; clear n0_ n1_ n2_ n3_; clear hb hbox hg) | (refine ybe 3 #[.int .i64 a1_0, .slice A1_1 l1_1.length c1_1, .int .i64 a1_2] 67 ?_; intro gb547 hg w18 hbox hb; have n0_ := yam (blk_below (g := gb546) (o := .cells #[.int .i64 a0_0, .slice A0_1 l0_1.length c0_1, .int .i64 a0_2] 67 (0, 0)) (ybz BK546.out) hb); have n1_ := yam (below_step yhb hb); have n2_ := yam (hbox); have n3_ := yam ((by rw [hg]; exact (below_size yhb) : w.heap.size ≤ gb547)); have n4_ := n3_; have n5_ := yam ((by rw [hg]; exact Nat.ne_of_lt (blk_lt (g := gb546) (o := .cells #[.int .i64 a0_0, .slice A0_1 l0_1.length c0_1, .int .i64 a0_2] 67 (0, 0)) (ybz BK546.out)) : gb546 ≠ gb547)); have n6_ := yam ((by rw [hg]; exact Nat.ne_of_gt (blk_lt (g := gb546) (o := .cells #[.int .i64 a0_0, .slice A0_1 l0_1.length c0_1, .int .i64 a0_2] 67 (0, 0)) (ybz BK546.out)) : gb547 ≠ gb546)); clear BK546; clear HB; have BK546 := n0_; have HB := n1_; have BK547 := n2_; have GW547 := n3_; have GE547 := n4_; have NB546_547 := n5_; have NB547_546 := n6_; clear n0_ n1_ n2_ n3_ n4_ n5_ n6_; clear hb hbox hg; have hnb19 := NB546_547.out; have hnc19 := NB547_546.out; obtain ⟨hcz20_0, hcz20_1, hcz20_2, hfz20_0, hfz20_1, hfz20_2⟩ := ybc BK546.out; obtain ⟨hcz21_0, hcz21_1, hcz21_2, hfz21_0, hfz21_1, hfz21_2⟩ := ybc BK547.out) | (refine goesL_ (some 14) rfl rfl Try.func13 (by kernel_rfl) rfl #[.slice A0_1 l0_1.length c0_1, .slice A1_1 l1_1.length c1_1] rfl ymd ?_; (with_reducible refine (laws_eqIntS.calls k _ _ l0_1 _ _ l1_1 false _ ?side1 ?side2 ?side3 ?side4 A4.out).mono ?_); (case side1 => exact Kd.Cz ((Kd.C_below HR0_1.out HB.out))); (case side2 => exact HC0_1.out); (case side3 => exact Kd.Cz ((Kd.C_below HR1_1.out HB.out))); (case side4 => exact HC1_1.out); rintro e w' ⟨rfl, ⟨nd, rfl⟩⟩; refine ⟨_, rfl, ?_⟩))
  go_ret
  exact ⟨yer, yhb⟩
 subst c5
 have H1 : (if a0_2 = a1_2 then (some true) else (some false)) = some r := by rw [if_pos rfl] at H; exact H
 clear H
 have H := H1
 clear H1
 by_cases c6 : a0_2 = a1_2
 rotate_left
 ·rw [if_neg c6] at H
  have c6b0 : (a0_2 == a1_2) = false := beq_eq_false_iff_ne.mpr c6
  have c6b1 : (a0_2 != a1_2) = true := bne_iff_ne.mpr c6
  obtain rfl := Option.some.inj H
  go_enter Try.func71, Try.ntmps71
  go_wp2_with (first | (refine ybe 2 #[.int .i64 a0_0, .slice A0_1 l0_1.length c0_1, .int .i64 a0_2] 67 ?_; intro gb546 hg w12 hbox hb; have n0_ := yam (below_step (yez HB.out) hb); have n1_ := yam (hbox); have n2_ := yam ((by rw [hg]; exact (below_size (yez HB.out)) : w.heap.size ≤ gb546)); have n3_ := n2_; clear HB; have HB := n0_; have BK546 := n1_; have GW546 := n2_; have GE546 := n3_; clear n0_ n1_ n2_ n3_; clear hb hbox hg) | (refine ybe 3 #[.int .i64 a1_0, .slice A1_1 l1_1.length c1_1, .int .i64 a1_2] 67 ?_; intro gb547 hg w13 hbox hb; have n0_ := yam (blk_below (g := gb546) (o := .cells #[.int .i64 a0_0, .slice A0_1 l0_1.length c0_1, .int .i64 a0_2] 67 (0, 0)) (ybz BK546.out) hb); have n1_ := yam (below_step yhb hb); have n2_ := yam (hbox); have n3_ := yam ((by rw [hg]; exact (below_size yhb) : w.heap.size ≤ gb547)); have n4_ := n3_; have n5_ := yam ((by rw [hg]; exact Nat.ne_of_lt (blk_lt (g := gb546) (o := .cells #[.int .i64 a0_0, .slice A0_1 l0_1.length c0_1, .int .i64 a0_2] 67 (0, 0)) (ybz BK546.out)) : gb546 ≠ gb547)); have n6_ := yam ((by rw [hg]; exact Nat.ne_of_gt (blk_lt (g := gb546) (o := .cells #[.int .i64 a0_0, .slice A0_1 l0_1.length c0_1, .int .i64 a0_2] 67 (0, 0)) (ybz BK546.out)) : gb547 ≠ gb546)); clear BK546; clear HB; have BK546 := n0_; have HB := n1_; have BK547 := n2_; have GW547 := n3_; have GE547 := n4_; have NB546_547 := n5_; have NB547_546 := n6_; clear n0_ n1_ n2_ n3_ n4_ n5_ n6_; clear hb hbox hg; have hnb14 := NB546_547.out; have hnc14 := NB547_546.out; obtain ⟨hcz15_0, hcz15_1, hcz15_2, hfz15_0, hfz15_1, hfz15_2⟩ := ybc BK546.out; obtain ⟨hcz16_0, hcz16_1, hcz16_2, hfz16_0, hfz16_1, hfz16_2⟩ := ybc BK547.out) | (refine goesL_ (some 14) rfl rfl Try.func13 (by kernel_rfl) rfl #[.slice A0_1 l0_1.length c0_1, .slice A1_1 l1_1.length c1_1] rfl ymd ?_; (with_reducible refine (laws_eqIntS.calls k _ _ l0_1 _ _ l1_1 true _ ?side1 ?side2 ?side3 ?side4 A4.out).mono ?_); (case side1 => exact Kd.Cz ((Kd.C_below HR0_1.out HB.out))); (case side2 => exact HC0_1.out); (case side3 => exact Kd.Cz ((Kd.C_below HR1_1.out HB.out))); (case side4 => exact HC1_1.out); rintro e w' ⟨rfl, ⟨nd, rfl⟩⟩; refine ⟨_, rfl, ?_⟩))
  go_ret
  exact ⟨yer, yhb⟩
 rw [if_pos c6] at H
 have c6b0 : (a0_2 == a1_2) = true := beq_iff_eq.mpr c6
 have c6b1 : (a0_2 != a1_2) = false := bne_eq_false_iff_eq.mpr c6
 clear c6
 obtain rfl := Option.some.inj H
 go_enter Try.func71, Try.ntmps71
 go_wp2_with (first | (refine ybe 2 #[.int .i64 a0_0, .slice A0_1 l0_1.length c0_1, .int .i64 a0_2] 67 ?_; intro gb546 hg w7 hbox hb; have n0_ := yam (below_step (yez HB.out) hb); have n1_ := yam (hbox); have n2_ := yam ((by rw [hg]; exact (below_size (yez HB.out)) : w.heap.size ≤ gb546)); have n3_ := n2_; clear HB; have HB := n0_; have BK546 := n1_; have GW546 := n2_; have GE546 := n3_; clear n0_ n1_ n2_ n3_; clear hb hbox hg) | (refine ybe 3 #[.int .i64 a1_0, .slice A1_1 l1_1.length c1_1, .int .i64 a1_2] 67 ?_; intro gb547 hg w8 hbox hb; have n0_ := yam (blk_below (g := gb546) (o := .cells #[.int .i64 a0_0, .slice A0_1 l0_1.length c0_1, .int .i64 a0_2] 67 (0, 0)) (ybz BK546.out) hb); have n1_ := yam (below_step yhb hb); have n2_ := yam (hbox); have n3_ := yam ((by rw [hg]; exact (below_size yhb) : w.heap.size ≤ gb547)); have n4_ := n3_; have n5_ := yam ((by rw [hg]; exact Nat.ne_of_lt (blk_lt (g := gb546) (o := .cells #[.int .i64 a0_0, .slice A0_1 l0_1.length c0_1, .int .i64 a0_2] 67 (0, 0)) (ybz BK546.out)) : gb546 ≠ gb547)); have n6_ := yam ((by rw [hg]; exact Nat.ne_of_gt (blk_lt (g := gb546) (o := .cells #[.int .i64 a0_0, .slice A0_1 l0_1.length c0_1, .int .i64 a0_2] 67 (0, 0)) (ybz BK546.out)) : gb547 ≠ gb546)); clear BK546; clear HB; have BK546 := n0_; have HB := n1_; have BK547 := n2_; have GW547 := n3_; have GE547 := n4_; have NB546_547 := n5_; have NB547_546 := n6_; clear n0_ n1_ n2_ n3_ n4_ n5_ n6_; clear hb hbox hg; have hnb9 := NB546_547.out; have hnc9 := NB547_546.out; obtain ⟨hcz10_0, hcz10_1, hcz10_2, hfz10_0, hfz10_1, hfz10_2⟩ := ybc BK546.out; obtain ⟨hcz11_0, hcz11_1, hcz11_2, hfz11_0, hfz11_1, hfz11_2⟩ := ybc BK547.out) | (refine goesL_ (some 14) rfl rfl Try.func13 (by kernel_rfl) rfl #[.slice A0_1 l0_1.length c0_1, .slice A1_1 l1_1.length c1_1] rfl ymd ?_; (with_reducible refine (laws_eqIntS.calls k _ _ l0_1 _ _ l1_1 true _ ?side1 ?side2 ?side3 ?side4 A4.out).mono ?_); (case side1 => exact Kd.Cz ((Kd.C_below HR0_1.out HB.out))); (case side2 => exact HC0_1.out); (case side3 => exact Kd.Cz ((Kd.C_below HR1_1.out HB.out))); (case side4 => exact HC1_1.out); rintro e w' ⟨rfl, ⟨nd, rfl⟩⟩; refine ⟨_, rfl, ?_⟩))
 go_ret
 exact ⟨yer, yhb⟩
def laws_eqRuleS.l0 : Nat → List (S67) → List (S67) → Int → Option (Bool)
 | 0, _, _, _ => none
 | k + 1, x0, x1, x5 => if x5 < (x0.length : Int) then (if 0 ≤ x5 then (if x5 < (x1.length : Int) then ((laws_eqRule.f k ((rd_T67 x0 x5).f0) ((rd_T67 x0 x5).f1) ((rd_T67 x0 x5).f2) ((rd_T67 x1 x5).f0) ((rd_T67 x1 x5).f1) ((rd_T67 x1 x5).f2)).bind fun t551 => (if t551 = true then (laws_eqRuleS.l0 k x0 x1 (wrap64 (x5 + 1))) else (some false))) else (none)) else (none)) else (some true)
def laws_eqRuleS.f (k : Nat) (l0 : List (S67)) (l1 : List (S67)) : Option (Bool) := if (l0.length : Int) = (l1.length : Int) then (laws_eqRuleS.l0 k l0 l1 0) else (some false)
def laws_eqRuleS.T6 : Bool × List (List Nat × List Nat) := (true, [([], []), ([], []), ([0, 1], [0, 1]), ([2], [2]), ([], []), ([], []), ([4, 5], [4, 5]), ([6], [6]), ([3, 7], [3, 7]), ([8], [8])])
def laws_eqRuleS.B6 : List Nat := [0, 0, 3, 7, 0, 0, 48, 112, 255, 511]
theorem laws_eqRuleS.tab6 : rtab .any (opsOf Try.f37 6) = laws_eqRuleS.T6 := by kernel_rfl
theorem laws_eqRuleS.bits6 : waitsOk laws_eqRuleS.T6.2 laws_eqRuleS.B6 = true := by kernel_rfl
set_option maxHeartbeats 8000000 in
set_option maxRecDepth 100000 in
theorem laws_eqRuleS.calls (k : Nat) (A0 : Option Addr) (c0 : Nat) (l0 : List (S67)) (A1 : Option Addr) (c1 : Nat) (l1 : List (S67)) (r : Bool) (w : World) (hr0 : Kd.C k67 w A0 l0.length l0) (hc0 : l0.length ≤ c0) (hr1 : Kd.C k67 w A1 l1.length l1) (hc1 : l1.length ≤ c1) (h : laws_eqRuleS.f k l0 l1 = some r) :
  Calls Try.prog 37 #[.slice A0 l0.length c0, .slice A1 l1.length c1] w fun e w' => e = .returned (.bool r) ∧ Below w.heap.size w w' := by
 have hu67 := Try.underlying67
 have HR0 := yam hr0
 have HC0 := yam hc0
 clear hr0 hc0
 have HR1 := yam hr1
 have HC1 := yam hc1
 clear hr1 hc1
 have HB := yam (Below.refl w.heap.size w)
 have H : (if (l0.length : Int) = (l1.length : Int) then (laws_eqRuleS.l0 k l0 l1 0) else (some false)) = some r := h
 clear h
 by_cases c3 : (l0.length : Int) = (l1.length : Int)
 rotate_left
 ·rw [if_neg c3] at H
  have c3b0 : ((l0.length : Int) == (l1.length : Int)) = false := beq_eq_false_iff_ne.mpr c3
  have c3b1 : ((l0.length : Int) != (l1.length : Int)) = true := bne_iff_ne.mpr c3
  have c3b2 : (l0.length == l1.length) = false := by first | simpa using c3 | (simp at c3 ⊢; omega)
  obtain rfl := Option.some.inj H
  go_enter Try.func37, Try.ntmps37
  go_wp2
  go_ret
  exact ⟨yer, yhb⟩

 rw [if_pos c3] at H
 have c3b0 : ((l0.length : Int) == (l1.length : Int)) = true := beq_iff_eq.mpr c3
 have c3b1 : ((l0.length : Int) != (l1.length : Int)) = false := bne_eq_false_iff_eq.mpr c3
 have c3b2 : (l0.length == l1.length) = true := by first | simpa using c3 | (simp at c3 ⊢; omega)
 clear c3
 have H' := yam H
 clear H
 go_enter Try.func37, Try.ntmps37
 go_wp2
 go_loopg [5] k (fun kq v5 w' => ∃ (x5_1 : Int), v5 = .int .i64 x5_1 ∧ Aside0 (laws_eqRuleS.l0 kq l0 l1 x5_1 = some r) ∧ Aside0 (kq ≤ k) ∧ Aside0 (Below w.heap.size w w'))
 case atStart => exact ⟨(0), yeq, H', ⟨Nat.le_refl _⟩, ⟨yhb⟩⟩
 case round =>
  clear H'
  try clear c1
  try clear p2
  try clear c3
  try clear c3b0
  try clear c3b1
  try clear c3b2
  obtain ⟨x5_1, rfl, HA, HK1, HB⟩ := hrel
  cases gk with
  | zero => exact absurd HA.out (by simp [laws_eqRuleS.l0])
  | succ k1 =>
   have H := HA.out
   clear HA
   simp only [laws_eqRuleS.l0] at H
   by_cases c4 : x5_1 < (l0.length : Int)
   rotate_left
   ·rw [if_neg c4] at H
    have c4b0 : decide (x5_1 < (l0.length : Int)) = false := decide_eq_false c4
    clear c4
    obtain rfl := Option.some.inj H
    go_wp2
    go_ret
    exact ⟨yer, yhb⟩
   rw [if_pos c4] at H
   have c4b0 : decide (x5_1 < (l0.length : Int)) = true := decide_eq_true c4
   clear c4
   replace H := yif H
   obtain ⟨c5b0, H⟩ := H
   replace H := yif H
   obtain ⟨c6b0, H⟩ := H
   replace H := Option.bind_eq_some_iff.mp H
   obtain ⟨t551, A70, H⟩ := H
   try dsimp only at H
   have A7 := yam A70
   clear A70
   by_cases c8 : t551 = true
   rotate_left
   ·replace c8 := Bool.eq_false_iff.mpr c8
    subst c8
    have H1 : (some false) = some r := by rw [if_neg (show ¬ (false = true) by decide)] at H; exact H
    clear H
    have H := H1
    clear H1
    obtain rfl := Option.some.inj H
    try go_wp2
    replace HB := yam (yed HB.out)
    have p549 : 0 ≤ (x5_1 : Int) := ydt
    have q549 : x5_1 < (l0.length : Int) := ydt
    obtain ⟨ad549, A549_1, c549_1, e549, hx549_0, hx549_1, hx549_2, hl549_1, hi549_1⟩ := at_T67 HR0.out x5_1 p549 q549
    have hw549_2 := hx549_2
    have hw549_1 := hx549_1
    have hw549_0 := hx549_0
    cases e549
    replace hx549_0 := ybx HB.out hx549_0
    replace hx549_1 := ybx HB.out hx549_1
    replace hx549_2 := ybx HB.out hx549_2
    have HR549_1 := yam hi549_1
    have HC549_1 := yam hl549_1
    clear hi549_1 hl549_1
    replace p549 := eq_true p549
    replace q549 := eq_true q549
    have p550 : 0 ≤ (x5_1 : Int) := ydt
    have q550 : x5_1 < (l1.length : Int) := ydt
    obtain ⟨ad550, A550_1, c550_1, e550, hx550_0, hx550_1, hx550_2, hl550_1, hi550_1⟩ := at_T67 HR1.out x5_1 p550 q550
    have hw550_2 := hx550_2
    have hw550_1 := hx550_1
    have hw550_0 := hx550_0
    cases e550
    replace hx550_0 := ybx HB.out hx550_0
    replace hx550_1 := ybx HB.out hx550_1
    replace hx550_2 := ybx HB.out hx550_2
    have HR550_1 := yam hi550_1
    have HC550_1 := yam hl550_1
    clear hi550_1 hl550_1
    replace p550 := eq_true p550
    replace q550 := eq_true q550
    refine start_ (n := 10) (S := fun w' => w'.cell? (ad549.add ((x5_1).toNat * 3)) = some (.int .i64 ((rd_T67 l0 x5_1).f0)) ∧ w'.cell? ⟨(ad549.add ((x5_1).toNat * 3)).block, (ad549.add ((x5_1).toNat * 3)).off + 1, none⟩ = some (.slice A549_1 ((rd_T67 l0 x5_1).f1).length c549_1) ∧ w'.cell? ⟨(ad549.add ((x5_1).toNat * 3)).block, (ad549.add ((x5_1).toNat * 3)).off + 2, none⟩ = some (.int .i64 ((rd_T67 l0 x5_1).f2)) ∧ w'.cell? (ad550.add ((x5_1).toNat * 3)) = some (.int .i64 ((rd_T67 l1 x5_1).f0)) ∧ w'.cell? ⟨(ad550.add ((x5_1).toNat * 3)).block, (ad550.add ((x5_1).toNat * 3)).off + 1, none⟩ = some (.slice A550_1 ((rd_T67 l1 x5_1).f1).length c550_1) ∧ w'.cell? ⟨(ad550.add ((x5_1).toNat * 3)).block, (ad550.add ((x5_1).toNat * 3)).off + 2, none⟩ = some (.int .i64 ((rd_T67 l1 x5_1).f2))) (ds := []) #[false, false, false, false, false, false, false, false, false, false] (by kernel_rfl) rfl rfl ⟨((HB.out.cell (World.block_lt_of_cell? w _ hw549_0)).trans hw549_0), ((HB.out.cell (World.block_lt_of_cell? w _ hw549_1)).trans hw549_1), ((HB.out.cell (World.block_lt_of_cell? w _ hw549_2)).trans hw549_2), ((HB.out.cell (World.block_lt_of_cell? w _ hw550_0)).trans hw550_0), ((HB.out.cell (World.block_lt_of_cell? w _ hw550_1)).trans hw550_1), ((HB.out.cell (World.block_lt_of_cell? w _ hw550_2)).trans hw550_2)⟩ (fun hHeld => ?_); refine with_tabW laws_eqRuleS.tab6 laws_eqRuleS.bits6 (fun HT_ HW_ => ?_)
    generalize wr.drew = w11 at HB HR549_1 HR550_1 hx549_0 hx549_1 hx549_2 hx550_0 hx550_1 hx550_2 hHeld ⊢
    refine yvp 0 17 (yvb 10 1) HT_.out ?_
    refine yvp 1 18 (yvb 10 3) HT_.out ?_
    refine yvp 2 19 (yvb 10 7) HT_.out ?_
    refine yvp 4 21 (yvb 10 23) HT_.out ?_
    refine yvp 5 22 (yvb 10 55) HT_.out ?_
    refine yvp 6 23 (yvb 10 119) HT_.out ?_
    refine yvt 3 20 (yvb 10 127) HT_.out HW_.out hHeld ?_
    refine yvt 7 24 (yvb 10 255) HT_.out HW_.out hHeld ?_
    refine one_ (i := 8) (N := some 25) #[true, true, true, true, true, true, true, true, true, false] rfl rfl (one_of HT_.out (by kernel_rfl)) (by decide) (fun K hK => ?_)
    refine goes_ Try.func71 (by kernel_rfl) rfl #[.agg #[.int .i64 ((rd_T67 l0 x5_1).f0), .slice A549_1 ((rd_T67 l0 x5_1).f1).length c549_1, .int .i64 ((rd_T67 l0 x5_1).f2)], .agg #[.int .i64 ((rd_T67 l1 x5_1).f0), .slice A550_1 ((rd_T67 l1 x5_1).f1).length c550_1, .int .i64 ((rd_T67 l1 x5_1).f2)]] (by rfl) rfl rfl ymd ?_
    with_reducible refine (laws_eqRule.calls k1 ((rd_T67 l0 x5_1).f0) _ _ ((rd_T67 l0 x5_1).f1) ((rd_T67 l0 x5_1).f2) ((rd_T67 l1 x5_1).f0) _ _ ((rd_T67 l1 x5_1).f1) ((rd_T67 l1 x5_1).f2) false _ ?side1 ?side2 ?side3 ?side4 A7.out).mono ?_
    (case side1 => exact Kd.Cz ((Kd.C_below HR549_1.out HB.out)))
    (case side2 => exact HC549_1.out)
    (case side3 => exact Kd.Cz ((Kd.C_below HR550_1.out HB.out)))
    (case side4 => exact HC550_1.out)
    rintro e w12 ⟨rfl, hb⟩
    refine ⟨_, rfl, ?_⟩
    replace HB := yam (below_step (yez HB.out) hb)
    (try clear hb)
    (try clear hb2)
    (try clear hk)
    (try clear hi)
    refine hK.out _ _ ⟨((HB.out.cell (World.block_lt_of_cell? w _ hw549_0)).trans hw549_0), ((HB.out.cell (World.block_lt_of_cell? w _ hw549_1)).trans hw549_1), ((HB.out.cell (World.block_lt_of_cell? w _ hw549_2)).trans hw549_2), ((HB.out.cell (World.block_lt_of_cell? w _ hw550_0)).trans hw550_0), ((HB.out.cell (World.block_lt_of_cell? w _ hw550_1)).trans hw550_1), ((HB.out.cell (World.block_lt_of_cell? w _ hw550_2)).trans hw550_2)⟩ (fun hHeld => ?_)
    clear hK K
    refine norm_ (a' := ?_) ?_ ?_
    rotate_left
    ·show Act.put _ (some 25) _ = _
     simp only [Act.put, yps, i64_w, i32_w]
     rfl
    refine yvp 9 26 (yvb 10 1023) HT_.out ?_
    refine done_ (done_of HT_.out (by kernel_rfl)) ?_
    try go_wp2
    go_ret
    exact ⟨yer, yhb⟩
   subst c8
   have H1 : (laws_eqRuleS.l0 k1 l0 l1 (wrap64 (x5_1 + 1))) = some r := by rw [if_pos rfl] at H; exact H
   clear H
   have H := H1
   clear H1
   have H' := yam H
   clear H
   try go_wp2
   replace HB := yam (yed HB.out)
   have p549 : 0 ≤ (x5_1 : Int) := ydt
   have q549 : x5_1 < (l0.length : Int) := ydt
   obtain ⟨ad549, A549_1, c549_1, e549, hx549_0, hx549_1, hx549_2, hl549_1, hi549_1⟩ := at_T67 HR0.out x5_1 p549 q549
   have hw549_2 := hx549_2
   have hw549_1 := hx549_1
   have hw549_0 := hx549_0
   cases e549
   replace hx549_0 := ybx HB.out hx549_0
   replace hx549_1 := ybx HB.out hx549_1
   replace hx549_2 := ybx HB.out hx549_2
   have HR549_1 := yam hi549_1
   have HC549_1 := yam hl549_1
   clear hi549_1 hl549_1
   replace p549 := eq_true p549
   replace q549 := eq_true q549
   have p550 : 0 ≤ (x5_1 : Int) := ydt
   have q550 : x5_1 < (l1.length : Int) := ydt
   obtain ⟨ad550, A550_1, c550_1, e550, hx550_0, hx550_1, hx550_2, hl550_1, hi550_1⟩ := at_T67 HR1.out x5_1 p550 q550
   have hw550_2 := hx550_2
   have hw550_1 := hx550_1
   have hw550_0 := hx550_0
   cases e550
   replace hx550_0 := ybx HB.out hx550_0
   replace hx550_1 := ybx HB.out hx550_1
   replace hx550_2 := ybx HB.out hx550_2
   have HR550_1 := yam hi550_1
   have HC550_1 := yam hl550_1
   clear hi550_1 hl550_1
   replace p550 := eq_true p550
   replace q550 := eq_true q550
   refine start_ (n := 10) (S := fun w' => w'.cell? (ad549.add ((x5_1).toNat * 3)) = some (.int .i64 ((rd_T67 l0 x5_1).f0)) ∧ w'.cell? ⟨(ad549.add ((x5_1).toNat * 3)).block, (ad549.add ((x5_1).toNat * 3)).off + 1, none⟩ = some (.slice A549_1 ((rd_T67 l0 x5_1).f1).length c549_1) ∧ w'.cell? ⟨(ad549.add ((x5_1).toNat * 3)).block, (ad549.add ((x5_1).toNat * 3)).off + 2, none⟩ = some (.int .i64 ((rd_T67 l0 x5_1).f2)) ∧ w'.cell? (ad550.add ((x5_1).toNat * 3)) = some (.int .i64 ((rd_T67 l1 x5_1).f0)) ∧ w'.cell? ⟨(ad550.add ((x5_1).toNat * 3)).block, (ad550.add ((x5_1).toNat * 3)).off + 1, none⟩ = some (.slice A550_1 ((rd_T67 l1 x5_1).f1).length c550_1) ∧ w'.cell? ⟨(ad550.add ((x5_1).toNat * 3)).block, (ad550.add ((x5_1).toNat * 3)).off + 2, none⟩ = some (.int .i64 ((rd_T67 l1 x5_1).f2))) (ds := []) #[false, false, false, false, false, false, false, false, false, false] (by kernel_rfl) rfl rfl ⟨((HB.out.cell (World.block_lt_of_cell? w _ hw549_0)).trans hw549_0), ((HB.out.cell (World.block_lt_of_cell? w _ hw549_1)).trans hw549_1), ((HB.out.cell (World.block_lt_of_cell? w _ hw549_2)).trans hw549_2), ((HB.out.cell (World.block_lt_of_cell? w _ hw550_0)).trans hw550_0), ((HB.out.cell (World.block_lt_of_cell? w _ hw550_1)).trans hw550_1), ((HB.out.cell (World.block_lt_of_cell? w _ hw550_2)).trans hw550_2)⟩ (fun hHeld => ?_); refine with_tabW laws_eqRuleS.tab6 laws_eqRuleS.bits6 (fun HT_ HW_ => ?_)
   generalize wr.drew = w9 at HB HR549_1 HR550_1 hx549_0 hx549_1 hx549_2 hx550_0 hx550_1 hx550_2 hHeld ⊢
   refine yvp 0 17 (yvb 10 1) HT_.out ?_
   refine yvp 1 18 (yvb 10 3) HT_.out ?_
   refine yvp 2 19 (yvb 10 7) HT_.out ?_
   refine yvp 4 21 (yvb 10 23) HT_.out ?_
   refine yvp 5 22 (yvb 10 55) HT_.out ?_
   refine yvp 6 23 (yvb 10 119) HT_.out ?_
   refine yvt 3 20 (yvb 10 127) HT_.out HW_.out hHeld ?_
   refine yvt 7 24 (yvb 10 255) HT_.out HW_.out hHeld ?_
   refine one_ (i := 8) (N := some 25) #[true, true, true, true, true, true, true, true, true, false] rfl rfl (one_of HT_.out (by kernel_rfl)) (by decide) (fun K hK => ?_)
   refine goes_ Try.func71 (by kernel_rfl) rfl #[.agg #[.int .i64 ((rd_T67 l0 x5_1).f0), .slice A549_1 ((rd_T67 l0 x5_1).f1).length c549_1, .int .i64 ((rd_T67 l0 x5_1).f2)], .agg #[.int .i64 ((rd_T67 l1 x5_1).f0), .slice A550_1 ((rd_T67 l1 x5_1).f1).length c550_1, .int .i64 ((rd_T67 l1 x5_1).f2)]] (by rfl) rfl rfl ymd ?_
   with_reducible refine (laws_eqRule.calls k1 ((rd_T67 l0 x5_1).f0) _ _ ((rd_T67 l0 x5_1).f1) ((rd_T67 l0 x5_1).f2) ((rd_T67 l1 x5_1).f0) _ _ ((rd_T67 l1 x5_1).f1) ((rd_T67 l1 x5_1).f2) true _ ?side1 ?side2 ?side3 ?side4 A7.out).mono ?_
   (case side1 => exact Kd.Cz ((Kd.C_below HR549_1.out HB.out)))
   (case side2 => exact HC549_1.out)
   (case side3 => exact Kd.Cz ((Kd.C_below HR550_1.out HB.out)))
   (case side4 => exact HC550_1.out)
   rintro e w10 ⟨rfl, hb⟩
   refine ⟨_, rfl, ?_⟩
   replace HB := yam (below_step (yez HB.out) hb)
   (try clear hb)
   (try clear hb2)
   (try clear hk)
   (try clear hi)
   refine hK.out _ _ ⟨((HB.out.cell (World.block_lt_of_cell? w _ hw549_0)).trans hw549_0), ((HB.out.cell (World.block_lt_of_cell? w _ hw549_1)).trans hw549_1), ((HB.out.cell (World.block_lt_of_cell? w _ hw549_2)).trans hw549_2), ((HB.out.cell (World.block_lt_of_cell? w _ hw550_0)).trans hw550_0), ((HB.out.cell (World.block_lt_of_cell? w _ hw550_1)).trans hw550_1), ((HB.out.cell (World.block_lt_of_cell? w _ hw550_2)).trans hw550_2)⟩ (fun hHeld => ?_)
   clear hK K
   refine norm_ (a' := ?_) ?_ ?_
   rotate_left
   ·show Act.put _ (some 25) _ = _
    simp only [Act.put, yps, i64_w, i32_w]
    rfl
   refine yvp 9 26 (yvb 10 1023) HT_.out ?_
   refine done_ (done_of HT_.out (by kernel_rfl)) ?_
   try go_wp2
   go_roundg k1
   case measure => have := HK1.out; omega
   case rel => exact ⟨(wrap64 (x5_1 + 1)), yeq, H', ⟨by have := HK1.out; omega⟩, ⟨yhb⟩⟩
def laws_eqPuzzle.f (k : Nat) (a0_0 : Int) (l0_1 : List Int) (l0_2 : List (S67)) (a1_0 : Int) (l1_1 : List Int) (l1_2 : List (S67)) : Option (Bool) := if a0_0 = a1_0 then ((laws_eqIntS.f k l0_1 l1_1).bind fun t554 => (if t554 = true then ((laws_eqRuleS.f k l0_2 l1_2).bind fun t555 => (if t555 = true then (some true) else (some false))) else (some false))) else (some false)
set_option maxHeartbeats 8000000 in
set_option maxRecDepth 100000 in
theorem laws_eqPuzzle.calls (k : Nat) (a0_0 : Int) (A0_1 : Option Addr) (c0_1 : Nat) (l0_1 : List Int) (A0_2 : Option Addr) (c0_2 : Nat) (l0_2 : List (S67)) (a1_0 : Int) (A1_1 : Option Addr) (c1_1 : Nat) (l1_1 : List Int) (A1_2 : Option Addr) (c1_2 : Nat) (l1_2 : List (S67)) (r : Bool) (w : World) (hr0_1 : Kd.C (Kd.int .i64) w A0_1 l0_1.length l0_1) (hc0_1 : l0_1.length ≤ c0_1) (hr0_2 : Kd.C k67 w A0_2 l0_2.length l0_2) (hc0_2 : l0_2.length ≤ c0_2) (hr1_1 : Kd.C (Kd.int .i64) w A1_1 l1_1.length l1_1) (hc1_1 : l1_1.length ≤ c1_1) (hr1_2 : Kd.C k67 w A1_2 l1_2.length l1_2) (hc1_2 : l1_2.length ≤ c1_2) (h : laws_eqPuzzle.f k a0_0 l0_1 l0_2 a1_0 l1_1 l1_2 = some r) :
  Calls Try.prog 14 #[.agg #[.int .i64 a0_0, .slice A0_1 l0_1.length c0_1, .slice A0_2 l0_2.length c0_2], .agg #[.int .i64 a1_0, .slice A1_1 l1_1.length c1_1, .slice A1_2 l1_2.length c1_2]] w fun e w' => e = .returned (.bool r) ∧ Below w.heap.size w w' := by
 have hu30 := Try.underlying30
 have HR0_1 := yam hr0_1
 have HC0_1 := yam hc0_1
 clear hr0_1 hc0_1
 have HR0_2 := yam hr0_2
 have HC0_2 := yam hc0_2
 clear hr0_2 hc0_2
 have HR1_1 := yam hr1_1
 have HC1_1 := yam hc1_1
 clear hr1_1 hc1_1
 have HR1_2 := yam hr1_2
 have HC1_2 := yam hc1_2
 clear hr1_2 hc1_2
 have HB := yam (Below.refl w.heap.size w)
 have H : (if a0_0 = a1_0 then ((laws_eqIntS.f k l0_1 l1_1).bind fun t554 => (if t554 = true then ((laws_eqRuleS.f k l0_2 l1_2).bind fun t555 => (if t555 = true then (some true) else (some false))) else (some false))) else (some false)) = some r := h
 clear h
 by_cases c3 : a0_0 = a1_0
 rotate_left
 ·rw [if_neg c3] at H
  have c3b0 : (a0_0 == a1_0) = false := beq_eq_false_iff_ne.mpr c3
  have c3b1 : (a0_0 != a1_0) = true := bne_iff_ne.mpr c3
  obtain rfl := Option.some.inj H
  go_enter Try.func14, Try.ntmps14
  go_wp2_with (first | (refine ybe 2 #[.int .i64 a0_0, .slice A0_1 l0_1.length c0_1, .slice A0_2 l0_2.length c0_2] 30 ?_; intro gb552 hg w25 hbox hb; have n0_ := yam (below_step (yez HB.out) hb); have n1_ := yam (hbox); have n2_ := yam ((by rw [hg]; exact (below_size (yez HB.out)) : w.heap.size ≤ gb552)); have n3_ := n2_; clear HB; have HB := n0_; have BK552 := n1_; have GW552 := n2_; have GE552 := n3_; clear n0_ n1_ n2_ n3_; clear hb hbox hg) | (refine ybe 3 #[.int .i64 a1_0, .slice A1_1 l1_1.length c1_1, .slice A1_2 l1_2.length c1_2] 30 ?_; intro gb553 hg w26 hbox hb; have n0_ := yam (blk_below (g := gb552) (o := .cells #[.int .i64 a0_0, .slice A0_1 l0_1.length c0_1, .slice A0_2 l0_2.length c0_2] 30 (0, 0)) (ybz BK552.out) hb); have n1_ := yam (below_step yhb hb); have n2_ := yam (hbox); have n3_ := yam ((by rw [hg]; exact (below_size yhb) : w.heap.size ≤ gb553)); have n4_ := n3_; have n5_ := yam ((by rw [hg]; exact Nat.ne_of_lt (blk_lt (g := gb552) (o := .cells #[.int .i64 a0_0, .slice A0_1 l0_1.length c0_1, .slice A0_2 l0_2.length c0_2] 30 (0, 0)) (ybz BK552.out)) : gb552 ≠ gb553)); have n6_ := yam ((by rw [hg]; exact Nat.ne_of_gt (blk_lt (g := gb552) (o := .cells #[.int .i64 a0_0, .slice A0_1 l0_1.length c0_1, .slice A0_2 l0_2.length c0_2] 30 (0, 0)) (ybz BK552.out)) : gb553 ≠ gb552)); clear BK552; clear HB; have BK552 := n0_; have HB := n1_; have BK553 := n2_; have GW553 := n3_; have GE553 := n4_; have NB552_553 := n5_; have NB553_552 := n6_; clear n0_ n1_ n2_ n3_ n4_ n5_ n6_; clear hb hbox hg; have hnb27 := NB552_553.out; have hnc27 := NB553_552.out; obtain ⟨hcz28_0, hcz28_1, hcz28_2, hfz28_0, hfz28_1, hfz28_2⟩ := ybc BK552.out; obtain ⟨hcz29_0, hcz29_1, hcz29_2, hfz29_0, hfz29_1, hfz29_2⟩ := ybc BK553.out))
  go_ret
  exact ⟨yer, yhb⟩

 rw [if_pos c3] at H
 have c3b0 : (a0_0 == a1_0) = true := beq_iff_eq.mpr c3
 have c3b1 : (a0_0 != a1_0) = false := bne_eq_false_iff_eq.mpr c3
 clear c3
 replace H := Option.bind_eq_some_iff.mp H
 obtain ⟨t554, A40, H⟩ := H
 try dsimp only at H
 have A4 := yam A40
 clear A40
 by_cases c5 : t554 = true
 rotate_left
 ·replace c5 := Bool.eq_false_iff.mpr c5
  subst c5
  have H1 : (some false) = some r := by rw [if_neg (show ¬ (false = true) by decide)] at H; exact H
  clear H
  have H := H1
  clear H1
  obtain rfl := Option.some.inj H
  go_enter Try.func14, Try.ntmps14
  go_wp2_with (first | (refine ybe 2 #[.int .i64 a0_0, .slice A0_1 l0_1.length c0_1, .slice A0_2 l0_2.length c0_2] 30 ?_; intro gb552 hg w20 hbox hb; have n0_ := yam (below_step (yez HB.out) hb); have n1_ := yam (hbox); have n2_ := yam ((by rw [hg]; exact (below_size (yez HB.out)) : w.heap.size ≤ gb552)); have n3_ := n2_; clear HB; have HB := n0_; have BK552 := n1_; have GW552 := n2_; have GE552 := n3_; clear n0_ n1_ n2_ n3_; clear hb hbox hg) | (refine ybe 3 #[.int .i64 a1_0, .slice A1_1 l1_1.length c1_1, .slice A1_2 l1_2.length c1_2] 30 ?_; intro gb553 hg w21 hbox hb; have n0_ := yam (blk_below (g := gb552) (o := .cells #[.int .i64 a0_0, .slice A0_1 l0_1.length c0_1, .slice A0_2 l0_2.length c0_2] 30 (0, 0)) (ybz BK552.out) hb); have n1_ := yam (below_step yhb hb); have n2_ := yam (hbox); have n3_ := yam ((by rw [hg]; exact (below_size yhb) : w.heap.size ≤ gb553)); have n4_ := n3_; have n5_ := yam ((by rw [hg]; exact Nat.ne_of_lt (blk_lt (g := gb552) (o := .cells #[.int .i64 a0_0, .slice A0_1 l0_1.length c0_1, .slice A0_2 l0_2.length c0_2] 30 (0, 0)) (ybz BK552.out)) : gb552 ≠ gb553)); have n6_ := yam ((by rw [hg]; exact Nat.ne_of_gt (blk_lt (g := gb552) (o := .cells #[.int .i64 a0_0, .slice A0_1 l0_1.length c0_1, .slice A0_2 l0_2.length c0_2] 30 (0, 0)) (ybz BK552.out)) : gb553 ≠ gb552)); clear BK552; clear HB; have BK552 := n0_; have HB := n1_; have BK553 := n2_; have GW553 := n3_; have GE553 := n4_; have NB552_553 := n5_; have NB553_552 := n6_; clear n0_ n1_ n2_ n3_ n4_ n5_ n6_; clear hb hbox hg; have hnb22 := NB552_553.out; have hnc22 := NB553_552.out; obtain ⟨hcz23_0, hcz23_1, hcz23_2, hfz23_0, hfz23_1, hfz23_2⟩ := ybc BK552.out; obtain ⟨hcz24_0, hcz24_1, hcz24_2, hfz24_0, hfz24_1, hfz24_2⟩ := ybc BK553.out) | (refine goesL_ (some 14) rfl rfl Try.func13 (by kernel_rfl) rfl #[.slice A0_1 l0_1.length c0_1, .slice A1_1 l1_1.length c1_1] rfl ymd ?_; (with_reducible refine (laws_eqIntS.calls k _ _ l0_1 _ _ l1_1 false _ ?side1 ?side2 ?side3 ?side4 A4.out).mono ?_); (case side1 => exact Kd.Cz ((Kd.C_below HR0_1.out HB.out))); (case side2 => exact HC0_1.out); (case side3 => exact Kd.Cz ((Kd.C_below HR1_1.out HB.out))); (case side4 => exact HC1_1.out); rintro e w' ⟨rfl, ⟨nd, rfl⟩⟩; refine ⟨_, rfl, ?_⟩))
  go_ret
  exact ⟨yer, yhb⟩
 subst c5
 have H1 : ((laws_eqRuleS.f k l0_2 l1_2).bind fun t555 => (if t555 = true then (some true) else (some false))) = some r := by rw [if_pos rfl] at H; exact H
 clear H
 have H := H1
 clear H1
 replace H := Option.bind_eq_some_iff.mp H
 obtain ⟨t555, A60, H⟩ := H
 try dsimp only at H
 have A6 := yam A60
 clear A60
 by_cases c7 : t555 = true
 ·subst c7
  have H1 : (some true) = some r := by rw [if_pos rfl] at H; exact H
  clear H
  have H := H1
  clear H1
  obtain rfl := Option.some.inj H
  go_enter Try.func14, Try.ntmps14
  go_wp2_with (first | (refine ybe 2 #[.int .i64 a0_0, .slice A0_1 l0_1.length c0_1, .slice A0_2 l0_2.length c0_2] 30 ?_; intro gb552 hg w8 hbox hb; have n0_ := yam (below_step (yez HB.out) hb); have n1_ := yam (hbox); have n2_ := yam ((by rw [hg]; exact (below_size (yez HB.out)) : w.heap.size ≤ gb552)); have n3_ := n2_; clear HB; have HB := n0_; have BK552 := n1_; have GW552 := n2_; have GE552 := n3_; clear n0_ n1_ n2_ n3_; clear hb hbox hg) | (refine ybe 3 #[.int .i64 a1_0, .slice A1_1 l1_1.length c1_1, .slice A1_2 l1_2.length c1_2] 30 ?_; intro gb553 hg w9 hbox hb; have n0_ := yam (blk_below (g := gb552) (o := .cells #[.int .i64 a0_0, .slice A0_1 l0_1.length c0_1, .slice A0_2 l0_2.length c0_2] 30 (0, 0)) (ybz BK552.out) hb); have n1_ := yam (below_step yhb hb); have n2_ := yam (hbox); have n3_ := yam ((by rw [hg]; exact (below_size yhb) : w.heap.size ≤ gb553)); have n4_ := n3_; have n5_ := yam ((by rw [hg]; exact Nat.ne_of_lt (blk_lt (g := gb552) (o := .cells #[.int .i64 a0_0, .slice A0_1 l0_1.length c0_1, .slice A0_2 l0_2.length c0_2] 30 (0, 0)) (ybz BK552.out)) : gb552 ≠ gb553)); have n6_ := yam ((by rw [hg]; exact Nat.ne_of_gt (blk_lt (g := gb552) (o := .cells #[.int .i64 a0_0, .slice A0_1 l0_1.length c0_1, .slice A0_2 l0_2.length c0_2] 30 (0, 0)) (ybz BK552.out)) : gb553 ≠ gb552)); clear BK552; clear HB; have BK552 := n0_; have HB := n1_; have BK553 := n2_; have GW553 := n3_; have GE553 := n4_; have NB552_553 := n5_; have NB553_552 := n6_; clear n0_ n1_ n2_ n3_ n4_ n5_ n6_; clear hb hbox hg; have hnb10 := NB552_553.out; have hnc10 := NB553_552.out; obtain ⟨hcz11_0, hcz11_1, hcz11_2, hfz11_0, hfz11_1, hfz11_2⟩ := ybc BK552.out; obtain ⟨hcz12_0, hcz12_1, hcz12_2, hfz12_0, hfz12_1, hfz12_2⟩ := ybc BK553.out) | (refine goesL_ (some 14) rfl rfl Try.func13 (by kernel_rfl) rfl #[.slice A0_1 l0_1.length c0_1, .slice A1_1 l1_1.length c1_1] rfl ymd ?_; (with_reducible refine (laws_eqIntS.calls k _ _ l0_1 _ _ l1_1 true _ ?side1 ?side2 ?side3 ?side4 A4.out).mono ?_); (case side1 => exact Kd.Cz ((Kd.C_below HR0_1.out HB.out))); (case side2 => exact HC0_1.out); (case side3 => exact Kd.Cz ((Kd.C_below HR1_1.out HB.out))); (case side4 => exact HC1_1.out); rintro e w' ⟨rfl, ⟨nd, rfl⟩⟩; refine ⟨_, rfl, ?_⟩) | (refine goesL_ (some 20) rfl rfl Try.func37 (by kernel_rfl) rfl #[.slice A0_2 l0_2.length c0_2, .slice A1_2 l1_2.length c1_2] rfl ymd ?_; (with_reducible refine (laws_eqRuleS.calls k _ _ l0_2 _ _ l1_2 true _ ?side1 ?side2 ?side3 ?side4 A6.out).mono ?_); (case side1 => repeat (first | exact (Kd.C_below HR0_2.out yhb) | (with_reducible refine Kd.C_alloc ?_ _) | (with_reducible refine Kd.C_drewN ?_ _) | (with_reducible refine Kd.C_drew ?_))); (case side2 => exact HC0_2.out); (case side3 => repeat (first | exact (Kd.C_below HR1_2.out yhb) | (with_reducible refine Kd.C_alloc ?_ _) | (with_reducible refine Kd.C_drewN ?_ _) | (with_reducible refine Kd.C_drew ?_))); (case side4 => exact HC1_2.out); rintro e w13 ⟨rfl, hb⟩; refine ⟨_, rfl, ?_⟩; replace BK552 := yam (blk_below (g := gb552) (o := .cells #[.int .i64 a0_0, .slice A0_1 l0_1.length c0_1, .slice A0_2 l0_2.length c0_2] 30 (0, 0)) (ybz BK552.out) hb); replace BK553 := yam (blk_below (g := gb553) (o := .cells #[.int .i64 a1_0, .slice A1_1 l1_1.length c1_1, .slice A1_2 l1_2.length c1_2] 30 (0, 0)) (ybz BK553.out) hb); replace HB := yam (below_step yhb hb); (try clear hb); (try clear hb2); (try clear hk); (try clear hi)))
  go_ret
  exact ⟨yer, yhb⟩
 replace c7 := Bool.eq_false_iff.mpr c7
 subst c7
 have H1 : (some false) = some r := by rw [if_neg (show ¬ (false = true) by decide)] at H; exact H
 clear H
 have H := H1
 clear H1
 obtain rfl := Option.some.inj H
 go_enter Try.func14, Try.ntmps14
 go_wp2_with (first | (refine ybe 2 #[.int .i64 a0_0, .slice A0_1 l0_1.length c0_1, .slice A0_2 l0_2.length c0_2] 30 ?_; intro gb552 hg w14 hbox hb; have n0_ := yam (below_step (yez HB.out) hb); have n1_ := yam (hbox); have n2_ := yam ((by rw [hg]; exact (below_size (yez HB.out)) : w.heap.size ≤ gb552)); have n3_ := n2_; clear HB; have HB := n0_; have BK552 := n1_; have GW552 := n2_; have GE552 := n3_; clear n0_ n1_ n2_ n3_; clear hb hbox hg) | (refine ybe 3 #[.int .i64 a1_0, .slice A1_1 l1_1.length c1_1, .slice A1_2 l1_2.length c1_2] 30 ?_; intro gb553 hg w15 hbox hb; have n0_ := yam (blk_below (g := gb552) (o := .cells #[.int .i64 a0_0, .slice A0_1 l0_1.length c0_1, .slice A0_2 l0_2.length c0_2] 30 (0, 0)) (ybz BK552.out) hb); have n1_ := yam (below_step yhb hb); have n2_ := yam (hbox); have n3_ := yam ((by rw [hg]; exact (below_size yhb) : w.heap.size ≤ gb553)); have n4_ := n3_; have n5_ := yam ((by rw [hg]; exact Nat.ne_of_lt (blk_lt (g := gb552) (o := .cells #[.int .i64 a0_0, .slice A0_1 l0_1.length c0_1, .slice A0_2 l0_2.length c0_2] 30 (0, 0)) (ybz BK552.out)) : gb552 ≠ gb553)); have n6_ := yam ((by rw [hg]; exact Nat.ne_of_gt (blk_lt (g := gb552) (o := .cells #[.int .i64 a0_0, .slice A0_1 l0_1.length c0_1, .slice A0_2 l0_2.length c0_2] 30 (0, 0)) (ybz BK552.out)) : gb553 ≠ gb552)); clear BK552; clear HB; have BK552 := n0_; have HB := n1_; have BK553 := n2_; have GW553 := n3_; have GE553 := n4_; have NB552_553 := n5_; have NB553_552 := n6_; clear n0_ n1_ n2_ n3_ n4_ n5_ n6_; clear hb hbox hg; have hnb16 := NB552_553.out; have hnc16 := NB553_552.out; obtain ⟨hcz17_0, hcz17_1, hcz17_2, hfz17_0, hfz17_1, hfz17_2⟩ := ybc BK552.out; obtain ⟨hcz18_0, hcz18_1, hcz18_2, hfz18_0, hfz18_1, hfz18_2⟩ := ybc BK553.out) | (refine goesL_ (some 14) rfl rfl Try.func13 (by kernel_rfl) rfl #[.slice A0_1 l0_1.length c0_1, .slice A1_1 l1_1.length c1_1] rfl ymd ?_; (with_reducible refine (laws_eqIntS.calls k _ _ l0_1 _ _ l1_1 true _ ?side1 ?side2 ?side3 ?side4 A4.out).mono ?_); (case side1 => exact Kd.Cz ((Kd.C_below HR0_1.out HB.out))); (case side2 => exact HC0_1.out); (case side3 => exact Kd.Cz ((Kd.C_below HR1_1.out HB.out))); (case side4 => exact HC1_1.out); rintro e w' ⟨rfl, ⟨nd, rfl⟩⟩; refine ⟨_, rfl, ?_⟩) | (refine goesL_ (some 20) rfl rfl Try.func37 (by kernel_rfl) rfl #[.slice A0_2 l0_2.length c0_2, .slice A1_2 l1_2.length c1_2] rfl ymd ?_; (with_reducible refine (laws_eqRuleS.calls k _ _ l0_2 _ _ l1_2 false _ ?side1 ?side2 ?side3 ?side4 A6.out).mono ?_); (case side1 => repeat (first | exact (Kd.C_below HR0_2.out yhb) | (with_reducible refine Kd.C_alloc ?_ _) | (with_reducible refine Kd.C_drewN ?_ _) | (with_reducible refine Kd.C_drew ?_))); (case side2 => exact HC0_2.out); (case side3 => repeat (first | exact (Kd.C_below HR1_2.out yhb) | (with_reducible refine Kd.C_alloc ?_ _) | (with_reducible refine Kd.C_drewN ?_ _) | (with_reducible refine Kd.C_drew ?_))); (case side4 => exact HC1_2.out); rintro e w19 ⟨rfl, hb⟩; refine ⟨_, rfl, ?_⟩; replace BK552 := yam (blk_below (g := gb552) (o := .cells #[.int .i64 a0_0, .slice A0_1 l0_1.length c0_1, .slice A0_2 l0_2.length c0_2] 30 (0, 0)) (ybz BK552.out) hb); replace BK553 := yam (blk_below (g := gb553) (o := .cells #[.int .i64 a1_0, .slice A1_1 l1_1.length c1_1, .slice A1_2 l1_2.length c1_2] 30 (0, 0)) (ybz BK553.out) hb); replace HB := yam (below_step yhb hb); (try clear hb); (try clear hb2); (try clear hk); (try clear hi)))
 go_ret
 exact ⟨yer, yhb⟩
def laws_markIntS.l0 : Nat → List Int → Int → Int → Option (Int × List Int)
 | 0, _, _, _ => none
 | k + 1, x0, x1, x5 => if x5 < (x0.length : Int) then (if 0 ≤ x5 then (laws_markIntS.l0 k (x0.set (x5 : Int).toNat x1) (wrap64 (x1 + 1)) (wrap64 (x5 + 1))) else (none)) else (some (x1, x0))
def laws_markIntS.f (k : Nat) (l0 : List Int) (a1 : Int) : Option (Int × List Int) := laws_markIntS.l0 k l0 a1 0
set_option maxHeartbeats 8000000 in
set_option maxRecDepth 100000 in
theorem laws_markIntS.calls (k : Nat) (P0_ : Nat → Prop) (u9000_ : Value) (l0 : List Int) (a1 : Int) (r1 : Int) (r2 : List Int) (w0 w : World) (hB : Below w0.heap.size w0 w) (ho0 : Kd.R (Kd.int .i64) 3 w w0.heap.size P0_ u9000_ l0) (h : laws_markIntS.f k l0 a1 = some (r1, r2)) :
  Calls Try.prog 16 #[u9000_, .int .i64 a1] w fun e w' => e = .returned (.int .i64 r1) ∧ Kd.R (Kd.int .i64) 3 w' w0.heap.size (fun k_ => (P0_ k_ ∨ w.heap.size ≤ k_)) u9000_ r2 ∧ Below w0.heap.size w0 w' ∧ Kept w w' (fun k_ => P0_ k_) := by
 have HO0 := yam (show Kd.R (Kd.int .i64) 3 w w0.heap.size (fun k_ => (P0_ k_ ∨ w.heap.size ≤ k_)) u9000_ l0 from Kd.R_mono ho0 (fun k_ hk => (.inl hk)))
 have HK := yam (Kept.refl w (fun k_ => P0_ k_))
 have HW0 := yam hB.size
 have HB := yam hB
 clear hB
 have H : (laws_markIntS.l0 k l0 a1 0) = some (r1, r2) := h
 clear h
 have H' := yam H
 clear H
 go_enter Try.func16, Try.ntmps16
 go_wp2
 go_loopg [1, 5] k (fun kq v1 v5 w' => ∃ (x0_1 : List Int) (x1_1 : Int) (x5_1 : Int), v1 = .int .i64 x1_1 ∧ v5 = .int .i64 x5_1 ∧ Aside0 (laws_markIntS.l0 kq x0_1 x1_1 x5_1 = some (r1, r2)) ∧ Aside0 (kq ≤ k) ∧ Aside0 (Kd.R (Kd.int .i64) 3 w' w0.heap.size (fun k_ => (P0_ k_ ∨ w.heap.size ≤ k_)) u9000_ x0_1) ∧ Aside0 (Kept w w' (fun k_ => P0_ k_)) ∧ Aside0 (Below w0.heap.size w0 w'))
 case atStart => exact ⟨(l0), (a1), (0), yeq, yeq, H', ⟨Nat.le_refl _⟩, ⟨yka HO0.out⟩, ⟨by repeat (first | (with_reducible first | exact HK.out | apply Kept.alloc | apply Kept.drewN | apply Kept.drew) | exact HK.out)⟩, ⟨yhb⟩⟩
 case round =>
  clear H'
  try clear c1
  try clear p2
  obtain ⟨x0_1, x1_1, x5_1, rfl, rfl, HA, HK1, HO_0, HK, HB⟩ := hrel
  cases gk with
  | zero => exact absurd HA.out (by simp [laws_markIntS.l0])
  | succ k1 =>
   have H := HA.out
   clear HA
   simp only [laws_markIntS.l0] at H
   by_cases c3 : x5_1 < (x0_1.length : Int)
   rotate_left
   ·rw [if_neg c3] at H
    have c3b0 : decide (x5_1 < (x0_1.length : Int)) = false := decide_eq_false c3
    clear c3
    simp only [Option.some.injEq, Prod.mk.injEq] at H
    obtain ⟨rfl, rfl⟩ := H
    obtain ⟨Ao9, co9, eo9⟩ := Kd.R_slice HO_0.out
    subst eo9
    go_wp2
    go_ret
    exact ⟨yer, yka HO_0.out, yhb, by repeat (first | (with_reducible first | exact HK.out | apply Kept.alloc | apply Kept.drewN | apply Kept.drew) | exact HK.out)⟩

   rw [if_pos c3] at H
   have c3b0 : decide (x5_1 < (x0_1.length : Int)) = true := decide_eq_true c3
   clear c3
   replace H := yif H
   obtain ⟨c4b0, H⟩ := H
   obtain ⟨y556, hy556⟩ : ∃ y_ : List Int, y_ = (x0_1.set (x5_1 : Int).toNat x1_1) := ⟨_, rfl⟩
   replace H : (laws_markIntS.l0 k1 y556 (wrap64 (x1_1 + 1)) (wrap64 (x5_1 + 1))) = some (r1, r2) := by first | (rw [hy556]; with_reducible exact H) | (have H2_ := (Option.bind_some _ _).symm.trans H; rw [hy556]; with_reducible exact H2_) | (have H2_ := (Option.bind_some _ _).symm.trans H; with_reducible exact H2_) | with_reducible exact H | (rw [hy556]; exact H) | exact H
   have Ny556 := yam hy556
   clear hy556
   have H' := yam H
   clear H
   obtain ⟨Ao6, co6, eo6⟩ := Kd.R_slice HO_0.out
   subst eo6
   have p5 : 0 ≤ (x5_1 : Int) := ydt
   have q5 : (x5_1 : Int) < ((x0_1.length : Int) : Int) := ydt
   obtain ⟨go5, co5, eo5, gb5, gl5, cl5, HG5⟩ := Kd.R_form HO_0.out (by omega)
   (first | cases eo5 | (injection eo5 with ea_ en_ ec_; (first | subst ea_ | (injection ea_ with ea_; subst ea_)); subst ec_; clear en_))
   have GB5 := yam gb5
   have GG5 := yam HG5
   clear gb5 gl5 HG5
   have HMgo5 := yam (show (P0_ go5 ∨ w.heap.size ≤ go5) from (HO_0.out.1 _ rfl))
   obtain ⟨hx5_0, hf5_0⟩ := Kd.R_celln 0 HO_0.out (x5_1 : Int) p5 q5
   replace p5 := eq_true p5
   replace q5 := eq_true q5
   have HP7 := Kd.R_putg HO_0.out (x5_1 : Int) x1_1
   go_wp2_with (first | ((with_reducible refine gate_store (t := 3) (p := 15) rfl ?_); refine store_event (t := 3) (p := 15) (v := ?vo_w8) (w1 := (wr.setCell ⟨go5, (x5_1 : Int).toNat, none⟩ (.int .i64 x1_1))) ?hg ?ho ?hn ?hr ?_; (case ho => rfl); (case hg => rfl); (case hn => rfl); (case hr => first | (go_simp; done) | (go_simp; rfl)); intro w8 hw; have hg : wr.grownBy w8 (some go5) := (by rw [hw]; exact HP7.2); have hp_ : Kd.R (Kd.int .i64) 3 w8 w0.heap.size (fun k_ => (P0_ k_ ∨ w.heap.size ≤ k_)) (.slice (some ⟨go5, 0, none⟩) x0_1.length co6) y556 := (by rw [hw, Ny556.out]; exact HP7.1); clear HP7; replace HB := yam ((by rw [hw]; exact below_set (HB.out) GB5.out : Below w0.heap.size w0 w8)); replace HK := yam (Kept.of_grown (S := (fun k_ => P0_ k_)) hg (by repeat (first | (with_reducible first | exact HK.out | apply Kept.alloc | apply Kept.drewN | apply Kept.drew) | exact HK.out)) (fun k_ e_ => (HO_0.out.1 k_ e_))); replace HO_0 := yam (hp_); clear hg hw hp_))
   go_roundg k1
   case measure => have := HK1.out; omega
   case rel => exact ⟨(y556), (wrap64 (x1_1 + 1)), (wrap64 (x5_1 + 1)), yeq, yeq, H', ⟨by have := HK1.out; omega⟩, ⟨yka HO_0.out⟩, ⟨by repeat (first | (with_reducible first | exact HK.out | apply Kept.alloc | apply Kept.drewN | apply Kept.drew) | exact HK.out)⟩, ⟨yhb⟩⟩
theorem rule_M {W : World} {base : Nat} {ok : Nat → Prop} {x : S67} {c : List Value} (h : k67.M W base ok x c) : ∃ v, c = [.int .i64 x.f0, v, .int .i64 x.f2] ∧ Kd.R (Kd.int .i64) 3 W base ok v x.f1 := by
 obtain ⟨c0, c1, rfl, h0, c2, c3, rfl, ⟨v, rfl, hR⟩, h3⟩ := h
 obtain rfl : c0 = [.int .i64 x.f0] := h0
 obtain rfl : c3 = [.int .i64 x.f2] := h3
 exact ⟨v, rfl, hR⟩
theorem rule_M_mk {W : World} {base : Nat} {ok : Nat → Prop} (x : S67) {v : Value} (h : Kd.R (Kd.int .i64) 3 W base ok v x.f1) : k67.M W base ok x [.int .i64 x.f0, v, .int .i64 x.f2] :=
 ⟨[.int .i64 x.f0], [v, .int .i64 x.f2], rfl, rfl, [v], [.int .i64 x.f2], rfl, ⟨v, rfl, h⟩, rfl⟩
theorem rule_elem {W : World} {base g n cap : Nat} {ok : Nat → Prop} {xs : List S67} (h : Kd.S k67 67 W base ok (.slice (some ⟨g, 0, none⟩) n cap) xs) (i : Int) (h0 : 0 ≤ i) (h1 : i < n) :
  ∃ (oki : Nat → Prop) (A : Option Addr) (c : Nat), W.cell? ⟨g, i.toNat * 3, none⟩ = some (.int .i64 (rd_T67 xs i).f0) ∧ W.cell? ⟨g, i.toNat * 3 + 1, none⟩ = some (.slice A (rd_T67 xs i).f1.length c) ∧ W.cell? ⟨g, i.toNat * 3 + 2, none⟩ = some (.int .i64 (rd_T67 xs i).f2) ∧ (∀ j, W.frozen? ⟨g, i.toNat * 3 + j, none⟩ = false) ∧ Kd.R (Kd.int .i64) 3 W base oki (.slice A (rd_T67 xs i).f1.length c) (rd_T67 xs i).f1 ∧ (∀ k, oki k → ok k ∧ k ≠ g) ∧
   (∀ a : Int, Kd.S k67 67 (W.setCell ⟨g, i.toNat * 3, none⟩ (.int .i64 a)) base ok (.slice (some ⟨g, 0, none⟩) n cap) (xs.set i.toNat ⟨a, (rd_T67 xs i).f1, (rd_T67 xs i).f2⟩) ∧ W.grownBy (W.setCell ⟨g, i.toNat * 3, none⟩ (.int .i64 a)) (some g)) ∧
   (∀ a : Int, Kd.S k67 67 (W.setCell ⟨g, i.toNat * 3 + 2, none⟩ (.int .i64 a)) base ok (.slice (some ⟨g, 0, none⟩) n cap) (xs.set i.toNat ⟨(rd_T67 xs i).f0, (rd_T67 xs i).f1, a⟩) ∧ W.grownBy (W.setCell ⟨g, i.toNat * 3 + 2, none⟩ (.int .i64 a)) (some g)) ∧
   (∀ (w1 : World) (ok1 : Nat → Prop) (l : List Int), Kept W w1 oki → Kd.R (Kd.int .i64) 3 w1 base ok1 (.slice A (rd_T67 xs i).f1.length c) l → Kd.S k67 67 w1 base ok (.slice (some ⟨g, 0, none⟩) n cap) (xs.set i.toNat ⟨(rd_T67 xs i).f0, l, (rd_T67 xs i).f2⟩)) := by
 have hz : rd_T67 xs i = xs.getD i.toNat z67 := rfl
 obtain ⟨oki, c, hcl, hM, hcc, hfr, hoki, hH⟩ := Kd.S_elem h z67 i h0 h1
 rw [← hz] at hM
 obtain ⟨v, rfl, hR⟩ := rule_M hM
 obtain ⟨A, cv, rfl⟩ := Kd.R_slice hR
 have hH0 : Kd.H k67 67 W base (fun k => ok k ∧ ¬ False) (.slice (some ⟨g, 0, none⟩) n cap) xs i oki [.int .i64 (rd_T67 xs i).f0, .slice A (rd_T67 xs i).f1.length cv, .int .i64 (rd_T67 xs i).f2] := Kd.H_mono hH (fun k hk => ⟨hk, id⟩)
 refine ⟨oki, A, cv, hcc 0 _ rfl, hcc 1 _ rfl, hcc 2 _ rfl, hfr, hR, hoki, fun a => ?_, fun a => ?_, fun w1 ok1 l hk hR1 => ?_⟩
 ·exact Kd.S_seg (okg := fun _ => False) (okp := oki) (j := 0) (seg := [.int .i64 a]) hH0 h0 h1 (by show _ ≤ 3; simp) (rule_M_mk ⟨a, (rd_T67 xs i).f1, (rd_T67 xs i).f2⟩ hR) (fun k hk => .inl hk) (fun k hk => hk.elim)
 ·exact Kd.S_seg (okg := fun _ => False) (okp := oki) (j := 2) (seg := [.int .i64 a]) hH0 h0 h1 (by show _ ≤ 3; simp) (rule_M_mk ⟨(rd_T67 xs i).f0, (rd_T67 xs i).f1, a⟩ hR) (fun k hk => .inl hk) (fun k hk => hk.elim)
 ·exact Kd.H_back (Kd.H_kept hH hk (fun k _ hn => hn)) (rule_M_mk ⟨(rd_T67 xs i).f0, l, (rd_T67 xs i).f2⟩ (Kd.R_mono (Kd.R_tight rfl hR1) (fun k hk => hR.1 k hk.symm))) (fun _ hk => hk)
def laws_markRuleS.l0 : Nat → List S67 → Int → Int → Option (Int × List S67)
 | 0, _, _, _ => none
 | k + 1, x0, x1, x5 => if x5 < (x0.length : Int) then (if 0 ≤ x5 then (laws_markIntS.f k (rd_T67 x0 x5).f1 (wrap64 (x1 + 1))).bind fun t => laws_markRuleS.l0 k (x0.set x5.toNat ⟨x1, t.2, t.1⟩) (wrap64 (t.1 + 1)) (wrap64 (x5 + 1)) else none) else some (x1, x0)
def laws_markRuleS.f (k : Nat) (l0 : List S67) (a1 : Int) : Option (Int × List S67) := laws_markRuleS.l0 k l0 a1 0
theorem rd_T_set {xs : List S67} {i : Int} (h0 : 0 ≤ i) (h1 : i < (xs.length : Int)) (y : S67) : rd_T67 (xs.set i.toNat y) i = y := by
 unfold rd_T67
 rw [List.getD_eq_getElem?_getD, List.getElem?_set_self (by omega)]
 rfl
set_option maxHeartbeats 8000000 in
set_option maxRecDepth 100000 in
theorem laws_markRuleS.calls (k : Nat) (P : Nat → Prop) (A : Option Addr) (c : Nat) (l0 : List S67) (a1 : Int) (r1 : Int) (r2 : List S67) (w0 w : World) (hB : Below w0.heap.size w0 w) (ho0 : Kd.S k67 67 w w0.heap.size P (.slice A l0.length c) l0) (h : laws_markRuleS.f k l0 a1 = some (r1, r2)) :
  Calls Try.prog 38 #[.slice A l0.length c, .int .i64 a1] w fun e w' => e = .returned (.int .i64 r1) ∧ Kd.S k67 67 w' w0.heap.size P (.slice A l0.length c) r2 ∧ Below w0.heap.size w0 w' ∧ Kept w w' P := by
 have HO := yam ho0
 have HK := yam (Kept.refl w P)
 have HB := yam hB
 have HA := yam (show laws_markRuleS.l0 k l0 a1 0 = some (r1, r2) from h)
 clear hB ho0 h
 go_enter Try.func38, Try.ntmps38
 go_wp2
 go_loopg [1, 5] k (fun kq v1 v5 w' => ∃ (xs : List S67) (x1 : Int) (x5 : Int), v1 = .int .i64 x1 ∧ v5 = .int .i64 x5 ∧ Aside0 (laws_markRuleS.l0 kq xs x1 x5 = some (r1, r2)) ∧ Aside0 (xs.length = l0.length) ∧ Aside0 (Kd.S k67 67 w' w0.heap.size P (.slice A l0.length c) xs) ∧ Aside0 (Kept w w' P) ∧ Aside0 (Below w0.heap.size w0 w'))
 case atStart => exact ⟨l0, a1, 0, rfl, rfl, HA, ⟨rfl⟩, HO, HK, HB⟩
 case round =>
  clear HA HO HK HB
  obtain ⟨xs, x1, x5, rfl, rfl, HA, HL, HO, HK, HB⟩ := hrel
  cases gk with
  | zero => exact absurd HA.out (by simp [laws_markRuleS.l0])
  | succ k1 =>
   have H := HA.out
   clear HA
   simp only [laws_markRuleS.l0] at H
   by_cases c3 : x5 < (xs.length : Int)
   rotate_left
   ·rw [if_neg c3] at H
    have c3b0 : decide (x5 < (l0.length : Int)) = false := decide_eq_false (by rw [← HL.out]; exact c3)
    clear c3
    simp only [Option.some.injEq, Prod.mk.injEq] at H
    obtain ⟨rfl, rfl⟩ := H
    go_wp2
    go_ret
    exact ⟨rfl, HO.out, HB.out, HK.out⟩
   rw [if_pos c3] at H
   replace H := yig H
   obtain ⟨c4, H⟩ := H
   obtain ⟨⟨t1, t2⟩, hM, H2⟩ := Option.bind_eq_some_iff.1 H
   have HM := yam hM
   have HA := yam H2
   clear hM H H2
   have hlt : x5 < ((l0.length : Nat) : Int) := by rw [← HL.out]; exact c3
   have HC3 := yam c3
   clear c3
   have c3b0 : decide (x5 < (l0.length : Int)) = true := decide_eq_true hlt
   have c4b0 : decide (0 ≤ x5) = true := decide_eq_true c4
   obtain ⟨g, cap, eA, gb, gl, gc_⟩ := Kd.R_form (Kd.S_R HO.out) (by have := HL.out; omega)
   injection eA with eA1 eA2 eA3
   subst eA1
   clear eA2 eA3
   have GB := yam gb
   clear gb gl gc_
   obtain ⟨oki0, Ai0, ci0, hx0, hx1_, hx2_, hfr, hr_, hk_, hset0, hs1_, hs2_⟩ := rule_elem HO.out x5 c4 hlt
   clear hx1_ hx2_ hr_ hk_ hs1_ hs2_
   have hf0 := hfr 0
   clear hfr
   rw [Nat.add_zero] at hf0
   have HPG := yam ((Kd.S_R HO.out).1 g rfl)
   have HSET := yam (hset0 x1)
   clear hset0
   have p4 := eq_true c4
   have p3 := eq_true hlt
   have C4 := yam c4
   have HLT := yam hlt
   clear c4 hlt
   go_wp2_with (first
    | ((with_reducible refine gate_store (t := 3) (p := 16) rfl ?_); refine store_event (t := 3) (p := 16) (v := ?vo1) (w1 := wr.setCell ⟨g, x5.toNat * 3, none⟩ (.int .i64 x1)) ?hg ?ho ?hn ?hr ?_; (case ho => rfl); (case hg => rfl); (case hn => rfl); (case hr => first | (go_simp; done) | (go_simp; rfl)); intro w8 hw; have hs := HSET.out; rw [← hw] at hs; have hb8 : Below w0.heap.size w0 w8 := (by rw [hw]; exact below_set HB.out GB.out); have hk8 : Kept w w8 P := Kept.of_grown hs.2 HK.out (fun k_ e_ => .inl (by injection e_ with e_; rw [← e_]; exact HPG.out)); have hl8 : x5 < (((xs.set x5.toNat ⟨x1, (rd_T67 xs x5).f1, (rd_T67 xs x5).f2⟩ : List S67).length : Nat) : Int) := (by rw [List.length_set]; exact HC3.out); obtain ⟨oki, Ai, ci, hx0_, hx1, hx2_, hfr_, hRi, hoki, hs1_, hs2_, hback⟩ := rule_elem hs.1 x5 C4.out HLT.out; clear hx0_ hx2_ hfr_ hs1_ hs2_; rw [rd_T_set C4.out HC3.out] at hx1 hRi hback; simp only [List.set_set] at hback; have HR := yam hRi; have HOK := yam hoki; have HBK := yam hback; have HB8 := yam hb8; have HK8 := yam hk8; clear hs hb8 hk8 hl8 hRi hoki hback hw hx0 hf0 HSET HB HK HO)
    | (refine goesL_ (some 25) rfl rfl Try.func16 (by kernel_rfl) rfl #[.slice Ai (rd_T67 xs x5).f1.length ci, .int .i64 (wrap64 (x1 + 1))] rfl yma ?_; (with_reducible refine (laws_markIntS.calls k1 oki _ (rd_T67 xs x5).f1 (wrap64 (x1 + 1)) t1 t2 w0 w8 HB8.out HR.out HM.out).mono ?_); rintro e w9 ⟨rfl, hR9, hb9, hk9⟩; refine ⟨_, rfl, ?_⟩; have hs9 := HBK.out w9 _ t2 hk9 hR9; have HK9 := yam (Kept.then_ HK8.out hk9 (fun k_ h_ => .inl (HOK.out k_ h_).1)); obtain ⟨oki9, Ai9, ci9, hx0_, hx1_, hx2, hfr2, hr_, hk_, hs1_, hset2, hs2_⟩ := rule_elem hs9 x5 C4.out HLT.out; clear hx0_ hx1_ hr_ hk_ hs1_ hs2_; have hf2 := hfr2 2; clear hfr2; have HSET := yam (hset2 t1); clear hset2; rw [rd_T_set C4.out HC3.out] at HSET; simp only [List.set_set] at HSET; have HB9 := yam hb9; clear hs9 hR9 hb9 hk9 HBK HR HOK HB8 HK8 hx1)
    | ((with_reducible refine gate_store (t := 3) (p := 30) rfl ?_); refine store_event (t := 3) (p := 30) (v := ?vo2) (w1 := w9.setCell ⟨g, x5.toNat * 3 + 2, none⟩ (.int .i64 t1)) ?hg ?ho ?hn ?hr ?_; (case ho => rfl); (case hg => rfl); (case hn => rfl); (case hr => first | (go_simp; done) | (go_simp; rfl)); intro w10 hw; have hs := HSET.out; rw [← hw] at hs; have HB10 : Aside0 (Below w0.heap.size w0 w10) := ⟨by rw [hw]; exact below_set HB9.out GB.out⟩; have HK10 := yam (Kept.of_grown hs.2 HK9.out (fun k_ e_ => .inl (by injection e_ with e_; rw [← e_]; exact HPG.out))); have HO10 := yam hs.1; clear hs hw hx2 hf2 HSET HB9 HK9))
   go_roundg k1
   case measure => omega
   case rel => exact ⟨_, wrap64 (t1 + 1), wrap64 (x5 + 1), rfl, rfl, HA, ⟨by rw [List.length_set]; exact HL.out⟩, HO10, HK10, HB10⟩
def laws_markPuzzle.f (k : Nat) (_a0_0 : Int) (l0_1 : List Int) (l0_2 : List S67) (a1 : Int) : Option (Int × List Int × List S67) := (laws_markIntS.f k l0_1 a1).bind fun t => (laws_markRuleS.f k l0_2 t.1).bind fun u => some (u.1, t.2, u.2)
set_option maxHeartbeats 8000000 in
set_option maxRecDepth 100000 in
theorem laws_markPuzzle.calls (k : Nat) (a0_0 : Int) (P Q : Nat → Prop) (A0_1 : Option Addr) (c0_1 : Nat) (l0_1 : List Int) (A0_2 : Option Addr) (c0_2 : Nat) (l0_2 : List S67) (a1 : Int) (r1 : Int) (r2 : List Int) (r3 : List S67) (w0 w : World) (hB : Below w0.heap.size w0 w) (hPQ : ∀ k_, P k_ → ¬ Q k_) (ho1 : Kd.R (Kd.int .i64) 3 w w0.heap.size P (.slice A0_1 l0_1.length c0_1) l0_1) (ho2 : Kd.S k67 67 w w0.heap.size Q (.slice A0_2 l0_2.length c0_2) l0_2) (h : laws_markPuzzle.f k a0_0 l0_1 l0_2 a1 = some (r1, r2, r3)) :
  Calls Try.prog 15 #[.agg #[.int .i64 a0_0, .slice A0_1 l0_1.length c0_1, .slice A0_2 l0_2.length c0_2], .int .i64 a1] w fun e w' => e = .returned (.int .i64 r1) ∧ Kd.R (Kd.int .i64) 3 w' w0.heap.size P (.slice A0_1 l0_1.length c0_1) r2 ∧ Kd.S k67 67 w' w0.heap.size Q (.slice A0_2 l0_2.length c0_2) r3 ∧ Below w0.heap.size w0 w' ∧ Kept w w' (fun k_ => P k_ ∨ Q k_) := by
 unfold laws_markPuzzle.f at h
 obtain ⟨⟨t1, t2⟩, hM, h2⟩ := Option.bind_eq_some_iff.1 h
 obtain ⟨⟨u1, u2⟩, hN, h3⟩ := Option.bind_eq_some_iff.1 h2
 simp only [Option.some.injEq, Prod.mk.injEq] at h3
 obtain ⟨rfl, rfl, rfl⟩ := h3
 have HM := yam hM
 have HN := yam hN
 have HPQ := yam hPQ
 have HP := yam ho1.1
 have HO1 := yam ho1
 have HO2 := yam ho2
 have HB := yam hB
 clear h h2 hM hN hPQ ho1 ho2 hB
 go_enter Try.func15, Try.ntmps15
 go_wp2_with (first
  | (refine ybe 2 #[.int .i64 a0_0, .slice A0_1 l0_1.length c0_1, .slice A0_2 l0_2.length c0_2] 30 ?_; intro gb hg w3 hbox hb; have HBX := yam hbox; have HGB := yam hg; have hcz1 : w3.cell? ⟨gb, 1, none⟩ = some (.slice A0_1 l0_1.length c0_1) := (blk_cell hbox 1).trans rfl; have hcz2 : w3.cell? ⟨gb, 2, none⟩ = some (.slice A0_2 l0_2.length c0_2) := (blk_cell hbox 2).trans rfl; have HO1_ := yam (Kd.R_below HO1.out hb); have HO2_ := yam (Kd.S_below HO2.out hb); have HB_ := yam (below_step HB.out hb); have HK := yam (Kept.of_below hb (fun k_ => P k_ ∨ Q k_)); have HL1 := yam (Kd.R_lt HO1.out); have HL2 := yam (Kd.S_bound HO2.out); clear HO1 HO2 HB hg hbox hb)
  | (refine goesL_ (some 8) rfl rfl Try.func16 (by kernel_rfl) rfl #[.slice A0_1 l0_1.length c0_1, .int .i64 a1] rfl yma ?_; (with_reducible refine (laws_markIntS.calls k (fun k_ => some k_ = (Value.slice A0_1 l0_1.length c0_1).ownBlock) _ l0_1 a1 t1 t2 w0 w3 HB_.out (Kd.R_tight rfl HO1_.out) HM.out).mono ?_); rintro e w4 ⟨rfl, hR4, hb4, hk4⟩; refine ⟨_, rfl, ?_⟩; have hne : gb ≠ gb ∨ ¬ some gb = (Value.slice A0_1 l0_1.length c0_1).ownBlock := .inr (fun e_ => by have := HL1.out gb e_.symm; have := HGB.out; omega); have hbx4 := blk_kept HBX.out hk4 (hne.resolve_left (fun h_ => h_ rfl)); have hcz2 : w4.cell? ⟨gb, 2, none⟩ = some (.slice A0_2 l0_2.length c0_2) := (blk_cell hbx4 2).trans rfl; have HR4 := yam (Kd.R_tight rfl hR4); have HS4 := yam (Kd.S_kept HO2_.out hk4 (fun k_ hq_ hp_ => HPQ.out k_ (HP.out k_ hp_.symm) hq_)); have HB4 := yam hb4; have HK4 := yam (Kept.then_ HK.out hk4 (fun k_ h_ => .inl (.inl (HP.out k_ h_.symm)))); clear hne hbx4 hR4 hb4 hk4 HK HB_ HO1_ HO2_ HBX HGB HL1 HL2 hcz1)
  | (refine goesL_ (some 12) rfl rfl Try.func38 (by kernel_rfl) rfl #[.slice A0_2 l0_2.length c0_2, .int .i64 t1] rfl yma ?_; (with_reducible refine (laws_markRuleS.calls k Q A0_2 c0_2 l0_2 t1 u1 u2 w0 w4 HB4.out HS4.out HN.out).mono ?_); rintro e w5 ⟨rfl, hS5, hb5, hk5⟩; refine ⟨_, rfl, ?_⟩; have HR5 := yam (Kd.R_kept HR4.out hk5 (fun k_ hp_ hq_ => HPQ.out k_ (HP.out k_ hp_.symm) hq_)); have HS5 := yam hS5; have HB5 := yam hb5; have HK5 := yam (Kept.then_ HK4.out hk5 (fun k_ h_ => .inl (.inr h_))); clear hS5 hb5 hk5 HR4 HS4 HB4 HK4 hcz2))
 go_ret
 exact ⟨rfl, Kd.R_mono HR5.out (fun k_ h_ => HP.out k_ h_.symm), HS5.out, HB5.out, HK5.out⟩
def laws_heldIntS.l0 : Nat → List Int → Int → Int → Option (Int)
 | 0, _, _, _ => none
 | k + 1, x0, x1, x5 => if x5 < (x0.length : Int) then (if 0 ≤ x5 then (if (rd x0 x5) = x1 then (laws_heldIntS.l0 k x0 (wrap64 (x1 + 1)) (wrap64 (x5 + 1))) else (some (-1))) else (none)) else (some x1)
def laws_heldIntS.f (k : Nat) (l0 : List Int) (a1 : Int) : Option (Int) := laws_heldIntS.l0 k l0 a1 0
set_option maxHeartbeats 8000000 in
set_option maxRecDepth 100000 in
theorem laws_heldIntS.calls (k : Nat) (A0 : Option Addr) (c0 : Nat) (l0 : List Int) (a1 : Int) (r : Int) (w : World) (hr0 : Kd.C (Kd.int .i64) w A0 l0.length l0) (hc0 : l0.length ≤ c0) (h : laws_heldIntS.f k l0 a1 = some r) :
  Calls Try.prog 17 #[.slice A0 l0.length c0, .int .i64 a1] w fun e w' => e = .returned (.int .i64 r) ∧ Drawn0 w w' := by
 have HR0 := yam hr0
 have HC0 := yam hc0
 clear hr0 hc0
 have H : (laws_heldIntS.l0 k l0 a1 0) = some r := h
 clear h
 have H' := yam H
 clear H
 go_enter Try.func17, Try.ntmps17
 go_wp2
 go_loopg [1, 5] k (fun kq v1 v5 w' => ∃ (x1_1 : Int) (x5_1 : Int), v1 = .int .i64 x1_1 ∧ v5 = .int .i64 x5_1 ∧ Aside0 (laws_heldIntS.l0 kq l0 x1_1 x5_1 = some r) ∧ Aside0 (kq ≤ k) ∧ Drawn0 w w')
 case atStart => exact ⟨(a1), (0), yeq, yeq, H', ⟨Nat.le_refl _⟩, by repeat (first | exact Drawn0.refl _ | apply Drawn0.step)⟩
 case round =>
  clear H'
  try clear c1
  try clear p2
  obtain ⟨x1_1, x5_1, rfl, rfl, HA, HK1, ⟨m1, rfl⟩⟩ := hrel
  cases gk with
  | zero => exact absurd HA.out (by simp [laws_heldIntS.l0])
  | succ k1 =>
   have H := HA.out
   clear HA
   simp only [laws_heldIntS.l0] at H
   by_cases c3 : x5_1 < (l0.length : Int)
   rotate_left
   ·rw [if_neg c3] at H
    have c3b0 : decide (x5_1 < (l0.length : Int)) = false := decide_eq_false c3
    clear c3
    obtain rfl := Option.some.inj H
    go_wp2
    go_ret
    exact ⟨yeq, by repeat (first | exact Drawn0.refl _ | apply Drawn0.step)⟩

   rw [if_pos c3] at H
   have c3b0 : decide (x5_1 < (l0.length : Int)) = true := decide_eq_true c3
   clear c3
   replace H := yif H
   obtain ⟨c4b0, H⟩ := H
   by_cases c5 : (rd l0 x5_1) = x1_1
   rotate_left
   ·rw [if_neg c5] at H
    have c5b0 : ((rd l0 x5_1) == x1_1) = false := beq_eq_false_iff_ne.mpr c5
    have c5b1 : ((rd l0 x5_1) != x1_1) = true := bne_iff_ne.mpr c5
    obtain rfl := Option.some.inj H
    have p557 : 0 ≤ (x5_1 : Int) := ydt
    have q557 : x5_1 < (l0.length : Int) := ydt
    obtain ⟨ad557, e557, hx557_0⟩ := Kd.at_int HR0.out x5_1 p557 q557
    cases e557
    replace p557 := eq_true p557
    replace q557 := eq_true q557
    go_wp2
    go_ret
    exact ⟨yeq, by repeat (first | exact Drawn0.refl _ | apply Drawn0.step)⟩
   rw [if_pos c5] at H
   have c5b0 : ((rd l0 x5_1) == x1_1) = true := beq_iff_eq.mpr c5
   have c5b1 : ((rd l0 x5_1) != x1_1) = false := bne_eq_false_iff_eq.mpr c5
   clear c5
   have H' := yam H
   clear H
   have p557 : 0 ≤ (x5_1 : Int) := ydt
   have q557 : x5_1 < (l0.length : Int) := ydt
   obtain ⟨ad557, e557, hx557_0⟩ := Kd.at_int HR0.out x5_1 p557 q557
   cases e557
   replace p557 := eq_true p557
   replace q557 := eq_true q557
   go_wp2
   go_roundg k1
   case measure => have := HK1.out; omega
   case rel => exact ⟨(wrap64 (x1_1 + 1)), (wrap64 (x5_1 + 1)), yeq, yeq, H', ⟨by have := HK1.out; omega⟩, by repeat (first | exact Drawn0.refl _ | apply Drawn0.step)⟩
def spec_l1In.f (a0 : Int) (a1 : Int) (a2 : Int) : Option (Bool) := if a0 ≥ a1 then (some (decide (a0 ≤ a2))) else (some false)
set_option maxHeartbeats 8000000 in
set_option maxRecDepth 100000 in
theorem spec_l1In.calls (a0 : Int) (a1 : Int) (a2 : Int) (r : Bool) (w : World) (h : spec_l1In.f a0 a1 a2 = some r) :
  Calls Try.prog 39 #[.int .i64 a0, .int .i64 a1, .int .i64 a2] w fun e w' => e = .returned (.bool r) ∧ Drawn0 w w' := by
 have H : (if a0 ≥ a1 then (some (decide (a0 ≤ a2))) else (some false)) = some r := h
 clear h
 by_cases c4 : a0 ≥ a1
 ·rw [if_pos c4] at H
  have c4b0 : decide (a1 ≤ a0) = true := decide_eq_true c4
  clear c4
  obtain rfl := Option.some.inj H
  go_enter Try.func39, Try.ntmps39
  go_wp2
  go_ret
  exact ⟨yeq, by repeat (first | exact Drawn0.refl _ | apply Drawn0.step)⟩
 rw [if_neg c4] at H
 have c4b0 : decide (a1 ≤ a0) = false := decide_eq_false c4
 clear c4
 obtain rfl := Option.some.inj H
 go_enter Try.func39, Try.ntmps39
 go_wp2
 go_ret
 exact ⟨yeq, by repeat (first | exact Drawn0.refl _ | apply Drawn0.step)⟩
end Go.Proofs.Ytdemlminhkhonaa.P
