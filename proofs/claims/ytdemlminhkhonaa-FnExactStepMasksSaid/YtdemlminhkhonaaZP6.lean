/- The machine's side: each Go function as a plain Lean function and the proof that the machine's call does what that function says; written by this session's own program over the kit's print. -/
import Derived.Test.YtdemlminhkhonaaZP1
import Derived.Test.YtdemlminhkhonaaZP5
namespace Go.Proofs.Ytdemlminhkhonaa.P
open Go.RowKit Go.Proofs.YtdemlminhkhonaaW.PrintWords Go.Proofs.YtdemlminhkhonaaW.PrintLast Go.Proofs.YtdemlminhkhonaaW.PrintMore
attribute [local go_sem] max2_int min2_int max_two min_two max_three min_three max_four min_four   -- for this text's walks alone
set_option linter.unusedVariables false
set_option linter.unusedSimpArgs false
def bits_OnesCount64.f (a0 : Int) : Option (Int) := some (Go.bits .and .i64 (wrap64 (IntKind.u64.wrap ((IntKind.u64.wrap ((IntKind.u64.wrap ((Go.bits .and .u64 (IntKind.u64.wrap (((IntKind.u64.wrap ((Go.bits .and .u64 ((IntKind.u64.wrap ((Go.bits .and .u64 (a0 / 2) 6148914691236517205) + (Go.bits .and .u64 a0 6148914691236517205))) / 4) 3689348814741910323) + (Go.bits .and .u64 (IntKind.u64.wrap ((Go.bits .and .u64 (a0 / 2) 6148914691236517205) + (Go.bits .and .u64 a0 6148914691236517205))) 3689348814741910323))) / 16) + (IntKind.u64.wrap ((Go.bits .and .u64 ((IntKind.u64.wrap ((Go.bits .and .u64 (a0 / 2) 6148914691236517205) + (Go.bits .and .u64 a0 6148914691236517205))) / 4) 3689348814741910323) + (Go.bits .and .u64 (IntKind.u64.wrap ((Go.bits .and .u64 (a0 / 2) 6148914691236517205) + (Go.bits .and .u64 a0 6148914691236517205))) 3689348814741910323))))) 1085102592571150095) + ((Go.bits .and .u64 (IntKind.u64.wrap (((IntKind.u64.wrap ((Go.bits .and .u64 ((IntKind.u64.wrap ((Go.bits .and .u64 (a0 / 2) 6148914691236517205) + (Go.bits .and .u64 a0 6148914691236517205))) / 4) 3689348814741910323) + (Go.bits .and .u64 (IntKind.u64.wrap ((Go.bits .and .u64 (a0 / 2) 6148914691236517205) + (Go.bits .and .u64 a0 6148914691236517205))) 3689348814741910323))) / 16) + (IntKind.u64.wrap ((Go.bits .and .u64 ((IntKind.u64.wrap ((Go.bits .and .u64 (a0 / 2) 6148914691236517205) + (Go.bits .and .u64 a0 6148914691236517205))) / 4) 3689348814741910323) + (Go.bits .and .u64 (IntKind.u64.wrap ((Go.bits .and .u64 (a0 / 2) 6148914691236517205) + (Go.bits .and .u64 a0 6148914691236517205))) 3689348814741910323))))) 1085102592571150095) / 256))) + ((IntKind.u64.wrap ((Go.bits .and .u64 (IntKind.u64.wrap (((IntKind.u64.wrap ((Go.bits .and .u64 ((IntKind.u64.wrap ((Go.bits .and .u64 (a0 / 2) 6148914691236517205) + (Go.bits .and .u64 a0 6148914691236517205))) / 4) 3689348814741910323) + (Go.bits .and .u64 (IntKind.u64.wrap ((Go.bits .and .u64 (a0 / 2) 6148914691236517205) + (Go.bits .and .u64 a0 6148914691236517205))) 3689348814741910323))) / 16) + (IntKind.u64.wrap ((Go.bits .and .u64 ((IntKind.u64.wrap ((Go.bits .and .u64 (a0 / 2) 6148914691236517205) + (Go.bits .and .u64 a0 6148914691236517205))) / 4) 3689348814741910323) + (Go.bits .and .u64 (IntKind.u64.wrap ((Go.bits .and .u64 (a0 / 2) 6148914691236517205) + (Go.bits .and .u64 a0 6148914691236517205))) 3689348814741910323))))) 1085102592571150095) + ((Go.bits .and .u64 (IntKind.u64.wrap (((IntKind.u64.wrap ((Go.bits .and .u64 ((IntKind.u64.wrap ((Go.bits .and .u64 (a0 / 2) 6148914691236517205) + (Go.bits .and .u64 a0 6148914691236517205))) / 4) 3689348814741910323) + (Go.bits .and .u64 (IntKind.u64.wrap ((Go.bits .and .u64 (a0 / 2) 6148914691236517205) + (Go.bits .and .u64 a0 6148914691236517205))) 3689348814741910323))) / 16) + (IntKind.u64.wrap ((Go.bits .and .u64 ((IntKind.u64.wrap ((Go.bits .and .u64 (a0 / 2) 6148914691236517205) + (Go.bits .and .u64 a0 6148914691236517205))) / 4) 3689348814741910323) + (Go.bits .and .u64 (IntKind.u64.wrap ((Go.bits .and .u64 (a0 / 2) 6148914691236517205) + (Go.bits .and .u64 a0 6148914691236517205))) 3689348814741910323))))) 1085102592571150095) / 256))) / 65536))) + ((IntKind.u64.wrap ((IntKind.u64.wrap ((Go.bits .and .u64 (IntKind.u64.wrap (((IntKind.u64.wrap ((Go.bits .and .u64 ((IntKind.u64.wrap ((Go.bits .and .u64 (a0 / 2) 6148914691236517205) + (Go.bits .and .u64 a0 6148914691236517205))) / 4) 3689348814741910323) + (Go.bits .and .u64 (IntKind.u64.wrap ((Go.bits .and .u64 (a0 / 2) 6148914691236517205) + (Go.bits .and .u64 a0 6148914691236517205))) 3689348814741910323))) / 16) + (IntKind.u64.wrap ((Go.bits .and .u64 ((IntKind.u64.wrap ((Go.bits .and .u64 (a0 / 2) 6148914691236517205) + (Go.bits .and .u64 a0 6148914691236517205))) / 4) 3689348814741910323) + (Go.bits .and .u64 (IntKind.u64.wrap ((Go.bits .and .u64 (a0 / 2) 6148914691236517205) + (Go.bits .and .u64 a0 6148914691236517205))) 3689348814741910323))))) 1085102592571150095) + ((Go.bits .and .u64 (IntKind.u64.wrap (((IntKind.u64.wrap ((Go.bits .and .u64 ((IntKind.u64.wrap ((Go.bits .and .u64 (a0 / 2) 6148914691236517205) + (Go.bits .and .u64 a0 6148914691236517205))) / 4) 3689348814741910323) + (Go.bits .and .u64 (IntKind.u64.wrap ((Go.bits .and .u64 (a0 / 2) 6148914691236517205) + (Go.bits .and .u64 a0 6148914691236517205))) 3689348814741910323))) / 16) + (IntKind.u64.wrap ((Go.bits .and .u64 ((IntKind.u64.wrap ((Go.bits .and .u64 (a0 / 2) 6148914691236517205) + (Go.bits .and .u64 a0 6148914691236517205))) / 4) 3689348814741910323) + (Go.bits .and .u64 (IntKind.u64.wrap ((Go.bits .and .u64 (a0 / 2) 6148914691236517205) + (Go.bits .and .u64 a0 6148914691236517205))) 3689348814741910323))))) 1085102592571150095) / 256))) + ((IntKind.u64.wrap ((Go.bits .and .u64 (IntKind.u64.wrap (((IntKind.u64.wrap ((Go.bits .and .u64 ((IntKind.u64.wrap ((Go.bits .and .u64 (a0 / 2) 6148914691236517205) + (Go.bits .and .u64 a0 6148914691236517205))) / 4) 3689348814741910323) + (Go.bits .and .u64 (IntKind.u64.wrap ((Go.bits .and .u64 (a0 / 2) 6148914691236517205) + (Go.bits .and .u64 a0 6148914691236517205))) 3689348814741910323))) / 16) + (IntKind.u64.wrap ((Go.bits .and .u64 ((IntKind.u64.wrap ((Go.bits .and .u64 (a0 / 2) 6148914691236517205) + (Go.bits .and .u64 a0 6148914691236517205))) / 4) 3689348814741910323) + (Go.bits .and .u64 (IntKind.u64.wrap ((Go.bits .and .u64 (a0 / 2) 6148914691236517205) + (Go.bits .and .u64 a0 6148914691236517205))) 3689348814741910323))))) 1085102592571150095) + ((Go.bits .and .u64 (IntKind.u64.wrap (((IntKind.u64.wrap ((Go.bits .and .u64 ((IntKind.u64.wrap ((Go.bits .and .u64 (a0 / 2) 6148914691236517205) + (Go.bits .and .u64 a0 6148914691236517205))) / 4) 3689348814741910323) + (Go.bits .and .u64 (IntKind.u64.wrap ((Go.bits .and .u64 (a0 / 2) 6148914691236517205) + (Go.bits .and .u64 a0 6148914691236517205))) 3689348814741910323))) / 16) + (IntKind.u64.wrap ((Go.bits .and .u64 ((IntKind.u64.wrap ((Go.bits .and .u64 (a0 / 2) 6148914691236517205) + (Go.bits .and .u64 a0 6148914691236517205))) / 4) 3689348814741910323) + (Go.bits .and .u64 (IntKind.u64.wrap ((Go.bits .and .u64 (a0 / 2) 6148914691236517205) + (Go.bits .and .u64 a0 6148914691236517205))) 3689348814741910323))))) 1085102592571150095) / 256))) / 65536))) / 4294967296)))) 127)
set_option maxHeartbeats 8000000 in
set_option maxRecDepth 100000 in
theorem bits_OnesCount64.calls (a0 : Int) (r : Int) (w : World) (h : bits_OnesCount64.f a0 = some r) :
  Calls Try.prog 87 #[.int .u64 a0] w fun e w' => e = .returned (.int .i64 r) ∧ Drawn0 w w' := by
 have H : (some (Go.bits .and .i64 (wrap64 (IntKind.u64.wrap ((IntKind.u64.wrap ((IntKind.u64.wrap ((Go.bits .and .u64 (IntKind.u64.wrap (((IntKind.u64.wrap ((Go.bits .and .u64 ((IntKind.u64.wrap ((Go.bits .and .u64 (a0 / 2) 6148914691236517205) + (Go.bits .and .u64 a0 6148914691236517205))) / 4) 3689348814741910323) + (Go.bits .and .u64 (IntKind.u64.wrap ((Go.bits .and .u64 (a0 / 2) 6148914691236517205) + (Go.bits .and .u64 a0 6148914691236517205))) 3689348814741910323))) / 16) + (IntKind.u64.wrap ((Go.bits .and .u64 ((IntKind.u64.wrap ((Go.bits .and .u64 (a0 / 2) 6148914691236517205) + (Go.bits .and .u64 a0 6148914691236517205))) / 4) 3689348814741910323) + (Go.bits .and .u64 (IntKind.u64.wrap ((Go.bits .and .u64 (a0 / 2) 6148914691236517205) + (Go.bits .and .u64 a0 6148914691236517205))) 3689348814741910323))))) 1085102592571150095) + ((Go.bits .and .u64 (IntKind.u64.wrap (((IntKind.u64.wrap ((Go.bits .and .u64 ((IntKind.u64.wrap ((Go.bits .and .u64 (a0 / 2) 6148914691236517205) + (Go.bits .and .u64 a0 6148914691236517205))) / 4) 3689348814741910323) + (Go.bits .and .u64 (IntKind.u64.wrap ((Go.bits .and .u64 (a0 / 2) 6148914691236517205) + (Go.bits .and .u64 a0 6148914691236517205))) 3689348814741910323))) / 16) + (IntKind.u64.wrap ((Go.bits .and .u64 ((IntKind.u64.wrap ((Go.bits .and .u64 (a0 / 2) 6148914691236517205) + (Go.bits .and .u64 a0 6148914691236517205))) / 4) 3689348814741910323) + (Go.bits .and .u64 (IntKind.u64.wrap ((Go.bits .and .u64 (a0 / 2) 6148914691236517205) + (Go.bits .and .u64 a0 6148914691236517205))) 3689348814741910323))))) 1085102592571150095) / 256))) + ((IntKind.u64.wrap ((Go.bits .and .u64 (IntKind.u64.wrap (((IntKind.u64.wrap ((Go.bits .and .u64 ((IntKind.u64.wrap ((Go.bits .and .u64 (a0 / 2) 6148914691236517205) + (Go.bits .and .u64 a0 6148914691236517205))) / 4) 3689348814741910323) + (Go.bits .and .u64 (IntKind.u64.wrap ((Go.bits .and .u64 (a0 / 2) 6148914691236517205) + (Go.bits .and .u64 a0 6148914691236517205))) 3689348814741910323))) / 16) + (IntKind.u64.wrap ((Go.bits .and .u64 ((IntKind.u64.wrap ((Go.bits .and .u64 (a0 / 2) 6148914691236517205) + (Go.bits .and .u64 a0 6148914691236517205))) / 4) 3689348814741910323) + (Go.bits .and .u64 (IntKind.u64.wrap ((Go.bits .and .u64 (a0 / 2) 6148914691236517205) + (Go.bits .and .u64 a0 6148914691236517205))) 3689348814741910323))))) 1085102592571150095) + ((Go.bits .and .u64 (IntKind.u64.wrap (((IntKind.u64.wrap ((Go.bits .and .u64 ((IntKind.u64.wrap ((Go.bits .and .u64 (a0 / 2) 6148914691236517205) + (Go.bits .and .u64 a0 6148914691236517205))) / 4) 3689348814741910323) + (Go.bits .and .u64 (IntKind.u64.wrap ((Go.bits .and .u64 (a0 / 2) 6148914691236517205) + (Go.bits .and .u64 a0 6148914691236517205))) 3689348814741910323))) / 16) + (IntKind.u64.wrap ((Go.bits .and .u64 ((IntKind.u64.wrap ((Go.bits .and .u64 (a0 / 2) 6148914691236517205) + (Go.bits .and .u64 a0 6148914691236517205))) / 4) 3689348814741910323) + (Go.bits .and .u64 (IntKind.u64.wrap ((Go.bits .and .u64 (a0 / 2) 6148914691236517205) + (Go.bits .and .u64 a0 6148914691236517205))) 3689348814741910323))))) 1085102592571150095) / 256))) / 65536))) + ((IntKind.u64.wrap ((IntKind.u64.wrap ((Go.bits .and .u64 (IntKind.u64.wrap (((IntKind.u64.wrap ((Go.bits .and .u64 ((IntKind.u64.wrap ((Go.bits .and .u64 (a0 / 2) 6148914691236517205) + (Go.bits .and .u64 a0 6148914691236517205))) / 4) 3689348814741910323) + (Go.bits .and .u64 (IntKind.u64.wrap ((Go.bits .and .u64 (a0 / 2) 6148914691236517205) + (Go.bits .and .u64 a0 6148914691236517205))) 3689348814741910323))) / 16) + (IntKind.u64.wrap ((Go.bits .and .u64 ((IntKind.u64.wrap ((Go.bits .and .u64 (a0 / 2) 6148914691236517205) + (Go.bits .and .u64 a0 6148914691236517205))) / 4) 3689348814741910323) + (Go.bits .and .u64 (IntKind.u64.wrap ((Go.bits .and .u64 (a0 / 2) 6148914691236517205) + (Go.bits .and .u64 a0 6148914691236517205))) 3689348814741910323))))) 1085102592571150095) + ((Go.bits .and .u64 (IntKind.u64.wrap (((IntKind.u64.wrap ((Go.bits .and .u64 ((IntKind.u64.wrap ((Go.bits .and .u64 (a0 / 2) 6148914691236517205) + (Go.bits .and .u64 a0 6148914691236517205))) / 4) 3689348814741910323) + (Go.bits .and .u64 (IntKind.u64.wrap ((Go.bits .and .u64 (a0 / 2) 6148914691236517205) + (Go.bits .and .u64 a0 6148914691236517205))) 3689348814741910323))) / 16) + (IntKind.u64.wrap ((Go.bits .and .u64 ((IntKind.u64.wrap ((Go.bits .and .u64 (a0 / 2) 6148914691236517205) + (Go.bits .and .u64 a0 6148914691236517205))) / 4) 3689348814741910323) + (Go.bits .and .u64 (IntKind.u64.wrap ((Go.bits .and .u64 (a0 / 2) 6148914691236517205) + (Go.bits .and .u64 a0 6148914691236517205))) 3689348814741910323))))) 1085102592571150095) / 256))) + ((IntKind.u64.wrap ((Go.bits .and .u64 (IntKind.u64.wrap (((IntKind.u64.wrap ((Go.bits .and .u64 ((IntKind.u64.wrap ((Go.bits .and .u64 (a0 / 2) 6148914691236517205) + (Go.bits .and .u64 a0 6148914691236517205))) / 4) 3689348814741910323) + (Go.bits .and .u64 (IntKind.u64.wrap ((Go.bits .and .u64 (a0 / 2) 6148914691236517205) + (Go.bits .and .u64 a0 6148914691236517205))) 3689348814741910323))) / 16) + (IntKind.u64.wrap ((Go.bits .and .u64 ((IntKind.u64.wrap ((Go.bits .and .u64 (a0 / 2) 6148914691236517205) + (Go.bits .and .u64 a0 6148914691236517205))) / 4) 3689348814741910323) + (Go.bits .and .u64 (IntKind.u64.wrap ((Go.bits .and .u64 (a0 / 2) 6148914691236517205) + (Go.bits .and .u64 a0 6148914691236517205))) 3689348814741910323))))) 1085102592571150095) + ((Go.bits .and .u64 (IntKind.u64.wrap (((IntKind.u64.wrap ((Go.bits .and .u64 ((IntKind.u64.wrap ((Go.bits .and .u64 (a0 / 2) 6148914691236517205) + (Go.bits .and .u64 a0 6148914691236517205))) / 4) 3689348814741910323) + (Go.bits .and .u64 (IntKind.u64.wrap ((Go.bits .and .u64 (a0 / 2) 6148914691236517205) + (Go.bits .and .u64 a0 6148914691236517205))) 3689348814741910323))) / 16) + (IntKind.u64.wrap ((Go.bits .and .u64 ((IntKind.u64.wrap ((Go.bits .and .u64 (a0 / 2) 6148914691236517205) + (Go.bits .and .u64 a0 6148914691236517205))) / 4) 3689348814741910323) + (Go.bits .and .u64 (IntKind.u64.wrap ((Go.bits .and .u64 (a0 / 2) 6148914691236517205) + (Go.bits .and .u64 a0 6148914691236517205))) 3689348814741910323))))) 1085102592571150095) / 256))) / 65536))) / 4294967296)))) 127)) = some r := h
 clear h
 obtain rfl := Option.some.inj H
 go_enter Try.func87, Try.ntmps87
 go_wp2
 go_ret
 exact ⟨yeq, by repeat (first | exact Drawn0.refl _ | apply Drawn0.step)⟩
def bits_OnesCount.f (a0 : Int) : Option (Int) := (bits_OnesCount64.f a0).bind fun t432 => (some t432)
set_option maxHeartbeats 8000000 in
set_option maxRecDepth 100000 in
theorem bits_OnesCount.calls (a0 : Int) (r : Int) (w : World) (h : bits_OnesCount.f a0 = some r) :
  Calls Try.prog 75 #[.int .u64 a0] w fun e w' => e = .returned (.int .i64 r) ∧ Drawn0 w w' := by
 have H : ((bits_OnesCount64.f a0).bind fun t432 => (some t432)) = some r := h
 clear h
 replace H := Option.bind_eq_some_iff.mp H
 obtain ⟨t432, A20, H⟩ := H
 try dsimp only at H
 have A2 := yam A20
 clear A20
 obtain rfl := Option.some.inj H
 go_enter Try.func75, Try.ntmps75
 go_wp2_with (first | (refine goesL_ (some 7) rfl rfl Try.func87 (by kernel_rfl) rfl #[.int .u64 a0] rfl ymd ?_; (with_reducible refine (bits_OnesCount64.calls a0 t432 _ A2.out).mono ?_); rintro e w' ⟨rfl, ⟨nd, rfl⟩⟩; refine ⟨_, rfl, ?_⟩))
 go_ret
 exact ⟨yeq, by repeat (first | exact Drawn0.refl _ | apply Drawn0.step)⟩
mutual
def impl_NarrowPairs.l0 : Nat → List Int → Int → List Int → Int → Int → Option (List Int)
 | 0, _, _, _, _, _ => none
 | k + 1, x0, x1, x5, x21, x22 => if x22 < x21 then ((impl_LineCells.f k x1 x22).bind fun t437 => (impl_NarrowPairs.l1 k x0 x1 x5 t437 x21 x22 t437 (t437.length : Int) 0)) else (some x5)
def impl_NarrowPairs.l1 : Nat → List Int → Int → List Int → List Int → Int → Int → List Int → Int → Int → Option (List Int)
 | 0, _, _, _, _, _, _, _, _, _ => none
 | k + 1, x0, x1, x5, x7, x21, x22, x28, x29, x30 => if x30 < x29 then (if 0 ≤ x30 then (if x30 < (x28.length : Int) then (if 0 ≤ (wrap64 (x30 + 1)) then (if (wrap64 (x30 + 1)) ≤ (x7.length : Int) then ((some (x7.drop ((wrap64 (x30 + 1)) : Int).toNat : List Int)).bind fun y441 => (impl_NarrowPairs.l2 k x0 x1 x5 x7 (rd x28 x30) x21 x22 x28 x29 x30 y441 (y441.length : Int) 0)) else (none)) else (none)) else (none)) else (none)) else (impl_NarrowPairs.l0 k x0 x1 x5 x21 (wrap64 (x22 + 1)))
def impl_NarrowPairs.l2 : Nat → List Int → Int → List Int → List Int → Int → Int → Int → List Int → Int → Int → List Int → Int → Int → Option (List Int)
 | 0, _, _, _, _, _, _, _, _, _, _, _, _, _ => none
 | k + 1, x0, x1, x5, x7, x9, x21, x22, x28, x29, x30, x38, x39, x40 => if x40 < x39 then (if 0 ≤ x40 then (if x40 < (x38.length : Int) then (if 0 ≤ x9 then (if x9 < (x0.length : Int) then (if 0 ≤ (rd x38 x40) then (if (rd x38 x40) < (x0.length : Int) then (if (rd x0 x9) = (rd x0 (rd x38 x40)) then ((bits_OnesCount.f (IntKind.u64.wrap (rd x0 x9))).bind fun t449 => (impl_NarrowPairs.j3 k x0 x1 x5 x7 x9 (rd x38 x40) x21 x22 x28 x29 x30 x38 x39 x40 (t449 != 2))) else (impl_NarrowPairs.j3 k x0 x1 x5 x7 x9 (rd x38 x40) x21 x22 x28 x29 x30 x38 x39 x40 true)) else (none)) else (none)) else (none)) else (none)) else (none)) else (none)) else (impl_NarrowPairs.l1 k x0 x1 x5 x7 x21 x22 x28 x29 (wrap64 (x30 + 1)))
def impl_NarrowPairs.j3 : Nat → List Int → Int → List Int → List Int → Int → Int → Int → Int → List Int → Int → Int → List Int → Int → Int → Bool → Option (List Int)
 | 0, _, _, _, _, _, _, _, _, _, _, _, _, _, _, _ => none
 | k + 1, x0, x1, x5, x7, x9, x11, x21, x22, x28, x29, x30, x38, x39, x40, x61 => if x61 = true then (impl_NarrowPairs.l2 k x0 x1 x5 x7 x9 x21 x22 x28 x29 x30 x38 x39 (wrap64 (x40 + 1))) else (impl_NarrowPairs.l3 k x0 x1 x5 x7 x9 x11 x21 x22 x28 x29 x30 x38 x39 x40 x7 (x7.length : Int) 0)
def impl_NarrowPairs.l3 : Nat → List Int → Int → List Int → List Int → Int → Int → Int → Int → List Int → Int → Int → List Int → Int → Int → List Int → Int → Int → Option (List Int)
 | 0, _, _, _, _, _, _, _, _, _, _, _, _, _, _, _, _, _ => none
 | k + 1, x0, x1, x5, x7, x9, x11, x21, x22, x28, x29, x30, x38, x39, x40, x62, x63, x64 => if x64 < x63 then (if 0 ≤ x64 then (if x64 < (x62.length : Int) then (if (rd x62 x64) = x9 then (impl_NarrowPairs.l3 k x0 x1 x5 x7 x9 x11 x21 x22 x28 x29 x30 x38 x39 x40 x62 x63 (wrap64 (x64 + 1))) else (if (rd x62 x64) = x11 then (impl_NarrowPairs.l3 k x0 x1 x5 x7 x9 x11 x21 x22 x28 x29 x30 x38 x39 x40 x62 x63 (wrap64 (x64 + 1))) else (if 0 ≤ (rd x62 x64) then (if (rd x62 x64) < (x5.length : Int) then (if 0 ≤ x9 then (if x9 < (x0.length : Int) then (impl_NarrowPairs.l3 k x0 x1 (x5.set ((rd x62 x64) : Int).toNat (Go.bits .andNot .i64 (rd x5 (rd x62 x64)) (rd x0 x9))) x7 x9 x11 x21 x22 x28 x29 x30 x38 x39 x40 x62 x63 (wrap64 (x64 + 1))) else (none)) else (none)) else (none)) else (none)))) else (none)) else (none)) else (impl_NarrowPairs.l2 k x0 x1 x5 x7 x9 x21 x22 x28 x29 x30 x38 x39 (wrap64 (x40 + 1)))
end
def impl_NarrowPairs.f (k : Nat) (l0 : List Int) (a1 : Int) : Option (List Int) := (impl_MasksValid.f k l0 a1).bind fun t433 => (if t433 = true then ((slices_Clone_int_int.f l0).bind fun t434 => (impl_NarrowPairs.l0 k l0 a1 t434 (wrap64 (2 * a1)) 0)) else (some ([] : List Int)))
def impl_NarrowPairs.T14 : Bool × List (List Nat × List Nat) := (true, [([], []), ([], []), ([0, 1], [0, 1]), ([2], [2]), ([], []), ([], []), ([4, 5], [4, 5]), ([6], [6]), ([3, 7], [3, 7]), ([8], [8]), ([9], [9]), ([9], [9]), ([10, 11, 9], [9, 10, 11]), ([12, 9], [9, 12]), ([13, 9], [9, 13]), ([14, 9, 9], [9, 14]), ([15, 9], [9, 15]), ([9, 16], [9, 16])])
def impl_NarrowPairs.B14 : List Nat := [0, 0, 3, 7, 0, 0, 48, 112, 255, 511, 1023, 1023, 4095, 8191, 16383, 32767, 65535, 131071]
theorem impl_NarrowPairs.tab14 : rtab .any (opsOf Try.f60 14) = impl_NarrowPairs.T14 := by kernel_rfl
theorem impl_NarrowPairs.bits14 : waitsOk impl_NarrowPairs.T14.2 impl_NarrowPairs.B14 = true := by kernel_rfl
def impl_NarrowPairs.T19 : Bool × List (List Nat × List Nat) := (true, [([], []), ([], []), ([0, 1], [0, 1]), ([2], [2]), ([], []), ([], []), ([4, 5], [4, 5]), ([6], [6]), ([3, 7], [3, 7]), ([0, 1, 0, 1, 2, 3, 4, 5, 6, 7, 8], [0, 1]), ([9, 8, 0, 1, 2, 3, 4, 5, 6, 7, 8], [8, 9])])
def impl_NarrowPairs.B19 : List Nat := [0, 0, 3, 7, 0, 0, 48, 112, 255, 511, 1023]
theorem impl_NarrowPairs.tab19 : rtab .any (opsOf Try.f60 19) = impl_NarrowPairs.T19 := by kernel_rfl
theorem impl_NarrowPairs.bits19 : waitsOk impl_NarrowPairs.T19.2 impl_NarrowPairs.B19 = true := by kernel_rfl
set_option maxHeartbeats 8000000 in
set_option maxRecDepth 100000 in
theorem impl_NarrowPairs.calls (k : Nat) (A0 : Option Addr) (c0 : Nat) (l0 : List Int) (a1 : Int) (r : List Int) (w : World) (hr0 : Kd.C (Kd.int .i64) w A0 l0.length l0) (hc0 : l0.length ≤ c0) (h : impl_NarrowPairs.f k l0 a1 = some r) :
  Calls Try.prog 60 #[.slice A0 l0.length c0, .int .i64 a1] w fun e w' => ∃ v0_ : Value, e = .returned (v0_) ∧ Kd.R (Kd.int .i64) 3 w' w.heap.size (fun _ => True) v0_ r ∧ Below w.heap.size w w' := by
 have HR0 := yam hr0
 have HC0 := yam hc0
 clear hr0 hc0
 have HB := yam (Below.refl w.heap.size w)
 have H : ((impl_MasksValid.f k l0 a1).bind fun t433 => (if t433 = true then ((slices_Clone_int_int.f l0).bind fun t434 => (impl_NarrowPairs.l0 k l0 a1 t434 (wrap64 (2 * a1)) 0)) else (some ([] : List Int)))) = some r := h
 clear h
 replace H := Option.bind_eq_some_iff.mp H
 obtain ⟨t433, A30, H⟩ := H
 try dsimp only at H
 have A3 := yam A30
 clear A30
 by_cases c4 : t433 = true
 rotate_left
 ·replace c4 := Bool.eq_false_iff.mpr c4
  subst c4
  have H1 : (some ([] : List Int)) = some r := by rw [if_neg (show ¬ (false = true) by decide)] at H; exact H
  clear H
  have H := H1
  clear H1
  obtain rfl := Option.some.inj H
  go_enter Try.func60, Try.ntmps60
  go_wp2_with (first | (refine goesL_ (some 16) rfl rfl Try.func63 (by kernel_rfl) rfl #[.slice A0 l0.length c0, .int .i64 a1] rfl ymd ?_; (with_reducible refine (impl_MasksValid.calls k _ _ l0 a1 false _ ?side1 ?side2 A3.out).mono ?_); (case side1 => exact Kd.Cz (HR0.out)); (case side2 => exact HC0.out); rintro e w' ⟨rfl, ⟨nd, rfl⟩⟩; refine ⟨_, rfl, ?_⟩))
  go_ret
  exact ⟨_, yer, by first | exact Kd.R_nil _ _ _ _ _ | exact Kd.N_nil _ _ _ _ _ | exact Kd.V_nil _ _ _ _ _ | exact Kd.Q_nil _ _ _ _ _ | exact Kd.S_nil _ _ _ _ _, yhb⟩

 subst c4
 have H1 : ((slices_Clone_int_int.f l0).bind fun t434 => (impl_NarrowPairs.l0 k l0 a1 t434 (wrap64 (2 * a1)) 0)) = some r := by rw [if_pos rfl] at H; exact H
 clear H
 have H := H1
 clear H1
 replace H := Option.bind_eq_some_iff.mp H
 obtain ⟨t434, A50, H⟩ := H
 try dsimp only at H
 have A5 := yam A50
 clear A50
 have H' := yam H
 clear H
 go_enter Try.func60, Try.ntmps60
 go_wp2_with (first | (refine goesL_ (some 16) rfl rfl Try.func63 (by kernel_rfl) rfl #[.slice A0 l0.length c0, .int .i64 a1] rfl ymd ?_; (with_reducible refine (impl_MasksValid.calls k _ _ l0 a1 true _ ?side1 ?side2 A3.out).mono ?_); (case side1 => exact Kd.Cz (HR0.out)); (case side2 => exact HC0.out); rintro e w' ⟨rfl, ⟨nd, rfl⟩⟩; refine ⟨_, rfl, ?_⟩) | (refine goesL_ (some 19) rfl rfl Try.func64 (by kernel_rfl) rfl #[.slice A0 l0.length c0] rfl ymd ?_; (with_reducible refine (slices_Clone_int_int.calls _ _ l0 t434 _ ?side1 ?side2 A5.out).mono ?_); (case side1 => exact Kd.Cz (HR0.out)); (case side2 => exact HC0.out); rintro e w6 ⟨v435, rfl, ho0, hb⟩; refine ⟨_, rfl, ?_⟩; have HO436 := yam (Kd.R_lower ho0 (below_size (yez HB.out))); replace HB := yam (below_step (yez HB.out) hb); (try clear hb); (try clear hb2); (try clear hk); (try clear hi); (try clear ho0)))
 go_loopg [22] k (fun kq v22 w' => ∃ (x5_1 : List Int) (x22_1 : Int), v22 = .int .i64 x22_1 ∧ Aside0 (impl_NarrowPairs.l0 kq l0 a1 x5_1 (wrap64 (2 * a1)) x22_1 = some r) ∧ Aside0 (kq ≤ k) ∧ Aside0 (Kd.R (Kd.int .i64) 3 w' w.heap.size (fun _ => True) v435 x5_1) ∧ Aside0 (Below w.heap.size w w'))
 case atStart => exact ⟨(t434), (0), yeq, H', ⟨Nat.le_refl _⟩, ⟨yka HO436.out⟩, ⟨yhb⟩⟩
 case round =>
  clear H'
  try clear p2
  try clear c4
  try clear c6
  try clear p6
  obtain ⟨x5_1, x22_1, rfl, HA, HK1, HO_5, HB⟩ := hrel
  cases gk with
  | zero => exact absurd HA.out (by simp [impl_NarrowPairs.l0])
  | succ k1 =>
   have H := HA.out
   clear HA
   simp only [impl_NarrowPairs.l0] at H
   by_cases c7 : x22_1 < (wrap64 (2 * a1))
   rotate_left
   ·rw [if_neg c7] at H
    have c7b0 : decide (x22_1 < (wrap64 (2 * a1))) = false := decide_eq_false c7
    clear c7
    obtain rfl := Option.some.inj H
    go_wp2
    go_ret
    exact ⟨_, yer, yka HO_5.out, yhb⟩
   rw [if_pos c7] at H
   have c7b0 : decide (x22_1 < (wrap64 (2 * a1))) = true := decide_eq_true c7
   clear c7
   replace H := Option.bind_eq_some_iff.mp H
   obtain ⟨t437, A80, H⟩ := H
   try dsimp only at H
   have A8 := yam A80
   clear A80
   have H' := yam H
   clear H
   go_wp2_with (first | (refine goesL_ (some 27) rfl rfl Try.func82 (by kernel_rfl) rfl #[.int .i64 a1, .int .i64 x22_1] rfl ymd ?_; (with_reducible refine (impl_LineCells.calls k1 a1 x22_1 t437 _ A8.out).mono ?_); rintro e w9 ⟨v438, rfl, ho0, hb⟩; refine ⟨_, rfl, ?_⟩; have HO439 := yam (Kd.R_lower (Kd.Yw ho0 (Kd.R_lt (Kd.Yz HO_5.out))) (below_size (yez HB.out))); replace HO_5 := yam (Kd.Ye (Kd.Yz HO_5.out) (Kd.Yb ho0) hb); replace HB := yam (below_step (yez HB.out) hb); (try clear hb); (try clear hb2); (try clear hk); (try clear hi); (try clear ho0); obtain ⟨Ao10, co10, eo10⟩ := Kd.R_slice HO439.out; subst eo10))
   go_loopg [30] k1 (fun kq v30 w' => ∃ (x5_2 : List Int) (x30_2 : Int), v30 = .int .i64 x30_2 ∧ Aside0 (impl_NarrowPairs.l1 kq l0 a1 x5_2 t437 (wrap64 (2 * a1)) x22_1 t437 (t437.length : Int) x30_2 = some r) ∧ Aside0 (kq ≤ k1) ∧ Aside0 (Kd.R (Kd.int .i64) 3 w' w.heap.size (fun k_ => some k_ ≠ ((.slice Ao10 t437.length co10) : Value).ownBlock ∧ some k_ ≠ ((.slice Ao10 t437.length co10) : Value).ownBlock) v435 x5_2) ∧ Aside0 (Kd.R (Kd.int .i64) 3 w' w.heap.size (fun k_ => some k_ ≠ (v435 : Value).ownBlock) (.slice Ao10 t437.length co10) t437) ∧ Aside0 (Kd.R (Kd.int .i64) 3 w' w.heap.size (fun k_ => some k_ ≠ (v435 : Value).ownBlock) (.slice Ao10 t437.length co10) t437) ∧ Aside0 (Below w.heap.size w w'))
   case atStart => exact ⟨(x5_1), (0), yeq, H', ⟨Nat.le_refl _⟩, ⟨by (with_reducible repeat (first | apply Kd.Ya | apply Kd.Yn | apply Kd.Yd)); exact Kd.R_mono HO_5.out (fun _ hk => ⟨hk.2, hk.2⟩)⟩, ⟨by (with_reducible repeat (first | apply Kd.Ya | apply Kd.Yn | apply Kd.Yd)); exact Kd.R_mono HO439.out (fun _ hk => hk.2)⟩, ⟨by (with_reducible repeat (first | apply Kd.Ya | apply Kd.Yn | apply Kd.Yd)); exact Kd.R_mono HO439.out (fun _ hk => hk.2)⟩, ⟨yhb⟩⟩
   case round =>
    clear H'
    try clear p2
    try clear c4
    try clear c6
    try clear p6
    try clear c7
    try clear c7b0
    try clear c8
    try clear p2
    try clear p6
    obtain ⟨x5_2, x30_2, rfl, HA, HK2, HO_5, HO_7, HO_28, HB⟩ := hrel
    cases gk with
    | zero => exact absurd HA.out (by simp [impl_NarrowPairs.l1])
    | succ k2 =>
     have H := HA.out
     clear HA
     simp only [impl_NarrowPairs.l1] at H
     by_cases c11 : x30_2 < (t437.length : Int)
     rotate_left
     ·rw [if_neg c11] at H
      have c11b0 : decide (x30_2 < (t437.length : Int)) = false := decide_eq_false c11
      clear c11
      have H' := yam H
      clear H
      go_wp2
      go_roundg k2
      case measure => have := HK1.out; have := HK2.out; omega
      case rel => exact ⟨(x5_2), (wrap64 (x22_1 + 1)), yeq, H', ⟨by have := HK1.out; have := HK2.out; omega⟩, ⟨by (with_reducible repeat (first | apply Kd.Ya | apply Kd.Yn | apply Kd.Yd)); exact Kd.R_mono HO_5.out (fun _ hk => trivial)⟩, ⟨yhb⟩⟩
     rw [if_pos c11] at H
     have c11b0 : decide (x30_2 < (t437.length : Int)) = true := decide_eq_true c11
     clear c11
     replace H := yif H
     obtain ⟨c12b0, H⟩ := H
     replace H := yif H
     obtain ⟨c13b0, H⟩ := H
     obtain ⟨ji14, hji14⟩ : ∃ j_ : Int, (wrap64 (x30_2 + 1)) = j_ := ⟨_, rfl⟩
     replace H : (if 0 ≤ (ji14) then (if (ji14) ≤ (t437.length : Int) then ((some (t437.drop ((ji14) : Int).toNat : List Int)).bind fun y441 => (impl_NarrowPairs.l2 k2 l0 a1 x5_2 t437 (rd t437 x30_2) (wrap64 (2 * a1)) x22_1 t437 (t437.length : Int) x30_2 y441 (y441.length : Int) 0)) else (none)) else (none)) = some r := by first | (rw [hji14] at H; exact H) | (simp only [hji14] at H ⊢; exact H)
     have hji14w : (IntKind.i64.wrap (x30_2 + 1)) = ji14 := (i64_w _).trans hji14
     replace H := yig H
     obtain ⟨c15, H⟩ := H
     have c15b0 := eq_true c15
     have c15b1 : decide (0 ≤ (ji14)) = true := decide_eq_true c15
     clear c15
     replace H := yig H
     obtain ⟨c16, H⟩ := H
     have c16b0 := eq_true c16
     have c16b1 : decide ((ji14) ≤ (t437.length : Int)) = true := decide_eq_true c16
     clear c16
     obtain ⟨y441, hy441⟩ : ∃ y_ : List Int, y_ = (t437.drop ((ji14) : Int).toNat) := ⟨_, rfl⟩
     replace H : (impl_NarrowPairs.l2 k2 l0 a1 x5_2 t437 (rd t437 x30_2) (wrap64 (2 * a1)) x22_1 t437 (t437.length : Int) x30_2 y441 (y441.length : Int) 0) = some r := by first | (rw [hy441]; with_reducible exact H) | (have H2_ := (Option.bind_some _ _).symm.trans H; rw [hy441]; with_reducible exact H2_) | (have H2_ := (Option.bind_some _ _).symm.trans H; with_reducible exact H2_) | with_reducible exact H | (rw [hy441]; exact H) | exact H
     have Ny441 := yam hy441
     clear hy441
     have H' := yam H
     clear H
     have p440 : 0 ≤ (x30_2 : Int) := ydt
     have q440 : x30_2 < (t437.length : Int) := ydt
     obtain ⟨ad440, e440, hx440_0⟩ := Kd.at_int (Kd.Yr HO_28.out).2.2 x30_2 p440 q440
     cases e440
     replace p440 := eq_true p440
     replace q440 := eq_true q440
     have q17 : ((ji14) : Int) ≤ ((t437.length : Int) : Int) := ydt
     obtain ⟨i017, hi017, _, hsz17, _⟩ := info_parts info3
     have hroom17 : t437.length ≤ co10 := (Kd.Yr HO_7.out).2.1
     have hC17 : Kd.C (Kd.int .i64) _ (some ad440) t437.length t437 := (Kd.Yr HO_7.out).2.2
     have q017 : (0 : Int) ≤ ((ji14) : Int) := ydt
     have hcut17 := cut_from (P := Try.prog) 22 3 .i64 Try.underlying22 hi017 1 hsz17 (some ad440) t437.length co10 (ji14) q017 q17
     have hr17 := Kd.C_drop (m := ((ji14) : Int).toNat) (c := co10) hC17 (by omega) hroom17
     obtain ⟨A17, hA17⟩ : ∃ A1, A1 = (if co10 = ((ji14) : Int).toNat then (some ad440) else ((some ad440) : Option Addr).map (·.add (((ji14) : Int).toNat * 1))) := ⟨_, rfl⟩
     obtain ⟨c17, hc17⟩ : ∃ c1, c1 = co10 - ((ji14) : Int).toNat := ⟨_, rfl⟩
     have hy17 : y441.length = t437.length - ((ji14) : Int).toNat := (by rw [Ny441.out, List.length_drop] <;> omega)
     rw [show (t437).drop ((ji14) : Int).toNat = y441 from Ny441.out.symm] at hr17
     replace hr17 : Kd.C (Kd.int .i64) _ A17 y441.length y441 := (by rw [hA17]; exact hr17)
     rw [← hy17, ← hA17, ← hc17] at hcut17
     have HR444 := yam hr17
     have HC444 := yam (show y441.length ≤ c17 from by rw [hy17, hc17]; exact Nat.sub_le_sub_right hroom17 _)
     clear hr17 hC17 hroom17 hi017 hsz17 hc17
     have KY17 := yam hy17
     have KA17 := yam hA17
     clear hy17 hA17
     have KL17 := yam (show ((ji14) : Int).toNat ≤ t437.length from by omega)
     replace q17 := eq_true q17
     go_wp2
     go_loopg [40] k2 (fun kq v40 w' => ∃ (x5_3 : List Int) (x40_3 : Int), v40 = .int .i64 x40_3 ∧ Aside0 (impl_NarrowPairs.l2 kq l0 a1 x5_3 t437 (rd t437 x30_2) (wrap64 (2 * a1)) x22_1 t437 (t437.length : Int) x30_2 y441 (y441.length : Int) x40_3 = some r) ∧ Aside0 (kq ≤ k2) ∧ Aside0 (Kd.R (Kd.int .i64) 3 w' w.heap.size (fun k_ => some k_ ≠ ((.slice (some ad440) t437.length co10) : Value).ownBlock ∧ some k_ ≠ ((.slice (some ad440) t437.length co10) : Value).ownBlock) v435 x5_3) ∧ Aside0 (Kd.R (Kd.int .i64) 3 w' w.heap.size (fun k_ => some k_ ≠ (v435 : Value).ownBlock) (.slice (some ad440) t437.length co10) t437) ∧ Aside0 (Kd.R (Kd.int .i64) 3 w' w.heap.size (fun k_ => some k_ ≠ (v435 : Value).ownBlock) (.slice (some ad440) t437.length co10) t437) ∧ Aside0 (Kd.C (Kd.int .i64) w' A17 y441.length y441) ∧ Aside0 (Below w.heap.size w w'))
     case atStart => exact ⟨(x5_2), (0), yeq, H', ⟨Nat.le_refl _⟩, ⟨yka HO_5.out⟩, ⟨yka HO_7.out⟩, ⟨yka HO_28.out⟩, ⟨by repeat (first | (with_reducible exact HR444.out) | (with_reducible refine Kd.C_alloc ?_ _) | (with_reducible refine Kd.C_drewN ?_ _) | (with_reducible refine Kd.C_drew ?_) | exact HR444.out)⟩, ⟨yhb⟩⟩
     case round =>
      clear H'
      try clear c1
      try clear q1
      try clear p2
      try clear c4
      try clear p4
      try clear q4
      try clear hx4
      try clear c6
      try clear p6
      try clear c7
      try clear c7b0
      try clear c8
      try clear c11
      try clear c11b0
      try clear c12
      try clear c12b0
      try clear c13
      try clear c13b0
      try clear c15
      try clear c15b0
      try clear c15b1
      try clear c16
      try clear c16b0
      try clear c16b1
      try clear c17
      try clear q17
      try clear hx440_0
      try clear p2
      try clear p440
      try clear p6
      try clear q017
      try clear q17
      try clear q440
      obtain ⟨x5_3, x40_3, rfl, HA, HK3, HO_5, HO_7, HO_28, HR444, HB⟩ := hrel
      cases gk with
      | zero => exact absurd HA.out (by simp [impl_NarrowPairs.l2])
      | succ k3 =>
       have H := HA.out
       clear HA
       simp only [impl_NarrowPairs.l2] at H
       by_cases c18 : x40_3 < (y441.length : Int)
       rotate_left
       ·rw [if_neg c18] at H
        have c18b0 : decide (x40_3 < (y441.length : Int)) = false := decide_eq_false c18
        clear c18
        have H' := yam H
        clear H
        go_wp2
        go_roundg k3
        case measure => have := HK1.out; have := HK2.out; have := HK3.out; omega
        case rel => exact ⟨(x5_3), (wrap64 (x30_2 + 1)), yeq, H', ⟨by have := HK1.out; have := HK2.out; have := HK3.out; omega⟩, ⟨yka HO_5.out⟩, ⟨yka HO_7.out⟩, ⟨yka HO_28.out⟩, ⟨yhb⟩⟩
       rw [if_pos c18] at H
       have c18b0 : decide (x40_3 < (y441.length : Int)) = true := decide_eq_true c18
       clear c18
       replace H := yif H
       obtain ⟨c19b0, H⟩ := H
       replace H := yif H
       obtain ⟨c20b0, H⟩ := H
       have HC21 := yam H
       clear H
       have p445 : 0 ≤ (x40_3 : Int) := ydt
       have q445 : x40_3 < (y441.length : Int) := ydt
       obtain ⟨ad445, e445, hx445_0⟩ := Kd.at_int (by repeat (first | (with_reducible exact HR444.out) | (with_reducible refine Kd.C_alloc ?_ _) | (with_reducible refine Kd.C_drewN ?_ _) | (with_reducible refine Kd.C_drew ?_) | exact HR444.out)) x40_3 p445 q445
       cases e445
       replace p445 := eq_true p445
       replace q445 := eq_true q445
       go_upto_region 14 with (fail)
       go_cut [61] (fun v61 wc => ∃ (kq : Nat) (x61_20 : Bool), v61 = .bool x61_20 ∧ Aside0 (impl_NarrowPairs.j3 kq l0 a1 x5_3 t437 (rd t437 x30_2) (rd y441 x40_3) (wrap64 (2 * a1)) x22_1 t437 (t437.length : Int) x30_2 y441 (y441.length : Int) x40_3 x61_20 = some r) ∧ Aside0 (kq ≤ k3) ∧ Aside0 (Kd.R (Kd.int .i64) 3 wc w.heap.size (fun k_ => some k_ ≠ ((.slice (some ad440) t437.length co10) : Value).ownBlock ∧ some k_ ≠ ((.slice (some ad440) t437.length co10) : Value).ownBlock) v435 x5_3) ∧ Aside0 (Kd.R (Kd.int .i64) 3 wc w.heap.size (fun k_ => some k_ ≠ (v435 : Value).ownBlock) (.slice (some ad440) t437.length co10) t437) ∧ Aside0 (Kd.R (Kd.int .i64) 3 wc w.heap.size (fun k_ => some k_ ≠ (v435 : Value).ownBlock) (.slice (some ad440) t437.length co10) t437) ∧ Aside0 (Kd.C (Kd.int .i64) wc (some ad445) y441.length y441) ∧ Aside0 (Below w.heap.size w wc))
       case first =>
        have H := HC21.out
        clear HC21
        replace H := yif H
        obtain ⟨c22b0, H⟩ := H
        (first | rw [c22b0] | (simp only [i64_w, i32_w]; rw [c22b0]) | skip)
        replace H := yif H
        obtain ⟨c23b0, H⟩ := H
        replace H := yif H
        obtain ⟨c24b0, H⟩ := H
        replace H := yif H
        obtain ⟨c25b0, H⟩ := H
        by_cases c26 : (rd l0 (rd t437 x30_2)) = (rd l0 (rd y441 x40_3))
        rotate_left
        ·rw [if_neg c26] at H
         have c26b0 : ((rd l0 (rd t437 x30_2)) == (rd l0 (rd y441 x40_3))) = false := beq_eq_false_iff_ne.mpr c26
         have c26b1 : ((rd l0 (rd t437 x30_2)) != (rd l0 (rd y441 x40_3))) = true := bne_iff_ne.mpr c26
         have H' := yam H
         clear H
         try go_wp2
         replace HO_5 := yam (Kd.Yd HO_5.out)
         replace HO_7 := yam (Kd.Yd HO_7.out)
         replace HO_28 := yam (Kd.Yd HO_28.out)
         replace HR444 := yam (Kd.C_drew HR444.out)
         replace HB := yam (yed HB.out)
         have p446 : 0 ≤ ((rd t437 x30_2) : Int) := ydt
         have q446 : (rd t437 x30_2) < (l0.length : Int) := ydt
         obtain ⟨ad446, e446, hx446_0⟩ := Kd.at_int HR0.out (rd t437 x30_2) p446 q446
         have hw446_0 := hx446_0
         cases e446
         replace hx446_0 := ybx HB.out hx446_0
         replace p446 := eq_true p446
         replace q446 := eq_true q446
         have p447 : 0 ≤ ((rd y441 x40_3) : Int) := ydt
         have q447 : (rd y441 x40_3) < (l0.length : Int) := ydt
         obtain ⟨ad447, e447, hx447_0⟩ := Kd.at_int HR0.out (rd y441 x40_3) p447 q447
         have hw447_0 := hx447_0
         obtain rfl : ad446 = ad447 := (by injection e447)
         replace hx447_0 := ybx HB.out hx447_0
         replace p447 := eq_true p447
         replace q447 := eq_true q447
         refine start_ (n := 18) (S := fun w' => w'.cell? (ad446.add ((rd t437 x30_2)).toNat) = some (.int .i64 (rd l0 (rd t437 x30_2))) ∧ w'.cell? (ad446.add ((rd y441 x40_3)).toNat) = some (.int .i64 (rd l0 (rd y441 x40_3)))) (ds := []) #[false, false, false, false, false, false, false, false, false, false, false, false, false, false, false, false, false, false] (by kernel_rfl) rfl rfl ⟨((HB.out.cell (World.block_lt_of_cell? w _ hw446_0)).trans hw446_0), ((HB.out.cell (World.block_lt_of_cell? w _ hw447_0)).trans hw447_0)⟩ (fun hHeld => ?_); refine with_tabW impl_NarrowPairs.tab14 impl_NarrowPairs.bits14 (fun HT_ HW_ => ?_)
         generalize wr.drew = w29 at HO_5 HO_7 HO_28 HR444 HB hx446_0 hx447_0 hHeld ⊢
         refine yvp 0 44 (yvb 18 1) HT_.out ?_
         refine yvp 1 45 (yvb 18 3) HT_.out ?_
         refine yvp 2 46 (yvb 18 7) HT_.out ?_
         refine yvp 4 48 (yvb 18 23) HT_.out ?_
         refine yvp 5 49 (yvb 18 55) HT_.out ?_
         refine yvp 6 50 (yvb 18 119) HT_.out ?_
         refine yvt 3 47 (yvb 18 127) HT_.out HW_.out hHeld ?_
         refine yvt 7 51 (yvb 18 255) HT_.out HW_.out hHeld ?_
         refine yvp 8 52 (yvb 18 511) HT_.out ?_
         refine yvp 9 53 (yvb 18 1023) HT_.out ?_
         refine yvu 10 54 (yvb 18 2047) HT_.out ?_
         refine yvu 11 55 (yvb 18 4095) HT_.out ?_
         refine yvu 12 56 (yvb 18 8191) HT_.out ?_
         refine yvu 13 57 (yvb 18 16383) HT_.out ?_
         refine yvu 14 58 (yvb 18 32767) HT_.out ?_
         refine yvu 15 59 (yvb 18 65535) HT_.out ?_
         refine yvu 16 60 (yvb 18 131071) HT_.out ?_
         refine yvp 17 61 (yvb 18 262143) HT_.out ?_
         refine done_ (done_of HT_.out (by kernel_rfl)) ?_
         try go_wp2
         go_meet
         case rel => exact ⟨_, (true), yeq, H', ⟨by have := HK1.out; have := HK2.out; have := HK3.out; first | omega | exact Nat.le_refl _⟩, ⟨yka HO_5.out⟩, ⟨yka HO_7.out⟩, ⟨yka HO_28.out⟩, ⟨by repeat (first | (with_reducible exact HR444.out) | (with_reducible refine Kd.C_alloc ?_ _) | (with_reducible refine Kd.C_drewN ?_ _) | (with_reducible refine Kd.C_drew ?_) | exact HR444.out)⟩, ⟨yhb⟩⟩
        rw [if_pos c26] at H
        have c26b0 : ((rd l0 (rd t437 x30_2)) == (rd l0 (rd y441 x40_3))) = true := beq_iff_eq.mpr c26
        have c26b1 : ((rd l0 (rd t437 x30_2)) != (rd l0 (rd y441 x40_3))) = false := bne_eq_false_iff_eq.mpr c26
        clear c26
        replace H := Option.bind_eq_some_iff.mp H
        obtain ⟨t449, A270, H⟩ := H
        try dsimp only at H
        have A27 := yam A270
        clear A270
        have H' := yam H
        clear H
        try go_wp2
        replace HO_5 := yam (Kd.Yd HO_5.out)
        replace HO_7 := yam (Kd.Yd HO_7.out)
        replace HO_28 := yam (Kd.Yd HO_28.out)
        replace HR444 := yam (Kd.C_drew HR444.out)
        replace HB := yam (yed HB.out)
        have p446 : 0 ≤ ((rd t437 x30_2) : Int) := ydt
        have q446 : (rd t437 x30_2) < (l0.length : Int) := ydt
        obtain ⟨ad446, e446, hx446_0⟩ := Kd.at_int HR0.out (rd t437 x30_2) p446 q446
        have hw446_0 := hx446_0
        cases e446
        replace hx446_0 := ybx HB.out hx446_0
        replace p446 := eq_true p446
        replace q446 := eq_true q446
        have p447 : 0 ≤ ((rd y441 x40_3) : Int) := ydt
        have q447 : (rd y441 x40_3) < (l0.length : Int) := ydt
        obtain ⟨ad447, e447, hx447_0⟩ := Kd.at_int HR0.out (rd y441 x40_3) p447 q447
        have hw447_0 := hx447_0
        obtain rfl : ad446 = ad447 := (by injection e447)
        replace hx447_0 := ybx HB.out hx447_0
        replace p447 := eq_true p447
        replace q447 := eq_true q447
        have p448 : 0 ≤ ((rd t437 x30_2) : Int) := ydt
        have q448 : (rd t437 x30_2) < (l0.length : Int) := ydt
        obtain ⟨ad448, e448, hx448_0⟩ := Kd.at_int HR0.out (rd t437 x30_2) p448 q448
        have hw448_0 := hx448_0
        obtain rfl : ad446 = ad448 := (by injection e448)
        replace hx448_0 := ybx HB.out hx448_0
        replace p448 := eq_true p448
        replace q448 := eq_true q448
        refine start_ (n := 18) (S := fun w' => w'.cell? (ad446.add ((rd t437 x30_2)).toNat) = some (.int .i64 (rd l0 (rd t437 x30_2))) ∧ w'.cell? (ad446.add ((rd y441 x40_3)).toNat) = some (.int .i64 (rd l0 (rd y441 x40_3))) ∧ w'.cell? (ad446.add ((rd t437 x30_2)).toNat) = some (.int .i64 (rd l0 (rd t437 x30_2)))) (ds := []) #[false, false, false, false, false, false, false, false, false, false, false, false, false, false, false, false, false, false] (by kernel_rfl) rfl rfl ⟨((HB.out.cell (World.block_lt_of_cell? w _ hw446_0)).trans hw446_0), ((HB.out.cell (World.block_lt_of_cell? w _ hw447_0)).trans hw447_0), ((HB.out.cell (World.block_lt_of_cell? w _ hw448_0)).trans hw448_0)⟩ (fun hHeld => ?_); refine with_tabW impl_NarrowPairs.tab14 impl_NarrowPairs.bits14 (fun HT_ HW_ => ?_)
        generalize wr.drew = w28 at HO_5 HO_7 HO_28 HR444 HB hx446_0 hx447_0 hx448_0 hHeld ⊢
        refine yvp 0 44 (yvb 18 1) HT_.out ?_
        refine yvp 1 45 (yvb 18 3) HT_.out ?_
        refine yvp 2 46 (yvb 18 7) HT_.out ?_
        refine yvp 4 48 (yvb 18 23) HT_.out ?_
        refine yvp 5 49 (yvb 18 55) HT_.out ?_
        refine yvp 6 50 (yvb 18 119) HT_.out ?_
        refine yvt 3 47 (yvb 18 127) HT_.out HW_.out hHeld ?_
        refine yvt 7 51 (yvb 18 255) HT_.out HW_.out hHeld ?_
        refine yvp 8 52 (yvb 18 511) HT_.out ?_
        refine yvp 9 53 (yvb 18 1023) HT_.out ?_
        refine yvp 10 54 (yvb 18 2047) HT_.out ?_
        refine yvp 11 55 (yvb 18 4095) HT_.out ?_
        refine yvp 12 56 (yvb 18 8191) HT_.out ?_
        refine yvt 13 57 (yvb 18 16383) HT_.out HW_.out hHeld ?_
        refine yvp 14 58 (yvb 18 32767) HT_.out ?_
        refine one_ (i := 15) (N := some 59) #[true, true, true, true, true, true, true, true, true, true, true, true, true, true, true, true, false, false] rfl rfl (one_of HT_.out (by kernel_rfl)) (by decide) (fun K hK => ?_)
        refine goes_ Try.func75 (by kernel_rfl) rfl #[.int .u64 (IntKind.u64.wrap (rd l0 (rd t437 x30_2)))] (by rfl) rfl rfl ymd ?_
        with_reducible refine (bits_OnesCount.calls (IntKind.u64.wrap (rd l0 (rd t437 x30_2))) t449 _ A27.out).mono ?_
        rintro e w' ⟨rfl, ⟨nd, rfl⟩⟩
        refine ⟨_, rfl, ?_⟩
        refine hK.out _ _ ⟨((HB.out.cell (World.block_lt_of_cell? w _ hw446_0)).trans hw446_0), ((HB.out.cell (World.block_lt_of_cell? w _ hw447_0)).trans hw447_0), ((HB.out.cell (World.block_lt_of_cell? w _ hw448_0)).trans hw448_0)⟩ (fun hHeld => ?_)
        clear hK K
        refine norm_ (a' := ?_) ?_ ?_
        rotate_left
        ·show Act.put _ (some 59) _ = _
         simp only [Act.put, yps, i64_w, i32_w]
         rfl
        refine yvp 16 60 (yvb 18 131071) HT_.out ?_
        refine yvp 17 61 (yvb 18 262143) HT_.out ?_
        refine done_ (done_of HT_.out (by kernel_rfl)) ?_
        try go_wp2
        go_meet
        case rel => exact ⟨_, ((t449 != 2)), yeq, H', ⟨by have := HK1.out; have := HK2.out; have := HK3.out; first | omega | exact Nat.le_refl _⟩, ⟨yka HO_5.out⟩, ⟨yka HO_7.out⟩, ⟨yka HO_28.out⟩, ⟨by repeat (first | (with_reducible exact HR444.out) | (with_reducible refine Kd.C_alloc ?_ _) | (with_reducible refine Kd.C_drewN ?_ _) | (with_reducible refine Kd.C_drew ?_) | exact HR444.out)⟩, ⟨yhb⟩⟩
       case rest =>
        clear HC21
        try clear c1
        try clear q1
        try clear c2
        try clear p2
        try clear c4
        try clear p4
        try clear q4
        try clear hx4
        try clear c6
        try clear p6
        try clear c7
        try clear c7b0
        try clear c8
        try clear c11
        try clear c11b0
        try clear c12
        try clear c12b0
        try clear c13
        try clear c13b0
        try clear c15
        try clear c15b0
        try clear c15b1
        try clear c16
        try clear c16b0
        try clear c16b1
        try clear c17
        try clear q17
        try clear c18
        try clear c18b0
        try clear c19
        try clear c19b0
        try clear c20
        try clear c20b0
        try clear c22
        try clear c22b0
        try clear c23
        try clear c23b0
        try clear c24
        try clear c24b0
        try clear c25
        try clear c25b0
        try clear c26
        try clear c26b0
        try clear c26b1
        try clear hx440_0
        try clear hx445_0
        try clear hx446_0
        try clear hx447_0
        try clear hx448_0
        try clear p2
        try clear p4
        try clear p440
        try clear p445
        try clear p446
        try clear p447
        try clear p448
        try clear p6
        try clear q017
        try clear q1
        try clear q17
        try clear q4
        try clear q440
        try clear q445
        try clear q446
        try clear q447
        try clear q448
        obtain ⟨kq, x61_20, rfl, HA, HJ20, HO_5, HO_7, HO_28, HR444, HB⟩ := hcut
        cases kq with
        | zero => exact absurd HA.out (by simp [impl_NarrowPairs.j3])
        | succ kj20 =>
         have H := HA.out
         clear HA
         simp only [impl_NarrowPairs.j3] at H
         by_cases c30 : x61_20 = true
         ·subst c30
          have H1 : (impl_NarrowPairs.l2 kj20 l0 a1 x5_3 t437 (rd t437 x30_2) (wrap64 (2 * a1)) x22_1 t437 (t437.length : Int) x30_2 y441 (y441.length : Int) (wrap64 (x40_3 + 1))) = some r := by rw [if_pos rfl] at H; exact H
          clear H
          have H := H1
          clear H1
          have H' := yam H
          clear H
          go_wp2
          go_roundg kj20
          case measure => have := HK1.out; have := HK2.out; have := HK3.out; have := HJ20.out; omega
          case rel => exact ⟨(x5_3), (wrap64 (x40_3 + 1)), yeq, H', ⟨by have := HK1.out; have := HK2.out; have := HK3.out; have := HJ20.out; omega⟩, ⟨yka HO_5.out⟩, ⟨yka HO_7.out⟩, ⟨yka HO_28.out⟩, ⟨by repeat (first | (with_reducible exact HR444.out) | (with_reducible refine Kd.C_alloc ?_ _) | (with_reducible refine Kd.C_drewN ?_ _) | (with_reducible refine Kd.C_drew ?_) | exact HR444.out)⟩, ⟨yhb⟩⟩
         replace c30 := Bool.eq_false_iff.mpr c30
         subst c30
         have H1 : (impl_NarrowPairs.l3 kj20 l0 a1 x5_3 t437 (rd t437 x30_2) (rd y441 x40_3) (wrap64 (2 * a1)) x22_1 t437 (t437.length : Int) x30_2 y441 (y441.length : Int) x40_3 t437 (t437.length : Int) 0) = some r := by rw [if_neg (show ¬ (false = true) by decide)] at H; exact H
         clear H
         have H := H1
         clear H1
         have H' := yam H
         clear H
         go_wp2
         go_loopg [64] kj20 (fun kq v64 w' => ∃ (x5_5 : List Int) (x64_5 : Int), v64 = .int .i64 x64_5 ∧ Aside0 (impl_NarrowPairs.l3 kq l0 a1 x5_5 t437 (rd t437 x30_2) (rd y441 x40_3) (wrap64 (2 * a1)) x22_1 t437 (t437.length : Int) x30_2 y441 (y441.length : Int) x40_3 t437 (t437.length : Int) x64_5 = some r) ∧ Aside0 (kq ≤ kj20) ∧ Aside0 (Kd.R (Kd.int .i64) 3 w' w.heap.size (fun k_ => some k_ ≠ ((.slice (some ad440) t437.length co10) : Value).ownBlock ∧ some k_ ≠ ((.slice (some ad440) t437.length co10) : Value).ownBlock ∧ some k_ ≠ ((.slice (some ad440) t437.length co10) : Value).ownBlock) v435 x5_5) ∧ Aside0 (Kd.R (Kd.int .i64) 3 w' w.heap.size (fun k_ => some k_ ≠ (v435 : Value).ownBlock) (.slice (some ad440) t437.length co10) t437) ∧ Aside0 (Kd.R (Kd.int .i64) 3 w' w.heap.size (fun k_ => some k_ ≠ (v435 : Value).ownBlock) (.slice (some ad440) t437.length co10) t437) ∧ Aside0 (Kd.R (Kd.int .i64) 3 w' w.heap.size (fun k_ => some k_ ≠ (v435 : Value).ownBlock) (.slice (some ad440) t437.length co10) t437) ∧ Aside0 (Kd.C (Kd.int .i64) w' (some ad445) y441.length y441) ∧ Aside0 (Below w.heap.size w w'))
         case atStart => exact ⟨(x5_3), (0), yeq, H', ⟨Nat.le_refl _⟩, ⟨by (with_reducible repeat (first | apply Kd.Ya | apply Kd.Yn | apply Kd.Yd)); exact Kd.R_mono HO_5.out (fun _ hk => ⟨hk.1, ⟨hk.2, hk.1⟩⟩)⟩, ⟨yka HO_7.out⟩, ⟨yka HO_28.out⟩, ⟨yka HO_7.out⟩, ⟨by repeat (first | (with_reducible exact HR444.out) | (with_reducible refine Kd.C_alloc ?_ _) | (with_reducible refine Kd.C_drewN ?_ _) | (with_reducible refine Kd.C_drew ?_) | exact HR444.out)⟩, ⟨yhb⟩⟩
         case round =>
          clear H'
          try clear c1
          try clear q1
          try clear c2
          try clear p2
          try clear c3
          try clear c4
          try clear p4
          try clear q4
          try clear hx4
          try clear c6
          try clear p6
          try clear c7
          try clear c7b0
          try clear c8
          try clear c11
          try clear c11b0
          try clear c12
          try clear c12b0
          try clear c13
          try clear c13b0
          try clear c15
          try clear c15b0
          try clear c15b1
          try clear c16
          try clear c16b0
          try clear c16b1
          try clear c17
          try clear q17
          try clear c18
          try clear c18b0
          try clear c19
          try clear c19b0
          try clear c20
          try clear c20b0
          try clear c22
          try clear c22b0
          try clear c23
          try clear c23b0
          try clear c24
          try clear c24b0
          try clear c25
          try clear c25b0
          try clear c26
          try clear c26b0
          try clear c26b1
          try clear c30
          try clear hx440_0
          try clear hx445_0
          try clear hx446_0
          try clear hx447_0
          try clear hx448_0
          try clear p2
          try clear p4
          try clear p440
          try clear p445
          try clear p446
          try clear p447
          try clear p448
          try clear p6
          try clear q017
          try clear q1
          try clear q17
          try clear q4
          try clear q440
          try clear q445
          try clear q446
          try clear q447
          try clear q448
          obtain ⟨x5_5, x64_5, rfl, HA, HK5, HO_5, HO_7, HO_28, HO_62, HR444, HB⟩ := hrel
          cases gk with
          | zero => exact absurd HA.out (by simp [impl_NarrowPairs.l3])
          | succ k5 =>
           have H := HA.out
           clear HA
           simp only [impl_NarrowPairs.l3] at H
           by_cases c31 : x64_5 < (t437.length : Int)
           rotate_left
           ·rw [if_neg c31] at H
            have c31b0 : decide (x64_5 < (t437.length : Int)) = false := decide_eq_false c31
            clear c31
            have H' := yam H
            clear H
            go_wp2
            go_roundg k5
            case measure => have := HK1.out; have := HK2.out; have := HK3.out; have := HJ20.out; have := HK5.out; omega
            case rel => exact ⟨(x5_5), (wrap64 (x40_3 + 1)), yeq, H', ⟨by have := HK1.out; have := HK2.out; have := HK3.out; have := HJ20.out; have := HK5.out; omega⟩, ⟨by (with_reducible repeat (first | apply Kd.Ya | apply Kd.Yn | apply Kd.Yd)); exact Kd.R_mono HO_5.out (fun _ hk => ⟨hk.1, hk.2.1⟩)⟩, ⟨yka HO_7.out⟩, ⟨yka HO_28.out⟩, ⟨by repeat (first | (with_reducible exact HR444.out) | (with_reducible refine Kd.C_alloc ?_ _) | (with_reducible refine Kd.C_drewN ?_ _) | (with_reducible refine Kd.C_drew ?_) | exact HR444.out)⟩, ⟨yhb⟩⟩
           rw [if_pos c31] at H
           have c31b0 : decide (x64_5 < (t437.length : Int)) = true := decide_eq_true c31
           clear c31
           replace H := yif H
           obtain ⟨c32b0, H⟩ := H
           replace H := yif H
           obtain ⟨c33b0, H⟩ := H
           by_cases c34 : (rd t437 x64_5) = (rd t437 x30_2)
           ·rw [if_pos c34] at H
            have c34b0 : ((rd t437 x64_5) == (rd t437 x30_2)) = true := beq_iff_eq.mpr c34
            have c34b1 : ((rd t437 x64_5) != (rd t437 x30_2)) = false := bne_eq_false_iff_eq.mpr c34
            clear c34
            have H' := yam H
            clear H
            have p450 : 0 ≤ (x64_5 : Int) := ydt
            have q450 : x64_5 < (t437.length : Int) := ydt
            obtain ⟨ad450, e450, hx450_0⟩ := Kd.at_int (Kd.Yr HO_62.out).2.2 x64_5 p450 q450
            obtain rfl : ad440 = ad450 := (by injection e450)
            replace p450 := eq_true p450
            replace q450 := eq_true q450
            go_wp2
            go_roundg k5
            case measure => have := HK1.out; have := HK2.out; have := HK3.out; have := HJ20.out; have := HK5.out; omega
            case rel => exact ⟨(x5_5), (wrap64 (x64_5 + 1)), yeq, H', ⟨by have := HK1.out; have := HK2.out; have := HK3.out; have := HJ20.out; have := HK5.out; omega⟩, ⟨yka HO_5.out⟩, ⟨yka HO_7.out⟩, ⟨yka HO_28.out⟩, ⟨yka HO_62.out⟩, ⟨by repeat (first | (with_reducible exact HR444.out) | (with_reducible refine Kd.C_alloc ?_ _) | (with_reducible refine Kd.C_drewN ?_ _) | (with_reducible refine Kd.C_drew ?_) | exact HR444.out)⟩, ⟨yhb⟩⟩
           rw [if_neg c34] at H
           have c34b0 : ((rd t437 x64_5) == (rd t437 x30_2)) = false := beq_eq_false_iff_ne.mpr c34
           have c34b1 : ((rd t437 x64_5) != (rd t437 x30_2)) = true := bne_iff_ne.mpr c34
           by_cases c35 : (rd t437 x64_5) = (rd y441 x40_3)
           ·rw [if_pos c35] at H
            have c35b0 : ((rd t437 x64_5) == (rd y441 x40_3)) = true := beq_iff_eq.mpr c35
            have c35b1 : ((rd t437 x64_5) != (rd y441 x40_3)) = false := bne_eq_false_iff_eq.mpr c35
            clear c35
            have H' := yam H
            clear H
            have p450 : 0 ≤ (x64_5 : Int) := ydt
            have q450 : x64_5 < (t437.length : Int) := ydt
            obtain ⟨ad450, e450, hx450_0⟩ := Kd.at_int (Kd.Yr HO_62.out).2.2 x64_5 p450 q450
            obtain rfl : ad440 = ad450 := (by injection e450)
            replace p450 := eq_true p450
            replace q450 := eq_true q450
            go_wp2
            go_roundg k5
            case measure => have := HK1.out; have := HK2.out; have := HK3.out; have := HJ20.out; have := HK5.out; omega
            case rel => exact ⟨(x5_5), (wrap64 (x64_5 + 1)), yeq, H', ⟨by have := HK1.out; have := HK2.out; have := HK3.out; have := HJ20.out; have := HK5.out; omega⟩, ⟨yka HO_5.out⟩, ⟨yka HO_7.out⟩, ⟨yka HO_28.out⟩, ⟨yka HO_62.out⟩, ⟨by repeat (first | (with_reducible exact HR444.out) | (with_reducible refine Kd.C_alloc ?_ _) | (with_reducible refine Kd.C_drewN ?_ _) | (with_reducible refine Kd.C_drew ?_) | exact HR444.out)⟩, ⟨yhb⟩⟩
           rw [if_neg c35] at H
           have c35b0 : ((rd t437 x64_5) == (rd y441 x40_3)) = false := beq_eq_false_iff_ne.mpr c35
           have c35b1 : ((rd t437 x64_5) != (rd y441 x40_3)) = true := bne_iff_ne.mpr c35
           replace H := yif H
           obtain ⟨c36b0, H⟩ := H
           replace H := yif H
           obtain ⟨c37b0, H⟩ := H
           replace H := yif H
           obtain ⟨c38b0, H⟩ := H
           replace H := yif H
           obtain ⟨c39b0, H⟩ := H
           obtain ⟨y453, hy453⟩ : ∃ y_ : List Int, y_ = (x5_5.set ((rd t437 x64_5) : Int).toNat (Go.bits .andNot .i64 (rd x5_5 (rd t437 x64_5)) (rd l0 (rd t437 x30_2)))) := ⟨_, rfl⟩
           replace H : (impl_NarrowPairs.l3 k5 l0 a1 y453 t437 (rd t437 x30_2) (rd y441 x40_3) (wrap64 (2 * a1)) x22_1 t437 (t437.length : Int) x30_2 y441 (y441.length : Int) x40_3 t437 (t437.length : Int) (wrap64 (x64_5 + 1))) = some r := by first | (rw [hy453]; with_reducible exact H) | (have H2_ := (Option.bind_some _ _).symm.trans H; rw [hy453]; with_reducible exact H2_) | (have H2_ := (Option.bind_some _ _).symm.trans H; with_reducible exact H2_) | with_reducible exact H | (rw [hy453]; exact H) | exact H
           have Ny453 := yam hy453
           clear hy453
           have H' := yam H
           clear H
           have p450 : 0 ≤ (x64_5 : Int) := ydt
           have q450 : x64_5 < (t437.length : Int) := ydt
           obtain ⟨ad450, e450, hx450_0⟩ := Kd.at_int (Kd.Yr HO_62.out).2.2 x64_5 p450 q450
           obtain rfl : ad440 = ad450 := (by injection e450)
           replace p450 := eq_true p450
           replace q450 := eq_true q450
           try go_wp2
           replace HO_5 := yam (Kd.Yd HO_5.out)
           replace HO_7 := yam (Kd.Yd HO_7.out)
           replace HO_28 := yam (Kd.Yd HO_28.out)
           replace HO_62 := yam (Kd.Yd HO_62.out)
           replace HR444 := yam (Kd.C_drew HR444.out)
           replace HB := yam (yed HB.out)
           obtain ⟨Ao42, co42, eo42⟩ := Kd.R_slice HO_5.out
           (first | subst eo42 | (injection eo42 with f1_ f2_ f3_; have f4_ := f1_.symm; have f5_ := f3_.symm; clear f1_ f2_ f3_; subst f4_; subst f5_))
           have p451 : 0 ≤ ((rd t437 x64_5) : Int) := ydt
           have q451 : (rd t437 x64_5) < (x5_5.length : Int) := ydt
           obtain ⟨ad451, e451, hx451_0⟩ := Kd.at_int (Kd.Yr HO_5.out).2.2 (rd t437 x64_5) p451 q451
           cases e451
           replace p451 := eq_true p451
           replace q451 := eq_true q451
           have p452 : 0 ≤ ((rd t437 x30_2) : Int) := ydt
           have q452 : (rd t437 x30_2) < (l0.length : Int) := ydt
           obtain ⟨ad452, e452, hx452_0⟩ := Kd.at_int HR0.out (rd t437 x30_2) p452 q452
           have hw452_0 := hx452_0
           cases e452
           replace hx452_0 := ybx HB.out hx452_0
           replace p452 := eq_true p452
           replace q452 := eq_true q452
           have p40 : 0 ≤ ((rd t437 x64_5) : Int) := ydt
           have q40 : ((rd t437 x64_5) : Int) < ((x5_5.length : Int) : Int) := ydt
           obtain ⟨go40, co40, eo40, gb40, gl40, cl40, HG40⟩ := Kd.R_form HO_5.out (by omega)
           (first | cases eo40 | (injection eo40 with ea_ en_ ec_; (first | subst ea_ | (injection ea_ with ea_; subst ea_)); subst ec_; clear en_))
           have GB40 := yam gb40
           have GG40 := yam HG40
           clear gb40 gl40 HG40
           (first | simp only [add_plain] at hx451_0 | skip)
           obtain ⟨hx40_0, hf40_0⟩ := Kd.R_celln 0 HO_5.out ((rd t437 x64_5) : Int) p40 q40
           replace p40 := eq_true p40
           replace q40 := eq_true q40
           have HP43 := Kd.R_putn HO_5.out ((rd t437 x64_5) : Int) (Go.bits .andNot .i64 (rd x5_5 (rd t437 x64_5)) (rd l0 (rd t437 x30_2)))
           rw [← Ny453.out] at HP43
           have HQ43 := yam HP43
           clear HP43
           refine start_ (n := 11) (S := fun w' => w'.cell? ⟨go40, ((rd t437 x64_5)).toNat, none⟩ = some (.int .i64 (rd x5_5 (rd t437 x64_5))) ∧ w'.cell? (ad452.add ((rd t437 x30_2)).toNat) = some (.int .i64 (rd l0 (rd t437 x30_2)))) (ds := [10]) #[false, false, false, false, false, false, false, false, false, false, false] (by kernel_rfl) rfl rfl ⟨hx451_0, ((HB.out.cell (World.block_lt_of_cell? w _ hw452_0)).trans hw452_0)⟩ (fun hHeld => ?_); refine with_tabW impl_NarrowPairs.tab19 impl_NarrowPairs.bits19 (fun HT_ HW_ => ?_)
           generalize wr.drew = w41 at HO_5 HO_7 HO_28 HO_62 HR444 HB GG40 HQ43 hf40_0 hx40_0 hx451_0 hx452_0 hHeld ⊢
           refine yvp 0 76 (yvb 11 1) HT_.out ?_
           refine yvp 1 77 (yvb 11 3) HT_.out ?_
           refine yvp 2 78 (yvb 11 7) HT_.out ?_
           refine yvp 4 80 (yvb 11 23) HT_.out ?_
           refine yvp 5 81 (yvb 11 55) HT_.out ?_
           refine yvp 6 82 (yvb 11 119) HT_.out ?_
           refine yvt 3 79 (yvb 11 127) HT_.out HW_.out hHeld ?_
           refine yvt 7 83 (yvb 11 255) HT_.out HW_.out hHeld ?_
           refine yvp 8 84 (yvb 11 511) HT_.out ?_
           refine yvp 9 85 (yvb 11 1023) HT_.out ?_
           refine last_ (i := 10) (N := none) #[true, true, true, true, true, true, true, true, true, true, true] rfl rfl (one_of HT_.out (by kernel_rfl)) (by decide) (fun K hK => ?_)
           refine skip_ (w1 := ?_) (by rfl) rfl ?_ ?_
           rotate_left
           ·go_simp
            rfl
           refine hK.out _ _ ?_
           clear hK K
           refine done_ (done_of HT_.out (by kernel_rfl)) ?_
           try go_wp2
           go_roundg k5
           case measure => have := HK1.out; have := HK2.out; have := HK3.out; have := HJ20.out; have := HK5.out; omega
           case rel => exact ⟨(y453), (wrap64 (x64_5 + 1)), yeq, H', ⟨by have := HK1.out; have := HK2.out; have := HK3.out; have := HJ20.out; have := HK5.out; omega⟩, ⟨yka HQ43.out⟩, ⟨by (with_reducible repeat (first | apply Kd.Ya | apply Kd.Yn | apply Kd.Yd)); exact Kd.R_mono (Kd.R_far (p := ⟨go40, ((rd t437 x64_5) : Int).toNat, none⟩) (Kd.R_mono HO_7.out (fun k_ hk => (⟨hk, fun e_ => hk (by rw [e_]; rfl)⟩ : _ ∧ k_ ≠ go40))) (fun _ hk => hk.2) (.int .i64 (Go.bits .andNot .i64 (rd x5_5 (rd t437 x64_5)) (rd l0 (rd t437 x30_2))))) (fun _ hk => hk.1)⟩, ⟨by (with_reducible repeat (first | apply Kd.Ya | apply Kd.Yn | apply Kd.Yd)); exact Kd.R_mono (Kd.R_far (p := ⟨go40, ((rd t437 x64_5) : Int).toNat, none⟩) (Kd.R_mono HO_28.out (fun k_ hk => (⟨hk, fun e_ => hk (by rw [e_]; rfl)⟩ : _ ∧ k_ ≠ go40))) (fun _ hk => hk.2) (.int .i64 (Go.bits .andNot .i64 (rd x5_5 (rd t437 x64_5)) (rd l0 (rd t437 x30_2))))) (fun _ hk => hk.1)⟩, ⟨by (with_reducible repeat (first | apply Kd.Ya | apply Kd.Yn | apply Kd.Yd)); exact Kd.R_mono (Kd.R_far (p := ⟨go40, ((rd t437 x64_5) : Int).toNat, none⟩) (Kd.R_mono HO_62.out (fun k_ hk => (⟨hk, fun e_ => hk (by rw [e_]; rfl)⟩ : _ ∧ k_ ≠ go40))) (fun _ hk => hk.2) (.int .i64 (Go.bits .andNot .i64 (rd x5_5 (rd t437 x64_5)) (rd l0 (rd t437 x30_2))))) (fun _ hk => hk.1)⟩, ⟨by have hz0_ := (Kd.R_mono (Kd.R_far (p := ⟨go40, ((rd t437 x64_5) : Int).toNat, none⟩) (Kd.R_mono HO_7.out (fun k_ hk => (⟨hk, fun e_ => hk (by rw [e_]; rfl)⟩ : _ ∧ k_ ≠ go40))) (fun _ hk => hk.2) (.int .i64 (Go.bits .andNot .i64 (rd x5_5 (rd t437 x64_5)) (rd l0 (rd t437 x30_2))))) (fun _ h_ => h_.1)); have hz1_ := Kd.C_drop (m := ((ji14) : Int).toNat) (c := co10) (Kd.Yr hz0_).2.2 KL17.out (Kd.Yr hz0_).2.1; rw [show (Kd.int .i64).sz = 1 from rfl, ← KA17.out, ← Ny441.out] at hz1_; exact hz1_⟩, ⟨yhb⟩⟩
def impl_valuesHold.l0 : Nat → List Int → Int → Int → List Int → Int → Int → Int → List Int → Int → Option (Bool)
 | 0, _, _, _, _, _, _, _, _, _ => none
 | k + 1, x1, x5, x6, x9, x10, x11, x455000, x455001, x455002 => if x11 < x10 then (if 0 ≤ x11 then (if x11 < (x9.length : Int) then (if x455000 = 1 then (if x11 ≤ (x1.length : Int) then ((slices_Contains_int_int.f k (x1.take (x11 : Int).toNat) (rd x9 x11)).bind fun t457 => (if t457 = true then (some false) else (impl_valuesHold.l0 k x1 (wrap64 (x5 + (rd x9 x11))) (wrap64 (x6 * (rd x9 x11))) x9 x10 (wrap64 (x11 + 1)) x455000 x455001 x455002))) else (none)) else (impl_valuesHold.l0 k x1 (wrap64 (x5 + (rd x9 x11))) (wrap64 (x6 * (rd x9 x11))) x9 x10 (wrap64 (x11 + 1)) x455000 x455001 x455002)) else (none)) else (none)) else (if x455000 = 2 then (some (x5 == x455002)) else (if x455000 = 3 then (some (x6 == x455002)) else (if x455000 = 4 then (if 0 < (x1.length : Int) then (if 1 < (x1.length : Int) then (some (decide ((rd x1 0) < (rd x1 1)))) else (none)) else (none)) else (if x455000 = 5 then (if 0 < (x1.length : Int) then (if 1 < (x1.length : Int) then (some ((mx (wrap64 ((rd x1 0) - (rd x1 1))) (wrap64 ((rd x1 1) - (rd x1 0)))) == x455002)) else (none)) else (none)) else (some true)))))
def impl_valuesHold.f (k : Nat) (a0_0 : Int) (l0_1 : List Int) (a0_2 : Int) (l1 : List Int) : Option (Bool) := impl_valuesHold.l0 k l1 0 1 l1 (l1.length : Int) 0 a0_0 l0_1 a0_2
set_option maxHeartbeats 8000000 in
set_option maxRecDepth 100000 in
theorem impl_valuesHold.calls (k : Nat) (a0_0 : Int) (A0_1 : Option Addr) (c0_1 : Nat) (l0_1 : List Int) (a0_2 : Int) (A1 : Option Addr) (c1 : Nat) (l1 : List Int) (r : Bool) (w : World) (hr0_1 : Kd.C (Kd.int .i64) w A0_1 l0_1.length l0_1) (hc0_1 : l0_1.length ≤ c0_1) (hr1 : Kd.C (Kd.int .i64) w A1 l1.length l1) (hc1 : l1.length ≤ c1) (h : impl_valuesHold.f k a0_0 l0_1 a0_2 l1 = some r) :
  Calls Try.prog 99 #[.agg #[.int .i64 a0_0, .slice A0_1 l0_1.length c0_1, .int .i64 a0_2], .slice A1 l1.length c1] w fun e w' => e = .returned (.bool r) ∧ Below w.heap.size w w' := by
 have hu67 := Try.underlying67
 have HR0_1 := yam hr0_1
 have HC0_1 := yam hc0_1
 clear hr0_1 hc0_1
 have HR1 := yam hr1
 have HC1 := yam hc1
 clear hr1 hc1
 have HB := yam (Below.refl w.heap.size w)
 have H : (impl_valuesHold.l0 k l1 0 1 l1 (l1.length : Int) 0 a0_0 l0_1 a0_2) = some r := h
 clear h
 have H' := yam H
 clear H
 go_enter Try.func99, Try.ntmps99
 go_wp2_with (first | (refine ybe 2 #[.int .i64 a0_0, .slice A0_1 l0_1.length c0_1, .int .i64 a0_2] 67 ?_; intro gb454 hg w3 hbox hb; have n0_ := yam (below_step (yez HB.out) hb); have n1_ := yam (hbox); have n2_ := yam ((by rw [hg]; exact (below_size (yez HB.out)) : w.heap.size ≤ gb454)); have n3_ := n2_; clear HB; have HB := n0_; have BK454 := n1_; have GW454 := n2_; have GE454 := n3_; clear n0_ n1_ n2_ n3_; clear hb hbox hg))
 repeat (go_quiet (first | (refine ybe 2 #[.int .i64 a0_0, .slice A0_1 l0_1.length c0_1, .int .i64 a0_2] 67 ?_; intro gb454 hg w3 hbox hb; have n0_ := yam (below_step (yez HB.out) hb); have n1_ := yam (hbox); have n2_ := yam ((by rw [hg]; exact (below_size (yez HB.out)) : w.heap.size ≤ gb454)); have n3_ := n2_; clear HB; have HB := n0_; have BK454 := n1_; have GW454 := n2_; have GE454 := n3_; clear n0_ n1_ n2_ n3_; clear hb hbox hg)); try go_wp2_with (first | (refine ybe 2 #[.int .i64 a0_0, .slice A0_1 l0_1.length c0_1, .int .i64 a0_2] 67 ?_; intro gb454 hg w3 hbox hb; have n0_ := yam (below_step (yez HB.out) hb); have n1_ := yam (hbox); have n2_ := yam ((by rw [hg]; exact (below_size (yez HB.out)) : w.heap.size ≤ gb454)); have n3_ := n2_; clear HB; have HB := n0_; have BK454 := n1_; have GW454 := n2_; have GE454 := n3_; clear n0_ n1_ n2_ n3_; clear hb hbox hg)))
 go_loopg [5, 6, 11] k (fun kq v5 v6 v11 w' => ∃ (x5_1 : Int) (x6_1 : Int) (x11_1 : Int), v5 = .int .i64 x5_1 ∧ v6 = .int .i64 x6_1 ∧ v11 = .int .i64 x11_1 ∧ Aside0 (impl_valuesHold.l0 kq l1 x5_1 x6_1 l1 (l1.length : Int) x11_1 a0_0 l0_1 a0_2 = some r) ∧ Aside0 (kq ≤ k) ∧ Aside0 (w'.heap[gb454]? = some (.cells #[.int .i64 a0_0, (.slice A0_1 l0_1.length c0_1), .int .i64 a0_2] 67 (0, 0))) ∧ Aside0 (Below w.heap.size w w'))
 case atStart => exact ⟨(0), (1), (0), yeq, yeq, yeq, H', ⟨Nat.le_refl _⟩, ⟨by (with_reducible repeat (first | refine ybn ?_ _ | refine ybd ?_ | refine yba ?_ _)); exact BK454.out⟩, ⟨yhb⟩⟩
 case round =>
  clear H'
  try clear c1
  try clear p2
  obtain ⟨x5_1, x6_1, x11_1, rfl, rfl, rfl, HA, HK1, BK454, HB⟩ := hrel
  cases gk with
  | zero => exact absurd HA.out (by simp [impl_valuesHold.l0])
  | succ k1 =>
   have H := HA.out
   clear HA
   simp only [impl_valuesHold.l0] at H
   by_cases c4 : x11_1 < (l1.length : Int)
   rotate_left
   ·rw [if_neg c4] at H
    have c4b0 : decide (x11_1 < (l1.length : Int)) = false := decide_eq_false c4
    clear c4
    by_cases c17 : a0_0 = 2
    ·rw [if_pos c17] at H
     have c17b0 : (a0_0 == 2) = true := beq_iff_eq.mpr c17
     have c17b1 : (a0_0 != 2) = false := bne_eq_false_iff_eq.mpr c17
     clear c17
     obtain rfl := Option.some.inj H
     obtain ⟨hcz18_0, hcz18_1, hcz18_2, hfz18_0, hfz18_1, hfz18_2⟩ := ybc BK454.out
     go_wp2
     repeat (go_quiet (fail); try go_wp2)
     go_ret
     exact ⟨yer, yhb⟩
    rw [if_neg c17] at H
    have c17b0 : (a0_0 == 2) = false := beq_eq_false_iff_ne.mpr c17
    have c17b1 : (a0_0 != 2) = true := bne_iff_ne.mpr c17
    by_cases c19 : a0_0 = 3
    ·rw [if_pos c19] at H
     have c19b0 : (a0_0 == 3) = true := beq_iff_eq.mpr c19
     have c19b1 : (a0_0 != 3) = false := bne_eq_false_iff_eq.mpr c19
     clear c19
     obtain rfl := Option.some.inj H
     obtain ⟨hcz20_0, hcz20_1, hcz20_2, hfz20_0, hfz20_1, hfz20_2⟩ := ybc BK454.out
     go_wp2
     repeat (go_quiet (fail); try go_wp2)
     go_ret
     exact ⟨yer, yhb⟩
    rw [if_neg c19] at H
    have c19b0 : (a0_0 == 3) = false := beq_eq_false_iff_ne.mpr c19
    have c19b1 : (a0_0 != 3) = true := bne_iff_ne.mpr c19
    by_cases c21 : a0_0 = 4
    ·rw [if_pos c21] at H
     have c21b0 : (a0_0 == 4) = true := beq_iff_eq.mpr c21
     have c21b1 : (a0_0 != 4) = false := bne_eq_false_iff_eq.mpr c21
     clear c21
     replace H := yig H
     obtain ⟨c22, H⟩ := H
     have c22b0 : decide (0 < (l1.length : Int)) = true := decide_eq_true c22
     have c22b1 : decide (0 < l1.length) = true := decide_eq_true (by omega)
     clear c22
     replace H := yig H
     obtain ⟨c23, H⟩ := H
     have c23b0 : decide (1 < (l1.length : Int)) = true := decide_eq_true c23
     have c23b1 : decide (1 < l1.length) = true := decide_eq_true (by omega)
     clear c23
     obtain rfl := Option.some.inj H
     obtain ⟨hcz24_0, hcz24_1, hcz24_2, hfz24_0, hfz24_1, hfz24_2⟩ := ybc BK454.out
     have p458 : 0 ≤ (0 : Int) := (by omega)
     have q458 : 0 < (l1.length : Int) := ydt
     obtain ⟨ad458, e458, hx458_0⟩ := Kd.at_int HR1.out 0 p458 q458
     cases e458
     have qi458 : (0 < l1.length) = True := eq_true (by omega)
     (try rw [show ((0 : Int)).toNat = 0 from rfl] at hx458_0)
     (try rw [Addr.add_zero'] at hx458_0)
     replace hx458_0 := ybx HB.out hx458_0
     replace p458 := eq_true p458
     replace q458 := eq_true q458
     have p459 : 0 ≤ (1 : Int) := (by omega)
     have q459 : 1 < (l1.length : Int) := ydt
     obtain ⟨ad459, e459, hx459_0⟩ := Kd.at_int HR1.out 1 p459 q459
     obtain rfl : ad458 = ad459 := (by injection e459)
     (try simp only [show (1 : Int).toNat = 1 from rfl, Nat.reduceMul, Nat.reduceEqDiff, Go.Addr.add, ↓reduceIte] at hx459_0)
     have qi459 : (1 < l1.length) = True := eq_true (by omega)
     (try rw [show ((1 : Int)).toNat = 1 from rfl] at hx459_0)
     replace hx459_0 := ybx HB.out hx459_0
     replace p459 := eq_true p459
     replace q459 := eq_true q459
     go_wp2
     repeat (go_quiet (fail); try go_wp2)
     go_ret
     exact ⟨yer, yhb⟩
    rw [if_neg c21] at H
    have c21b0 : (a0_0 == 4) = false := beq_eq_false_iff_ne.mpr c21
    have c21b1 : (a0_0 != 4) = true := bne_iff_ne.mpr c21
    by_cases c25 : a0_0 = 5
    rotate_left
    ·rw [if_neg c25] at H
     have c25b0 : (a0_0 == 5) = false := beq_eq_false_iff_ne.mpr c25
     have c25b1 : (a0_0 != 5) = true := bne_iff_ne.mpr c25
     obtain rfl := Option.some.inj H
     obtain ⟨hcz30_0, hcz30_1, hcz30_2, hfz30_0, hfz30_1, hfz30_2⟩ := ybc BK454.out
     go_wp2
     repeat (go_quiet (fail); try go_wp2)
     go_ret
     exact ⟨yer, yhb⟩

    rw [if_pos c25] at H
    have c25b0 : (a0_0 == 5) = true := beq_iff_eq.mpr c25
    have c25b1 : (a0_0 != 5) = false := bne_eq_false_iff_eq.mpr c25
    clear c25
    replace H := yig H
    obtain ⟨c26, H⟩ := H
    have c26b0 : decide (0 < (l1.length : Int)) = true := decide_eq_true c26
    have c26b1 : decide (0 < l1.length) = true := decide_eq_true (by omega)
    clear c26
    replace H := yig H
    obtain ⟨c27, H⟩ := H
    have c27b0 : decide (1 < (l1.length : Int)) = true := decide_eq_true c27
    have c27b1 : decide (1 < l1.length) = true := decide_eq_true (by omega)
    clear c27
    obtain ⟨ji28, hji28⟩ : ∃ j_ : Int, (mx (wrap64 ((rd l1 0) - (rd l1 1))) (wrap64 ((rd l1 1) - (rd l1 0)))) = j_ := ⟨_, rfl⟩
    replace H : (some ((ji28) == a0_2)) = some r := by first | (rw [hji28] at H; exact H) | (simp only [hji28] at H ⊢; exact H)
    have hji28_ : (if (wrap64 ((rd l1 0) - (rd l1 1))) < (wrap64 ((rd l1 1) - (rd l1 0))) then (wrap64 ((rd l1 1) - (rd l1 0))) else (wrap64 ((rd l1 0) - (rd l1 1)))) = ji28 := hji28
    obtain rfl := Option.some.inj H
    obtain ⟨hcz29_0, hcz29_1, hcz29_2, hfz29_0, hfz29_1, hfz29_2⟩ := ybc BK454.out
    have p460 : 0 ≤ (0 : Int) := (by omega)
    have q460 : 0 < (l1.length : Int) := ydt
    obtain ⟨ad460, e460, hx460_0⟩ := Kd.at_int HR1.out 0 p460 q460
    cases e460
    have qi460 : (0 < l1.length) = True := eq_true (by omega)
    (try rw [show ((0 : Int)).toNat = 0 from rfl] at hx460_0)
    (try rw [Addr.add_zero'] at hx460_0)
    replace hx460_0 := ybx HB.out hx460_0
    replace p460 := eq_true p460
    replace q460 := eq_true q460
    have p461 : 0 ≤ (1 : Int) := (by omega)
    have q461 : 1 < (l1.length : Int) := ydt
    obtain ⟨ad461, e461, hx461_0⟩ := Kd.at_int HR1.out 1 p461 q461
    obtain rfl : ad460 = ad461 := (by injection e461)
    (try simp only [show (1 : Int).toNat = 1 from rfl, Nat.reduceMul, Nat.reduceEqDiff, Go.Addr.add, ↓reduceIte] at hx461_0)
    have qi461 : (1 < l1.length) = True := eq_true (by omega)
    (try rw [show ((1 : Int)).toNat = 1 from rfl] at hx461_0)
    replace hx461_0 := ybx HB.out hx461_0
    replace p461 := eq_true p461
    replace q461 := eq_true q461
    have p462 : 0 ≤ (1 : Int) := (by omega)
    have q462 : 1 < (l1.length : Int) := ydt
    obtain ⟨ad462, e462, hx462_0⟩ := Kd.at_int HR1.out 1 p462 q462
    obtain rfl : ad460 = ad462 := (by injection e462)
    (try simp only [show (1 : Int).toNat = 1 from rfl, Nat.reduceMul, Nat.reduceEqDiff, Go.Addr.add, ↓reduceIte] at hx462_0)
    have qi462 : (1 < l1.length) = True := eq_true (by omega)
    (try rw [show ((1 : Int)).toNat = 1 from rfl] at hx462_0)
    replace hx462_0 := ybx HB.out hx462_0
    replace p462 := eq_true p462
    replace q462 := eq_true q462
    have p463 : 0 ≤ (0 : Int) := (by omega)
    have q463 : 0 < (l1.length : Int) := ydt
    obtain ⟨ad463, e463, hx463_0⟩ := Kd.at_int HR1.out 0 p463 q463
    obtain rfl : ad460 = ad463 := (by injection e463)
    have qi463 : (0 < l1.length) = True := eq_true (by omega)
    (try rw [show ((0 : Int)).toNat = 0 from rfl] at hx463_0)
    (try rw [Addr.add_zero'] at hx463_0)
    replace hx463_0 := ybx HB.out hx463_0
    replace p463 := eq_true p463
    replace q463 := eq_true q463
    go_wp2
    repeat (go_quiet (fail); try go_wp2)
    go_ret
    exact ⟨by first | rfl | (simp [errW_none, errW_some] <;> rfl) | (simp only [← hji28]; first | rfl | (simp [errW_none, errW_some] <;> rfl)) | (simp [*, errW_none, errW_some] <;> rfl), yhb⟩
   rw [if_pos c4] at H
   have c4b0 : decide (x11_1 < (l1.length : Int)) = true := decide_eq_true c4
   clear c4
   replace H := yif H
   obtain ⟨c5b0, H⟩ := H
   replace H := yif H
   obtain ⟨c6b0, H⟩ := H
   by_cases c7 : a0_0 = 1
   rotate_left
   ·rw [if_neg c7] at H
    have c7b0 : (a0_0 == 1) = false := beq_eq_false_iff_ne.mpr c7
    have c7b1 : (a0_0 != 1) = true := bne_iff_ne.mpr c7
    have H' := yam H
    clear H
    have p455 : 0 ≤ (x11_1 : Int) := ydt
    have q455 : x11_1 < (l1.length : Int) := ydt
    obtain ⟨ad455, e455, hx455_0⟩ := Kd.at_int HR1.out x11_1 p455 q455
    cases e455
    replace hx455_0 := ybx HB.out hx455_0
    replace p455 := eq_true p455
    replace q455 := eq_true q455
    obtain ⟨hcz16_0, hcz16_1, hcz16_2, hfz16_0, hfz16_1, hfz16_2⟩ := ybc BK454.out
    go_wp2
    repeat (go_quiet (fail); try go_wp2)
    go_roundg k1
    case measure => have := HK1.out; omega
    case rel => exact ⟨(wrap64 (x5_1 + (rd l1 x11_1))), (wrap64 (x6_1 * (rd l1 x11_1))), (wrap64 (x11_1 + 1)), yeq, yeq, yeq, H', ⟨by have := HK1.out; omega⟩, ⟨by (with_reducible repeat (first | refine ybn ?_ _ | refine ybd ?_ | refine yba ?_ _)); exact BK454.out⟩, ⟨yhb⟩⟩
   rw [if_pos c7] at H
   have c7b0 : (a0_0 == 1) = true := beq_iff_eq.mpr c7
   have c7b1 : (a0_0 != 1) = false := bne_eq_false_iff_eq.mpr c7
   clear c7
   have c8b0 := eq_true (ydt : 0 ≤ x11_1)
   replace H := yig H
   obtain ⟨c9, H⟩ := H
   have c9b0 := eq_true c9
   have c9b1 : decide (x11_1 ≤ (l1.length : Int)) = true := decide_eq_true c9
   clear c9
   replace H := Option.bind_eq_some_iff.mp H
   obtain ⟨t457, A100, H⟩ := H
   try dsimp only at H
   have A10 := yam A100
   clear A100
   by_cases c11 : t457 = true
   ·subst c11
    have H1 : (some false) = some r := by rw [if_pos rfl] at H; exact H
    clear H
    have H := H1
    clear H1
    obtain rfl := Option.some.inj H
    have p455 : 0 ≤ (x11_1 : Int) := ydt
    have q455 : x11_1 < (l1.length : Int) := ydt
    obtain ⟨ad455, e455, hx455_0⟩ := Kd.at_int HR1.out x11_1 p455 q455
    cases e455
    replace hx455_0 := ybx HB.out hx455_0
    replace p455 := eq_true p455
    replace q455 := eq_true q455
    obtain ⟨hcz12_0, hcz12_1, hcz12_2, hfz12_0, hfz12_1, hfz12_2⟩ := ybc BK454.out
    obtain ⟨i013, hi013, _, hsz13, _⟩ := info_parts info3
    obtain ⟨hcut13, hA13, hC13⟩ := print_take_of (P := Try.prog) (Value.int .i64) 0 22 3 .i64 Try.underlying22 hi013 hsz13 (some ad455) c1 l1 x11_1 (ydt) (ydt) HC1.out
    have hl13_ : (l1.take (x11_1 : Int).toNat).length = (x11_1 : Int).toNat := by
     have e0_ : 0 ≤ (x11_1 : Int) := ydt
     have e1_ : (x11_1 : Int) ≤ (l1.length : Int) := ydt
     rw [List.length_take]; omega
    have HR456 := yam (Kd.C_of_reads (h1 := fun _ => rfl) (hA13 _ (Kd.reads_of_C HR1.out)))
    have HC456 := yam hC13
    clear hA13 hC13 hi013 hsz13
    go_wp2_with (first | (go_at_call 85; (first | (with_reducible refine (slices_Contains_int_int.calls k1 _ _ (l1.take (x11_1 : Int).toNat) (rd l1 x11_1) true _ ?side1 ?side2 A10.out).mono ?_) | (rw [← hl13_]; (with_reducible refine (slices_Contains_int_int.calls k1 _ _ (l1.take (x11_1 : Int).toNat) (rd l1 x11_1) true _ ?side1 ?side2 A10.out).mono ?_))); (case side1 => exact Kd.Cz ((Kd.C_below HR456.out HB.out))); (case side2 => exact HC456.out); rintro e w' ⟨rfl, ⟨nd, rfl⟩⟩; (try first | exact ⟨rfl, _, World.drewN_drewN _ _ _⟩ | exact ⟨rfl, _, Eq.trans (World.drewN_drewN _ _ _) (congrArg (World.drewN _) (Nat.add_assoc _ _ _))⟩)))
    repeat (go_quiet (first | (go_at_call 85; (first | (with_reducible refine (slices_Contains_int_int.calls k1 _ _ (l1.take (x11_1 : Int).toNat) (rd l1 x11_1) true _ ?side1 ?side2 A10.out).mono ?_) | (rw [← hl13_]; (with_reducible refine (slices_Contains_int_int.calls k1 _ _ (l1.take (x11_1 : Int).toNat) (rd l1 x11_1) true _ ?side1 ?side2 A10.out).mono ?_))); (case side1 => exact Kd.Cz ((Kd.C_below HR456.out HB.out))); (case side2 => exact HC456.out); rintro e w' ⟨rfl, ⟨nd, rfl⟩⟩; (try first | exact ⟨rfl, _, World.drewN_drewN _ _ _⟩ | exact ⟨rfl, _, Eq.trans (World.drewN_drewN _ _ _) (congrArg (World.drewN _) (Nat.add_assoc _ _ _))⟩))); try go_wp2_with (first | (go_at_call 85; (first | (with_reducible refine (slices_Contains_int_int.calls k1 _ _ (l1.take (x11_1 : Int).toNat) (rd l1 x11_1) true _ ?side1 ?side2 A10.out).mono ?_) | (rw [← hl13_]; (with_reducible refine (slices_Contains_int_int.calls k1 _ _ (l1.take (x11_1 : Int).toNat) (rd l1 x11_1) true _ ?side1 ?side2 A10.out).mono ?_))); (case side1 => exact Kd.Cz ((Kd.C_below HR456.out HB.out))); (case side2 => exact HC456.out); rintro e w' ⟨rfl, ⟨nd, rfl⟩⟩; (try first | exact ⟨rfl, _, World.drewN_drewN _ _ _⟩ | exact ⟨rfl, _, Eq.trans (World.drewN_drewN _ _ _) (congrArg (World.drewN _) (Nat.add_assoc _ _ _))⟩))))
    go_ret
    exact ⟨yer, yhb⟩
   replace c11 := Bool.eq_false_iff.mpr c11
   subst c11
   have H1 : (impl_valuesHold.l0 k1 l1 (wrap64 (x5_1 + (rd l1 x11_1))) (wrap64 (x6_1 * (rd l1 x11_1))) l1 (l1.length : Int) (wrap64 (x11_1 + 1)) a0_0 l0_1 a0_2) = some r := by rw [if_neg (show ¬ (false = true) by decide)] at H; exact H
   clear H
   have H := H1
   clear H1
   have H' := yam H
   clear H
   have p455 : 0 ≤ (x11_1 : Int) := ydt
   have q455 : x11_1 < (l1.length : Int) := ydt
   obtain ⟨ad455, e455, hx455_0⟩ := Kd.at_int HR1.out x11_1 p455 q455
   cases e455
   replace hx455_0 := ybx HB.out hx455_0
   replace p455 := eq_true p455
   replace q455 := eq_true q455
   obtain ⟨hcz14_0, hcz14_1, hcz14_2, hfz14_0, hfz14_1, hfz14_2⟩ := ybc BK454.out
   obtain ⟨i015, hi015, _, hsz15, _⟩ := info_parts info3
   obtain ⟨hcut15, hA15, hC15⟩ := print_take_of (P := Try.prog) (Value.int .i64) 0 22 3 .i64 Try.underlying22 hi015 hsz15 (some ad455) c1 l1 x11_1 (ydt) (ydt) HC1.out
   have hl15_ : (l1.take (x11_1 : Int).toNat).length = (x11_1 : Int).toNat := by
    have e0_ : 0 ≤ (x11_1 : Int) := ydt
    have e1_ : (x11_1 : Int) ≤ (l1.length : Int) := ydt
    rw [List.length_take]; omega
   have HR456 := yam (Kd.C_of_reads (h1 := fun _ => rfl) (hA15 _ (Kd.reads_of_C HR1.out)))
   have HC456 := yam hC15
   clear hA15 hC15 hi015 hsz15
   go_wp2_with (first | (go_at_call 85; (first | (with_reducible refine (slices_Contains_int_int.calls k1 _ _ (l1.take (x11_1 : Int).toNat) (rd l1 x11_1) false _ ?side1 ?side2 A10.out).mono ?_) | (rw [← hl15_]; (with_reducible refine (slices_Contains_int_int.calls k1 _ _ (l1.take (x11_1 : Int).toNat) (rd l1 x11_1) false _ ?side1 ?side2 A10.out).mono ?_))); (case side1 => exact Kd.Cz ((Kd.C_below HR456.out HB.out))); (case side2 => exact HC456.out); rintro e w' ⟨rfl, ⟨nd, rfl⟩⟩; (try first | exact ⟨rfl, _, World.drewN_drewN _ _ _⟩ | exact ⟨rfl, _, Eq.trans (World.drewN_drewN _ _ _) (congrArg (World.drewN _) (Nat.add_assoc _ _ _))⟩)))
   repeat (go_quiet (first | (go_at_call 85; (first | (with_reducible refine (slices_Contains_int_int.calls k1 _ _ (l1.take (x11_1 : Int).toNat) (rd l1 x11_1) false _ ?side1 ?side2 A10.out).mono ?_) | (rw [← hl15_]; (with_reducible refine (slices_Contains_int_int.calls k1 _ _ (l1.take (x11_1 : Int).toNat) (rd l1 x11_1) false _ ?side1 ?side2 A10.out).mono ?_))); (case side1 => exact Kd.Cz ((Kd.C_below HR456.out HB.out))); (case side2 => exact HC456.out); rintro e w' ⟨rfl, ⟨nd, rfl⟩⟩; (try first | exact ⟨rfl, _, World.drewN_drewN _ _ _⟩ | exact ⟨rfl, _, Eq.trans (World.drewN_drewN _ _ _) (congrArg (World.drewN _) (Nat.add_assoc _ _ _))⟩))); try go_wp2_with (first | (go_at_call 85; (first | (with_reducible refine (slices_Contains_int_int.calls k1 _ _ (l1.take (x11_1 : Int).toNat) (rd l1 x11_1) false _ ?side1 ?side2 A10.out).mono ?_) | (rw [← hl15_]; (with_reducible refine (slices_Contains_int_int.calls k1 _ _ (l1.take (x11_1 : Int).toNat) (rd l1 x11_1) false _ ?side1 ?side2 A10.out).mono ?_))); (case side1 => exact Kd.Cz ((Kd.C_below HR456.out HB.out))); (case side2 => exact HC456.out); rintro e w' ⟨rfl, ⟨nd, rfl⟩⟩; (try first | exact ⟨rfl, _, World.drewN_drewN _ _ _⟩ | exact ⟨rfl, _, Eq.trans (World.drewN_drewN _ _ _) (congrArg (World.drewN _) (Nat.add_assoc _ _ _))⟩))))
   go_roundg k1
   case measure => have := HK1.out; omega
   case rel => exact ⟨(wrap64 (x5_1 + (rd l1 x11_1))), (wrap64 (x6_1 * (rd l1 x11_1))), (wrap64 (x11_1 + 1)), yeq, yeq, yeq, H', ⟨by have := HK1.out; omega⟩, ⟨by (with_reducible repeat (first | refine ybn ?_ _ | refine ybd ?_ | refine yba ?_ _)); exact BK454.out⟩, ⟨yhb⟩⟩
def impl_ruleMasks.orFrom (vals : List Int) : Nat → Int → List Int → List Int
 | 0, _, out => out
 | d + 1, i, out => impl_ruleMasks.orFrom vals d (i + 1) (out.set i.toNat (Go.bits .or .i64 (rd out i) (shl .i64 1 (rd vals i))))
def impl_ruleMasks.tryV (f : List Int → List Int → Option (List Int × List Int)) (m : Int) (i : Nat) : Nat → Int → List Int → List Int → Option (List Int × List Int)
 | 0, _, vals, out => some (vals, out)
 | n + 1, v, vals, out => if Go.bits .and .i64 (shr .i64 m v) 1 = 1 then (f (vals.set i v) out).bind fun t => impl_ruleMasks.tryV f m i n (v + 1) t.1 t.2 else impl_ruleMasks.tryV f m i n (v + 1) vals out
def impl_ruleMasks.try_ (k : Nat) (a0_0 : Int) (l0_1 : List Int) (a0_2 : Int) (own : List Int) : Nat → List Int → List Int → Option (List Int × List Int)
 | 0, vals, out => (impl_valuesHold.f k a0_0 l0_1 a0_2 vals).bind fun b => if b = true then (if ∀ x ∈ vals, 0 ≤ x then some (vals, impl_ruleMasks.orFrom vals own.length 0 out) else none) else some (vals, out)
 | d + 1, vals, out => impl_ruleMasks.tryV (impl_ruleMasks.try_ k a0_0 l0_1 a0_2 own d) (rd own ((own.length : Int) - (d + 1 : Nat))) ((own.length : Int) - (d + 1 : Nat)).toNat 4 1 vals out
def impl_ruleMasks.Boxes (W : World) (gown gr gval gout gtry gv go cv cu : Nat) (Ao : Option Addr) (co n : Nat) (a0_0 : Int) (Ac : Option Addr) (cc nc : Nat) (a0_2 : Int) : Prop :=
 W.heap[gown]? = some (.cells #[.slice Ao n co] 22 (0, 0)) ∧ W.heap[gr]? = some (.cells #[.int .i64 a0_0, .slice Ac nc cc, .int .i64 a0_2] 67 (0, 0)) ∧ W.heap[gval]? = some (.cells #[.slice (some ⟨gv, 0, none⟩) n cv] 22 (0, 0)) ∧ W.heap[gout]? = some (.cells #[.slice (some ⟨go, 0, none⟩) n cu] 22 (0, 0)) ∧ W.heap[gtry]? = some (.cells #[.func (.func 98) #[] #[.pointer (some ⟨gown, 0, none⟩), .pointer (some ⟨gr, 0, none⟩), .pointer (some ⟨gval, 0, none⟩), .pointer (some ⟨gout, 0, none⟩), .pointer (some ⟨gtry, 0, none⟩)]] 91 (0, 0))
theorem impl_ruleMasks.Boxes.below {W W1 : World} {gown gr gval gout gtry gv go cv cu : Nat} {Ao : Option Addr} {co n : Nat} {a0_0 : Int} {Ac : Option Addr} {cc nc : Nat} {a0_2 : Int} (h : impl_ruleMasks.Boxes W gown gr gval gout gtry gv go cv cu Ao co n a0_0 Ac cc nc a0_2) (hb : Below W.heap.size W W1) : impl_ruleMasks.Boxes W1 gown gr gval gout gtry gv go cv cu Ao co n a0_0 Ac cc nc a0_2 :=
 ⟨blk_below h.1 hb, blk_below h.2.1 hb, blk_below h.2.2.1 hb, blk_below h.2.2.2.1 hb, blk_below h.2.2.2.2 hb⟩
theorem impl_ruleMasks.Boxes.drewN {W : World} {gown gr gval gout gtry gv go cv cu : Nat} {Ao : Option Addr} {co n : Nat} {a0_0 : Int} {Ac : Option Addr} {cc nc : Nat} {a0_2 : Int} (h : impl_ruleMasks.Boxes W gown gr gval gout gtry gv go cv cu Ao co n a0_0 Ac cc nc a0_2) (m : Nat) : impl_ruleMasks.Boxes (W.drewN m) gown gr gval gout gtry gv go cv cu Ao co n a0_0 Ac cc nc a0_2 := h
theorem impl_ruleMasks.Boxes.grown {W W1 : World} {gown gr gval gout gtry gv go cv cu : Nat} {Ao : Option Addr} {co n : Nat} {a0_0 : Int} {Ac : Option Addr} {cc nc : Nat} {a0_2 : Int} (h : impl_ruleMasks.Boxes W gown gr gval gout gtry gv go cv cu Ao co n a0_0 Ac cc nc a0_2) {α : Type} {d : Kd α} {base : Nat} {ok : Nat → Prop} {v : Value} {xs : List α} (ho : d.R 3 W base ok v xs) (hg : W.grownBy W1 v.ownBlock) : impl_ruleMasks.Boxes W1 gown gr gval gout gtry gv go cv cu Ao co n a0_0 Ac cc nc a0_2 :=
 ⟨blk_grown h.1 hg (Kd.R_ne ho h.1 (by decide)), blk_grown h.2.1 hg (Kd.R_ne ho h.2.1 (by decide)), blk_grown h.2.2.1 hg (Kd.R_ne ho h.2.2.1 (by decide)), blk_grown h.2.2.2.1 hg (Kd.R_ne ho h.2.2.2.1 (by decide)), blk_grown h.2.2.2.2 hg (Kd.R_ne ho h.2.2.2.2 (by decide))⟩
theorem impl_ruleMasks.R_other {W W1 : World} {base : Nat} {g g2 : Nat} {n c n2 c2 : Nat} {xs : List Int} (h : Kd.R (Kd.int .i64) 3 W base (fun k => k = g) (.slice (some ⟨g, 0, none⟩) n c) xs) (hne : g ≠ g2) (hg : W.grownBy W1 (some g2)) : Kd.R (Kd.int .i64) 3 W1 base (fun k => k = g) (.slice (some ⟨g, 0, none⟩) n c) xs :=
 Kd.R_mono (Kd.R_after (v := .slice (some ⟨g2, 0, none⟩) n2 c2) (v1 := .slice (some ⟨g2, 0, none⟩) n2 c2) (ok := fun k => k = g) (Kd.R_mono h (fun k hk => ⟨hk, by subst hk; simpa [Value.ownBlock] using hne⟩)) hg (.inl rfl)) (fun k hk => hk.1)
set_option maxHeartbeats 8000000 in
set_option maxRecDepth 100000 in
theorem impl_ruleMasks.clo (k : Nat) (a0_0 : Int) (Ac : Option Addr) (cc : Nat) (l0_1 : List Int) (a0_2 : Int) (Ao : Option Addr) (co : Nat) (own : List Int) (gown gr gval gout gtry gv go cv cu : Nat) (w0 : World) (hne : gv ≠ go) (hbv : w0.heap.size ≤ gv) (hbo : w0.heap.size ≤ go) (hrC : Kd.C (Kd.int .i64) w0 Ac l0_1.length l0_1) (hcC : l0_1.length ≤ cc) (hrO : Kd.C (Kd.int .i64) w0 Ao own.length own) :
  ∀ (d : Nat) (a : Int) (vals out vals' out' : List Int) (w : World) (_ : (own.length : Int) - d = a) (_ : d ≤ own.length) (_ : own.length ≤ 100000) (_ : vals.length = own.length) (_ : out.length = own.length) (_ : Kd.R (Kd.int .i64) 3 w w0.heap.size (fun k => k = gv) (.slice (some ⟨gv, 0, none⟩) own.length cv) vals) (_ : Kd.R (Kd.int .i64) 3 w w0.heap.size (fun k => k = go) (.slice (some ⟨go, 0, none⟩) own.length cu) out) (_ : impl_ruleMasks.Boxes w gown gr gval gout gtry gv go cv cu Ao co own.length a0_0 Ac cc l0_1.length a0_2) (_ : Below w0.heap.size w0 w) (_ : impl_ruleMasks.try_ k a0_0 l0_1 a0_2 own d vals out = some (vals', out')),
  Calls Try.prog 98 #[.int .i64 a, .pointer (some ⟨gown, 0, none⟩), .pointer (some ⟨gr, 0, none⟩), .pointer (some ⟨gval, 0, none⟩), .pointer (some ⟨gout, 0, none⟩), .pointer (some ⟨gtry, 0, none⟩)] w fun e w' => e = .returned (.tuple #[]) ∧ vals'.length = own.length ∧ out'.length = own.length ∧ Kd.R (Kd.int .i64) 3 w' w0.heap.size (fun k => k = gv) (.slice (some ⟨gv, 0, none⟩) own.length cv) vals' ∧ Kd.R (Kd.int .i64) 3 w' w0.heap.size (fun k => k = go) (.slice (some ⟨go, 0, none⟩) own.length cu) out' ∧ impl_ruleMasks.Boxes w' gown gr gval gout gtry gv go cv cu Ao co own.length a0_0 Ac cc l0_1.length a0_2 ∧ Below w0.heap.size w0 w' := by
 intro d
 have HRC := yam hrC
 have HCC := yam hcC
 have HRO := yam hrO
 clear hrC hcC hrO
 induction d with
 | zero =>
  intro a vals out vals' out' w ha hd hn hlv hlo hV hO hX hB h
  have ha0 : a = (own.length : Int) := by omega
  have hae : (a == (own.length : Int)) = true := beq_iff_eq.mpr ha0
  clear ha ha0 hd
  have HN := yam hn
  have HLV := yam hlv
  have HLO := yam hlo
  have HV := yam hV
  have HO := yam hO
  have HX := yam hX
  have HB := yam hB
  clear hn hlv hlo hV hO hB
  unfold impl_ruleMasks.try_ at h
  obtain ⟨b, hb, h⟩ := Option.bind_eq_some_iff.1 h
  have HVH := yam hb
  have H := yam h
  clear hb h
  have hcO : w.cell? ⟨gown, 0, none⟩ = some (.slice Ao own.length co) := (blk_cell hX.1 0).trans rfl
  have hcR0 : w.cell? ⟨gr, 0, none⟩ = some (.int .i64 a0_0) := (blk_cell hX.2.1 0).trans rfl
  have hcR1 : w.cell? ⟨gr, 1, none⟩ = some (.slice Ac l0_1.length cc) := (blk_cell hX.2.1 1).trans rfl
  have hcR2 : w.cell? ⟨gr, 2, none⟩ = some (.int .i64 a0_2) := (blk_cell hX.2.1 2).trans rfl
  have hcV : w.cell? ⟨gval, 0, none⟩ = some (.slice (some ⟨gv, 0, none⟩) own.length cv) := (blk_cell hX.2.2.1 0).trans rfl
  clear hX
  cases b with
  | false =>
   have H2 := H.out
   simp only [Bool.false_eq_true, if_false, Option.some.injEq, Prod.mk.injEq] at H2
   obtain ⟨rfl, rfl⟩ := H2
   clear H
   go_enter Try.func98, Try.ntmps98
   go_wp2_with (first | (refine goesL_ (some 16) rfl rfl Try.func99 (by kernel_rfl) rfl #[.agg #[.int .i64 a0_0, .slice Ac l0_1.length cc, .int .i64 a0_2], .slice (some ⟨gv, 0, none⟩) vals.length cv] rfl (by (try simp only [List.map_toArray, List.map_cons, List.map_nil]); rw [HLV.out]; rfl) ?_; (with_reducible refine (impl_valuesHold.calls k a0_0 _ _ l0_1 a0_2 _ _ vals false _ (Kd.C_below HRC.out HB.out) HCC.out (Kd.R_reads' HV.out).2.2 (by rw [HLV.out]; exact (Kd.R_reads' HV.out).2.1) HVH.out).mono ?_); rintro e w' ⟨rfl, hb⟩; refine ⟨_, rfl, ?_⟩; replace HV := yam (Kd.R_below HV.out hb); replace HO := yam (Kd.R_below HO.out hb); replace HX := yam (impl_ruleMasks.Boxes.below HX.out hb); replace HB := yam (below_step HB.out hb); clear hb hcO hcR0 hcR1 hcR2 hcV))
   first | go_end0 | ((try simp only [Exit.inBlock, Exit.then]); refine bodyPost_ret (results_none rfl _ _ _) rfl ?_)
   exact ⟨rfl, HLV.out, HLO.out, HV.out, HO.out, HX.out, HB.out⟩
  | true =>
   have H2 := H.out
   simp only [if_true] at H2
   by_cases hpos : ∀ x ∈ vals, 0 ≤ x
   ·rw [if_pos hpos] at H2
    simp only [Option.some.injEq, Prod.mk.injEq] at H2
    obtain ⟨rfl, rfl⟩ := H2
    clear H
    have HP := yam hpos
    clear hpos
    go_enter Try.func98, Try.ntmps98
    go_wp2_with (first | (refine goesL_ (some 16) rfl rfl Try.func99 (by kernel_rfl) rfl #[.agg #[.int .i64 a0_0, .slice Ac l0_1.length cc, .int .i64 a0_2], .slice (some ⟨gv, 0, none⟩) vals.length cv] rfl (by (try simp only [List.map_toArray, List.map_cons, List.map_nil]); rw [HLV.out]; rfl) ?_; (with_reducible refine (impl_valuesHold.calls k a0_0 _ _ l0_1 a0_2 _ _ vals true _ (Kd.C_below HRC.out HB.out) HCC.out (Kd.R_reads' HV.out).2.2 (by rw [HLV.out]; exact (Kd.R_reads' HV.out).2.1) HVH.out).mono ?_); rintro e w' ⟨rfl, hb⟩; refine ⟨_, rfl, ?_⟩; replace HV := yam (Kd.R_below HV.out hb); replace HO := yam (Kd.R_below HO.out hb); replace HX := yam (impl_ruleMasks.Boxes.below HX.out hb); replace HB := yam (below_step HB.out hb); clear hb hcO hcR0 hcR1 hcR2 hcV; have hcV := (blk_cell HX.out.2.2.1 0).trans (rfl : _ = some (Value.slice (some ⟨gv, 0, none⟩) own.length cv))))
    go_loopg [19] own.length (fun kq v19 w' => ∃ (x : Int) (o : List Int), v19 = .int .i64 x ∧ Aside0 (0 ≤ x ∧ x + (kq : Int) = (own.length : Int)) ∧ Aside0 (impl_ruleMasks.orFrom vals own.length 0 out = impl_ruleMasks.orFrom vals kq x o) ∧ Aside0 (o.length = own.length) ∧ Aside0 (Kd.R (Kd.int .i64) 3 w' w0.heap.size (fun k => k = gv) (.slice (some ⟨gv, 0, none⟩) own.length cv) vals) ∧ Aside0 (Kd.R (Kd.int .i64) 3 w' w0.heap.size (fun k => k = go) (.slice (some ⟨go, 0, none⟩) own.length cu) o) ∧ Aside0 (impl_ruleMasks.Boxes w' gown gr gval gout gtry gv go cv cu Ao co own.length a0_0 Ac cc l0_1.length a0_2) ∧ Aside0 (Below w0.heap.size w0 w'))
    case atStart => exact ⟨0, out, rfl, ⟨by omega⟩, ⟨rfl⟩, HLO, HV, HO, HX, HB⟩
    case round =>
     clear hcV HV HO HX HB HLO
     obtain ⟨x, o, rfl, HK, HE, HLO, HV, HO, HX, HB⟩ := hrel
     cases gk with
     | zero =>
      have h1b : decide ((x : Int) < (own.length : Int)) = false := decide_eq_false (by have := HK.out; omega)
      go_wp2
      first | go_end0 | ((try simp only [Exit.inBlock, Exit.then]); refine bodyPost_ret (results_none rfl _ _ _) rfl ?_)
      have HE2 := HE.out
      unfold impl_ruleMasks.orFrom at HE2
      exact ⟨rfl, HLV.out, by rw [HE.out]; exact HLO.out, HV.out, by rw [HE.out]; exact HO.out, HX.out, HB.out⟩
     | succ k1 =>
      have h0 : 0 ≤ x := HK.out.1
      have h1 : x < (own.length : Int) := by have := HK.out.2; omega
      have h1b : decide ((x : Int) < (own.length : Int)) = true := decide_eq_true h1
      have hcU := (blk_cell HX.out.2.2.2.1 0).trans (rfl : _ = some (Value.slice (some ⟨go, 0, none⟩) own.length cu))
      obtain ⟨hxV0, hfV⟩ := Kd.R_celln 0 HV.out x h0 h1
      obtain ⟨hxO0, hfO⟩ := Kd.R_celln 0 HO.out x h0 h1
      have hxV := hxV0.trans (rfl : _ = some (Value.int .i64 (rd vals x)))
      have hxO := hxO0.trans (rfl : _ = some (Value.int .i64 (rd o x)))
      clear hxV0 hxO0
      have hpv : 0 ≤ rd vals x := HP.out _ (by
       have hl := HLV.out
       obtain ⟨n, rfl⟩ := Int.eq_ofNat_of_zero_le h0
       have hn : n < vals.length := by omega
       have e : rd vals (n : Int) = vals[n] := by simp [rd, hn]
       rw [e]; exact List.getElem_mem hn)
      have hpvb : decide (0 ≤ rd vals x) = true := decide_eq_true hpv
      have HES : impl_ruleMasks.orFrom vals (k1 + 1) x o = impl_ruleMasks.orFrom vals k1 (x + 1) (o.set x.toNat (Go.bits .or .i64 (rd o x) (shl .i64 1 (rd vals x)))) := rfl
      obtain ⟨ji, hji⟩ : ∃ j_ : Int, (shl .i64 1 (rd vals x)) = j_ := ⟨_, rfl⟩
      rw [hji] at HES
      have hji_ : (IntKind.i64.wrap (1 * 2 ^ min (rd vals x).toNat 64)) = ji := hji
      have hjiu : (IntKind.i64.wrap (2 ^ min (rd vals x).toNat 64)) = ji := by have h_ := hji_; rw [Int.one_mul] at h_; exact h_
      have hjiy : (wrap64 (1 * 2 ^ min (rd vals x).toNat 64)) = ji := (i64_w _).symm.trans hji_
      have hjiw : (wrap64 (2 ^ min (rd vals x).toNat 64)) = ji := (i64_w _).symm.trans hjiu
      have HES2 := yam HES
      clear HES hji
      have HPO := yam (Kd.R_putg HO.out x (Go.bits .or .i64 (rd o x) ji))
      have hnw : wrap64 (x + 1) = x + 1 := by have := HN.out; unfold wrap64; omega
      have hnw2 : IntKind.i64.wrap (x + 1) = x + 1 := by rw [i64_w]; exact hnw
      have p0 := eq_true h0
      have p1 := eq_true h1
      have p2 := eq_true hpv
      clear h0 h1 hpv
      go_wp2
      refine start_ (n := 9) (S := fun w' => w'.cell? ⟨gout, 0, none⟩ = some (.slice (some ⟨go, 0, none⟩) own.length cu) ∧ w'.cell? ⟨go, (x : Int).toNat, none⟩ = some (.int .i64 (rd o x))) (ds := [8]) #[false, false, false, false, false, false, false, false, false] (by kernel_rfl) rfl rfl ⟨hcU, hxO⟩ (fun hHeld => ?_)
      refine pure_ (i := 1) (N := some 25) (v := ?_) (a' := ?_) #[false, true, false, false, false, false, false, false, false] rfl rfl (by kernel_rfl) (fun _ _ _ h => h) (Or.inl ⟨by rfl, ?_⟩) ?_ ?_
      rotate_left
      ·intro w'
       go_simp
       with_reducible rfl
      rotate_left
      ·simp only [Act.put, List.setIfInBounds_toArray, List.set_cons_zero, List.set_cons_succ, i64_w, i32_w]
       rfl
      refine pure_ (i := 4) (N := some 28) (v := ?_) (a' := ?_) #[false, true, false, false, true, false, false, false, false] rfl rfl (by kernel_rfl) (fun _ _ _ h => h) (Or.inl ⟨by rfl, ?_⟩) ?_ ?_
      rotate_left
      ·intro w'
       go_simp
       with_reducible rfl
      rotate_left
      ·simp only [Act.put, List.setIfInBounds_toArray, List.set_cons_zero, List.set_cons_succ, i64_w, i32_w]
       rfl
      refine pure_ (i := 5) (N := some 29) (v := ?_) (a' := ?_) #[false, true, false, false, true, true, false, false, false] rfl rfl (by kernel_rfl) (fun _ _ _ h => h) (Or.inl ⟨by rfl, ?_⟩) ?_ ?_
      rotate_left
      ·intro w'
       go_simp
       with_reducible rfl
      rotate_left
      ·simp only [Act.put, List.setIfInBounds_toArray, List.set_cons_zero, List.set_cons_succ, i64_w, i32_w]
       rfl
      refine take_ (i := 0) (N := some 24) (v := ?_) (a' := ?_) #[true, true, false, false, true, true, false, false, false] rfl rfl (by kernel_rfl) (fun _ _ _ h => h) (Or.inl ⟨by rfl, ?_⟩) hHeld ?_ ?_
      rotate_left
      ·rintro w' ⟨s0, s1⟩
       go_simp
       with_reducible rfl
      rotate_left
      ·simp only [Act.put, List.setIfInBounds_toArray, List.set_cons_zero, List.set_cons_succ, i64_w, i32_w]
       rfl
      refine pure_ (i := 2) (N := some 26) (v := ?_) (a' := ?_) #[true, true, true, false, true, true, false, false, false] rfl rfl (by kernel_rfl) (fun _ _ _ h => h) (Or.inl ⟨by rfl, ?_⟩) ?_ ?_
      rotate_left
      ·intro w'
       go_simp
       with_reducible rfl
      rotate_left
      ·simp only [Act.put, List.setIfInBounds_toArray, List.set_cons_zero, List.set_cons_succ, i64_w, i32_w]
       rfl
      refine take_ (i := 3) (N := some 27) (v := ?_) (a' := ?_) #[true, true, true, true, true, true, false, false, false] rfl rfl (by kernel_rfl) (fun _ _ _ h => h) (Or.inl ⟨by rfl, ?_⟩) hHeld ?_ ?_
      rotate_left
      ·rintro w' ⟨s0, s1⟩
       go_simp
       with_reducible rfl
      rotate_left
      ·simp only [Act.put, List.setIfInBounds_toArray, List.set_cons_zero, List.set_cons_succ, i64_w, i32_w]
       rfl
      refine pure_ (i := 6) (N := some 30) (v := ?_) (a' := ?_) #[true, true, true, true, true, true, true, false, false] rfl rfl (by kernel_rfl) (fun _ _ _ h => h) (Or.inl ⟨by rfl, ?_⟩) ?_ ?_
      rotate_left
      ·intro w'
       go_simp
       with_reducible rfl
      rotate_left
      ·simp only [Act.put, List.setIfInBounds_toArray, List.set_cons_zero, List.set_cons_succ, i64_w, i32_w]
       rfl
      refine pure_ (i := 7) (N := some 31) (v := ?_) (a' := ?_) #[true, true, true, true, true, true, true, true, false] rfl rfl (by kernel_rfl) (fun _ _ _ h => h) (Or.inl ⟨by rfl, ?_⟩) ?_ ?_
      rotate_left
      ·intro w'
       go_simp
       with_reducible rfl
      rotate_left
      ·simp only [Act.put, List.setIfInBounds_toArray, List.set_cons_zero, List.set_cons_succ, i64_w, i32_w]
       rfl
      refine last_ (i := 8) (N := none) #[true, true, true, true, true, true, true, true, true] rfl rfl (by kernel_rfl) (by decide) (fun K hK => ?_)
      refine skip_ (w1 := ?_) (by rfl) rfl ?_ ?_
      rotate_left
      ·go_simp
       rfl
      refine hK.out _ _ ?_
      clear hK K
      refine done_ (by kernel_rfl) ?_
      go_wp2
      go_roundg k1
      case measure => omega
      case rel => exact ⟨x + 1, o.set x.toNat (Go.bits .or .i64 (rd o x) ji), by first | rfl | (rw [hnw]) | (rw [hnw2]), ⟨by have := HK.out; omega⟩, ⟨by rw [HE.out]; exact HES2.out⟩, ⟨by rw [List.length_set]; exact HLO.out⟩, ⟨Kd.R_drew (impl_ruleMasks.R_other (n2 := own.length) (c2 := own.length) HV.out hne HPO.out.2)⟩, ⟨Kd.R_drew HPO.out.1⟩, ⟨(impl_ruleMasks.Boxes.grown HX.out HO.out HPO.out.2).drewN 1⟩, ⟨below_drew1 (below_set HB.out hbo)⟩⟩
   ·rw [if_neg hpos] at H2
    exact absurd H2 (by simp)
 | succ d ih =>
  intro a vals out vals' out' w ha hd hn hlv hlo hV hO hX hB h
  have ha1 : ¬ a = (own.length : Int) := by omega
  have hae : (a == (own.length : Int)) = false := beq_eq_false_iff_ne.mpr ha1
  have HA := yam (show (own.length : Int) - (d + 1 : Nat) = a ∧ 0 ≤ a ∧ a < (own.length : Int) from ⟨ha, by omega, by omega⟩)
  have HD := yam (show d ≤ own.length by omega)
  have HN := yam hn
  have HLV := yam hlv
  have HLO := yam hlo
  have HV := yam hV
  have HO := yam hO
  have HX := yam hX
  have HB := yam hB
  unfold impl_ruleMasks.try_ at h
  rw [ha] at h
  have H := yam h
  have hcO : w.cell? ⟨gown, 0, none⟩ = some (.slice Ao own.length co) := (blk_cell hX.1 0).trans rfl
  clear ha ha1 hd hn hlv hlo hV hO hX hB h
  have IH := yam ih
  clear ih
  go_enter Try.func98, Try.ntmps98
  go_wp2
  go_loopg [9] 4 (fun kq v9 w' => ∃ (x : Int) (vs o : List Int), v9 = .int .i64 x ∧ Aside0 (1 ≤ x ∧ x + (kq : Int) = 5) ∧ Aside0 (impl_ruleMasks.tryV (impl_ruleMasks.try_ k a0_0 l0_1 a0_2 own d) (rd own a) a.toNat kq x vs o = some (vals', out')) ∧ Aside0 (vs.length = own.length) ∧ Aside0 (o.length = own.length) ∧ Aside0 (Kd.R (Kd.int .i64) 3 w' w0.heap.size (fun k => k = gv) (.slice (some ⟨gv, 0, none⟩) own.length cv) vs) ∧ Aside0 (Kd.R (Kd.int .i64) 3 w' w0.heap.size (fun k => k = go) (.slice (some ⟨go, 0, none⟩) own.length cu) o) ∧ Aside0 (impl_ruleMasks.Boxes w' gown gr gval gout gtry gv go cv cu Ao co own.length a0_0 Ac cc l0_1.length a0_2) ∧ Aside0 (Below w0.heap.size w0 w'))
  case atStart => exact ⟨1, vals, out, rfl, ⟨by omega⟩, H, HLV, HLO, HV, HO, HX, HB⟩
  case round =>
   clear hcO HV HO HX HB HLO HLV H
   obtain ⟨x, vs, o, rfl, HK, HE, HLV, HLO, HV, HO, HX, HB⟩ := hrel
   cases gk with
   | zero =>
    have h1b : decide ((x : Int) ≤ 4) = false := decide_eq_false (by have := HK.out; omega)
    have HE2 := HE.out
    unfold impl_ruleMasks.tryV at HE2
    simp only [Option.some.injEq, Prod.mk.injEq] at HE2
    obtain ⟨rfl, rfl⟩ := HE2
    go_wp2
    first | go_end0 | ((try simp only [Exit.inBlock, Exit.then]); refine bodyPost_ret (results_none rfl _ _ _) rfl ?_)
    exact ⟨rfl, HLV.out, HLO.out, HV.out, HO.out, HX.out, HB.out⟩
   | succ k1 =>
    have h1b : decide ((x : Int) ≤ 4) = true := decide_eq_true (by have := HK.out; omega)
    have h0 : 0 ≤ a := HA.out.2.1
    have h1 : a < (own.length : Int) := HA.out.2.2
    have hx0 : 0 ≤ x := by have := HK.out; omega
    have hcO := (blk_cell HX.out.1 0).trans (rfl : _ = some (Value.slice Ao own.length co))
    obtain ⟨ad, eA, hxA⟩ := Kd.at_int (Kd.C_below HRO.out HB.out) a h0 h1
    have hnw : wrap64 (x + 1) = x + 1 := by have := HK.out; unfold wrap64; omega
    have hnw2 : IntKind.i64.wrap (x + 1) = x + 1 := by rw [i64_w]; exact hnw
    have p0 := eq_true h0
    have p1 := eq_true h1
    have p2 := eq_true hx0
    have p2b : decide (0 ≤ x) = true := decide_eq_true hx0
    have HE2 := HE.out
    rw [impl_ruleMasks.tryV] at HE2
    obtain ⟨ji, hji⟩ : ∃ j_ : Int, (shr .i64 (rd own a) x) = j_ := ⟨_, rfl⟩
    rw [hji] at HE2
    have hji_ : ((rd own a) / 2 ^ min x.toNat 64) = ji := hji
    clear hji
    by_cases hbit : Go.bits .and .i64 ji 1 = 1
    ·rw [if_pos hbit] at HE2
     obtain ⟨⟨t1, t2⟩, hT, HE3⟩ := Option.bind_eq_some_iff.1 HE2
     have hbb : (Go.bits .and .i64 ji 1 == 1) = true := beq_iff_eq.mpr hbit
     have HT := yam hT
     have HE4 := yam HE3
     have hcV := (blk_cell HX.out.2.2.1 0).trans (rfl : _ = some (Value.slice (some ⟨gv, 0, none⟩) own.length cv))
     obtain ⟨hxV, hfV⟩ := Kd.R_celln 0 HV.out a h0 h1
     have HPV := yam (Kd.R_putg HV.out a x)
     have HX2 := yam (impl_ruleMasks.Boxes.grown HX.out HV.out HPV.out.2)
     have HO2 := yam (impl_ruleMasks.R_other (n2 := own.length) (c2 := own.length) HO.out (fun e => hne e.symm) HPV.out.2)
     have HB2 := yam (below_set (j := a.toNat) (v := .int .i64 x) HB.out hbv)
     have hcT := (blk_cell HX2.out.2.2.2.2 0).trans (rfl : _ = some (Value.func (.func 98) #[] #[.pointer (some ⟨gown, 0, none⟩), .pointer (some ⟨gr, 0, none⟩), .pointer (some ⟨gval, 0, none⟩), .pointer (some ⟨gout, 0, none⟩), .pointer (some ⟨gtry, 0, none⟩)]))
     have haw : wrap64 (a + 1) = a + 1 := by have := HN.out; unfold wrap64; omega
     have haw2 : IntKind.i64.wrap (a + 1) = a + 1 := by rw [i64_w]; exact haw
     clear h0 h1 hx0 HE2 HE3 hT hbit HE
     cases eA
     go_wp2_with (first | (go_at_call 98; (refine (IH.out (a + 1) (vs.set a.toNat x) o t1 t2 _ (by have := HA.out.1; omega) HD.out HN.out (by rw [List.length_set]; exact HLV.out) HLO.out HPV.out.1 HO2.out HX2.out HB2.out HT.out).mono ?_); rintro e w' ⟨rfl, HL1, HL2, hV, hO, hX, hB⟩; have HV3 := yam hV; have HO3 := yam hO; have HX3 := yam hX; have HB3 := yam hB; have HLV3 := yam HL1; have HLO3 := yam HL2; clear hV hO hX hB HL1 HL2))
     go_roundg k1
     case measure => omega
     case rel => exact ⟨x + 1, t1, t2, by first | rfl | (rw [hnw]) | (rw [hnw2]), ⟨by have := HK.out; omega⟩, HE4, HLV3, HLO3, HV3, HO3, HX3, HB3⟩
    ·rw [if_neg hbit] at HE2
     have hbb : (Go.bits .and .i64 ji 1 == 1) = false := beq_eq_false_iff_ne.mpr hbit
     have HE4 := yam HE2
     clear h0 h1 hx0 HE2 hbit HE
     cases eA
     go_wp2
     go_roundg k1
     case measure => omega
     case rel => exact ⟨x + 1, vs, o, by first | rfl | (rw [hnw]) | (rw [hnw2]), ⟨by have := HK.out; omega⟩, HE4, HLV, HLO, HV, HO, HX, HB⟩
theorem impl_ruleMasks.newBox (W : World) (z v : Value) (t : TypeId) : Below W.heap.size W ((W.alloc (.cells #[z] t)).setCell ⟨W.heap.size, 0, none⟩ v) ∧ ((W.alloc (.cells #[z] t)).setCell ⟨W.heap.size, 0, none⟩ v).heap[W.heap.size]? = some (.cells #[v] t (0, 0)) ∧ (W.alloc (.cells #[z] t)).cell? ⟨W.heap.size, 0, none⟩ = some z ∧ (W.alloc (.cells #[z] t)).frozen? ⟨W.heap.size, 0, none⟩ = false :=
 ⟨below_set (below_alloc (Below.refl _ _) _) (Nat.le_refl _), by simpa using blk_set (heap_alloc_new W (.cells #[z] t)) 0 v, (blk_cell (heap_alloc_new W (.cells #[z] t)) 0).trans rfl, blk_frozen (heap_alloc_new W (.cells #[z] t)) 0⟩
def impl_ruleMasks.f (k : Nat) (a0_0 : Int) (l0_1 : List Int) (a0_2 : Int) (l1 : List Int) : Option (List Int) :=
 if 0 < l1.length ∧ l1.length ≤ 100000 then (impl_ruleMasks.try_ k a0_0 l0_1 a0_2 l1 l1.length (List.replicate l1.length 0) (List.replicate l1.length 0)).bind fun t => some t.2 else none
set_option maxHeartbeats 8000000 in
set_option maxRecDepth 100000 in
theorem impl_ruleMasks.calls (k : Nat) (a0_0 : Int) (A0_1 : Option Addr) (c0_1 : Nat) (l0_1 : List Int) (a0_2 : Int) (A1 : Option Addr) (c1 : Nat) (l1 : List Int) (r : List Int) (w : World) (hr0_1 : Kd.C (Kd.int .i64) w A0_1 l0_1.length l0_1) (hc0_1 : l0_1.length ≤ c0_1) (hr1 : Kd.C (Kd.int .i64) w A1 l1.length l1) (hc1 : l1.length ≤ c1) (h : impl_ruleMasks.f k a0_0 l0_1 a0_2 l1 = some r) :
  Calls Try.prog 91 #[.agg #[.int .i64 a0_0, .slice A0_1 l0_1.length c0_1, .int .i64 a0_2], .slice A1 l1.length c1] w fun e w' => ∃ v0_ : Value, e = .returned (v0_) ∧ Kd.R (Kd.int .i64) 3 w' w.heap.size (fun _ => True) v0_ r ∧ Below w.heap.size w w' := by
 unfold impl_ruleMasks.f at h
 by_cases hc : 0 < l1.length ∧ l1.length ≤ 100000
 ·rw [if_pos hc] at h
  obtain ⟨⟨t1, t2⟩, hT, h⟩ := Option.bind_eq_some_iff.1 h
  obtain rfl := Option.some.inj h
  have HT := yam hT
  have HN := yam hc
  have HR0 := yam hr0_1
  have HC0 := yam hc0_1
  have HR1 := yam hr1
  have hu32 := Try.underlying67
  clear h hT hc hr0_1 hc0_1 hr1 hc1
  have HB := yam (Below.refl w.heap.size w)
  go_enter Try.func91, Try.ntmps91
  go_upto_region 1 with (first
   | (refine ybe 2 #[.int .i64 a0_0, .slice A0_1 l0_1.length c0_1, .int .i64 a0_2] 67 ?_; intro gr hg w5 hbox hb; have n0_ := yam (below_step HB.out hb); have BR := yam hbox; clear HB; have HB := n0_; clear n0_ hb hbox hg)
   | (refine ybe 3 #[.slice A1 l1.length c1] 22 ?_; intro gown hg w6 hbox hb; have n0_ := yam (below_step HB.out hb); have BO := yam hbox; have n1_ := yam (blk_below BR.out hb); clear HB BR; have HB := n0_; have BR := n1_; clear n0_ n1_ hb hbox hg))
  (try simp only [Act.put, List.setIfInBounds_toArray, List.set_cons_zero, List.set_cons_succ])
  have hcO := (blk_cell BO.out 0).trans (rfl : _ = some (Value.slice A1 l1.length c1))
  go_upto_region 2 with (first
   | ((with_reducible refine gate_dst (N := 10) rfl ?_); refine Kd.R_make (Kd.int .i64) _ 3 rfl (N := 10) rfl 22 _ _ rfl (l1.length : Int) rfl rfl Try.underlying22 (.int .i64 0) 8 info3 rfl (by decide) (by omega) 0 (ok := fun _ => True) (okp := fun _ => False) rfl (fun _ hk => hk.elim) trivial (by omega) (by have := HN.out; omega) (Below.refl _ _) (Nat.le_refl _) ?_; intro v10 w10 ho10 hb hg_ hnew_; clear hg_ hnew_; obtain ⟨go, cu, e10, _, _, _⟩ := Kd.R_form ho10 (by have := HN.out; simp; omega); simp only [List.length_replicate, Int.toNat_natCast] at e10 ho10; subst e10; replace BR := yam (blk_below BR.out hb); replace BO := yam (blk_below BO.out hb); have HO := yam (Kd.R_lower ho10 (below_size HB.out)); replace HB := yam (below_step HB.out hb); clear hcO ho10 hb; have hcz := (impl_ruleMasks.newBox w10 (.slice none 0 0) (.int .i64 0) 22).2.2.1; have hfz := (impl_ruleMasks.newBox w10 (.slice none 0 0) (.int .i64 0) 22).2.2.2))
  replace HB := yam (show Below w.heap.size w (w10.alloc (Obj.cells #[Value.slice (some ⟨go, 0, none⟩) l1.length cu] 22)) from below_alloc HB.out _)
  replace BR := yam (show (w10.alloc (Obj.cells #[Value.slice (some ⟨go, 0, none⟩) l1.length cu] 22)).heap[gr]? = _ from blk_alloc BR.out _)
  replace BO := yam (show (w10.alloc (Obj.cells #[Value.slice (some ⟨go, 0, none⟩) l1.length cu] 22)).heap[gown]? = _ from blk_alloc BO.out _)
  replace HO := yam (show Kd.R (Kd.int .i64) 3 (w10.alloc (Obj.cells #[Value.slice (some ⟨go, 0, none⟩) l1.length cu] 22)) w.heap.size _ _ _ from Kd.R_alloc HO.out _)
  have BU := yam (show (w10.alloc (Obj.cells #[Value.slice (some ⟨go, 0, none⟩) l1.length cu] 22)).heap[w10.heap.size]? = _ from heap_alloc_new w10 _)
  clear hcz hfz
  generalize w10.alloc (Obj.cells #[Value.slice (some ⟨go, 0, none⟩) l1.length cu] 22) = W1 at HB BR BO HO BU ⊢
  generalize w10.heap.size = gout at BU ⊢
  have hcO := (blk_cell BO.out 0).trans (rfl : _ = some (Value.slice A1 l1.length c1))
  go_upto_region 3 with (first
   | ((with_reducible refine gate_dst (N := 13) rfl ?_); refine Kd.R_make (Kd.int .i64) _ 3 rfl (N := 13) rfl 22 _ _ rfl (l1.length : Int) rfl rfl Try.underlying22 (.int .i64 0) 8 info3 rfl (by decide) (by omega) 0 (ok := fun _ => True) (okp := fun _ => False) rfl (fun _ hk => hk.elim) trivial (by omega) (by have := HN.out; omega) (Below.refl _ _) (Nat.le_refl _) ?_; intro v13 w13 ho13 hb hg_ hnew_; clear hg_; obtain ⟨gv, cv, e13, _, _, _⟩ := Kd.R_form ho13 (by have := HN.out; simp; omega); simp only [List.length_replicate, Int.toNat_natCast] at e13 ho13; subst e13; have HNE := yam (show go < W1.heap.size ∧ W1.heap.size ≤ gv from ⟨Kd.R_lt HO.out go rfl, by obtain ⟨b_, e_, l_⟩ := hnew_; simp [Value.ownBlock] at e_; omega⟩); replace BR := yam (blk_below BR.out hb); replace BO := yam (blk_below BO.out hb); have HV := yam (Kd.R_lower ho13 (below_size HB.out)); replace HB := yam (below_step HB.out hb); replace HO := yam (Kd.R_below HO.out hb); replace BU := yam (blk_below BU.out hb); clear hcO ho13 hb hnew_; have hcz := (impl_ruleMasks.newBox w13 (.slice none 0 0) (.int .i64 0) 22).2.2.1; have hfz := (impl_ruleMasks.newBox w13 (.slice none 0 0) (.int .i64 0) 22).2.2.2))
  replace HB := yam (show Below w.heap.size w (w13.alloc (Obj.cells #[Value.slice (some ⟨gv, 0, none⟩) l1.length cv] 22)) from below_alloc HB.out _)
  replace BR := yam (show (w13.alloc (Obj.cells #[Value.slice (some ⟨gv, 0, none⟩) l1.length cv] 22)).heap[gr]? = _ from blk_alloc BR.out _)
  replace BO := yam (show (w13.alloc (Obj.cells #[Value.slice (some ⟨gv, 0, none⟩) l1.length cv] 22)).heap[gown]? = _ from blk_alloc BO.out _)
  replace HO := yam (show Kd.R (Kd.int .i64) 3 (w13.alloc (Obj.cells #[Value.slice (some ⟨gv, 0, none⟩) l1.length cv] 22)) w.heap.size _ _ _ from Kd.R_alloc HO.out _)
  replace BU := yam (show (w13.alloc (Obj.cells #[Value.slice (some ⟨gv, 0, none⟩) l1.length cv] 22)).heap[gout]? = _ from blk_alloc BU.out _)
  have BV := yam (show (w13.alloc (Obj.cells #[Value.slice (some ⟨gv, 0, none⟩) l1.length cv] 22)).heap[w13.heap.size]? = _ from heap_alloc_new w13 _)
  replace HV := yam (show Kd.R (Kd.int .i64) 3 (w13.alloc (Obj.cells #[Value.slice (some ⟨gv, 0, none⟩) l1.length cv] 22)) w.heap.size _ _ _ from Kd.R_alloc HV.out _)
  clear hcz hfz
  generalize w13.alloc (Obj.cells #[Value.slice (some ⟨gv, 0, none⟩) l1.length cv] 22) = W2 at HB BR BO HO BU BV HV ⊢
  generalize w13.heap.size = gval at BV ⊢
  have hcz := (impl_ruleMasks.newBox W2 .nilFunc (.int .i64 0) 91).2.2.1
  have hfz := (impl_ruleMasks.newBox W2 .nilFunc (.int .i64 0) 91).2.2.2
  have hsf := fun (a : Addr) (c : Array Value) (w : World) => run_store Try.prog w a (.func (.func 98) #[] c) .plain rfl
  go_upto_region 5 with (fail)
  clear hsf
  clear hcz hfz
  have n0_ := yam (show Below w.heap.size w (W2.alloc (Obj.cells #[(Value.func (.func 98) #[] #[.pointer (some ⟨gown, 0, none⟩), .pointer (some ⟨gr, 0, none⟩), .pointer (some ⟨gval, 0, none⟩), .pointer (some ⟨gout, 0, none⟩), .pointer (some ⟨W2.heap.size, 0, none⟩)])] 91)) from below_alloc HB.out _)
  have n3_ := yam (show Kd.R (Kd.int .i64) 3 (W2.alloc (Obj.cells #[(Value.func (.func 98) #[] #[.pointer (some ⟨gown, 0, none⟩), .pointer (some ⟨gr, 0, none⟩), .pointer (some ⟨gval, 0, none⟩), .pointer (some ⟨gout, 0, none⟩), .pointer (some ⟨W2.heap.size, 0, none⟩)])] 91)) w.heap.size (fun k_ => k_ = go) _ _ from Kd.R_alloc (Kd.R_mono (Kd.R_tight rfl HO.out) (fun k_ hk_ => by simpa [Value.ownBlock] using hk_)) _)
  have n6_ := yam (show Kd.R (Kd.int .i64) 3 (W2.alloc (Obj.cells #[(Value.func (.func 98) #[] #[.pointer (some ⟨gown, 0, none⟩), .pointer (some ⟨gr, 0, none⟩), .pointer (some ⟨gval, 0, none⟩), .pointer (some ⟨gout, 0, none⟩), .pointer (some ⟨W2.heap.size, 0, none⟩)])] 91)) w.heap.size (fun k_ => k_ = gv) _ _ from Kd.R_alloc (Kd.R_mono (Kd.R_tight rfl HV.out) (fun k_ hk_ => by simpa [Value.ownBlock] using hk_)) _)
  have n7_ := yam (show impl_ruleMasks.Boxes (W2.alloc (Obj.cells #[(Value.func (.func 98) #[] #[.pointer (some ⟨gown, 0, none⟩), .pointer (some ⟨gr, 0, none⟩), .pointer (some ⟨gval, 0, none⟩), .pointer (some ⟨gout, 0, none⟩), .pointer (some ⟨W2.heap.size, 0, none⟩)])] 91)) gown gr gval gout W2.heap.size gv go cv cu A1 c1 l1.length a0_0 A0_1 c0_1 l0_1.length a0_2 from ⟨blk_alloc BO.out _, blk_alloc BR.out _, blk_alloc BV.out _, blk_alloc BU.out _, heap_alloc_new W2 _⟩)
  have gv0 := Kd.R_base HV.out gv rfl
  have go0 := Kd.R_base HO.out go rfl
  clear HB HO HV BR BO BU BV
  have HB := n0_
  have HO := n3_
  have HV := n6_
  have HX := n7_
  clear n0_ n3_ n6_ n7_
  generalize (W2.alloc (Obj.cells #[(Value.func (.func 98) #[] #[.pointer (some ⟨gown, 0, none⟩), .pointer (some ⟨gr, 0, none⟩), .pointer (some ⟨gval, 0, none⟩), .pointer (some ⟨gout, 0, none⟩), .pointer (some ⟨W2.heap.size, 0, none⟩)])] 91)) = W3 at HB HO HV HX ⊢
  generalize W2.heap.size = gtry at HX ⊢
  have hcT := (blk_cell HX.out.2.2.2.2 0).trans (rfl : _ = some (Value.func (.func 98) #[] #[.pointer (some ⟨gown, 0, none⟩), .pointer (some ⟨gr, 0, none⟩), .pointer (some ⟨gval, 0, none⟩), .pointer (some ⟨gout, 0, none⟩), .pointer (some ⟨gtry, 0, none⟩)]))
  go_wp2_with (first | (go_at_call 98; (refine (impl_ruleMasks.clo k a0_0 A0_1 c0_1 l0_1 a0_2 A1 c1 l1 gown gr gval gout gtry gv go cv cu w (by have := HNE.out; omega) gv0 go0 HR0.out HC0.out HR1.out l1.length 0 (List.replicate l1.length 0) (List.replicate l1.length 0) t1 t2 _ (by omega) (Nat.le_refl _) HN.out.2 (by simp) (by simp) HV.out HO.out HX.out HB.out HT.out).mono ?_); rintro e w' ⟨rfl, HL1, HL2, hV, hO, hX, hB⟩; clear HV HO HX HB hcT hV HL1; have HO := yam hO; have HB := yam hB; have HL := yam HL2; have hcU := (blk_cell hX.2.2.2.1 0).trans (rfl : _ = some (Value.slice (some ⟨go, 0, none⟩) l1.length cu)); clear hO hB hX HL2))
  go_ret
  exact ⟨_, rfl, Kd.R_mono HO.out (fun _ _ => trivial), HB.out⟩
 ·rw [if_neg hc] at h; cases h
mutual
def impl_RuleMasks.j0 : Nat → List Int → Bool → Int → List Int → Int → Option (List Int)
 | 0, _, _, _, _, _ => none
 | k + 1, x1, x19, x465000, x465001, x465002 => if x19 = true then (some ([] : List Int)) else (impl_RuleMasks.l0 k x1 (([] : List Int)) x465001 (x465001.length : Int) 0 x465000 x465001 x465002)
def impl_RuleMasks.l0 : Nat → List Int → List Int → List Int → Int → Int → Int → List Int → Int → Option (List Int)
 | 0, _, _, _, _, _, _, _, _ => none
 | k + 1, x1, x7, x22, x23, x24, x465000, x465001, x465002 => if x24 < x23 then (if 0 ≤ x24 then (if x24 < (x22.length : Int) then (if 0 ≤ (rd x22 x24) then (if (rd x22 x24) < (x1.length : Int) then (if x7.length < 17592186044416 then (impl_RuleMasks.l0 k x1 (x7 ++ [rd x1 (rd x22 x24)]) x22 x23 (wrap64 (x24 + 1)) x465000 x465001 x465002) else (none)) else (none)) else (none)) else (none)) else (none)) else ((impl_ruleMasks.f k x465000 x465001 x465002 x7).bind fun t475 => (some t475))
end
def impl_RuleMasks.f (k : Nat) (a0_0 : Int) (l0_1 : List Int) (a0_2 : Int) (l1 : List Int) (a2 : Int) : Option (List Int) := (impl_RuleValid.f k a0_0 l0_1 a0_2 a2).bind fun t465 => (if t465 = true then ((impl_MasksValid.f k l1 a2).bind fun t466 => (impl_RuleMasks.j0 k l1 (!t466) a0_0 l0_1 a0_2)) else (impl_RuleMasks.j0 k l1 true a0_0 l0_1 a0_2))
set_option maxHeartbeats 8000000 in
set_option maxRecDepth 100000 in
theorem impl_RuleMasks.calls (k : Nat) (a0_0 : Int) (A0_1 : Option Addr) (c0_1 : Nat) (l0_1 : List Int) (a0_2 : Int) (A1 : Option Addr) (c1 : Nat) (l1 : List Int) (a2 : Int) (r : List Int) (w : World) (hr0_1 : Kd.C (Kd.int .i64) w A0_1 l0_1.length l0_1) (hc0_1 : l0_1.length ≤ c0_1) (hr1 : Kd.C (Kd.int .i64) w A1 l1.length l1) (hc1 : l1.length ≤ c1) (h : impl_RuleMasks.f k a0_0 l0_1 a0_2 l1 a2 = some r) :
  Calls Try.prog 83 #[.agg #[.int .i64 a0_0, .slice A0_1 l0_1.length c0_1, .int .i64 a0_2], .slice A1 l1.length c1, .int .i64 a2] w fun e w' => ∃ v0_ : Value, e = .returned (v0_) ∧ Kd.R (Kd.int .i64) 3 w' w.heap.size (fun _ => True) v0_ r ∧ Below w.heap.size w w' := by
 have hu67 := Try.underlying67
 have HR0_1 := yam hr0_1
 have HC0_1 := yam hc0_1
 clear hr0_1 hc0_1
 have HR1 := yam hr1
 have HC1 := yam hc1
 clear hr1 hc1
 have HB := yam (Below.refl w.heap.size w)
 have H : ((impl_RuleValid.f k a0_0 l0_1 a0_2 a2).bind fun t465 => (if t465 = true then ((impl_MasksValid.f k l1 a2).bind fun t466 => (impl_RuleMasks.j0 k l1 (!t466) a0_0 l0_1 a0_2)) else (impl_RuleMasks.j0 k l1 true a0_0 l0_1 a0_2))) = some r := h
 clear h
 have HC4 := yam H
 clear H
 go_enter Try.func83, Try.ntmps83
 go_upto_region 1 with (first | (refine ybe 3 #[.int .i64 a0_0, .slice A0_1 l0_1.length c0_1, .int .i64 a0_2] 67 ?_; intro gb464 hg w5 hbox hb; have n0_ := yam (below_step (yez HB.out) hb); have n1_ := yam (hbox); have n2_ := yam ((by rw [hg]; exact (below_size (yez HB.out)) : w.heap.size ≤ gb464)); have n3_ := n2_; clear HB; have HB := n0_; have BK464 := n1_; have GW464 := n2_; have GE464 := n3_; clear n0_ n1_ n2_ n3_; clear hb hbox hg))
 (try simp only [Act.put, yps])
 go_cut [19] (fun v19 wc => ∃ (kq : Nat) (x19_3 : Bool), v19 = .bool x19_3 ∧ Aside0 (impl_RuleMasks.j0 kq l1 x19_3 a0_0 l0_1 a0_2 = some r) ∧ Aside0 (kq ≤ k) ∧ Aside0 (wc.heap[gb464]? = some (.cells #[.int .i64 a0_0, (.slice A0_1 l0_1.length c0_1), .int .i64 a0_2] 67 (0, 0))) ∧ Aside0 (Below w.heap.size w wc))
 case first =>
  have H := HC4.out
  clear HC4
  replace H := Option.bind_eq_some_iff.mp H
  obtain ⟨t465, A60, H⟩ := H
  try dsimp only at H
  have A6 := yam A60
  clear A60
  by_cases c7 : t465 = true
  rotate_left
  ·replace c7 := Bool.eq_false_iff.mpr c7
   subst c7
   have H1 : (impl_RuleMasks.j0 k l1 true a0_0 l0_1 a0_2) = some r := by rw [if_neg (show ¬ (false = true) by decide)] at H; exact H
   clear H
   have H := H1
   clear H1
   have H' := yam H
   clear H
   obtain ⟨hcz11_0, hcz11_1, hcz11_2, hfz11_0, hfz11_1, hfz11_2⟩ := ybc BK464.out
   go_wp2_with (first | (refine goesL_ (some 12) rfl rfl Try.func70 (by kernel_rfl) rfl #[.agg #[.int .i64 a0_0, .slice A0_1 l0_1.length c0_1, .int .i64 a0_2], .int .i64 a2] rfl ymd ?_; (with_reducible refine (impl_RuleValid.calls k a0_0 _ _ l0_1 a0_2 a2 false _ ?side1 ?side2 A6.out).mono ?_); (case side1 => exact Kd.Cz ((Kd.C_below HR0_1.out HB.out))); (case side2 => exact HC0_1.out); rintro e w12 ⟨rfl, hb⟩; refine ⟨_, rfl, ?_⟩; replace BK464 := yam (blk_below (g := gb464) (o := .cells #[.int .i64 a0_0, .slice A0_1 l0_1.length c0_1, .int .i64 a0_2] 67 (0, 0)) (ybz BK464.out) hb); replace HB := yam (below_step yhb hb); (try clear hb); (try clear hb2); (try clear hk); (try clear hi)))
   go_meet
   case rel => exact ⟨_, (true), yeq, H', ⟨by first | omega | exact Nat.le_refl _⟩, ⟨by (with_reducible repeat (first | refine ybn ?_ _ | refine ybd ?_ | refine yba ?_ _)); exact BK464.out⟩, ⟨yhb⟩⟩
  subst c7
  have H1 : ((impl_MasksValid.f k l1 a2).bind fun t466 => (impl_RuleMasks.j0 k l1 (!t466) a0_0 l0_1 a0_2)) = some r := by rw [if_pos rfl] at H; exact H
  clear H
  have H := H1
  clear H1
  replace H := Option.bind_eq_some_iff.mp H
  obtain ⟨t466, A80, H⟩ := H
  try dsimp only at H
  have A8 := yam A80
  clear A80
  have H' := yam H
  clear H
  obtain ⟨hcz9_0, hcz9_1, hcz9_2, hfz9_0, hfz9_1, hfz9_2⟩ := ybc BK464.out
  go_wp2_with (first | (refine goesL_ (some 12) rfl rfl Try.func70 (by kernel_rfl) rfl #[.agg #[.int .i64 a0_0, .slice A0_1 l0_1.length c0_1, .int .i64 a0_2], .int .i64 a2] rfl ymd ?_; (with_reducible refine (impl_RuleValid.calls k a0_0 _ _ l0_1 a0_2 a2 true _ ?side1 ?side2 A6.out).mono ?_); (case side1 => exact Kd.Cz ((Kd.C_below HR0_1.out HB.out))); (case side2 => exact HC0_1.out); rintro e w10 ⟨rfl, hb⟩; refine ⟨_, rfl, ?_⟩; replace BK464 := yam (blk_below (g := gb464) (o := .cells #[.int .i64 a0_0, .slice A0_1 l0_1.length c0_1, .int .i64 a0_2] 67 (0, 0)) (ybz BK464.out) hb); replace HB := yam (below_step yhb hb); (try clear hb); (try clear hb2); (try clear hk); (try clear hi)) | (go_at_call 63; (with_reducible refine (impl_MasksValid.calls k _ _ l1 a2 t466 _ ?side1 ?side2 A8.out).mono ?_); (case side1 => exact Kd.Cz ((Kd.C_below HR1.out HB.out))); (case side2 => exact HC1.out); rintro e w' ⟨rfl, ⟨nd, rfl⟩⟩))
  go_meet
  case rel => exact ⟨_, (!t466), yeq, H', ⟨by first | omega | exact Nat.le_refl _⟩, ⟨by (with_reducible repeat (first | refine ybn ?_ _ | refine ybd ?_ | refine yba ?_ _)); exact BK464.out⟩, ⟨yhb⟩⟩
 case rest =>
  clear HC4
  try clear c1
  try clear p2
  try clear c7
  try clear c8
  try clear hcz11_0
  try clear hcz11_1
  try clear hcz11_2
  try clear hcz9_0
  try clear hcz9_1
  try clear hcz9_2
  try clear hfz11_0
  try clear hfz11_1
  try clear hfz11_2
  try clear hfz9_0
  try clear hfz9_1
  try clear hfz9_2
  obtain ⟨kq, x19_3, rfl, HA, HJ3, BK464, HB⟩ := hcut
  cases kq with
  | zero => exact absurd HA.out (by simp [impl_RuleMasks.j0])
  | succ kj3 =>
   have H := HA.out
   clear HA
   simp only [impl_RuleMasks.j0] at H
   by_cases c13 : x19_3 = true
   ·subst c13
    have H1 : (some ([] : List Int)) = some r := by rw [if_pos rfl] at H; exact H
    clear H
    have H := H1
    clear H1
    obtain rfl := Option.some.inj H
    go_wp2
    go_ret
    exact ⟨_, yer, by first | exact Kd.R_nil _ _ _ _ _ | exact Kd.N_nil _ _ _ _ _ | exact Kd.V_nil _ _ _ _ _ | exact Kd.Q_nil _ _ _ _ _ | exact Kd.S_nil _ _ _ _ _, yhb⟩
   replace c13 := Bool.eq_false_iff.mpr c13
   subst c13
   have H1 : (impl_RuleMasks.l0 kj3 l1 (([] : List Int)) l0_1 (l0_1.length : Int) 0 a0_0 l0_1 a0_2) = some r := by rw [if_neg (show ¬ (false = true) by decide)] at H; exact H
   clear H
   have H := H1
   clear H1
   obtain ⟨y467, hy467⟩ : ∃ y_ : List Int, y_ = (([] : List Int)) := ⟨_, rfl⟩
   replace H : (impl_RuleMasks.l0 kj3 l1 y467 l0_1 (l0_1.length : Int) 0 a0_0 l0_1 a0_2) = some r := by first | (rw [hy467]; with_reducible exact H) | (have H2_ := (Option.bind_some _ _).symm.trans H; rw [hy467]; with_reducible exact H2_) | (have H2_ := (Option.bind_some _ _).symm.trans H; with_reducible exact H2_) | with_reducible exact H | (rw [hy467]; exact H) | exact H
   have Ny467 := yam hy467
   clear hy467
   have H' := yam H
   clear H
   go_wp2_with (first | ((with_reducible refine gate_dst (N := 20) rfl ?_); refine Kd.R_lit (Kd.int .i64) _ 3 ?hg (N := 20) ?hd (xs := ([] : List Int)) (inner := []) (ok := fun _ => True) (okp := fun _ => True) ?hr ?hp (fun _ hk => hk) trivial (Below.refl _ _) (Nat.le_refl _) (by simp) ?_; (case hd => rfl); (case hg => rfl); (case hr => first | (go_simp; done) | (go_simp; rfl)); (case hp => exact (Reps.none _ _)); intro v468 w14 ho15 hb hg_ hnew_; clear hg_ hnew_; (first | rw [← Ny467.out] at ho15 | (simp only [Int.reduceToNat] at ho15; rw [← Ny467.out] at ho15)); have HO469 := yam (Kd.R_lower ho15 (below_size yhb)); replace BK464 := yam (blk_below (g := gb464) (o := .cells #[.int .i64 a0_0, .slice A0_1 l0_1.length c0_1, .int .i64 a0_2] 67 (0, 0)) (ybz BK464.out) hb); replace HB := yam (below_step yhb hb); clear hb ho15; obtain ⟨hcz16_0, hcz16_1, hcz16_2, hfz16_0, hfz16_1, hfz16_2⟩ := ybc BK464.out))
   go_loopg [7, 24] kj3 (fun kq v7 v24 w' => ∃ (x7_2 : List Int) (x24_2 : Int), v24 = .int .i64 x24_2 ∧ Aside0 (impl_RuleMasks.l0 kq l1 x7_2 l0_1 (l0_1.length : Int) x24_2 a0_0 l0_1 a0_2 = some r) ∧ Aside0 (kq ≤ kj3) ∧ Aside0 (Kd.R (Kd.int .i64) 3 w' w.heap.size (fun _ => True) v7 x7_2) ∧ Aside0 (w'.heap[gb464]? = some (.cells #[.int .i64 a0_0, (.slice A0_1 l0_1.length c0_1), .int .i64 a0_2] 67 (0, 0))) ∧ Aside0 (Below w.heap.size w w'))
   case atStart => exact ⟨(y467), (0), yeq, H', ⟨Nat.le_refl _⟩, ⟨yka HO469.out⟩, ⟨by (with_reducible repeat (first | refine ybn ?_ _ | refine ybd ?_ | refine yba ?_ _)); exact BK464.out⟩, ⟨yhb⟩⟩
   case round =>
    clear H'
    try clear c1
    try clear p2
    try clear c7
    try clear c8
    try clear c13
    try clear hcz11_0
    try clear hcz11_1
    try clear hcz11_2
    try clear hcz16_0
    try clear hcz16_1
    try clear hcz16_2
    try clear hcz9_0
    try clear hcz9_1
    try clear hcz9_2
    try clear hfz11_0
    try clear hfz11_1
    try clear hfz11_2
    try clear hfz16_0
    try clear hfz16_1
    try clear hfz16_2
    try clear hfz9_0
    try clear hfz9_1
    try clear hfz9_2
    try clear p2
    obtain ⟨x7_2, x24_2, rfl, HA, HK2, HO_7, BK464, HB⟩ := hrel
    cases gk with
    | zero => exact absurd HA.out (by simp [impl_RuleMasks.l0])
    | succ k2 =>
     have H := HA.out
     clear HA
     simp only [impl_RuleMasks.l0] at H
     by_cases c17 : x24_2 < (l0_1.length : Int)
     rotate_left
     ·rw [if_neg c17] at H
      have c17b0 : decide (x24_2 < (l0_1.length : Int)) = false := decide_eq_false c17
      clear c17
      replace H := Option.bind_eq_some_iff.mp H
      obtain ⟨t475, A240, H⟩ := H
      try dsimp only at H
      have A24 := yam A240
      clear A240
      obtain rfl := Option.some.inj H
      obtain ⟨hcz25_0, hcz25_1, hcz25_2, hfz25_0, hfz25_1, hfz25_2⟩ := ybc BK464.out
      obtain ⟨Ao26, co26, eo26⟩ := Kd.R_slice HO_7.out
      subst eo26
      go_wp2_with (first | (refine goesL_ (some 38) rfl rfl Try.func91 (by kernel_rfl) rfl #[.agg #[.int .i64 a0_0, .slice A0_1 l0_1.length c0_1, .int .i64 a0_2], .slice Ao26 x7_2.length co26] rfl ymd ?_; (with_reducible refine (impl_ruleMasks.calls k2 a0_0 _ _ l0_1 a0_2 _ _ x7_2 t475 _ ?side1 ?side2 ?side3 ?side4 A24.out).mono ?_); (case side1 => exact Kd.Cz ((Kd.C_below HR0_1.out HB.out))); (case side2 => exact HC0_1.out); (case side3 => repeat (first | exact (Kd.Yr HO_7.out).2.2 | (with_reducible refine Kd.C_alloc ?_ _) | (with_reducible refine Kd.C_drewN ?_ _) | (with_reducible refine Kd.C_drew ?_))); (case side4 => exact (Kd.Yr HO_7.out).2.1); rintro e w27 ⟨v476, rfl, ho0, hb⟩; refine ⟨_, rfl, ?_⟩; have HO477 := yam (Kd.R_lower (Kd.Yw ho0 (Kd.R_lt (Kd.Yz HO_7.out))) (below_size yhb)); replace HO_7 := yam (Kd.Ye (Kd.Yz HO_7.out) (Kd.Yb ho0) hb); replace BK464 := yam (blk_below (g := gb464) (o := .cells #[.int .i64 a0_0, .slice A0_1 l0_1.length c0_1, .int .i64 a0_2] 67 (0, 0)) (ybz BK464.out) hb); replace HB := yam (below_step yhb hb); (try clear hb); (try clear hb2); (try clear hk); (try clear hi); (try clear ho0)))
      go_ret
      exact ⟨_, yer, by (with_reducible repeat (first | apply Kd.Ya | apply Kd.Yn | apply Kd.Yd)); exact Kd.R_mono HO477.out (fun _ hk => trivial), yhb⟩

     rw [if_pos c17] at H
     have c17b0 : decide (x24_2 < (l0_1.length : Int)) = true := decide_eq_true c17
     clear c17
     replace H := yif H
     obtain ⟨c18b0, H⟩ := H
     replace H := yif H
     obtain ⟨c19b0, H⟩ := H
     replace H := yif H
     obtain ⟨c20b0, H⟩ := H
     replace H := yif H
     obtain ⟨c21b0, H⟩ := H
     replace H := yig H
     obtain ⟨c22, H⟩ := H
     have LMc22 := yam c22
     clear c22
     obtain ⟨y472, hy472⟩ : ∃ y_ : List Int, y_ = (x7_2 ++ [rd l1 (rd l0_1 x24_2)]) := ⟨_, rfl⟩
     replace H : (impl_RuleMasks.l0 k2 l1 y472 l0_1 (l0_1.length : Int) (wrap64 (x24_2 + 1)) a0_0 l0_1 a0_2) = some r := by first | (rw [hy472]; with_reducible exact H) | (have H2_ := (Option.bind_some _ _).symm.trans H; rw [hy472]; with_reducible exact H2_) | (have H2_ := (Option.bind_some _ _).symm.trans H; with_reducible exact H2_) | with_reducible exact H | (rw [hy472]; exact H) | exact H
     have Ny472 := yam hy472
     clear hy472
     have H' := yam H
     clear H
     have p470 : 0 ≤ (x24_2 : Int) := ydt
     have q470 : x24_2 < (l0_1.length : Int) := ydt
     obtain ⟨ad470, e470, hx470_0⟩ := Kd.at_int HR0_1.out x24_2 p470 q470
     cases e470
     replace hx470_0 := ybx HB.out hx470_0
     replace p470 := eq_true p470
     replace q470 := eq_true q470
     have p471 : 0 ≤ ((rd l0_1 x24_2) : Int) := ydt
     have q471 : (rd l0_1 x24_2) < (l1.length : Int) := ydt
     obtain ⟨ad471, e471, hx471_0⟩ := Kd.at_int HR1.out (rd l0_1 x24_2) p471 q471
     cases e471
     replace hx471_0 := ybx HB.out hx471_0
     replace p471 := eq_true p471
     replace q471 := eq_true q471
     go_wp2_with (first | ((with_reducible refine gate_builtin (b := .append) (xs := #[.tmp 28, .tmp 33]) rfl ?_); at_builtin; refine Kd.R_append (Kd.int .i64) (w0 := w) w.heap.size rfl (.tmp 28) (.tmp 33) 22 3 (.int .i64 0) 8 rfl Try.underlying22 info3 rfl (by decide) (by omega) u7 x7_2 (rd l1 (rd l0_1 x24_2)) [.int .i64 (rd l1 (rd l0_1 x24_2))] (fun _ => True) (fun _ => False) rfl rfl ?aP (fun _ hk => hk.elim) ?aF ?aO ?aB ?aS ?aL ?_; (case aP => exact rfl); (case aB => exact yhb); (case aF => exact (fun _ _ => trivial)); (case aO => exact (Kd.Yz HO_7.out)); (case aS => exact (below_size yhb)); (case aL => have := LMc22.out; omega); intro v473 w23 ho hb hg hat; rw [← Ny472.out] at ho; replace BK464 := yam (blk_grown (g := gb464) (o := .cells #[.int .i64 a0_0, .slice (some ad470) l0_1.length c0_1, .int .i64 a0_2] 67 (0, 0)) (ybz BK464.out) hg (Kd.R_ne HO_7.out BK464.out (by decide))); replace HB := yam (hb); have HO474 := yam (ho); clear HO_7; clear ho hb hg hat))
     go_roundg k2
     case measure => have := HJ3.out; have := HK2.out; omega
     case rel => exact ⟨(y472), (wrap64 (x24_2 + 1)), yeq, H', ⟨by have := HJ3.out; have := HK2.out; omega⟩, ⟨yka HO474.out⟩, ⟨by (with_reducible repeat (first | refine ybn ?_ _ | refine ybd ?_ | refine yba ?_ _)); exact BK464.out⟩, ⟨yhb⟩⟩
end Go.Proofs.Ytdemlminhkhonaa.P
