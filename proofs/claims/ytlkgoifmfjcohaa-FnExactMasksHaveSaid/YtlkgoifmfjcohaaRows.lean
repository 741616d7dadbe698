/-
  No cell of these rows narrows 'for every input' (looked for: loops, veiled, ifaces, maps, wideKeys, modest, calm, conditions, laid).
  DERIVED. THE GIVEN ROWS OF THIS SEAT. 12 by the template 'for every input the law returns true; each argument reads behind the call as it read before'; 0 by the template 'total and deterministic' (their statements: YtlkgoifmfjcohaaTotals.lean).
  GIVEN WITH THE SEED: the statements are not yours to turn. If you find one false, say at which input.
  Laid BY PROGRAM, IN A SANDBOX (cutbox-rows.mjs): the forced cells as the released guide's own fill.sh prints them over the translation 78809bbb345ce14a… (all of the seat's roots in one cut). By AI agents, Wed Nov 11 2026. No macro, syntax, notation, axiom, sorry.
-/
import Derived.Test.YtlkgoifmfjcohaaChecked
import GoSem.Claim
import GoSem.ClaimJoined
import GoSem.ClaimMapViews
import Derived.JoinedTies
import Derived.KernelRfl
namespace Go.Proofs.Ytlkgoifmfjcohaa
/- THE CELL 'sum', in the pinned program and in every row, IS THE sha256 OF THE DUMP (.gsa) THAT YtlkgoifmfjcohaaProg.lean LOADS. Nothing in Lean hashes anything: it is a label: what it is worth is what the hold of that sum in a sandbox is worth. -/
noncomputable def Try.pinned : Pinned := { name := "ytlkgoifmfjcohaa", sum := "78809bbb345ce14abdd399acf9354f76e0e42e9db961a6c708facf5c3e3e4212", checked := Try.checked }
namespace Rows
def none {H : Type} : Left H := { results := [], args := [] }

/-- 'laws.FnExactConstants': WHATEVER THE INPUT: true; the input reads as it did. -/
def fnExactConstantsSpec : ChangeSpec := { name := "fnExactConstants", fn := fun _ => fun
  | [] => { results := [.lit (.bool true)], args := [] }
  | _ => none }
def fnExactConstantsRow : OpenClaim := { program := "ytlkgoifmfjcohaa", sum := "78809bbb345ce14abdd399acf9354f76e0e42e9db961a6c708facf5c3e3e4212", func := "loop.example/gridpuzzles/laws.FnExactConstants", spec := "fnExactConstants", apart := false }
def FnExactConstantsSaid : Prop := fnExactConstantsRow.holds Try.pinned (OpenSpec.ofChange fnExactConstantsSpec)

/-- ITS FALSE NEIGHBOUR: 'it returns false'. Refute it at one input. -/
def fnExactConstantsWrong : ChangeSpec := { name := "fnExactConstants", fn := fun _ => fun
  | [] => { results := [.lit (.bool false)], args := [] }
  | _ => none }
def FnExactConstantsWrongFalsely : Prop := fnExactConstantsRow.holds Try.pinned (OpenSpec.ofChange fnExactConstantsWrong)

/-- 'laws.FnExactGridValid': WHATEVER THE INPUT: true; the input reads as it did. -/
def fnExactGridValidSpec : ChangeSpec := { name := "fnExactGridValid", fn := fun _ => fun
  | [d1, d2] => { results := [.lit (.bool true)], args := [d1, d2] }
  | _ => none }
def fnExactGridValidRow : OpenClaim := { program := "ytlkgoifmfjcohaa", sum := "78809bbb345ce14abdd399acf9354f76e0e42e9db961a6c708facf5c3e3e4212", func := "loop.example/gridpuzzles/laws.FnExactGridValid", spec := "fnExactGridValid", apart := false }
def FnExactGridValidSaid : Prop := fnExactGridValidRow.holds Try.pinned (OpenSpec.ofChange fnExactGridValidSpec)

/-- ITS FALSE NEIGHBOUR: 'it returns false'. Refute it at one input. -/
def fnExactGridValidWrong : ChangeSpec := { name := "fnExactGridValid", fn := fun _ => fun
  | [d1, d2] => { results := [.lit (.bool false)], args := [d1, d2] }
  | _ => none }
def FnExactGridValidWrongFalsely : Prop := fnExactGridValidRow.holds Try.pinned (OpenSpec.ofChange fnExactGridValidWrong)

/-- 'laws.FnExactMasksValid': WHATEVER THE INPUT: true; the input reads as it did. -/
def fnExactMasksValidSpec : ChangeSpec := { name := "fnExactMasksValid", fn := fun _ => fun
  | [d1, d2] => { results := [.lit (.bool true)], args := [d1, d2] }
  | _ => none }
def fnExactMasksValidRow : OpenClaim := { program := "ytlkgoifmfjcohaa", sum := "78809bbb345ce14abdd399acf9354f76e0e42e9db961a6c708facf5c3e3e4212", func := "loop.example/gridpuzzles/laws.FnExactMasksValid", spec := "fnExactMasksValid", apart := false }
def FnExactMasksValidSaid : Prop := fnExactMasksValidRow.holds Try.pinned (OpenSpec.ofChange fnExactMasksValidSpec)

/-- ITS FALSE NEIGHBOUR: 'it returns false'. Refute it at one input. -/
def fnExactMasksValidWrong : ChangeSpec := { name := "fnExactMasksValid", fn := fun _ => fun
  | [d1, d2] => { results := [.lit (.bool false)], args := [d1, d2] }
  | _ => none }
def FnExactMasksValidWrongFalsely : Prop := fnExactMasksValidRow.holds Try.pinned (OpenSpec.ofChange fnExactMasksValidWrong)

/-- 'laws.FnExactSquareOf': WHATEVER THE INPUT: true; the input reads as it did. -/
def fnExactSquareOfSpec : ChangeSpec := { name := "fnExactSquareOf", fn := fun _ => fun
  | [d] => { results := [.lit (.bool true)], args := [d] }
  | _ => none }
def fnExactSquareOfRow : OpenClaim := { program := "ytlkgoifmfjcohaa", sum := "78809bbb345ce14abdd399acf9354f76e0e42e9db961a6c708facf5c3e3e4212", func := "loop.example/gridpuzzles/laws.FnExactSquareOf", spec := "fnExactSquareOf", apart := false }
def FnExactSquareOfSaid : Prop := fnExactSquareOfRow.holds Try.pinned (OpenSpec.ofChange fnExactSquareOfSpec)

/-- ITS FALSE NEIGHBOUR: 'it returns false'. Refute it at one input. -/
def fnExactSquareOfWrong : ChangeSpec := { name := "fnExactSquareOf", fn := fun _ => fun
  | [d] => { results := [.lit (.bool false)], args := [d] }
  | _ => none }
def FnExactSquareOfWrongFalsely : Prop := fnExactSquareOfRow.holds Try.pinned (OpenSpec.ofChange fnExactSquareOfWrong)

/-- 'laws.FnExactMaskValues': WHATEVER THE INPUT: true; the input reads as it did. -/
def fnExactMaskValuesSpec : ChangeSpec := { name := "fnExactMaskValues", fn := fun _ => fun
  | [d] => { results := [.lit (.bool true)], args := [d] }
  | _ => none }
def fnExactMaskValuesRow : OpenClaim := { program := "ytlkgoifmfjcohaa", sum := "78809bbb345ce14abdd399acf9354f76e0e42e9db961a6c708facf5c3e3e4212", func := "loop.example/gridpuzzles/laws.FnExactMaskValues", spec := "fnExactMaskValues", apart := false }
def FnExactMaskValuesSaid : Prop := fnExactMaskValuesRow.holds Try.pinned (OpenSpec.ofChange fnExactMaskValuesSpec)

/-- ITS FALSE NEIGHBOUR: 'it returns false'. Refute it at one input. -/
def fnExactMaskValuesWrong : ChangeSpec := { name := "fnExactMaskValues", fn := fun _ => fun
  | [d] => { results := [.lit (.bool false)], args := [d] }
  | _ => none }
def FnExactMaskValuesWrongFalsely : Prop := fnExactMaskValuesRow.holds Try.pinned (OpenSpec.ofChange fnExactMaskValuesWrong)

/-- 'laws.FnExactLineCells': WHATEVER THE INPUT: true; the input reads as it did. -/
def fnExactLineCellsSpec : ChangeSpec := { name := "fnExactLineCells", fn := fun _ => fun
  | [d1, d2] => { results := [.lit (.bool true)], args := [d1, d2] }
  | _ => none }
def fnExactLineCellsRow : OpenClaim := { program := "ytlkgoifmfjcohaa", sum := "78809bbb345ce14abdd399acf9354f76e0e42e9db961a6c708facf5c3e3e4212", func := "loop.example/gridpuzzles/laws.FnExactLineCells", spec := "fnExactLineCells", apart := false }
def FnExactLineCellsSaid : Prop := fnExactLineCellsRow.holds Try.pinned (OpenSpec.ofChange fnExactLineCellsSpec)

/-- ITS FALSE NEIGHBOUR: 'it returns false'. Refute it at one input. -/
def fnExactLineCellsWrong : ChangeSpec := { name := "fnExactLineCells", fn := fun _ => fun
  | [d1, d2] => { results := [.lit (.bool false)], args := [d1, d2] }
  | _ => none }
def FnExactLineCellsWrongFalsely : Prop := fnExactLineCellsRow.holds Try.pinned (OpenSpec.ofChange fnExactLineCellsWrong)

/-- 'laws.FnExactGridFilled': WHATEVER THE INPUT: true; the input reads as it did. -/
def fnExactGridFilledSpec : ChangeSpec := { name := "fnExactGridFilled", fn := fun _ => fun
  | [d1, d2] => { results := [.lit (.bool true)], args := [d1, d2] }
  | _ => none }
def fnExactGridFilledRow : OpenClaim := { program := "ytlkgoifmfjcohaa", sum := "78809bbb345ce14abdd399acf9354f76e0e42e9db961a6c708facf5c3e3e4212", func := "loop.example/gridpuzzles/laws.FnExactGridFilled", spec := "fnExactGridFilled", apart := false }
def FnExactGridFilledSaid : Prop := fnExactGridFilledRow.holds Try.pinned (OpenSpec.ofChange fnExactGridFilledSpec)

/-- ITS FALSE NEIGHBOUR: 'it returns false'. Refute it at one input. -/
def fnExactGridFilledWrong : ChangeSpec := { name := "fnExactGridFilled", fn := fun _ => fun
  | [d1, d2] => { results := [.lit (.bool false)], args := [d1, d2] }
  | _ => none }
def FnExactGridFilledWrongFalsely : Prop := fnExactGridFilledRow.holds Try.pinned (OpenSpec.ofChange fnExactGridFilledWrong)

/-- 'laws.FnExactGridMirror': WHATEVER THE INPUT: true; the input reads as it did. -/
def fnExactGridMirrorSpec : ChangeSpec := { name := "fnExactGridMirror", fn := fun _ => fun
  | [d1, d2] => { results := [.lit (.bool true)], args := [d1, d2] }
  | _ => none }
def fnExactGridMirrorRow : OpenClaim := { program := "ytlkgoifmfjcohaa", sum := "78809bbb345ce14abdd399acf9354f76e0e42e9db961a6c708facf5c3e3e4212", func := "loop.example/gridpuzzles/laws.FnExactGridMirror", spec := "fnExactGridMirror", apart := false }
def FnExactGridMirrorSaid : Prop := fnExactGridMirrorRow.holds Try.pinned (OpenSpec.ofChange fnExactGridMirrorSpec)

/-- ITS FALSE NEIGHBOUR: 'it returns false'. Refute it at one input. -/
def fnExactGridMirrorWrong : ChangeSpec := { name := "fnExactGridMirror", fn := fun _ => fun
  | [d1, d2] => { results := [.lit (.bool false)], args := [d1, d2] }
  | _ => none }
def FnExactGridMirrorWrongFalsely : Prop := fnExactGridMirrorRow.holds Try.pinned (OpenSpec.ofChange fnExactGridMirrorWrong)

/-- 'laws.FnExactGridTurn': WHATEVER THE INPUT: true; the input reads as it did. -/
def fnExactGridTurnSpec : ChangeSpec := { name := "fnExactGridTurn", fn := fun _ => fun
  | [d1, d2] => { results := [.lit (.bool true)], args := [d1, d2] }
  | _ => none }
def fnExactGridTurnRow : OpenClaim := { program := "ytlkgoifmfjcohaa", sum := "78809bbb345ce14abdd399acf9354f76e0e42e9db961a6c708facf5c3e3e4212", func := "loop.example/gridpuzzles/laws.FnExactGridTurn", spec := "fnExactGridTurn", apart := false }
def FnExactGridTurnSaid : Prop := fnExactGridTurnRow.holds Try.pinned (OpenSpec.ofChange fnExactGridTurnSpec)

/-- ITS FALSE NEIGHBOUR: 'it returns false'. Refute it at one input. -/
def fnExactGridTurnWrong : ChangeSpec := { name := "fnExactGridTurn", fn := fun _ => fun
  | [d1, d2] => { results := [.lit (.bool false)], args := [d1, d2] }
  | _ => none }
def FnExactGridTurnWrongFalsely : Prop := fnExactGridTurnRow.holds Try.pinned (OpenSpec.ofChange fnExactGridTurnWrong)

/-- 'laws.FnMaskValues': WHATEVER THE INPUT: true; the input reads as it did. -/
def fnMaskValuesSpec : ChangeSpec := { name := "fnMaskValues", fn := fun _ => fun
  | [d] => { results := [.lit (.bool true)], args := [d] }
  | _ => none }
def fnMaskValuesRow : OpenClaim := { program := "ytlkgoifmfjcohaa", sum := "78809bbb345ce14abdd399acf9354f76e0e42e9db961a6c708facf5c3e3e4212", func := "loop.example/gridpuzzles/laws.FnMaskValues", spec := "fnMaskValues", apart := false }
def FnMaskValuesSaid : Prop := fnMaskValuesRow.holds Try.pinned (OpenSpec.ofChange fnMaskValuesSpec)

/-- ITS FALSE NEIGHBOUR: 'it returns false'. Refute it at one input. -/
def fnMaskValuesWrong : ChangeSpec := { name := "fnMaskValues", fn := fun _ => fun
  | [d] => { results := [.lit (.bool false)], args := [d] }
  | _ => none }
def FnMaskValuesWrongFalsely : Prop := fnMaskValuesRow.holds Try.pinned (OpenSpec.ofChange fnMaskValuesWrong)

/-- 'laws.FnExactGridSwap': WHATEVER THE INPUT: true; the input reads as it did. -/
def fnExactGridSwapSpec : ChangeSpec := { name := "fnExactGridSwap", fn := fun _ => fun
  | [d1, d2, d3, d4] => { results := [.lit (.bool true)], args := [d1, d2, d3, d4] }
  | _ => none }
def fnExactGridSwapRow : OpenClaim := { program := "ytlkgoifmfjcohaa", sum := "78809bbb345ce14abdd399acf9354f76e0e42e9db961a6c708facf5c3e3e4212", func := "loop.example/gridpuzzles/laws.FnExactGridSwap", spec := "fnExactGridSwap", apart := false }
def FnExactGridSwapSaid : Prop := fnExactGridSwapRow.holds Try.pinned (OpenSpec.ofChange fnExactGridSwapSpec)

/-- ITS FALSE NEIGHBOUR: 'it returns false'. Refute it at one input. -/
def fnExactGridSwapWrong : ChangeSpec := { name := "fnExactGridSwap", fn := fun _ => fun
  | [d1, d2, d3, d4] => { results := [.lit (.bool false)], args := [d1, d2, d3, d4] }
  | _ => none }
def FnExactGridSwapWrongFalsely : Prop := fnExactGridSwapRow.holds Try.pinned (OpenSpec.ofChange fnExactGridSwapWrong)

/-- 'laws.FnExactMasksHave': WHATEVER THE INPUT: true; the input reads as it did. -/
def fnExactMasksHaveSpec : ChangeSpec := { name := "fnExactMasksHave", fn := fun _ => fun
  | [d1, d2, d3] => { results := [.lit (.bool true)], args := [d1, d2, d3] }
  | _ => none }
def fnExactMasksHaveRow : OpenClaim := { program := "ytlkgoifmfjcohaa", sum := "78809bbb345ce14abdd399acf9354f76e0e42e9db961a6c708facf5c3e3e4212", func := "loop.example/gridpuzzles/laws.FnExactMasksHave", spec := "fnExactMasksHave", apart := false }
def FnExactMasksHaveSaid : Prop := fnExactMasksHaveRow.holds Try.pinned (OpenSpec.ofChange fnExactMasksHaveSpec)

/-- ITS FALSE NEIGHBOUR: 'it returns false'. Refute it at one input. -/
def fnExactMasksHaveWrong : ChangeSpec := { name := "fnExactMasksHave", fn := fun _ => fun
  | [d1, d2, d3] => { results := [.lit (.bool false)], args := [d1, d2, d3] }
  | _ => none }
def FnExactMasksHaveWrongFalsely : Prop := fnExactMasksHaveRow.holds Try.pinned (OpenSpec.ofChange fnExactMasksHaveWrong)

/- THE SECOND FORM. 'bulk': how many values and letters a reading holds, each counted each time it is reached (what is shared counts as often as it is met; a slice's spare places count too). A statement '..UptoSaid' is the law's where the arguments, and the package variables that the reading takes, are together of bulk at most 1048576: NARROWER than '..Said'. Prove '..Said' where nothing that the law and all that it calls make is longer than what came in: it says more and counts as full. Else prove '..UptoSaid'. A law counts once. -/
mutual
def uptoBulk {H : Type} : DataW H → Nat
  | .lit (.string bytes) => bytes.length + 1
  | .lit _ => 1
  | .nil => 1
  | .ptr d => uptoBulk d + 1
  | .slice elems spare => uptoBulkAll elems + uptoBulkAll spare + 1
  | .agg parts => uptoBulkAll parts + 1
  | .iface _ d => uptoBulk d + 1
  | .map entries => uptoBulkEntries entries + 1
  | .held _ => 1
def uptoBulkAll {H : Type} : List (DataW H) → Nat
  | [] => 0
  | d :: r => uptoBulk d + uptoBulkAll r
def uptoBulkEntries {H : Type} : List (Lit × DataW H) → Nat
  | [] => 0
  | x :: r => uptoBulkEntry x + uptoBulkEntries r
def uptoBulkEntry {H : Type} : Lit × DataW H → Nat
  | (.string bytes, d) => bytes.length + uptoBulk d + 1
  | (_, d) => uptoBulk d + 1
 end
def uptoSmall : (H : Type) → List (DataW H) → Bool := fun _ ds => decide (uptoBulkAll ds ≤ 1048576)
def OpenSpec.upto (s : _root_.Go.ChangeSpec) : _root_.Go.OpenSpec := { _root_.Go.OpenSpec.ofChange s with cond := some uptoSmall }

/-- 'laws.FnExactConstants', WHERE WHAT IT READS IS OF BULK AT MOST 1048576: true; the input reads as it did. -/
def fnExactConstantsUptoRow : OpenClaim := { program := "ytlkgoifmfjcohaa", sum := "78809bbb345ce14abdd399acf9354f76e0e42e9db961a6c708facf5c3e3e4212", func := "loop.example/gridpuzzles/laws.FnExactConstants", spec := "fnExactConstants", apart := false, narrowed := true }
def FnExactConstantsUptoSaid : Prop := fnExactConstantsUptoRow.holds Try.pinned (OpenSpec.upto fnExactConstantsSpec)

/-- 'laws.FnExactGridValid', WHERE WHAT IT READS IS OF BULK AT MOST 1048576: true; the input reads as it did. -/
def fnExactGridValidUptoRow : OpenClaim := { program := "ytlkgoifmfjcohaa", sum := "78809bbb345ce14abdd399acf9354f76e0e42e9db961a6c708facf5c3e3e4212", func := "loop.example/gridpuzzles/laws.FnExactGridValid", spec := "fnExactGridValid", apart := false, narrowed := true }
def FnExactGridValidUptoSaid : Prop := fnExactGridValidUptoRow.holds Try.pinned (OpenSpec.upto fnExactGridValidSpec)

/-- 'laws.FnExactMasksValid', WHERE WHAT IT READS IS OF BULK AT MOST 1048576: true; the input reads as it did. -/
def fnExactMasksValidUptoRow : OpenClaim := { program := "ytlkgoifmfjcohaa", sum := "78809bbb345ce14abdd399acf9354f76e0e42e9db961a6c708facf5c3e3e4212", func := "loop.example/gridpuzzles/laws.FnExactMasksValid", spec := "fnExactMasksValid", apart := false, narrowed := true }
def FnExactMasksValidUptoSaid : Prop := fnExactMasksValidUptoRow.holds Try.pinned (OpenSpec.upto fnExactMasksValidSpec)

/-- 'laws.FnExactSquareOf', WHERE WHAT IT READS IS OF BULK AT MOST 1048576: true; the input reads as it did. -/
def fnExactSquareOfUptoRow : OpenClaim := { program := "ytlkgoifmfjcohaa", sum := "78809bbb345ce14abdd399acf9354f76e0e42e9db961a6c708facf5c3e3e4212", func := "loop.example/gridpuzzles/laws.FnExactSquareOf", spec := "fnExactSquareOf", apart := false, narrowed := true }
def FnExactSquareOfUptoSaid : Prop := fnExactSquareOfUptoRow.holds Try.pinned (OpenSpec.upto fnExactSquareOfSpec)

/-- 'laws.FnExactMaskValues', WHERE WHAT IT READS IS OF BULK AT MOST 1048576: true; the input reads as it did. -/
def fnExactMaskValuesUptoRow : OpenClaim := { program := "ytlkgoifmfjcohaa", sum := "78809bbb345ce14abdd399acf9354f76e0e42e9db961a6c708facf5c3e3e4212", func := "loop.example/gridpuzzles/laws.FnExactMaskValues", spec := "fnExactMaskValues", apart := false, narrowed := true }
def FnExactMaskValuesUptoSaid : Prop := fnExactMaskValuesUptoRow.holds Try.pinned (OpenSpec.upto fnExactMaskValuesSpec)

/-- 'laws.FnExactLineCells', WHERE WHAT IT READS IS OF BULK AT MOST 1048576: true; the input reads as it did. -/
def fnExactLineCellsUptoRow : OpenClaim := { program := "ytlkgoifmfjcohaa", sum := "78809bbb345ce14abdd399acf9354f76e0e42e9db961a6c708facf5c3e3e4212", func := "loop.example/gridpuzzles/laws.FnExactLineCells", spec := "fnExactLineCells", apart := false, narrowed := true }
def FnExactLineCellsUptoSaid : Prop := fnExactLineCellsUptoRow.holds Try.pinned (OpenSpec.upto fnExactLineCellsSpec)

/-- 'laws.FnExactGridFilled', WHERE WHAT IT READS IS OF BULK AT MOST 1048576: true; the input reads as it did. -/
def fnExactGridFilledUptoRow : OpenClaim := { program := "ytlkgoifmfjcohaa", sum := "78809bbb345ce14abdd399acf9354f76e0e42e9db961a6c708facf5c3e3e4212", func := "loop.example/gridpuzzles/laws.FnExactGridFilled", spec := "fnExactGridFilled", apart := false, narrowed := true }
def FnExactGridFilledUptoSaid : Prop := fnExactGridFilledUptoRow.holds Try.pinned (OpenSpec.upto fnExactGridFilledSpec)

/-- 'laws.FnExactGridMirror', WHERE WHAT IT READS IS OF BULK AT MOST 1048576: true; the input reads as it did. -/
def fnExactGridMirrorUptoRow : OpenClaim := { program := "ytlkgoifmfjcohaa", sum := "78809bbb345ce14abdd399acf9354f76e0e42e9db961a6c708facf5c3e3e4212", func := "loop.example/gridpuzzles/laws.FnExactGridMirror", spec := "fnExactGridMirror", apart := false, narrowed := true }
def FnExactGridMirrorUptoSaid : Prop := fnExactGridMirrorUptoRow.holds Try.pinned (OpenSpec.upto fnExactGridMirrorSpec)

/-- 'laws.FnExactGridTurn', WHERE WHAT IT READS IS OF BULK AT MOST 1048576: true; the input reads as it did. -/
def fnExactGridTurnUptoRow : OpenClaim := { program := "ytlkgoifmfjcohaa", sum := "78809bbb345ce14abdd399acf9354f76e0e42e9db961a6c708facf5c3e3e4212", func := "loop.example/gridpuzzles/laws.FnExactGridTurn", spec := "fnExactGridTurn", apart := false, narrowed := true }
def FnExactGridTurnUptoSaid : Prop := fnExactGridTurnUptoRow.holds Try.pinned (OpenSpec.upto fnExactGridTurnSpec)

/-- 'laws.FnMaskValues', WHERE WHAT IT READS IS OF BULK AT MOST 1048576: true; the input reads as it did. -/
def fnMaskValuesUptoRow : OpenClaim := { program := "ytlkgoifmfjcohaa", sum := "78809bbb345ce14abdd399acf9354f76e0e42e9db961a6c708facf5c3e3e4212", func := "loop.example/gridpuzzles/laws.FnMaskValues", spec := "fnMaskValues", apart := false, narrowed := true }
def FnMaskValuesUptoSaid : Prop := fnMaskValuesUptoRow.holds Try.pinned (OpenSpec.upto fnMaskValuesSpec)

/-- 'laws.FnExactGridSwap', WHERE WHAT IT READS IS OF BULK AT MOST 1048576: true; the input reads as it did. -/
def fnExactGridSwapUptoRow : OpenClaim := { program := "ytlkgoifmfjcohaa", sum := "78809bbb345ce14abdd399acf9354f76e0e42e9db961a6c708facf5c3e3e4212", func := "loop.example/gridpuzzles/laws.FnExactGridSwap", spec := "fnExactGridSwap", apart := false, narrowed := true }
def FnExactGridSwapUptoSaid : Prop := fnExactGridSwapUptoRow.holds Try.pinned (OpenSpec.upto fnExactGridSwapSpec)

/-- 'laws.FnExactMasksHave', WHERE WHAT IT READS IS OF BULK AT MOST 1048576: true; the input reads as it did. -/
def fnExactMasksHaveUptoRow : OpenClaim := { program := "ytlkgoifmfjcohaa", sum := "78809bbb345ce14abdd399acf9354f76e0e42e9db961a6c708facf5c3e3e4212", func := "loop.example/gridpuzzles/laws.FnExactMasksHave", spec := "fnExactMasksHave", apart := false, narrowed := true }
def FnExactMasksHaveUptoSaid : Prop := fnExactMasksHaveUptoRow.holds Try.pinned (OpenSpec.upto fnExactMasksHaveSpec)

end Rows
end Go.Proofs.Ytlkgoifmfjcohaa
