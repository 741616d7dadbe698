/-
  No cell of these rows narrows 'for every input' (looked for: loops, veiled, ifaces, maps, wideKeys, modest, calm, conditions, laid).
  DERIVED. THE GIVEN ROWS OF THIS SEAT. 12 by the template 'for every input the law returns true; each argument reads behind the call as it read before'; 0 by the template 'total and deterministic' (their statements: YtnocdmclcdfppaaTotals.lean).
  GIVEN WITH THE SEED: the statements are not yours to turn. If you find one false, say at which input.
  Laid BY PROGRAM, IN A SANDBOX (cutbox-rows.mjs): the forced cells as the released guide's own fill.sh prints them over the translation cfc9c07b3c897a87… (all of the seat's roots in one cut). By AI agents, Wed Nov 11 2026. No macro, syntax, notation, axiom, sorry.
-/
import Derived.Test.YtnocdmclcdfppaaChecked
import GoSem.Claim
import GoSem.ClaimJoined
import GoSem.ClaimMapViews
import Derived.JoinedTies
import Derived.KernelRfl
namespace Go.Proofs.Ytnocdmclcdfppaa
/- THE CELL 'sum', in the pinned program and in every row, IS THE sha256 OF THE DUMP (.gsa) THAT YtnocdmclcdfppaaProg.lean LOADS. Nothing in Lean hashes anything: it is a label: what it is worth is what the hold of that sum in a sandbox is worth. -/
noncomputable def Try.pinned : Pinned := { name := "ytnocdmclcdfppaa", sum := "cfc9c07b3c897a875ff96835fc03b6e18294d15f1034a75bd515a2047138ddaf", checked := Try.checked }
namespace Rows
def none {H : Type} : Left H := { results := [], args := [] }

/-- 'laws.FnLineCells': WHATEVER THE INPUT: true; the input reads as it did. -/
def fnLineCellsSpec : ChangeSpec := { name := "fnLineCells", fn := fun _ => fun
  | [d] => { results := [.lit (.bool true)], args := [d] }
  | _ => none }
def fnLineCellsRow : OpenClaim := { program := "ytnocdmclcdfppaa", sum := "cfc9c07b3c897a875ff96835fc03b6e18294d15f1034a75bd515a2047138ddaf", func := "loop.example/gridpuzzles/laws.FnLineCells", spec := "fnLineCells", apart := false }
def FnLineCellsSaid : Prop := fnLineCellsRow.holds Try.pinned (OpenSpec.ofChange fnLineCellsSpec)

/-- ITS FALSE NEIGHBOUR: 'it returns false'. Refute it at one input. -/
def fnLineCellsWrong : ChangeSpec := { name := "fnLineCells", fn := fun _ => fun
  | [d] => { results := [.lit (.bool false)], args := [d] }
  | _ => none }
def FnLineCellsWrongFalsely : Prop := fnLineCellsRow.holds Try.pinned (OpenSpec.ofChange fnLineCellsWrong)

/-- 'laws.FnSquareOf': WHATEVER THE INPUT: true; the input reads as it did. -/
def fnSquareOfSpec : ChangeSpec := { name := "fnSquareOf", fn := fun _ => fun
  | [d] => { results := [.lit (.bool true)], args := [d] }
  | _ => none }
def fnSquareOfRow : OpenClaim := { program := "ytnocdmclcdfppaa", sum := "cfc9c07b3c897a875ff96835fc03b6e18294d15f1034a75bd515a2047138ddaf", func := "loop.example/gridpuzzles/laws.FnSquareOf", spec := "fnSquareOf", apart := false }
def FnSquareOfSaid : Prop := fnSquareOfRow.holds Try.pinned (OpenSpec.ofChange fnSquareOfSpec)

/-- ITS FALSE NEIGHBOUR: 'it returns false'. Refute it at one input. -/
def fnSquareOfWrong : ChangeSpec := { name := "fnSquareOf", fn := fun _ => fun
  | [d] => { results := [.lit (.bool false)], args := [d] }
  | _ => none }
def FnSquareOfWrongFalsely : Prop := fnSquareOfRow.holds Try.pinned (OpenSpec.ofChange fnSquareOfWrong)

/-- 'laws.FnGridValid': WHATEVER THE INPUT: true; the input reads as it did. -/
def fnGridValidSpec : ChangeSpec := { name := "fnGridValid", fn := fun _ => fun
  | [d] => { results := [.lit (.bool true)], args := [d] }
  | _ => none }
def fnGridValidRow : OpenClaim := { program := "ytnocdmclcdfppaa", sum := "cfc9c07b3c897a875ff96835fc03b6e18294d15f1034a75bd515a2047138ddaf", func := "loop.example/gridpuzzles/laws.FnGridValid", spec := "fnGridValid", recurses := true, apart := false }
def FnGridValidSaid : Prop := fnGridValidRow.holds Try.pinned (OpenSpec.ofChange fnGridValidSpec)

/-- ITS FALSE NEIGHBOUR: 'it returns false'. Refute it at one input. -/
def fnGridValidWrong : ChangeSpec := { name := "fnGridValid", fn := fun _ => fun
  | [d] => { results := [.lit (.bool false)], args := [d] }
  | _ => none }
def FnGridValidWrongFalsely : Prop := fnGridValidRow.holds Try.pinned (OpenSpec.ofChange fnGridValidWrong)

/-- 'laws.FnGridFilled': WHATEVER THE INPUT: true; the input reads as it did. -/
def fnGridFilledSpec : ChangeSpec := { name := "fnGridFilled", fn := fun _ => fun
  | [d] => { results := [.lit (.bool true)], args := [d] }
  | _ => none }
def fnGridFilledRow : OpenClaim := { program := "ytnocdmclcdfppaa", sum := "cfc9c07b3c897a875ff96835fc03b6e18294d15f1034a75bd515a2047138ddaf", func := "loop.example/gridpuzzles/laws.FnGridFilled", spec := "fnGridFilled", recurses := true, apart := false }
def FnGridFilledSaid : Prop := fnGridFilledRow.holds Try.pinned (OpenSpec.ofChange fnGridFilledSpec)

/-- ITS FALSE NEIGHBOUR: 'it returns false'. Refute it at one input. -/
def fnGridFilledWrong : ChangeSpec := { name := "fnGridFilled", fn := fun _ => fun
  | [d] => { results := [.lit (.bool false)], args := [d] }
  | _ => none }
def FnGridFilledWrongFalsely : Prop := fnGridFilledRow.holds Try.pinned (OpenSpec.ofChange fnGridFilledWrong)

/-- 'laws.FnGridTurn': WHATEVER THE INPUT: true; the input reads as it did. -/
def fnGridTurnSpec : ChangeSpec := { name := "fnGridTurn", fn := fun _ => fun
  | [d] => { results := [.lit (.bool true)], args := [d] }
  | _ => none }
def fnGridTurnRow : OpenClaim := { program := "ytnocdmclcdfppaa", sum := "cfc9c07b3c897a875ff96835fc03b6e18294d15f1034a75bd515a2047138ddaf", func := "loop.example/gridpuzzles/laws.FnGridTurn", spec := "fnGridTurn", recurses := true, apart := false }
def FnGridTurnSaid : Prop := fnGridTurnRow.holds Try.pinned (OpenSpec.ofChange fnGridTurnSpec)

/-- ITS FALSE NEIGHBOUR: 'it returns false'. Refute it at one input. -/
def fnGridTurnWrong : ChangeSpec := { name := "fnGridTurn", fn := fun _ => fun
  | [d] => { results := [.lit (.bool false)], args := [d] }
  | _ => none }
def FnGridTurnWrongFalsely : Prop := fnGridTurnRow.holds Try.pinned (OpenSpec.ofChange fnGridTurnWrong)

/-- 'laws.FnGridMirror': WHATEVER THE INPUT: true; the input reads as it did. -/
def fnGridMirrorSpec : ChangeSpec := { name := "fnGridMirror", fn := fun _ => fun
  | [d] => { results := [.lit (.bool true)], args := [d] }
  | _ => none }
def fnGridMirrorRow : OpenClaim := { program := "ytnocdmclcdfppaa", sum := "cfc9c07b3c897a875ff96835fc03b6e18294d15f1034a75bd515a2047138ddaf", func := "loop.example/gridpuzzles/laws.FnGridMirror", spec := "fnGridMirror", recurses := true, apart := false }
def FnGridMirrorSaid : Prop := fnGridMirrorRow.holds Try.pinned (OpenSpec.ofChange fnGridMirrorSpec)

/-- ITS FALSE NEIGHBOUR: 'it returns false'. Refute it at one input. -/
def fnGridMirrorWrong : ChangeSpec := { name := "fnGridMirror", fn := fun _ => fun
  | [d] => { results := [.lit (.bool false)], args := [d] }
  | _ => none }
def FnGridMirrorWrongFalsely : Prop := fnGridMirrorRow.holds Try.pinned (OpenSpec.ofChange fnGridMirrorWrong)

/-- 'laws.FnSquareFits': WHATEVER THE INPUT: true; the input reads as it did. -/
def fnSquareFitsSpec : ChangeSpec := { name := "fnSquareFits", fn := fun _ => fun
  | [d] => { results := [.lit (.bool true)], args := [d] }
  | _ => none }
def fnSquareFitsRow : OpenClaim := { program := "ytnocdmclcdfppaa", sum := "cfc9c07b3c897a875ff96835fc03b6e18294d15f1034a75bd515a2047138ddaf", func := "loop.example/gridpuzzles/laws.FnSquareFits", spec := "fnSquareFits", recurses := true, apart := false }
def FnSquareFitsSaid : Prop := fnSquareFitsRow.holds Try.pinned (OpenSpec.ofChange fnSquareFitsSpec)

/-- ITS FALSE NEIGHBOUR: 'it returns false'. Refute it at one input. -/
def fnSquareFitsWrong : ChangeSpec := { name := "fnSquareFits", fn := fun _ => fun
  | [d] => { results := [.lit (.bool false)], args := [d] }
  | _ => none }
def FnSquareFitsWrongFalsely : Prop := fnSquareFitsRow.holds Try.pinned (OpenSpec.ofChange fnSquareFitsWrong)

/-- 'laws.FnTurnCandidates': WHATEVER THE INPUT: true; the input reads as it did. -/
def fnTurnCandidatesSpec : ChangeSpec := { name := "fnTurnCandidates", fn := fun _ => fun
  | [d] => { results := [.lit (.bool true)], args := [d] }
  | _ => none }
def fnTurnCandidatesRow : OpenClaim := { program := "ytnocdmclcdfppaa", sum := "cfc9c07b3c897a875ff96835fc03b6e18294d15f1034a75bd515a2047138ddaf", func := "loop.example/gridpuzzles/laws.FnTurnCandidates", spec := "fnTurnCandidates", recurses := true, apart := false }
def FnTurnCandidatesSaid : Prop := fnTurnCandidatesRow.holds Try.pinned (OpenSpec.ofChange fnTurnCandidatesSpec)

/-- ITS FALSE NEIGHBOUR: 'it returns false'. Refute it at one input. -/
def fnTurnCandidatesWrong : ChangeSpec := { name := "fnTurnCandidates", fn := fun _ => fun
  | [d] => { results := [.lit (.bool false)], args := [d] }
  | _ => none }
def FnTurnCandidatesWrongFalsely : Prop := fnTurnCandidatesRow.holds Try.pinned (OpenSpec.ofChange fnTurnCandidatesWrong)

/-- 'laws.FnGridSwap': WHATEVER THE INPUT: true; the input reads as it did. -/
def fnGridSwapSpec : ChangeSpec := { name := "fnGridSwap", fn := fun _ => fun
  | [d] => { results := [.lit (.bool true)], args := [d] }
  | _ => none }
def fnGridSwapRow : OpenClaim := { program := "ytnocdmclcdfppaa", sum := "cfc9c07b3c897a875ff96835fc03b6e18294d15f1034a75bd515a2047138ddaf", func := "loop.example/gridpuzzles/laws.FnGridSwap", spec := "fnGridSwap", recurses := true, apart := false }
def FnGridSwapSaid : Prop := fnGridSwapRow.holds Try.pinned (OpenSpec.ofChange fnGridSwapSpec)

/-- ITS FALSE NEIGHBOUR: 'it returns false'. Refute it at one input. -/
def fnGridSwapWrong : ChangeSpec := { name := "fnGridSwap", fn := fun _ => fun
  | [d] => { results := [.lit (.bool false)], args := [d] }
  | _ => none }
def FnGridSwapWrongFalsely : Prop := fnGridSwapRow.holds Try.pinned (OpenSpec.ofChange fnGridSwapWrong)

/-- 'laws.FnMissingIn': WHATEVER THE INPUT: true; the input reads as it did. -/
def fnMissingInSpec : ChangeSpec := { name := "fnMissingIn", fn := fun _ => fun
  | [d] => { results := [.lit (.bool true)], args := [d] }
  | _ => none }
def fnMissingInRow : OpenClaim := { program := "ytnocdmclcdfppaa", sum := "cfc9c07b3c897a875ff96835fc03b6e18294d15f1034a75bd515a2047138ddaf", func := "loop.example/gridpuzzles/laws.FnMissingIn", spec := "fnMissingIn", unfollowed := true, recurses := true, apart := false }
def FnMissingInSaid : Prop := fnMissingInRow.holds Try.pinned (OpenSpec.ofChange fnMissingInSpec)

/-- ITS FALSE NEIGHBOUR: 'it returns false'. Refute it at one input. -/
def fnMissingInWrong : ChangeSpec := { name := "fnMissingIn", fn := fun _ => fun
  | [d] => { results := [.lit (.bool false)], args := [d] }
  | _ => none }
def FnMissingInWrongFalsely : Prop := fnMissingInRow.holds Try.pinned (OpenSpec.ofChange fnMissingInWrong)

/-- 'laws.FnSquareSolved': WHATEVER THE INPUT: true; the input reads as it did. -/
def fnSquareSolvedSpec : ChangeSpec := { name := "fnSquareSolved", fn := fun _ => fun
  | [d] => { results := [.lit (.bool true)], args := [d] }
  | _ => none }
def fnSquareSolvedRow : OpenClaim := { program := "ytnocdmclcdfppaa", sum := "cfc9c07b3c897a875ff96835fc03b6e18294d15f1034a75bd515a2047138ddaf", func := "loop.example/gridpuzzles/laws.FnSquareSolved", spec := "fnSquareSolved", unfollowed := true, recurses := true, apart := false }
def FnSquareSolvedSaid : Prop := fnSquareSolvedRow.holds Try.pinned (OpenSpec.ofChange fnSquareSolvedSpec)

/-- ITS FALSE NEIGHBOUR: 'it returns false'. Refute it at one input. -/
def fnSquareSolvedWrong : ChangeSpec := { name := "fnSquareSolved", fn := fun _ => fun
  | [d] => { results := [.lit (.bool false)], args := [d] }
  | _ => none }
def FnSquareSolvedWrongFalsely : Prop := fnSquareSolvedRow.holds Try.pinned (OpenSpec.ofChange fnSquareSolvedWrong)

/-- 'laws.FnSwapMissing': WHATEVER THE INPUT: true; the input reads as it did. -/
def fnSwapMissingSpec : ChangeSpec := { name := "fnSwapMissing", fn := fun _ => fun
  | [d] => { results := [.lit (.bool true)], args := [d] }
  | _ => none }
def fnSwapMissingRow : OpenClaim := { program := "ytnocdmclcdfppaa", sum := "cfc9c07b3c897a875ff96835fc03b6e18294d15f1034a75bd515a2047138ddaf", func := "loop.example/gridpuzzles/laws.FnSwapMissing", spec := "fnSwapMissing", unfollowed := true, recurses := true, apart := false }
def FnSwapMissingSaid : Prop := fnSwapMissingRow.holds Try.pinned (OpenSpec.ofChange fnSwapMissingSpec)

/-- ITS FALSE NEIGHBOUR: 'it returns false'. Refute it at one input. -/
def fnSwapMissingWrong : ChangeSpec := { name := "fnSwapMissing", fn := fun _ => fun
  | [d] => { results := [.lit (.bool false)], args := [d] }
  | _ => none }
def FnSwapMissingWrongFalsely : Prop := fnSwapMissingRow.holds Try.pinned (OpenSpec.ofChange fnSwapMissingWrong)

/- THE SECOND FORM. 'bulk': how many values and letters a reading holds, each counted each time it is reached (what is shared counts as often as it is met; a slice's spare places count too). A statement '..UptoSaid' is the law's where the arguments, and the package variables that the reading takes, are together of bulk at most 1048576: NARROWER than '..Said'. Prove '..Said' where nothing that the law and all that it calls make is longer than what came in: it says more and counts as full. Else prove '..UptoSaid'. A law counts once. -/
mutual
def uptoBulk {H : Type} : DataW H → Nat
  | .lit (.string bytes) => bytes.length + 1
  | .lit _ => 1
  | .nil => 1
  | .ptr d => uptoBulk d + 1
  | .slice elems spare => uptoBulkAll elems + uptoBulkAll spare + 1
  | .agg parts => uptoBulkAll parts + 1
  | .iface _ d => uptoBulk d + 1
  | .map entries => uptoBulkEntries entries + 1
  | .held _ => 1
def uptoBulkAll {H : Type} : List (DataW H) → Nat
  | [] => 0
  | d :: r => uptoBulk d + uptoBulkAll r
def uptoBulkEntries {H : Type} : List (Lit × DataW H) → Nat
  | [] => 0
  | x :: r => uptoBulkEntry x + uptoBulkEntries r
def uptoBulkEntry {H : Type} : Lit × DataW H → Nat
  | (.string bytes, d) => bytes.length + uptoBulk d + 1
  | (_, d) => uptoBulk d + 1
 end
def uptoSmall : (H : Type) → List (DataW H) → Bool := fun _ ds => decide (uptoBulkAll ds ≤ 1048576)
def OpenSpec.upto (s : _root_.Go.ChangeSpec) : _root_.Go.OpenSpec := { _root_.Go.OpenSpec.ofChange s with cond := some uptoSmall }

/-- 'laws.FnLineCells', WHERE WHAT IT READS IS OF BULK AT MOST 1048576: true; the input reads as it did. -/
def fnLineCellsUptoRow : OpenClaim := { program := "ytnocdmclcdfppaa", sum := "cfc9c07b3c897a875ff96835fc03b6e18294d15f1034a75bd515a2047138ddaf", func := "loop.example/gridpuzzles/laws.FnLineCells", spec := "fnLineCells", apart := false, narrowed := true }
def FnLineCellsUptoSaid : Prop := fnLineCellsUptoRow.holds Try.pinned (OpenSpec.upto fnLineCellsSpec)

/-- 'laws.FnSquareOf', WHERE WHAT IT READS IS OF BULK AT MOST 1048576: true; the input reads as it did. -/
def fnSquareOfUptoRow : OpenClaim := { program := "ytnocdmclcdfppaa", sum := "cfc9c07b3c897a875ff96835fc03b6e18294d15f1034a75bd515a2047138ddaf", func := "loop.example/gridpuzzles/laws.FnSquareOf", spec := "fnSquareOf", apart := false, narrowed := true }
def FnSquareOfUptoSaid : Prop := fnSquareOfUptoRow.holds Try.pinned (OpenSpec.upto fnSquareOfSpec)

/-- 'laws.FnGridValid', WHERE WHAT IT READS IS OF BULK AT MOST 1048576: true; the input reads as it did. -/
def fnGridValidUptoRow : OpenClaim := { program := "ytnocdmclcdfppaa", sum := "cfc9c07b3c897a875ff96835fc03b6e18294d15f1034a75bd515a2047138ddaf", func := "loop.example/gridpuzzles/laws.FnGridValid", spec := "fnGridValid", recurses := true, apart := false, narrowed := true }
def FnGridValidUptoSaid : Prop := fnGridValidUptoRow.holds Try.pinned (OpenSpec.upto fnGridValidSpec)

/-- 'laws.FnGridFilled', WHERE WHAT IT READS IS OF BULK AT MOST 1048576: true; the input reads as it did. -/
def fnGridFilledUptoRow : OpenClaim := { program := "ytnocdmclcdfppaa", sum := "cfc9c07b3c897a875ff96835fc03b6e18294d15f1034a75bd515a2047138ddaf", func := "loop.example/gridpuzzles/laws.FnGridFilled", spec := "fnGridFilled", recurses := true, apart := false, narrowed := true }
def FnGridFilledUptoSaid : Prop := fnGridFilledUptoRow.holds Try.pinned (OpenSpec.upto fnGridFilledSpec)

/-- 'laws.FnGridTurn', WHERE WHAT IT READS IS OF BULK AT MOST 1048576: true; the input reads as it did. -/
def fnGridTurnUptoRow : OpenClaim := { program := "ytnocdmclcdfppaa", sum := "cfc9c07b3c897a875ff96835fc03b6e18294d15f1034a75bd515a2047138ddaf", func := "loop.example/gridpuzzles/laws.FnGridTurn", spec := "fnGridTurn", recurses := true, apart := false, narrowed := true }
def FnGridTurnUptoSaid : Prop := fnGridTurnUptoRow.holds Try.pinned (OpenSpec.upto fnGridTurnSpec)

/-- 'laws.FnGridMirror', WHERE WHAT IT READS IS OF BULK AT MOST 1048576: true; the input reads as it did. -/
def fnGridMirrorUptoRow : OpenClaim := { program := "ytnocdmclcdfppaa", sum := "cfc9c07b3c897a875ff96835fc03b6e18294d15f1034a75bd515a2047138ddaf", func := "loop.example/gridpuzzles/laws.FnGridMirror", spec := "fnGridMirror", recurses := true, apart := false, narrowed := true }
def FnGridMirrorUptoSaid : Prop := fnGridMirrorUptoRow.holds Try.pinned (OpenSpec.upto fnGridMirrorSpec)

/-- 'laws.FnSquareFits', WHERE WHAT IT READS IS OF BULK AT MOST 1048576: true; the input reads as it did. -/
def fnSquareFitsUptoRow : OpenClaim := { program := "ytnocdmclcdfppaa", sum := "cfc9c07b3c897a875ff96835fc03b6e18294d15f1034a75bd515a2047138ddaf", func := "loop.example/gridpuzzles/laws.FnSquareFits", spec := "fnSquareFits", recurses := true, apart := false, narrowed := true }
def FnSquareFitsUptoSaid : Prop := fnSquareFitsUptoRow.holds Try.pinned (OpenSpec.upto fnSquareFitsSpec)

/-- 'laws.FnTurnCandidates', WHERE WHAT IT READS IS OF BULK AT MOST 1048576: true; the input reads as it did. -/
def fnTurnCandidatesUptoRow : OpenClaim := { program := "ytnocdmclcdfppaa", sum := "cfc9c07b3c897a875ff96835fc03b6e18294d15f1034a75bd515a2047138ddaf", func := "loop.example/gridpuzzles/laws.FnTurnCandidates", spec := "fnTurnCandidates", recurses := true, apart := false, narrowed := true }
def FnTurnCandidatesUptoSaid : Prop := fnTurnCandidatesUptoRow.holds Try.pinned (OpenSpec.upto fnTurnCandidatesSpec)

/-- 'laws.FnGridSwap', WHERE WHAT IT READS IS OF BULK AT MOST 1048576: true; the input reads as it did. -/
def fnGridSwapUptoRow : OpenClaim := { program := "ytnocdmclcdfppaa", sum := "cfc9c07b3c897a875ff96835fc03b6e18294d15f1034a75bd515a2047138ddaf", func := "loop.example/gridpuzzles/laws.FnGridSwap", spec := "fnGridSwap", recurses := true, apart := false, narrowed := true }
def FnGridSwapUptoSaid : Prop := fnGridSwapUptoRow.holds Try.pinned (OpenSpec.upto fnGridSwapSpec)

/-- 'laws.FnMissingIn', WHERE WHAT IT READS IS OF BULK AT MOST 1048576: true; the input reads as it did. -/
def fnMissingInUptoRow : OpenClaim := { program := "ytnocdmclcdfppaa", sum := "cfc9c07b3c897a875ff96835fc03b6e18294d15f1034a75bd515a2047138ddaf", func := "loop.example/gridpuzzles/laws.FnMissingIn", spec := "fnMissingIn", unfollowed := true, recurses := true, apart := false, narrowed := true }
def FnMissingInUptoSaid : Prop := fnMissingInUptoRow.holds Try.pinned (OpenSpec.upto fnMissingInSpec)

/-- 'laws.FnSquareSolved', WHERE WHAT IT READS IS OF BULK AT MOST 1048576: true; the input reads as it did. -/
def fnSquareSolvedUptoRow : OpenClaim := { program := "ytnocdmclcdfppaa", sum := "cfc9c07b3c897a875ff96835fc03b6e18294d15f1034a75bd515a2047138ddaf", func := "loop.example/gridpuzzles/laws.FnSquareSolved", spec := "fnSquareSolved", unfollowed := true, recurses := true, apart := false, narrowed := true }
def FnSquareSolvedUptoSaid : Prop := fnSquareSolvedUptoRow.holds Try.pinned (OpenSpec.upto fnSquareSolvedSpec)

/-- 'laws.FnSwapMissing', WHERE WHAT IT READS IS OF BULK AT MOST 1048576: true; the input reads as it did. -/
def fnSwapMissingUptoRow : OpenClaim := { program := "ytnocdmclcdfppaa", sum := "cfc9c07b3c897a875ff96835fc03b6e18294d15f1034a75bd515a2047138ddaf", func := "loop.example/gridpuzzles/laws.FnSwapMissing", spec := "fnSwapMissing", unfollowed := true, recurses := true, apart := false, narrowed := true }
def FnSwapMissingUptoSaid : Prop := fnSwapMissingUptoRow.holds Try.pinned (OpenSpec.upto fnSwapMissingSpec)

end Rows
end Go.Proofs.Ytnocdmclcdfppaa
