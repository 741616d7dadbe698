/-
  No cell of these rows narrows 'for every input' (looked for: loops, veiled, ifaces, maps, wideKeys, modest, calm, conditions, laid).
  DERIVED. THE GIVEN ROWS OF THIS SEAT. 8 by the template 'for every input the law returns true; each argument reads behind the call as it read before'; 0 by the template 'total and deterministic' (their statements: YtmjbnghhfadapaaTotals.lean).
  GIVEN WITH THE SEED: the statements are not yours to turn. If you find one false, say at which input.
  Laid BY PROGRAM, IN A SANDBOX (cutbox-rows.mjs): the forced cells as the released guide's own fill.sh prints them over the translation 5c397005d6958420… (all of the seat's roots in one cut). By AI agents, Wed Nov 11 2026. No macro, syntax, notation, axiom, sorry.
-/
import Derived.Test.YtmjbnghhfadapaaChecked
import GoSem.Claim
import GoSem.ClaimJoined
import GoSem.ClaimMapViews
import Derived.JoinedTies
import Derived.KernelRfl
namespace Go.Proofs.Ytmjbnghhfadapaa
/- THE CELL 'sum', in the pinned program and in every row, IS THE sha256 OF THE DUMP (.gsa) THAT YtmjbnghhfadapaaProg.lean LOADS. Nothing in Lean hashes anything: it is a label: what it is worth is what the hold of that sum in a sandbox is worth. -/
noncomputable def Try.pinned : Pinned := { name := "ytmjbnghhfadapaa", sum := "5c397005d69584209d782a07a901962333a384e0c85cd66f3f44aaf5f4a88e9d", checked := Try.checked }
namespace Rows
def none {H : Type} : Left H := { results := [], args := [] }

/-- 'laws.FnExactSquareNumber': WHATEVER THE INPUT: true; the input reads as it did. -/
def fnExactSquareNumberSpec : ChangeSpec := { name := "fnExactSquareNumber", fn := fun _ => fun
  | [d1, d2] => { results := [.lit (.bool true)], args := [d1, d2] }
  | _ => none }
def fnExactSquareNumberRow : OpenClaim := { program := "ytmjbnghhfadapaa", sum := "5c397005d69584209d782a07a901962333a384e0c85cd66f3f44aaf5f4a88e9d", func := "loop.example/gridpuzzles/laws.FnExactSquareNumber", spec := "fnExactSquareNumber", unfollowed := true, recurses := true, apart := false }
def FnExactSquareNumberSaid : Prop := fnExactSquareNumberRow.holds Try.pinned (OpenSpec.ofChange fnExactSquareNumberSpec)

/-- ITS FALSE NEIGHBOUR: 'it returns false'. Refute it at one input. -/
def fnExactSquareNumberWrong : ChangeSpec := { name := "fnExactSquareNumber", fn := fun _ => fun
  | [d1, d2] => { results := [.lit (.bool false)], args := [d1, d2] }
  | _ => none }
def FnExactSquareNumberWrongFalsely : Prop := fnExactSquareNumberRow.holds Try.pinned (OpenSpec.ofChange fnExactSquareNumberWrong)

/-- 'laws.FnSquareNumber': WHATEVER THE INPUT: true; the input reads as it did. -/
def fnSquareNumberSpec : ChangeSpec := { name := "fnSquareNumber", fn := fun _ => fun
  | [d] => { results := [.lit (.bool true)], args := [d] }
  | _ => none }
def fnSquareNumberRow : OpenClaim := { program := "ytmjbnghhfadapaa", sum := "5c397005d69584209d782a07a901962333a384e0c85cd66f3f44aaf5f4a88e9d", func := "loop.example/gridpuzzles/laws.FnSquareNumber", spec := "fnSquareNumber", unfollowed := true, recurses := true, apart := false }
def FnSquareNumberSaid : Prop := fnSquareNumberRow.holds Try.pinned (OpenSpec.ofChange fnSquareNumberSpec)

/-- ITS FALSE NEIGHBOUR: 'it returns false'. Refute it at one input. -/
def fnSquareNumberWrong : ChangeSpec := { name := "fnSquareNumber", fn := fun _ => fun
  | [d] => { results := [.lit (.bool false)], args := [d] }
  | _ => none }
def FnSquareNumberWrongFalsely : Prop := fnSquareNumberRow.holds Try.pinned (OpenSpec.ofChange fnSquareNumberWrong)

/-- 'laws.FnExactPuzzleOf': WHATEVER THE INPUT: true; the input reads as it did. -/
def fnExactPuzzleOfSpec : ChangeSpec := { name := "fnExactPuzzleOf", fn := fun _ => fun
  | [d1, d2, d3] => { results := [.lit (.bool true)], args := [d1, d2, d3] }
  | _ => none }
def fnExactPuzzleOfRow : OpenClaim := { program := "ytmjbnghhfadapaa", sum := "5c397005d69584209d782a07a901962333a384e0c85cd66f3f44aaf5f4a88e9d", func := "loop.example/gridpuzzles/laws.FnExactPuzzleOf", spec := "fnExactPuzzleOf", recurses := true, apart := false }
def FnExactPuzzleOfSaid : Prop := fnExactPuzzleOfRow.holds Try.pinned (OpenSpec.ofChange fnExactPuzzleOfSpec)

/-- ITS FALSE NEIGHBOUR: 'it returns false'. Refute it at one input. -/
def fnExactPuzzleOfWrong : ChangeSpec := { name := "fnExactPuzzleOf", fn := fun _ => fun
  | [d1, d2, d3] => { results := [.lit (.bool false)], args := [d1, d2, d3] }
  | _ => none }
def FnExactPuzzleOfWrongFalsely : Prop := fnExactPuzzleOfRow.holds Try.pinned (OpenSpec.ofChange fnExactPuzzleOfWrong)

/-- 'laws.FnExactCountSolutions': WHATEVER THE INPUT: true; the input reads as it did. -/
def fnExactCountSolutionsSpec : ChangeSpec := { name := "fnExactCountSolutions", fn := fun _ => fun
  | [d1, d2] => { results := [.lit (.bool true)], args := [d1, d2] }
  | _ => none }
def fnExactCountSolutionsRow : OpenClaim := { program := "ytmjbnghhfadapaa", sum := "5c397005d69584209d782a07a901962333a384e0c85cd66f3f44aaf5f4a88e9d", func := "loop.example/gridpuzzles/laws.FnExactCountSolutions", spec := "fnExactCountSolutions", unfollowed := true, recurses := true, apart := false }
def FnExactCountSolutionsSaid : Prop := fnExactCountSolutionsRow.holds Try.pinned (OpenSpec.ofChange fnExactCountSolutionsSpec)

/-- ITS FALSE NEIGHBOUR: 'it returns false'. Refute it at one input. -/
def fnExactCountSolutionsWrong : ChangeSpec := { name := "fnExactCountSolutions", fn := fun _ => fun
  | [d1, d2] => { results := [.lit (.bool false)], args := [d1, d2] }
  | _ => none }
def FnExactCountSolutionsWrongFalsely : Prop := fnExactCountSolutionsRow.holds Try.pinned (OpenSpec.ofChange fnExactCountSolutionsWrong)

/-- 'laws.FnExactIsRedundant': WHATEVER THE INPUT: true; the input reads as it did. -/
def fnExactIsRedundantSpec : ChangeSpec := { name := "fnExactIsRedundant", fn := fun _ => fun
  | [d1, d2] => { results := [.lit (.bool true)], args := [d1, d2] }
  | _ => none }
def fnExactIsRedundantRow : OpenClaim := { program := "ytmjbnghhfadapaa", sum := "5c397005d69584209d782a07a901962333a384e0c85cd66f3f44aaf5f4a88e9d", func := "loop.example/gridpuzzles/laws.FnExactIsRedundant", spec := "fnExactIsRedundant", unfollowed := true, recurses := true, apart := false }
def FnExactIsRedundantSaid : Prop := fnExactIsRedundantRow.holds Try.pinned (OpenSpec.ofChange fnExactIsRedundantSpec)

/-- ITS FALSE NEIGHBOUR: 'it returns false'. Refute it at one input. -/
def fnExactIsRedundantWrong : ChangeSpec := { name := "fnExactIsRedundant", fn := fun _ => fun
  | [d1, d2] => { results := [.lit (.bool false)], args := [d1, d2] }
  | _ => none }
def FnExactIsRedundantWrongFalsely : Prop := fnExactIsRedundantRow.holds Try.pinned (OpenSpec.ofChange fnExactIsRedundantWrong)

/-- 'laws.FnExactSolveFirst': WHATEVER THE INPUT: true; the input reads as it did. -/
def fnExactSolveFirstSpec : ChangeSpec := { name := "fnExactSolveFirst", fn := fun _ => fun
  | [d] => { results := [.lit (.bool true)], args := [d] }
  | _ => none }
def fnExactSolveFirstRow : OpenClaim := { program := "ytmjbnghhfadapaa", sum := "5c397005d69584209d782a07a901962333a384e0c85cd66f3f44aaf5f4a88e9d", func := "loop.example/gridpuzzles/laws.FnExactSolveFirst", spec := "fnExactSolveFirst", unfollowed := true, recurses := true, apart := false }
def FnExactSolveFirstSaid : Prop := fnExactSolveFirstRow.holds Try.pinned (OpenSpec.ofChange fnExactSolveFirstSpec)

/-- ITS FALSE NEIGHBOUR: 'it returns false'. Refute it at one input. -/
def fnExactSolveFirstWrong : ChangeSpec := { name := "fnExactSolveFirst", fn := fun _ => fun
  | [d] => { results := [.lit (.bool false)], args := [d] }
  | _ => none }
def FnExactSolveFirstWrongFalsely : Prop := fnExactSolveFirstRow.holds Try.pinned (OpenSpec.ofChange fnExactSolveFirstWrong)

/-- 'laws.FnExactIsMinimal': WHATEVER THE INPUT: true; the input reads as it did. -/
def fnExactIsMinimalSpec : ChangeSpec := { name := "fnExactIsMinimal", fn := fun _ => fun
  | [d] => { results := [.lit (.bool true)], args := [d] }
  | _ => none }
def fnExactIsMinimalRow : OpenClaim := { program := "ytmjbnghhfadapaa", sum := "5c397005d69584209d782a07a901962333a384e0c85cd66f3f44aaf5f4a88e9d", func := "loop.example/gridpuzzles/laws.FnExactIsMinimal", spec := "fnExactIsMinimal", unfollowed := true, recurses := true, apart := false }
def FnExactIsMinimalSaid : Prop := fnExactIsMinimalRow.holds Try.pinned (OpenSpec.ofChange fnExactIsMinimalSpec)

/-- ITS FALSE NEIGHBOUR: 'it returns false'. Refute it at one input. -/
def fnExactIsMinimalWrong : ChangeSpec := { name := "fnExactIsMinimal", fn := fun _ => fun
  | [d] => { results := [.lit (.bool false)], args := [d] }
  | _ => none }
def FnExactIsMinimalWrongFalsely : Prop := fnExactIsMinimalRow.holds Try.pinned (OpenSpec.ofChange fnExactIsMinimalWrong)

/-- 'laws.FnExactMakeEven': WHATEVER THE INPUT: true; the input reads as it did. -/
def fnExactMakeEvenSpec : ChangeSpec := { name := "fnExactMakeEven", fn := fun _ => fun
  | [d] => { results := [.lit (.bool true)], args := [d] }
  | _ => none }
def fnExactMakeEvenRow : OpenClaim := { program := "ytmjbnghhfadapaa", sum := "5c397005d69584209d782a07a901962333a384e0c85cd66f3f44aaf5f4a88e9d", func := "loop.example/gridpuzzles/laws.FnExactMakeEven", spec := "fnExactMakeEven", unfollowed := true, recurses := true, apart := false }
def FnExactMakeEvenSaid : Prop := fnExactMakeEvenRow.holds Try.pinned (OpenSpec.ofChange fnExactMakeEvenSpec)

/-- ITS FALSE NEIGHBOUR: 'it returns false'. Refute it at one input. -/
def fnExactMakeEvenWrong : ChangeSpec := { name := "fnExactMakeEven", fn := fun _ => fun
  | [d] => { results := [.lit (.bool false)], args := [d] }
  | _ => none }
def FnExactMakeEvenWrongFalsely : Prop := fnExactMakeEvenRow.holds Try.pinned (OpenSpec.ofChange fnExactMakeEvenWrong)

/- THE SECOND FORM. 'bulk': how many values and letters a reading holds, each counted each time it is reached (what is shared counts as often as it is met; a slice's spare places count too). A statement '..UptoSaid' is the law's where the arguments, and the package variables that the reading takes, are together of bulk at most 1048576: NARROWER than '..Said'. Prove '..Said' where nothing that the law and all that it calls make is longer than what came in: it says more and counts as full. Else prove '..UptoSaid'. A law counts once. -/
mutual
def uptoBulk {H : Type} : DataW H → Nat
  | .lit (.string bytes) => bytes.length + 1
  | .lit _ => 1
  | .nil => 1
  | .ptr d => uptoBulk d + 1
  | .slice elems spare => uptoBulkAll elems + uptoBulkAll spare + 1
  | .agg parts => uptoBulkAll parts + 1
  | .iface _ d => uptoBulk d + 1
  | .map entries => uptoBulkEntries entries + 1
  | .held _ => 1
def uptoBulkAll {H : Type} : List (DataW H) → Nat
  | [] => 0
  | d :: r => uptoBulk d + uptoBulkAll r
def uptoBulkEntries {H : Type} : List (Lit × DataW H) → Nat
  | [] => 0
  | x :: r => uptoBulkEntry x + uptoBulkEntries r
def uptoBulkEntry {H : Type} : Lit × DataW H → Nat
  | (.string bytes, d) => bytes.length + uptoBulk d + 1
  | (_, d) => uptoBulk d + 1
 end
def uptoSmall : (H : Type) → List (DataW H) → Bool := fun _ ds => decide (uptoBulkAll ds ≤ 1048576)
def OpenSpec.upto (s : _root_.Go.ChangeSpec) : _root_.Go.OpenSpec := { _root_.Go.OpenSpec.ofChange s with cond := some uptoSmall }

/-- 'laws.FnExactSquareNumber', WHERE WHAT IT READS IS OF BULK AT MOST 1048576: true; the input reads as it did. -/
def fnExactSquareNumberUptoRow : OpenClaim := { program := "ytmjbnghhfadapaa", sum := "5c397005d69584209d782a07a901962333a384e0c85cd66f3f44aaf5f4a88e9d", func := "loop.example/gridpuzzles/laws.FnExactSquareNumber", spec := "fnExactSquareNumber", unfollowed := true, recurses := true, apart := false, narrowed := true }
def FnExactSquareNumberUptoSaid : Prop := fnExactSquareNumberUptoRow.holds Try.pinned (OpenSpec.upto fnExactSquareNumberSpec)

/-- 'laws.FnSquareNumber', WHERE WHAT IT READS IS OF BULK AT MOST 1048576: true; the input reads as it did. -/
def fnSquareNumberUptoRow : OpenClaim := { program := "ytmjbnghhfadapaa", sum := "5c397005d69584209d782a07a901962333a384e0c85cd66f3f44aaf5f4a88e9d", func := "loop.example/gridpuzzles/laws.FnSquareNumber", spec := "fnSquareNumber", unfollowed := true, recurses := true, apart := false, narrowed := true }
def FnSquareNumberUptoSaid : Prop := fnSquareNumberUptoRow.holds Try.pinned (OpenSpec.upto fnSquareNumberSpec)

/-- 'laws.FnExactPuzzleOf', WHERE WHAT IT READS IS OF BULK AT MOST 1048576: true; the input reads as it did. -/
def fnExactPuzzleOfUptoRow : OpenClaim := { program := "ytmjbnghhfadapaa", sum := "5c397005d69584209d782a07a901962333a384e0c85cd66f3f44aaf5f4a88e9d", func := "loop.example/gridpuzzles/laws.FnExactPuzzleOf", spec := "fnExactPuzzleOf", recurses := true, apart := false, narrowed := true }
def FnExactPuzzleOfUptoSaid : Prop := fnExactPuzzleOfUptoRow.holds Try.pinned (OpenSpec.upto fnExactPuzzleOfSpec)

/-- 'laws.FnExactCountSolutions', WHERE WHAT IT READS IS OF BULK AT MOST 1048576: true; the input reads as it did. -/
def fnExactCountSolutionsUptoRow : OpenClaim := { program := "ytmjbnghhfadapaa", sum := "5c397005d69584209d782a07a901962333a384e0c85cd66f3f44aaf5f4a88e9d", func := "loop.example/gridpuzzles/laws.FnExactCountSolutions", spec := "fnExactCountSolutions", unfollowed := true, recurses := true, apart := false, narrowed := true }
def FnExactCountSolutionsUptoSaid : Prop := fnExactCountSolutionsUptoRow.holds Try.pinned (OpenSpec.upto fnExactCountSolutionsSpec)

/-- 'laws.FnExactIsRedundant', WHERE WHAT IT READS IS OF BULK AT MOST 1048576: true; the input reads as it did. -/
def fnExactIsRedundantUptoRow : OpenClaim := { program := "ytmjbnghhfadapaa", sum := "5c397005d69584209d782a07a901962333a384e0c85cd66f3f44aaf5f4a88e9d", func := "loop.example/gridpuzzles/laws.FnExactIsRedundant", spec := "fnExactIsRedundant", unfollowed := true, recurses := true, apart := false, narrowed := true }
def FnExactIsRedundantUptoSaid : Prop := fnExactIsRedundantUptoRow.holds Try.pinned (OpenSpec.upto fnExactIsRedundantSpec)

/-- 'laws.FnExactSolveFirst', WHERE WHAT IT READS IS OF BULK AT MOST 1048576: true; the input reads as it did. -/
def fnExactSolveFirstUptoRow : OpenClaim := { program := "ytmjbnghhfadapaa", sum := "5c397005d69584209d782a07a901962333a384e0c85cd66f3f44aaf5f4a88e9d", func := "loop.example/gridpuzzles/laws.FnExactSolveFirst", spec := "fnExactSolveFirst", unfollowed := true, recurses := true, apart := false, narrowed := true }
def FnExactSolveFirstUptoSaid : Prop := fnExactSolveFirstUptoRow.holds Try.pinned (OpenSpec.upto fnExactSolveFirstSpec)

/-- 'laws.FnExactIsMinimal', WHERE WHAT IT READS IS OF BULK AT MOST 1048576: true; the input reads as it did. -/
def fnExactIsMinimalUptoRow : OpenClaim := { program := "ytmjbnghhfadapaa", sum := "5c397005d69584209d782a07a901962333a384e0c85cd66f3f44aaf5f4a88e9d", func := "loop.example/gridpuzzles/laws.FnExactIsMinimal", spec := "fnExactIsMinimal", unfollowed := true, recurses := true, apart := false, narrowed := true }
def FnExactIsMinimalUptoSaid : Prop := fnExactIsMinimalUptoRow.holds Try.pinned (OpenSpec.upto fnExactIsMinimalSpec)

/-- 'laws.FnExactMakeEven', WHERE WHAT IT READS IS OF BULK AT MOST 1048576: true; the input reads as it did. -/
def fnExactMakeEvenUptoRow : OpenClaim := { program := "ytmjbnghhfadapaa", sum := "5c397005d69584209d782a07a901962333a384e0c85cd66f3f44aaf5f4a88e9d", func := "loop.example/gridpuzzles/laws.FnExactMakeEven", spec := "fnExactMakeEven", unfollowed := true, recurses := true, apart := false, narrowed := true }
def FnExactMakeEvenUptoSaid : Prop := fnExactMakeEvenUptoRow.holds Try.pinned (OpenSpec.upto fnExactMakeEvenSpec)

end Rows
end Go.Proofs.Ytmjbnghhfadapaa
