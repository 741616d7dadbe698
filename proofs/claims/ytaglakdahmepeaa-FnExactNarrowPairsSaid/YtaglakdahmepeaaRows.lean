/-
  No cell of these rows narrows 'for every input' (looked for: loops, veiled, ifaces, maps, wideKeys, modest, calm, conditions, laid).
  DERIVED. THE GIVEN ROWS OF THIS SEAT. 12 by the template 'for every input the law returns true; each argument reads behind the call as it read before'; 0 by the template 'total and deterministic' (their statements: YtaglakdahmepeaaTotals.lean).
  GIVEN WITH THE SEED: the statements are not yours to turn. If you find one false, say at which input.
  Laid BY PROGRAM, IN A SANDBOX (cutbox-rows.mjs): the forced cells as the released guide's own fill.sh prints them over the translation 0a353a8865abd531… (all of the seat's roots in one cut). By AI agents, Wed Nov 11 2026. No macro, syntax, notation, axiom, sorry.
-/
import Derived.Test.YtaglakdahmepeaaChecked
import GoSem.Claim
import GoSem.ClaimJoined
import GoSem.ClaimMapViews
import Derived.JoinedTies
import Derived.KernelRfl
namespace Go.Proofs.Ytaglakdahmepeaa
/- THE CELL 'sum', in the pinned program and in every row, IS THE sha256 OF THE DUMP (.gsa) THAT YtaglakdahmepeaaProg.lean LOADS. Nothing in Lean hashes anything: it is a label: what it is worth is what the hold of that sum in a sandbox is worth. -/
noncomputable def Try.pinned : Pinned := { name := "ytaglakdahmepeaa", sum := "0a353a8865abd531fff93dca0f43ba91931b78aef4e8b5de2bb4958f1bc4b67c", checked := Try.checked }
namespace Rows
def none {H : Type} : Left H := { results := [], args := [] }

/-- 'laws.FnExactSquareFits': WHATEVER THE INPUT: true; the input reads as it did. -/
def fnExactSquareFitsSpec : ChangeSpec := { name := "fnExactSquareFits", fn := fun _ => fun
  | [d1, d2] => { results := [.lit (.bool true)], args := [d1, d2] }
  | _ => none }
def fnExactSquareFitsRow : OpenClaim := { program := "ytaglakdahmepeaa", sum := "0a353a8865abd531fff93dca0f43ba91931b78aef4e8b5de2bb4958f1bc4b67c", func := "loop.example/gridpuzzles/laws.FnExactSquareFits", spec := "fnExactSquareFits", apart := false }
def FnExactSquareFitsSaid : Prop := fnExactSquareFitsRow.holds Try.pinned (OpenSpec.ofChange fnExactSquareFitsSpec)

/-- ITS FALSE NEIGHBOUR: 'it returns false'. Refute it at one input. -/
def fnExactSquareFitsWrong : ChangeSpec := { name := "fnExactSquareFits", fn := fun _ => fun
  | [d1, d2] => { results := [.lit (.bool false)], args := [d1, d2] }
  | _ => none }
def FnExactSquareFitsWrongFalsely : Prop := fnExactSquareFitsRow.holds Try.pinned (OpenSpec.ofChange fnExactSquareFitsWrong)

/-- 'laws.FnExactMasksGrid': WHATEVER THE INPUT: true; the input reads as it did. -/
def fnExactMasksGridSpec : ChangeSpec := { name := "fnExactMasksGrid", fn := fun _ => fun
  | [d1, d2] => { results := [.lit (.bool true)], args := [d1, d2] }
  | _ => none }
def fnExactMasksGridRow : OpenClaim := { program := "ytaglakdahmepeaa", sum := "0a353a8865abd531fff93dca0f43ba91931b78aef4e8b5de2bb4958f1bc4b67c", func := "loop.example/gridpuzzles/laws.FnExactMasksGrid", spec := "fnExactMasksGrid", apart := false }
def FnExactMasksGridSaid : Prop := fnExactMasksGridRow.holds Try.pinned (OpenSpec.ofChange fnExactMasksGridSpec)

/-- ITS FALSE NEIGHBOUR: 'it returns false'. Refute it at one input. -/
def fnExactMasksGridWrong : ChangeSpec := { name := "fnExactMasksGrid", fn := fun _ => fun
  | [d1, d2] => { results := [.lit (.bool false)], args := [d1, d2] }
  | _ => none }
def FnExactMasksGridWrongFalsely : Prop := fnExactMasksGridRow.holds Try.pinned (OpenSpec.ofChange fnExactMasksGridWrong)

/-- 'laws.FnExactCandidatesOf': WHATEVER THE INPUT: true; the input reads as it did. -/
def fnExactCandidatesOfSpec : ChangeSpec := { name := "fnExactCandidatesOf", fn := fun _ => fun
  | [d1, d2] => { results := [.lit (.bool true)], args := [d1, d2] }
  | _ => none }
def fnExactCandidatesOfRow : OpenClaim := { program := "ytaglakdahmepeaa", sum := "0a353a8865abd531fff93dca0f43ba91931b78aef4e8b5de2bb4958f1bc4b67c", func := "loop.example/gridpuzzles/laws.FnExactCandidatesOf", spec := "fnExactCandidatesOf", apart := false }
def FnExactCandidatesOfSaid : Prop := fnExactCandidatesOfRow.holds Try.pinned (OpenSpec.ofChange fnExactCandidatesOfSpec)

/-- ITS FALSE NEIGHBOUR: 'it returns false'. Refute it at one input. -/
def fnExactCandidatesOfWrong : ChangeSpec := { name := "fnExactCandidatesOf", fn := fun _ => fun
  | [d1, d2] => { results := [.lit (.bool false)], args := [d1, d2] }
  | _ => none }
def FnExactCandidatesOfWrongFalsely : Prop := fnExactCandidatesOfRow.holds Try.pinned (OpenSpec.ofChange fnExactCandidatesOfWrong)

/-- 'laws.FnExactMasksCount': WHATEVER THE INPUT: true; the input reads as it did. -/
def fnExactMasksCountSpec : ChangeSpec := { name := "fnExactMasksCount", fn := fun _ => fun
  | [d1, d2] => { results := [.lit (.bool true)], args := [d1, d2] }
  | _ => none }
def fnExactMasksCountRow : OpenClaim := { program := "ytaglakdahmepeaa", sum := "0a353a8865abd531fff93dca0f43ba91931b78aef4e8b5de2bb4958f1bc4b67c", func := "loop.example/gridpuzzles/laws.FnExactMasksCount", spec := "fnExactMasksCount", apart := false }
def FnExactMasksCountSaid : Prop := fnExactMasksCountRow.holds Try.pinned (OpenSpec.ofChange fnExactMasksCountSpec)

/-- ITS FALSE NEIGHBOUR: 'it returns false'. Refute it at one input. -/
def fnExactMasksCountWrong : ChangeSpec := { name := "fnExactMasksCount", fn := fun _ => fun
  | [d1, d2] => { results := [.lit (.bool false)], args := [d1, d2] }
  | _ => none }
def FnExactMasksCountWrongFalsely : Prop := fnExactMasksCountRow.holds Try.pinned (OpenSpec.ofChange fnExactMasksCountWrong)

/-- 'laws.FnExactRuleValid': WHATEVER THE INPUT: true; the input reads as it did. -/
def fnExactRuleValidSpec : ChangeSpec := { name := "fnExactRuleValid", fn := fun _ => fun
  | [d1, d2] => { results := [.lit (.bool true)], args := [d1, d2] }
  | _ => none }
def fnExactRuleValidRow : OpenClaim := { program := "ytaglakdahmepeaa", sum := "0a353a8865abd531fff93dca0f43ba91931b78aef4e8b5de2bb4958f1bc4b67c", func := "loop.example/gridpuzzles/laws.FnExactRuleValid", spec := "fnExactRuleValid", apart := false }
def FnExactRuleValidSaid : Prop := fnExactRuleValidRow.holds Try.pinned (OpenSpec.ofChange fnExactRuleValidSpec)

/-- ITS FALSE NEIGHBOUR: 'it returns false'. Refute it at one input. -/
def fnExactRuleValidWrong : ChangeSpec := { name := "fnExactRuleValid", fn := fun _ => fun
  | [d1, d2] => { results := [.lit (.bool false)], args := [d1, d2] }
  | _ => none }
def FnExactRuleValidWrongFalsely : Prop := fnExactRuleValidRow.holds Try.pinned (OpenSpec.ofChange fnExactRuleValidWrong)

/-- 'laws.FnExactMissingIn': WHATEVER THE INPUT: true; the input reads as it did. -/
def fnExactMissingInSpec : ChangeSpec := { name := "fnExactMissingIn", fn := fun _ => fun
  | [d1, d2, d3] => { results := [.lit (.bool true)], args := [d1, d2, d3] }
  | _ => none }
def fnExactMissingInRow : OpenClaim := { program := "ytaglakdahmepeaa", sum := "0a353a8865abd531fff93dca0f43ba91931b78aef4e8b5de2bb4958f1bc4b67c", func := "loop.example/gridpuzzles/laws.FnExactMissingIn", spec := "fnExactMissingIn", unfollowed := true, recurses := true, apart := false }
def FnExactMissingInSaid : Prop := fnExactMissingInRow.holds Try.pinned (OpenSpec.ofChange fnExactMissingInSpec)

/-- ITS FALSE NEIGHBOUR: 'it returns false'. Refute it at one input. -/
def fnExactMissingInWrong : ChangeSpec := { name := "fnExactMissingIn", fn := fun _ => fun
  | [d1, d2, d3] => { results := [.lit (.bool false)], args := [d1, d2, d3] }
  | _ => none }
def FnExactMissingInWrongFalsely : Prop := fnExactMissingInRow.holds Try.pinned (OpenSpec.ofChange fnExactMissingInWrong)

/-- 'laws.FnExactNarrowSingles': WHATEVER THE INPUT: true; the input reads as it did. -/
def fnExactNarrowSinglesSpec : ChangeSpec := { name := "fnExactNarrowSingles", fn := fun _ => fun
  | [d1, d2] => { results := [.lit (.bool true)], args := [d1, d2] }
  | _ => none }
def fnExactNarrowSinglesRow : OpenClaim := { program := "ytaglakdahmepeaa", sum := "0a353a8865abd531fff93dca0f43ba91931b78aef4e8b5de2bb4958f1bc4b67c", func := "loop.example/gridpuzzles/laws.FnExactNarrowSingles", spec := "fnExactNarrowSingles", apart := false }
def FnExactNarrowSinglesSaid : Prop := fnExactNarrowSinglesRow.holds Try.pinned (OpenSpec.ofChange fnExactNarrowSinglesSpec)

/-- ITS FALSE NEIGHBOUR: 'it returns false'. Refute it at one input. -/
def fnExactNarrowSinglesWrong : ChangeSpec := { name := "fnExactNarrowSingles", fn := fun _ => fun
  | [d1, d2] => { results := [.lit (.bool false)], args := [d1, d2] }
  | _ => none }
def FnExactNarrowSinglesWrongFalsely : Prop := fnExactNarrowSinglesRow.holds Try.pinned (OpenSpec.ofChange fnExactNarrowSinglesWrong)

/-- 'laws.FnExactSquareSolved': WHATEVER THE INPUT: true; the input reads as it did. -/
def fnExactSquareSolvedSpec : ChangeSpec := { name := "fnExactSquareSolved", fn := fun _ => fun
  | [d1, d2] => { results := [.lit (.bool true)], args := [d1, d2] }
  | _ => none }
def fnExactSquareSolvedRow : OpenClaim := { program := "ytaglakdahmepeaa", sum := "0a353a8865abd531fff93dca0f43ba91931b78aef4e8b5de2bb4958f1bc4b67c", func := "loop.example/gridpuzzles/laws.FnExactSquareSolved", spec := "fnExactSquareSolved", apart := false }
def FnExactSquareSolvedSaid : Prop := fnExactSquareSolvedRow.holds Try.pinned (OpenSpec.ofChange fnExactSquareSolvedSpec)

/-- ITS FALSE NEIGHBOUR: 'it returns false'. Refute it at one input. -/
def fnExactSquareSolvedWrong : ChangeSpec := { name := "fnExactSquareSolved", fn := fun _ => fun
  | [d1, d2] => { results := [.lit (.bool false)], args := [d1, d2] }
  | _ => none }
def FnExactSquareSolvedWrongFalsely : Prop := fnExactSquareSolvedRow.holds Try.pinned (OpenSpec.ofChange fnExactSquareSolvedWrong)

/-- 'laws.FnExactNarrowHidden': WHATEVER THE INPUT: true; the input reads as it did. -/
def fnExactNarrowHiddenSpec : ChangeSpec := { name := "fnExactNarrowHidden", fn := fun _ => fun
  | [d1, d2] => { results := [.lit (.bool true)], args := [d1, d2] }
  | _ => none }
def fnExactNarrowHiddenRow : OpenClaim := { program := "ytaglakdahmepeaa", sum := "0a353a8865abd531fff93dca0f43ba91931b78aef4e8b5de2bb4958f1bc4b67c", func := "loop.example/gridpuzzles/laws.FnExactNarrowHidden", spec := "fnExactNarrowHidden", apart := false }
def FnExactNarrowHiddenSaid : Prop := fnExactNarrowHiddenRow.holds Try.pinned (OpenSpec.ofChange fnExactNarrowHiddenSpec)

/-- ITS FALSE NEIGHBOUR: 'it returns false'. Refute it at one input. -/
def fnExactNarrowHiddenWrong : ChangeSpec := { name := "fnExactNarrowHidden", fn := fun _ => fun
  | [d1, d2] => { results := [.lit (.bool false)], args := [d1, d2] }
  | _ => none }
def FnExactNarrowHiddenWrongFalsely : Prop := fnExactNarrowHiddenRow.holds Try.pinned (OpenSpec.ofChange fnExactNarrowHiddenWrong)

/-- 'laws.FnExactPairsIn': WHATEVER THE INPUT: true; the input reads as it did. -/
def fnExactPairsInSpec : ChangeSpec := { name := "fnExactPairsIn", fn := fun _ => fun
  | [d1, d2, d3] => { results := [.lit (.bool true)], args := [d1, d2, d3] }
  | _ => none }
def fnExactPairsInRow : OpenClaim := { program := "ytaglakdahmepeaa", sum := "0a353a8865abd531fff93dca0f43ba91931b78aef4e8b5de2bb4958f1bc4b67c", func := "loop.example/gridpuzzles/laws.FnExactPairsIn", spec := "fnExactPairsIn", apart := false }
def FnExactPairsInSaid : Prop := fnExactPairsInRow.holds Try.pinned (OpenSpec.ofChange fnExactPairsInSpec)

/-- ITS FALSE NEIGHBOUR: 'it returns false'. Refute it at one input. -/
def fnExactPairsInWrong : ChangeSpec := { name := "fnExactPairsIn", fn := fun _ => fun
  | [d1, d2, d3] => { results := [.lit (.bool false)], args := [d1, d2, d3] }
  | _ => none }
def FnExactPairsInWrongFalsely : Prop := fnExactPairsInRow.holds Try.pinned (OpenSpec.ofChange fnExactPairsInWrong)

/-- 'laws.FnExactNarrowPairs': WHATEVER THE INPUT: true; the input reads as it did. -/
def fnExactNarrowPairsSpec : ChangeSpec := { name := "fnExactNarrowPairs", fn := fun _ => fun
  | [d1, d2] => { results := [.lit (.bool true)], args := [d1, d2] }
  | _ => none }
def fnExactNarrowPairsRow : OpenClaim := { program := "ytaglakdahmepeaa", sum := "0a353a8865abd531fff93dca0f43ba91931b78aef4e8b5de2bb4958f1bc4b67c", func := "loop.example/gridpuzzles/laws.FnExactNarrowPairs", spec := "fnExactNarrowPairs", apart := false }
def FnExactNarrowPairsSaid : Prop := fnExactNarrowPairsRow.holds Try.pinned (OpenSpec.ofChange fnExactNarrowPairsSpec)

/-- ITS FALSE NEIGHBOUR: 'it returns false'. Refute it at one input. -/
def fnExactNarrowPairsWrong : ChangeSpec := { name := "fnExactNarrowPairs", fn := fun _ => fun
  | [d1, d2] => { results := [.lit (.bool false)], args := [d1, d2] }
  | _ => none }
def FnExactNarrowPairsWrongFalsely : Prop := fnExactNarrowPairsRow.holds Try.pinned (OpenSpec.ofChange fnExactNarrowPairsWrong)

/-- 'laws.FnExactRuleHolds': WHATEVER THE INPUT: true; the input reads as it did. -/
def fnExactRuleHoldsSpec : ChangeSpec := { name := "fnExactRuleHolds", fn := fun _ => fun
  | [d1, d2, d3] => { results := [.lit (.bool true)], args := [d1, d2, d3] }
  | _ => none }
def fnExactRuleHoldsRow : OpenClaim := { program := "ytaglakdahmepeaa", sum := "0a353a8865abd531fff93dca0f43ba91931b78aef4e8b5de2bb4958f1bc4b67c", func := "loop.example/gridpuzzles/laws.FnExactRuleHolds", spec := "fnExactRuleHolds", apart := false }
def FnExactRuleHoldsSaid : Prop := fnExactRuleHoldsRow.holds Try.pinned (OpenSpec.ofChange fnExactRuleHoldsSpec)

/-- ITS FALSE NEIGHBOUR: 'it returns false'. Refute it at one input. -/
def fnExactRuleHoldsWrong : ChangeSpec := { name := "fnExactRuleHolds", fn := fun _ => fun
  | [d1, d2, d3] => { results := [.lit (.bool false)], args := [d1, d2, d3] }
  | _ => none }
def FnExactRuleHoldsWrongFalsely : Prop := fnExactRuleHoldsRow.holds Try.pinned (OpenSpec.ofChange fnExactRuleHoldsWrong)

/- THE SECOND FORM. 'bulk': how many values and letters a reading holds, each counted each time it is reached (what is shared counts as often as it is met; a slice's spare places count too). A statement '..UptoSaid' is the law's where the arguments, and the package variables that the reading takes, are together of bulk at most 1048576: NARROWER than '..Said'. Prove '..Said' where nothing that the law and all that it calls make is longer than what came in: it says more and counts as full. Else prove '..UptoSaid'. A law counts once. -/
mutual
def uptoBulk {H : Type} : DataW H → Nat
  | .lit (.string bytes) => bytes.length + 1
  | .lit _ => 1
  | .nil => 1
  | .ptr d => uptoBulk d + 1
  | .slice elems spare => uptoBulkAll elems + uptoBulkAll spare + 1
  | .agg parts => uptoBulkAll parts + 1
  | .iface _ d => uptoBulk d + 1
  | .map entries => uptoBulkEntries entries + 1
  | .held _ => 1
def uptoBulkAll {H : Type} : List (DataW H) → Nat
  | [] => 0
  | d :: r => uptoBulk d + uptoBulkAll r
def uptoBulkEntries {H : Type} : List (Lit × DataW H) → Nat
  | [] => 0
  | x :: r => uptoBulkEntry x + uptoBulkEntries r
def uptoBulkEntry {H : Type} : Lit × DataW H → Nat
  | (.string bytes, d) => bytes.length + uptoBulk d + 1
  | (_, d) => uptoBulk d + 1
 end
def uptoSmall : (H : Type) → List (DataW H) → Bool := fun _ ds => decide (uptoBulkAll ds ≤ 1048576)
def OpenSpec.upto (s : _root_.Go.ChangeSpec) : _root_.Go.OpenSpec := { _root_.Go.OpenSpec.ofChange s with cond := some uptoSmall }

/-- 'laws.FnExactSquareFits', WHERE WHAT IT READS IS OF BULK AT MOST 1048576: true; the input reads as it did. -/
def fnExactSquareFitsUptoRow : OpenClaim := { program := "ytaglakdahmepeaa", sum := "0a353a8865abd531fff93dca0f43ba91931b78aef4e8b5de2bb4958f1bc4b67c", func := "loop.example/gridpuzzles/laws.FnExactSquareFits", spec := "fnExactSquareFits", apart := false, narrowed := true }
def FnExactSquareFitsUptoSaid : Prop := fnExactSquareFitsUptoRow.holds Try.pinned (OpenSpec.upto fnExactSquareFitsSpec)

/-- 'laws.FnExactMasksGrid', WHERE WHAT IT READS IS OF BULK AT MOST 1048576: true; the input reads as it did. -/
def fnExactMasksGridUptoRow : OpenClaim := { program := "ytaglakdahmepeaa", sum := "0a353a8865abd531fff93dca0f43ba91931b78aef4e8b5de2bb4958f1bc4b67c", func := "loop.example/gridpuzzles/laws.FnExactMasksGrid", spec := "fnExactMasksGrid", apart := false, narrowed := true }
def FnExactMasksGridUptoSaid : Prop := fnExactMasksGridUptoRow.holds Try.pinned (OpenSpec.upto fnExactMasksGridSpec)

/-- 'laws.FnExactCandidatesOf', WHERE WHAT IT READS IS OF BULK AT MOST 1048576: true; the input reads as it did. -/
def fnExactCandidatesOfUptoRow : OpenClaim := { program := "ytaglakdahmepeaa", sum := "0a353a8865abd531fff93dca0f43ba91931b78aef4e8b5de2bb4958f1bc4b67c", func := "loop.example/gridpuzzles/laws.FnExactCandidatesOf", spec := "fnExactCandidatesOf", apart := false, narrowed := true }
def FnExactCandidatesOfUptoSaid : Prop := fnExactCandidatesOfUptoRow.holds Try.pinned (OpenSpec.upto fnExactCandidatesOfSpec)

/-- 'laws.FnExactMasksCount', WHERE WHAT IT READS IS OF BULK AT MOST 1048576: true; the input reads as it did. -/
def fnExactMasksCountUptoRow : OpenClaim := { program := "ytaglakdahmepeaa", sum := "0a353a8865abd531fff93dca0f43ba91931b78aef4e8b5de2bb4958f1bc4b67c", func := "loop.example/gridpuzzles/laws.FnExactMasksCount", spec := "fnExactMasksCount", apart := false, narrowed := true }
def FnExactMasksCountUptoSaid : Prop := fnExactMasksCountUptoRow.holds Try.pinned (OpenSpec.upto fnExactMasksCountSpec)

/-- 'laws.FnExactRuleValid', WHERE WHAT IT READS IS OF BULK AT MOST 1048576: true; the input reads as it did. -/
def fnExactRuleValidUptoRow : OpenClaim := { program := "ytaglakdahmepeaa", sum := "0a353a8865abd531fff93dca0f43ba91931b78aef4e8b5de2bb4958f1bc4b67c", func := "loop.example/gridpuzzles/laws.FnExactRuleValid", spec := "fnExactRuleValid", apart := false, narrowed := true }
def FnExactRuleValidUptoSaid : Prop := fnExactRuleValidUptoRow.holds Try.pinned (OpenSpec.upto fnExactRuleValidSpec)

/-- 'laws.FnExactMissingIn', WHERE WHAT IT READS IS OF BULK AT MOST 1048576: true; the input reads as it did. -/
def fnExactMissingInUptoRow : OpenClaim := { program := "ytaglakdahmepeaa", sum := "0a353a8865abd531fff93dca0f43ba91931b78aef4e8b5de2bb4958f1bc4b67c", func := "loop.example/gridpuzzles/laws.FnExactMissingIn", spec := "fnExactMissingIn", unfollowed := true, recurses := true, apart := false, narrowed := true }
def FnExactMissingInUptoSaid : Prop := fnExactMissingInUptoRow.holds Try.pinned (OpenSpec.upto fnExactMissingInSpec)

/-- 'laws.FnExactNarrowSingles', WHERE WHAT IT READS IS OF BULK AT MOST 1048576: true; the input reads as it did. -/
def fnExactNarrowSinglesUptoRow : OpenClaim := { program := "ytaglakdahmepeaa", sum := "0a353a8865abd531fff93dca0f43ba91931b78aef4e8b5de2bb4958f1bc4b67c", func := "loop.example/gridpuzzles/laws.FnExactNarrowSingles", spec := "fnExactNarrowSingles", apart := false, narrowed := true }
def FnExactNarrowSinglesUptoSaid : Prop := fnExactNarrowSinglesUptoRow.holds Try.pinned (OpenSpec.upto fnExactNarrowSinglesSpec)

/-- 'laws.FnExactSquareSolved', WHERE WHAT IT READS IS OF BULK AT MOST 1048576: true; the input reads as it did. -/
def fnExactSquareSolvedUptoRow : OpenClaim := { program := "ytaglakdahmepeaa", sum := "0a353a8865abd531fff93dca0f43ba91931b78aef4e8b5de2bb4958f1bc4b67c", func := "loop.example/gridpuzzles/laws.FnExactSquareSolved", spec := "fnExactSquareSolved", apart := false, narrowed := true }
def FnExactSquareSolvedUptoSaid : Prop := fnExactSquareSolvedUptoRow.holds Try.pinned (OpenSpec.upto fnExactSquareSolvedSpec)

/-- 'laws.FnExactNarrowHidden', WHERE WHAT IT READS IS OF BULK AT MOST 1048576: true; the input reads as it did. -/
def fnExactNarrowHiddenUptoRow : OpenClaim := { program := "ytaglakdahmepeaa", sum := "0a353a8865abd531fff93dca0f43ba91931b78aef4e8b5de2bb4958f1bc4b67c", func := "loop.example/gridpuzzles/laws.FnExactNarrowHidden", spec := "fnExactNarrowHidden", apart := false, narrowed := true }
def FnExactNarrowHiddenUptoSaid : Prop := fnExactNarrowHiddenUptoRow.holds Try.pinned (OpenSpec.upto fnExactNarrowHiddenSpec)

/-- 'laws.FnExactPairsIn', WHERE WHAT IT READS IS OF BULK AT MOST 1048576: true; the input reads as it did. -/
def fnExactPairsInUptoRow : OpenClaim := { program := "ytaglakdahmepeaa", sum := "0a353a8865abd531fff93dca0f43ba91931b78aef4e8b5de2bb4958f1bc4b67c", func := "loop.example/gridpuzzles/laws.FnExactPairsIn", spec := "fnExactPairsIn", apart := false, narrowed := true }
def FnExactPairsInUptoSaid : Prop := fnExactPairsInUptoRow.holds Try.pinned (OpenSpec.upto fnExactPairsInSpec)

/-- 'laws.FnExactNarrowPairs', WHERE WHAT IT READS IS OF BULK AT MOST 1048576: true; the input reads as it did. -/
def fnExactNarrowPairsUptoRow : OpenClaim := { program := "ytaglakdahmepeaa", sum := "0a353a8865abd531fff93dca0f43ba91931b78aef4e8b5de2bb4958f1bc4b67c", func := "loop.example/gridpuzzles/laws.FnExactNarrowPairs", spec := "fnExactNarrowPairs", apart := false, narrowed := true }
def FnExactNarrowPairsUptoSaid : Prop := fnExactNarrowPairsUptoRow.holds Try.pinned (OpenSpec.upto fnExactNarrowPairsSpec)

/-- 'laws.FnExactRuleHolds', WHERE WHAT IT READS IS OF BULK AT MOST 1048576: true; the input reads as it did. -/
def fnExactRuleHoldsUptoRow : OpenClaim := { program := "ytaglakdahmepeaa", sum := "0a353a8865abd531fff93dca0f43ba91931b78aef4e8b5de2bb4958f1bc4b67c", func := "loop.example/gridpuzzles/laws.FnExactRuleHolds", spec := "fnExactRuleHolds", apart := false, narrowed := true }
def FnExactRuleHoldsUptoSaid : Prop := fnExactRuleHoldsUptoRow.holds Try.pinned (OpenSpec.upto fnExactRuleHoldsSpec)

end Rows
end Go.Proofs.Ytaglakdahmepeaa
