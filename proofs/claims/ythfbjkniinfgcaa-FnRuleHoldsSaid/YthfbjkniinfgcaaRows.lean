/-
  No cell of these rows narrows 'for every input' (looked for: loops, veiled, ifaces, maps, wideKeys, modest, calm, conditions, laid).
  DERIVED. THE GIVEN ROWS OF THIS SEAT. 12 by the template 'for every input the law returns true; each argument reads behind the call as it read before'; 0 by the template 'total and deterministic' (their statements: YthfbjkniinfgcaaTotals.lean).
  GIVEN WITH THE SEED: the statements are not yours to turn. If you find one false, say at which input.
  Laid BY PROGRAM, IN A SANDBOX (cutbox-rows.mjs): the forced cells as the released guide's own fill.sh prints them over the translation e6b88111ae70f8c4… (all of the seat's roots in one cut). By AI agents, Wed Nov 11 2026. No macro, syntax, notation, axiom, sorry.
-/
import Derived.Test.YthfbjkniinfgcaaChecked
import GoSem.Claim
import GoSem.ClaimJoined
import GoSem.ClaimMapViews
import Derived.JoinedTies
import Derived.KernelRfl
namespace Go.Proofs.Ythfbjkniinfgcaa
/- THE CELL 'sum', in the pinned program and in every row, IS THE sha256 OF THE DUMP (.gsa) THAT YthfbjkniinfgcaaProg.lean LOADS. Nothing in Lean hashes anything: it is a label: what it is worth is what the hold of that sum in a sandbox is worth. -/
noncomputable def Try.pinned : Pinned := { name := "ythfbjkniinfgcaa", sum := "e6b88111ae70f8c4e1d462832ecf26b477812bea539766e423b6861c18289a56", checked := Try.checked }
namespace Rows
def none {H : Type} : Left H := { results := [], args := [] }

/-- 'laws.FnCandidatesOf': WHATEVER THE INPUT: true; the input reads as it did. -/
def fnCandidatesOfSpec : ChangeSpec := { name := "fnCandidatesOf", fn := fun _ => fun
  | [d] => { results := [.lit (.bool true)], args := [d] }
  | _ => none }
def fnCandidatesOfRow : OpenClaim := { program := "ythfbjkniinfgcaa", sum := "e6b88111ae70f8c4e1d462832ecf26b477812bea539766e423b6861c18289a56", func := "loop.example/gridpuzzles/laws.FnCandidatesOf", spec := "fnCandidatesOf", recurses := true, apart := false }
def FnCandidatesOfSaid : Prop := fnCandidatesOfRow.holds Try.pinned (OpenSpec.ofChange fnCandidatesOfSpec)

/-- ITS FALSE NEIGHBOUR: 'it returns false'. Refute it at one input. -/
def fnCandidatesOfWrong : ChangeSpec := { name := "fnCandidatesOf", fn := fun _ => fun
  | [d] => { results := [.lit (.bool false)], args := [d] }
  | _ => none }
def FnCandidatesOfWrongFalsely : Prop := fnCandidatesOfRow.holds Try.pinned (OpenSpec.ofChange fnCandidatesOfWrong)

/-- 'laws.FnRuleValid': WHATEVER THE INPUT: true; the input reads as it did. -/
def fnRuleValidSpec : ChangeSpec := { name := "fnRuleValid", fn := fun _ => fun
  | [d] => { results := [.lit (.bool true)], args := [d] }
  | _ => none }
def fnRuleValidRow : OpenClaim := { program := "ythfbjkniinfgcaa", sum := "e6b88111ae70f8c4e1d462832ecf26b477812bea539766e423b6861c18289a56", func := "loop.example/gridpuzzles/laws.FnRuleValid", spec := "fnRuleValid", recurses := true, apart := false }
def FnRuleValidSaid : Prop := fnRuleValidRow.holds Try.pinned (OpenSpec.ofChange fnRuleValidSpec)

/-- ITS FALSE NEIGHBOUR: 'it returns false'. Refute it at one input. -/
def fnRuleValidWrong : ChangeSpec := { name := "fnRuleValid", fn := fun _ => fun
  | [d] => { results := [.lit (.bool false)], args := [d] }
  | _ => none }
def FnRuleValidWrongFalsely : Prop := fnRuleValidRow.holds Try.pinned (OpenSpec.ofChange fnRuleValidWrong)

/-- 'laws.FnExactPuzzleValid': WHATEVER THE INPUT: true; the input reads as it did. -/
def fnExactPuzzleValidSpec : ChangeSpec := { name := "fnExactPuzzleValid", fn := fun _ => fun
  | [d] => { results := [.lit (.bool true)], args := [d] }
  | _ => none }
def fnExactPuzzleValidRow : OpenClaim := { program := "ythfbjkniinfgcaa", sum := "e6b88111ae70f8c4e1d462832ecf26b477812bea539766e423b6861c18289a56", func := "loop.example/gridpuzzles/laws.FnExactPuzzleValid", spec := "fnExactPuzzleValid", apart := false }
def FnExactPuzzleValidSaid : Prop := fnExactPuzzleValidRow.holds Try.pinned (OpenSpec.ofChange fnExactPuzzleValidSpec)

/-- ITS FALSE NEIGHBOUR: 'it returns false'. Refute it at one input. -/
def fnExactPuzzleValidWrong : ChangeSpec := { name := "fnExactPuzzleValid", fn := fun _ => fun
  | [d] => { results := [.lit (.bool false)], args := [d] }
  | _ => none }
def FnExactPuzzleValidWrongFalsely : Prop := fnExactPuzzleValidRow.holds Try.pinned (OpenSpec.ofChange fnExactPuzzleValidWrong)

/-- 'laws.FnExactRuleMasks': WHATEVER THE INPUT: true; the input reads as it did. -/
def fnExactRuleMasksSpec : ChangeSpec := { name := "fnExactRuleMasks", fn := fun _ => fun
  | [d1, d2, d3] => { results := [.lit (.bool true)], args := [d1, d2, d3] }
  | _ => none }
def fnExactRuleMasksRow : OpenClaim := { program := "ythfbjkniinfgcaa", sum := "e6b88111ae70f8c4e1d462832ecf26b477812bea539766e423b6861c18289a56", func := "loop.example/gridpuzzles/laws.FnExactRuleMasks", spec := "fnExactRuleMasks", unfollowed := true, recurses := true, apart := false }
def FnExactRuleMasksSaid : Prop := fnExactRuleMasksRow.holds Try.pinned (OpenSpec.ofChange fnExactRuleMasksSpec)

/-- ITS FALSE NEIGHBOUR: 'it returns false'. Refute it at one input. -/
def fnExactRuleMasksWrong : ChangeSpec := { name := "fnExactRuleMasks", fn := fun _ => fun
  | [d1, d2, d3] => { results := [.lit (.bool false)], args := [d1, d2, d3] }
  | _ => none }
def FnExactRuleMasksWrongFalsely : Prop := fnExactRuleMasksRow.holds Try.pinned (OpenSpec.ofChange fnExactRuleMasksWrong)

/-- 'laws.FnExactStartMasks': WHATEVER THE INPUT: true; the input reads as it did. -/
def fnExactStartMasksSpec : ChangeSpec := { name := "fnExactStartMasks", fn := fun _ => fun
  | [d] => { results := [.lit (.bool true)], args := [d] }
  | _ => none }
def fnExactStartMasksRow : OpenClaim := { program := "ythfbjkniinfgcaa", sum := "e6b88111ae70f8c4e1d462832ecf26b477812bea539766e423b6861c18289a56", func := "loop.example/gridpuzzles/laws.FnExactStartMasks", spec := "fnExactStartMasks", apart := false }
def FnExactStartMasksSaid : Prop := fnExactStartMasksRow.holds Try.pinned (OpenSpec.ofChange fnExactStartMasksSpec)

/-- ITS FALSE NEIGHBOUR: 'it returns false'. Refute it at one input. -/
def fnExactStartMasksWrong : ChangeSpec := { name := "fnExactStartMasks", fn := fun _ => fun
  | [d] => { results := [.lit (.bool false)], args := [d] }
  | _ => none }
def FnExactStartMasksWrongFalsely : Prop := fnExactStartMasksRow.holds Try.pinned (OpenSpec.ofChange fnExactStartMasksWrong)

/-- 'laws.FnExactRulePossible': WHATEVER THE INPUT: true; the input reads as it did. -/
def fnExactRulePossibleSpec : ChangeSpec := { name := "fnExactRulePossible", fn := fun _ => fun
  | [d1, d2, d3] => { results := [.lit (.bool true)], args := [d1, d2, d3] }
  | _ => none }
def fnExactRulePossibleRow : OpenClaim := { program := "ythfbjkniinfgcaa", sum := "e6b88111ae70f8c4e1d462832ecf26b477812bea539766e423b6861c18289a56", func := "loop.example/gridpuzzles/laws.FnExactRulePossible", spec := "fnExactRulePossible", unfollowed := true, recurses := true, apart := false }
def FnExactRulePossibleSaid : Prop := fnExactRulePossibleRow.holds Try.pinned (OpenSpec.ofChange fnExactRulePossibleSpec)

/-- ITS FALSE NEIGHBOUR: 'it returns false'. Refute it at one input. -/
def fnExactRulePossibleWrong : ChangeSpec := { name := "fnExactRulePossible", fn := fun _ => fun
  | [d1, d2, d3] => { results := [.lit (.bool false)], args := [d1, d2, d3] }
  | _ => none }
def FnExactRulePossibleWrongFalsely : Prop := fnExactRulePossibleRow.holds Try.pinned (OpenSpec.ofChange fnExactRulePossibleWrong)

/-- 'laws.FnRuleSwap': WHATEVER THE INPUT: true; the input reads as it did. -/
def fnRuleSwapSpec : ChangeSpec := { name := "fnRuleSwap", fn := fun _ => fun
  | [d] => { results := [.lit (.bool true)], args := [d] }
  | _ => none }
def fnRuleSwapRow : OpenClaim := { program := "ythfbjkniinfgcaa", sum := "e6b88111ae70f8c4e1d462832ecf26b477812bea539766e423b6861c18289a56", func := "loop.example/gridpuzzles/laws.FnRuleSwap", spec := "fnRuleSwap", recurses := true, apart := false }
def FnRuleSwapSaid : Prop := fnRuleSwapRow.holds Try.pinned (OpenSpec.ofChange fnRuleSwapSpec)

/-- ITS FALSE NEIGHBOUR: 'it returns false'. Refute it at one input. -/
def fnRuleSwapWrong : ChangeSpec := { name := "fnRuleSwap", fn := fun _ => fun
  | [d] => { results := [.lit (.bool false)], args := [d] }
  | _ => none }
def FnRuleSwapWrongFalsely : Prop := fnRuleSwapRow.holds Try.pinned (OpenSpec.ofChange fnRuleSwapWrong)

/-- 'laws.FnRuleHolds': WHATEVER THE INPUT: true; the input reads as it did. -/
def fnRuleHoldsSpec : ChangeSpec := { name := "fnRuleHolds", fn := fun _ => fun
  | [d] => { results := [.lit (.bool true)], args := [d] }
  | _ => none }
def fnRuleHoldsRow : OpenClaim := { program := "ythfbjkniinfgcaa", sum := "e6b88111ae70f8c4e1d462832ecf26b477812bea539766e423b6861c18289a56", func := "loop.example/gridpuzzles/laws.FnRuleHolds", spec := "fnRuleHolds", unfollowed := true, recurses := true, apart := false }
def FnRuleHoldsSaid : Prop := fnRuleHoldsRow.holds Try.pinned (OpenSpec.ofChange fnRuleHoldsSpec)

/-- ITS FALSE NEIGHBOUR: 'it returns false'. Refute it at one input. -/
def fnRuleHoldsWrong : ChangeSpec := { name := "fnRuleHolds", fn := fun _ => fun
  | [d] => { results := [.lit (.bool false)], args := [d] }
  | _ => none }
def FnRuleHoldsWrongFalsely : Prop := fnRuleHoldsRow.holds Try.pinned (OpenSpec.ofChange fnRuleHoldsWrong)

/-- 'laws.FnRulePossible': WHATEVER THE INPUT: true; the input reads as it did. -/
def fnRulePossibleSpec : ChangeSpec := { name := "fnRulePossible", fn := fun _ => fun
  | [d] => { results := [.lit (.bool true)], args := [d] }
  | _ => none }
def fnRulePossibleRow : OpenClaim := { program := "ythfbjkniinfgcaa", sum := "e6b88111ae70f8c4e1d462832ecf26b477812bea539766e423b6861c18289a56", func := "loop.example/gridpuzzles/laws.FnRulePossible", spec := "fnRulePossible", unfollowed := true, recurses := true, apart := false }
def FnRulePossibleSaid : Prop := fnRulePossibleRow.holds Try.pinned (OpenSpec.ofChange fnRulePossibleSpec)

/-- ITS FALSE NEIGHBOUR: 'it returns false'. Refute it at one input. -/
def fnRulePossibleWrong : ChangeSpec := { name := "fnRulePossible", fn := fun _ => fun
  | [d] => { results := [.lit (.bool false)], args := [d] }
  | _ => none }
def FnRulePossibleWrongFalsely : Prop := fnRulePossibleRow.holds Try.pinned (OpenSpec.ofChange fnRulePossibleWrong)

/-- 'laws.FnExactNarrowRules': WHATEVER THE INPUT: true; the input reads as it did. -/
def fnExactNarrowRulesSpec : ChangeSpec := { name := "fnExactNarrowRules", fn := fun _ => fun
  | [d1, d2] => { results := [.lit (.bool true)], args := [d1, d2] }
  | _ => none }
def fnExactNarrowRulesRow : OpenClaim := { program := "ythfbjkniinfgcaa", sum := "e6b88111ae70f8c4e1d462832ecf26b477812bea539766e423b6861c18289a56", func := "loop.example/gridpuzzles/laws.FnExactNarrowRules", spec := "fnExactNarrowRules", unfollowed := true, recurses := true, apart := false }
def FnExactNarrowRulesSaid : Prop := fnExactNarrowRulesRow.holds Try.pinned (OpenSpec.ofChange fnExactNarrowRulesSpec)

/-- ITS FALSE NEIGHBOUR: 'it returns false'. Refute it at one input. -/
def fnExactNarrowRulesWrong : ChangeSpec := { name := "fnExactNarrowRules", fn := fun _ => fun
  | [d1, d2] => { results := [.lit (.bool false)], args := [d1, d2] }
  | _ => none }
def FnExactNarrowRulesWrongFalsely : Prop := fnExactNarrowRulesRow.holds Try.pinned (OpenSpec.ofChange fnExactNarrowRulesWrong)

/-- 'laws.FnExactPuzzleFits': WHATEVER THE INPUT: true; the input reads as it did. -/
def fnExactPuzzleFitsSpec : ChangeSpec := { name := "fnExactPuzzleFits", fn := fun _ => fun
  | [d1, d2] => { results := [.lit (.bool true)], args := [d1, d2] }
  | _ => none }
def fnExactPuzzleFitsRow : OpenClaim := { program := "ythfbjkniinfgcaa", sum := "e6b88111ae70f8c4e1d462832ecf26b477812bea539766e423b6861c18289a56", func := "loop.example/gridpuzzles/laws.FnExactPuzzleFits", spec := "fnExactPuzzleFits", unfollowed := true, recurses := true, apart := false }
def FnExactPuzzleFitsSaid : Prop := fnExactPuzzleFitsRow.holds Try.pinned (OpenSpec.ofChange fnExactPuzzleFitsSpec)

/-- ITS FALSE NEIGHBOUR: 'it returns false'. Refute it at one input. -/
def fnExactPuzzleFitsWrong : ChangeSpec := { name := "fnExactPuzzleFits", fn := fun _ => fun
  | [d1, d2] => { results := [.lit (.bool false)], args := [d1, d2] }
  | _ => none }
def FnExactPuzzleFitsWrongFalsely : Prop := fnExactPuzzleFitsRow.holds Try.pinned (OpenSpec.ofChange fnExactPuzzleFitsWrong)

/-- 'laws.FnExactPuzzleSolved': WHATEVER THE INPUT: true; the input reads as it did. -/
def fnExactPuzzleSolvedSpec : ChangeSpec := { name := "fnExactPuzzleSolved", fn := fun _ => fun
  | [d1, d2] => { results := [.lit (.bool true)], args := [d1, d2] }
  | _ => none }
def fnExactPuzzleSolvedRow : OpenClaim := { program := "ythfbjkniinfgcaa", sum := "e6b88111ae70f8c4e1d462832ecf26b477812bea539766e423b6861c18289a56", func := "loop.example/gridpuzzles/laws.FnExactPuzzleSolved", spec := "fnExactPuzzleSolved", unfollowed := true, recurses := true, apart := false }
def FnExactPuzzleSolvedSaid : Prop := fnExactPuzzleSolvedRow.holds Try.pinned (OpenSpec.ofChange fnExactPuzzleSolvedSpec)

/-- ITS FALSE NEIGHBOUR: 'it returns false'. Refute it at one input. -/
def fnExactPuzzleSolvedWrong : ChangeSpec := { name := "fnExactPuzzleSolved", fn := fun _ => fun
  | [d1, d2] => { results := [.lit (.bool false)], args := [d1, d2] }
  | _ => none }
def FnExactPuzzleSolvedWrongFalsely : Prop := fnExactPuzzleSolvedRow.holds Try.pinned (OpenSpec.ofChange fnExactPuzzleSolvedWrong)

/- THE SECOND FORM. 'bulk': how many values and letters a reading holds, each counted each time it is reached (what is shared counts as often as it is met; a slice's spare places count too). A statement '..UptoSaid' is the law's where the arguments, and the package variables that the reading takes, are together of bulk at most 1048576: NARROWER than '..Said'. Prove '..Said' where nothing that the law and all that it calls make is longer than what came in: it says more and counts as full. Else prove '..UptoSaid'. A law counts once. -/
mutual
def uptoBulk {H : Type} : DataW H → Nat
  | .lit (.string bytes) => bytes.length + 1
  | .lit _ => 1
  | .nil => 1
  | .ptr d => uptoBulk d + 1
  | .slice elems spare => uptoBulkAll elems + uptoBulkAll spare + 1
  | .agg parts => uptoBulkAll parts + 1
  | .iface _ d => uptoBulk d + 1
  | .map entries => uptoBulkEntries entries + 1
  | .held _ => 1
def uptoBulkAll {H : Type} : List (DataW H) → Nat
  | [] => 0
  | d :: r => uptoBulk d + uptoBulkAll r
def uptoBulkEntries {H : Type} : List (Lit × DataW H) → Nat
  | [] => 0
  | x :: r => uptoBulkEntry x + uptoBulkEntries r
def uptoBulkEntry {H : Type} : Lit × DataW H → Nat
  | (.string bytes, d) => bytes.length + uptoBulk d + 1
  | (_, d) => uptoBulk d + 1
 end
def uptoSmall : (H : Type) → List (DataW H) → Bool := fun _ ds => decide (uptoBulkAll ds ≤ 1048576)
def OpenSpec.upto (s : _root_.Go.ChangeSpec) : _root_.Go.OpenSpec := { _root_.Go.OpenSpec.ofChange s with cond := some uptoSmall }

/-- 'laws.FnCandidatesOf', WHERE WHAT IT READS IS OF BULK AT MOST 1048576: true; the input reads as it did. -/
def fnCandidatesOfUptoRow : OpenClaim := { program := "ythfbjkniinfgcaa", sum := "e6b88111ae70f8c4e1d462832ecf26b477812bea539766e423b6861c18289a56", func := "loop.example/gridpuzzles/laws.FnCandidatesOf", spec := "fnCandidatesOf", recurses := true, apart := false, narrowed := true }
def FnCandidatesOfUptoSaid : Prop := fnCandidatesOfUptoRow.holds Try.pinned (OpenSpec.upto fnCandidatesOfSpec)

/-- 'laws.FnRuleValid', WHERE WHAT IT READS IS OF BULK AT MOST 1048576: true; the input reads as it did. -/
def fnRuleValidUptoRow : OpenClaim := { program := "ythfbjkniinfgcaa", sum := "e6b88111ae70f8c4e1d462832ecf26b477812bea539766e423b6861c18289a56", func := "loop.example/gridpuzzles/laws.FnRuleValid", spec := "fnRuleValid", recurses := true, apart := false, narrowed := true }
def FnRuleValidUptoSaid : Prop := fnRuleValidUptoRow.holds Try.pinned (OpenSpec.upto fnRuleValidSpec)

/-- 'laws.FnExactPuzzleValid', WHERE WHAT IT READS IS OF BULK AT MOST 1048576: true; the input reads as it did. -/
def fnExactPuzzleValidUptoRow : OpenClaim := { program := "ythfbjkniinfgcaa", sum := "e6b88111ae70f8c4e1d462832ecf26b477812bea539766e423b6861c18289a56", func := "loop.example/gridpuzzles/laws.FnExactPuzzleValid", spec := "fnExactPuzzleValid", apart := false, narrowed := true }
def FnExactPuzzleValidUptoSaid : Prop := fnExactPuzzleValidUptoRow.holds Try.pinned (OpenSpec.upto fnExactPuzzleValidSpec)

/-- 'laws.FnExactRuleMasks', WHERE WHAT IT READS IS OF BULK AT MOST 1048576: true; the input reads as it did. -/
def fnExactRuleMasksUptoRow : OpenClaim := { program := "ythfbjkniinfgcaa", sum := "e6b88111ae70f8c4e1d462832ecf26b477812bea539766e423b6861c18289a56", func := "loop.example/gridpuzzles/laws.FnExactRuleMasks", spec := "fnExactRuleMasks", unfollowed := true, recurses := true, apart := false, narrowed := true }
def FnExactRuleMasksUptoSaid : Prop := fnExactRuleMasksUptoRow.holds Try.pinned (OpenSpec.upto fnExactRuleMasksSpec)

/-- 'laws.FnExactStartMasks', WHERE WHAT IT READS IS OF BULK AT MOST 1048576: true; the input reads as it did. -/
def fnExactStartMasksUptoRow : OpenClaim := { program := "ythfbjkniinfgcaa", sum := "e6b88111ae70f8c4e1d462832ecf26b477812bea539766e423b6861c18289a56", func := "loop.example/gridpuzzles/laws.FnExactStartMasks", spec := "fnExactStartMasks", apart := false, narrowed := true }
def FnExactStartMasksUptoSaid : Prop := fnExactStartMasksUptoRow.holds Try.pinned (OpenSpec.upto fnExactStartMasksSpec)

/-- 'laws.FnExactRulePossible', WHERE WHAT IT READS IS OF BULK AT MOST 1048576: true; the input reads as it did. -/
def fnExactRulePossibleUptoRow : OpenClaim := { program := "ythfbjkniinfgcaa", sum := "e6b88111ae70f8c4e1d462832ecf26b477812bea539766e423b6861c18289a56", func := "loop.example/gridpuzzles/laws.FnExactRulePossible", spec := "fnExactRulePossible", unfollowed := true, recurses := true, apart := false, narrowed := true }
def FnExactRulePossibleUptoSaid : Prop := fnExactRulePossibleUptoRow.holds Try.pinned (OpenSpec.upto fnExactRulePossibleSpec)

/-- 'laws.FnRuleSwap', WHERE WHAT IT READS IS OF BULK AT MOST 1048576: true; the input reads as it did. -/
def fnRuleSwapUptoRow : OpenClaim := { program := "ythfbjkniinfgcaa", sum := "e6b88111ae70f8c4e1d462832ecf26b477812bea539766e423b6861c18289a56", func := "loop.example/gridpuzzles/laws.FnRuleSwap", spec := "fnRuleSwap", recurses := true, apart := false, narrowed := true }
def FnRuleSwapUptoSaid : Prop := fnRuleSwapUptoRow.holds Try.pinned (OpenSpec.upto fnRuleSwapSpec)

/-- 'laws.FnRuleHolds', WHERE WHAT IT READS IS OF BULK AT MOST 1048576: true; the input reads as it did. -/
def fnRuleHoldsUptoRow : OpenClaim := { program := "ythfbjkniinfgcaa", sum := "e6b88111ae70f8c4e1d462832ecf26b477812bea539766e423b6861c18289a56", func := "loop.example/gridpuzzles/laws.FnRuleHolds", spec := "fnRuleHolds", unfollowed := true, recurses := true, apart := false, narrowed := true }
def FnRuleHoldsUptoSaid : Prop := fnRuleHoldsUptoRow.holds Try.pinned (OpenSpec.upto fnRuleHoldsSpec)

/-- 'laws.FnRulePossible', WHERE WHAT IT READS IS OF BULK AT MOST 1048576: true; the input reads as it did. -/
def fnRulePossibleUptoRow : OpenClaim := { program := "ythfbjkniinfgcaa", sum := "e6b88111ae70f8c4e1d462832ecf26b477812bea539766e423b6861c18289a56", func := "loop.example/gridpuzzles/laws.FnRulePossible", spec := "fnRulePossible", unfollowed := true, recurses := true, apart := false, narrowed := true }
def FnRulePossibleUptoSaid : Prop := fnRulePossibleUptoRow.holds Try.pinned (OpenSpec.upto fnRulePossibleSpec)

/-- 'laws.FnExactNarrowRules', WHERE WHAT IT READS IS OF BULK AT MOST 1048576: true; the input reads as it did. -/
def fnExactNarrowRulesUptoRow : OpenClaim := { program := "ythfbjkniinfgcaa", sum := "e6b88111ae70f8c4e1d462832ecf26b477812bea539766e423b6861c18289a56", func := "loop.example/gridpuzzles/laws.FnExactNarrowRules", spec := "fnExactNarrowRules", unfollowed := true, recurses := true, apart := false, narrowed := true }
def FnExactNarrowRulesUptoSaid : Prop := fnExactNarrowRulesUptoRow.holds Try.pinned (OpenSpec.upto fnExactNarrowRulesSpec)

/-- 'laws.FnExactPuzzleFits', WHERE WHAT IT READS IS OF BULK AT MOST 1048576: true; the input reads as it did. -/
def fnExactPuzzleFitsUptoRow : OpenClaim := { program := "ythfbjkniinfgcaa", sum := "e6b88111ae70f8c4e1d462832ecf26b477812bea539766e423b6861c18289a56", func := "loop.example/gridpuzzles/laws.FnExactPuzzleFits", spec := "fnExactPuzzleFits", unfollowed := true, recurses := true, apart := false, narrowed := true }
def FnExactPuzzleFitsUptoSaid : Prop := fnExactPuzzleFitsUptoRow.holds Try.pinned (OpenSpec.upto fnExactPuzzleFitsSpec)

/-- 'laws.FnExactPuzzleSolved', WHERE WHAT IT READS IS OF BULK AT MOST 1048576: true; the input reads as it did. -/
def fnExactPuzzleSolvedUptoRow : OpenClaim := { program := "ythfbjkniinfgcaa", sum := "e6b88111ae70f8c4e1d462832ecf26b477812bea539766e423b6861c18289a56", func := "loop.example/gridpuzzles/laws.FnExactPuzzleSolved", spec := "fnExactPuzzleSolved", unfollowed := true, recurses := true, apart := false, narrowed := true }
def FnExactPuzzleSolvedUptoSaid : Prop := fnExactPuzzleSolvedUptoRow.holds Try.pinned (OpenSpec.upto fnExactPuzzleSolvedSpec)

end Rows
end Go.Proofs.Ythfbjkniinfgcaa
