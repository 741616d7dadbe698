/-
  No cell of these rows narrows 'for every input' (looked for: loops, veiled, ifaces, maps, wideKeys, modest, calm, conditions, laid).
  DERIVED. THE GIVEN ROWS OF THIS SEAT. 6 by the template 'for every input the law returns true; each argument reads behind the call as it read before'; 0 by the template 'total and deterministic' (their statements: YtdemlminhkhonaaTotals.lean).
  GIVEN WITH THE SEED: the statements are not yours to turn. If you find one false, say at which input.
  Laid BY PROGRAM, IN A SANDBOX (cutbox-rows.mjs): the forced cells as the released guide's own fill.sh prints them over the translation 9c42591e5ace04b2… (all of the seat's roots in one cut). By AI agents, Wed Nov 11 2026. No macro, syntax, notation, axiom, sorry.
-/
import Derived.Test.YtdemlminhkhonaaChecked
import GoSem.Claim
import GoSem.ClaimJoined
import GoSem.ClaimMapViews
import Derived.JoinedTies
import Derived.KernelRfl
namespace Go.Proofs.Ytdemlminhkhonaa
/- THE CELL 'sum', in the pinned program and in every row, IS THE sha256 OF THE DUMP (.gsa) THAT YtdemlminhkhonaaProg.lean LOADS. Nothing in Lean hashes anything: it is a label: what it is worth is what the hold of that sum in a sandbox is worth. -/
noncomputable def Try.pinned : Pinned := { name := "ytdemlminhkhonaa", sum := "9c42591e5ace04b2c7c50daeefa43abeeb40145948b47bf335593b5a7a3e9db8", checked := Try.checked }
namespace Rows
def none {H : Type} : Left H := { results := [], args := [] }

/-- 'laws.FnExactTechniqueCounts': WHATEVER THE INPUT: true; the input reads as it did. -/
def fnExactTechniqueCountsSpec : ChangeSpec := { name := "fnExactTechniqueCounts", fn := fun _ => fun
  | [d] => { results := [.lit (.bool true)], args := [d] }
  | _ => none }
def fnExactTechniqueCountsRow : OpenClaim := { program := "ytdemlminhkhonaa", sum := "9c42591e5ace04b2c7c50daeefa43abeeb40145948b47bf335593b5a7a3e9db8", func := "loop.example/gridpuzzles/laws.FnExactTechniqueCounts", spec := "fnExactTechniqueCounts", unfollowed := true, recurses := true, apart := false }
def FnExactTechniqueCountsSaid : Prop := fnExactTechniqueCountsRow.holds Try.pinned (OpenSpec.ofChange fnExactTechniqueCountsSpec)

/-- ITS FALSE NEIGHBOUR: 'it returns false'. Refute it at one input. -/
def fnExactTechniqueCountsWrong : ChangeSpec := { name := "fnExactTechniqueCounts", fn := fun _ => fun
  | [d] => { results := [.lit (.bool false)], args := [d] }
  | _ => none }
def FnExactTechniqueCountsWrongFalsely : Prop := fnExactTechniqueCountsRow.holds Try.pinned (OpenSpec.ofChange fnExactTechniqueCountsWrong)

/-- 'laws.FnExactSolveSteps': WHATEVER THE INPUT: true; the input reads as it did. -/
def fnExactSolveStepsSpec : ChangeSpec := { name := "fnExactSolveSteps", fn := fun _ => fun
  | [d1, d2] => { results := [.lit (.bool true)], args := [d1, d2] }
  | _ => none }
def fnExactSolveStepsRow : OpenClaim := { program := "ytdemlminhkhonaa", sum := "9c42591e5ace04b2c7c50daeefa43abeeb40145948b47bf335593b5a7a3e9db8", func := "loop.example/gridpuzzles/laws.FnExactSolveSteps", spec := "fnExactSolveSteps", unfollowed := true, recurses := true, apart := false }
def FnExactSolveStepsSaid : Prop := fnExactSolveStepsRow.holds Try.pinned (OpenSpec.ofChange fnExactSolveStepsSpec)

/-- ITS FALSE NEIGHBOUR: 'it returns false'. Refute it at one input. -/
def fnExactSolveStepsWrong : ChangeSpec := { name := "fnExactSolveSteps", fn := fun _ => fun
  | [d1, d2] => { results := [.lit (.bool false)], args := [d1, d2] }
  | _ => none }
def FnExactSolveStepsWrongFalsely : Prop := fnExactSolveStepsRow.holds Try.pinned (OpenSpec.ofChange fnExactSolveStepsWrong)

/-- 'laws.FnExactGradePuzzle': WHATEVER THE INPUT: true; the input reads as it did. -/
def fnExactGradePuzzleSpec : ChangeSpec := { name := "fnExactGradePuzzle", fn := fun _ => fun
  | [d] => { results := [.lit (.bool true)], args := [d] }
  | _ => none }
def fnExactGradePuzzleRow : OpenClaim := { program := "ytdemlminhkhonaa", sum := "9c42591e5ace04b2c7c50daeefa43abeeb40145948b47bf335593b5a7a3e9db8", func := "loop.example/gridpuzzles/laws.FnExactGradePuzzle", spec := "fnExactGradePuzzle", unfollowed := true, recurses := true, apart := false }
def FnExactGradePuzzleSaid : Prop := fnExactGradePuzzleRow.holds Try.pinned (OpenSpec.ofChange fnExactGradePuzzleSpec)

/-- ITS FALSE NEIGHBOUR: 'it returns false'. Refute it at one input. -/
def fnExactGradePuzzleWrong : ChangeSpec := { name := "fnExactGradePuzzle", fn := fun _ => fun
  | [d] => { results := [.lit (.bool false)], args := [d] }
  | _ => none }
def FnExactGradePuzzleWrongFalsely : Prop := fnExactGradePuzzleRow.holds Try.pinned (OpenSpec.ofChange fnExactGradePuzzleWrong)

/-- 'laws.FnExactNarrowBy': WHATEVER THE INPUT: true; the input reads as it did. -/
def fnExactNarrowBySpec : ChangeSpec := { name := "fnExactNarrowBy", fn := fun _ => fun
  | [d1, d2, d3] => { results := [.lit (.bool true)], args := [d1, d2, d3] }
  | _ => none }
def fnExactNarrowByRow : OpenClaim := { program := "ytdemlminhkhonaa", sum := "9c42591e5ace04b2c7c50daeefa43abeeb40145948b47bf335593b5a7a3e9db8", func := "loop.example/gridpuzzles/laws.FnExactNarrowBy", spec := "fnExactNarrowBy", unfollowed := true, recurses := true, apart := false }
def FnExactNarrowBySaid : Prop := fnExactNarrowByRow.holds Try.pinned (OpenSpec.ofChange fnExactNarrowBySpec)

/-- ITS FALSE NEIGHBOUR: 'it returns false'. Refute it at one input. -/
def fnExactNarrowByWrong : ChangeSpec := { name := "fnExactNarrowBy", fn := fun _ => fun
  | [d1, d2, d3] => { results := [.lit (.bool false)], args := [d1, d2, d3] }
  | _ => none }
def FnExactNarrowByWrongFalsely : Prop := fnExactNarrowByRow.holds Try.pinned (OpenSpec.ofChange fnExactNarrowByWrong)

/-- 'laws.FnExactNarrowAll': WHATEVER THE INPUT: true; the input reads as it did. -/
def fnExactNarrowAllSpec : ChangeSpec := { name := "fnExactNarrowAll", fn := fun _ => fun
  | [d1, d2, d3] => { results := [.lit (.bool true)], args := [d1, d2, d3] }
  | _ => none }
def fnExactNarrowAllRow : OpenClaim := { program := "ytdemlminhkhonaa", sum := "9c42591e5ace04b2c7c50daeefa43abeeb40145948b47bf335593b5a7a3e9db8", func := "loop.example/gridpuzzles/laws.FnExactNarrowAll", spec := "fnExactNarrowAll", unfollowed := true, recurses := true, apart := false }
def FnExactNarrowAllSaid : Prop := fnExactNarrowAllRow.holds Try.pinned (OpenSpec.ofChange fnExactNarrowAllSpec)

/-- ITS FALSE NEIGHBOUR: 'it returns false'. Refute it at one input. -/
def fnExactNarrowAllWrong : ChangeSpec := { name := "fnExactNarrowAll", fn := fun _ => fun
  | [d1, d2, d3] => { results := [.lit (.bool false)], args := [d1, d2, d3] }
  | _ => none }
def FnExactNarrowAllWrongFalsely : Prop := fnExactNarrowAllRow.holds Try.pinned (OpenSpec.ofChange fnExactNarrowAllWrong)

/-- 'laws.FnExactStepMasks': WHATEVER THE INPUT: true; the input reads as it did. -/
def fnExactStepMasksSpec : ChangeSpec := { name := "fnExactStepMasks", fn := fun _ => fun
  | [d1, d2] => { results := [.lit (.bool true)], args := [d1, d2] }
  | _ => none }
def fnExactStepMasksRow : OpenClaim := { program := "ytdemlminhkhonaa", sum := "9c42591e5ace04b2c7c50daeefa43abeeb40145948b47bf335593b5a7a3e9db8", func := "loop.example/gridpuzzles/laws.FnExactStepMasks", spec := "fnExactStepMasks", unfollowed := true, recurses := true, apart := false }
def FnExactStepMasksSaid : Prop := fnExactStepMasksRow.holds Try.pinned (OpenSpec.ofChange fnExactStepMasksSpec)

/-- ITS FALSE NEIGHBOUR: 'it returns false'. Refute it at one input. -/
def fnExactStepMasksWrong : ChangeSpec := { name := "fnExactStepMasks", fn := fun _ => fun
  | [d1, d2] => { results := [.lit (.bool false)], args := [d1, d2] }
  | _ => none }
def FnExactStepMasksWrongFalsely : Prop := fnExactStepMasksRow.holds Try.pinned (OpenSpec.ofChange fnExactStepMasksWrong)

/- THE SECOND FORM. 'bulk': how many values and letters a reading holds, each counted each time it is reached (what is shared counts as often as it is met; a slice's spare places count too). A statement '..UptoSaid' is the law's where the arguments, and the package variables that the reading takes, are together of bulk at most 1048576: NARROWER than '..Said'. Prove '..Said' where nothing that the law and all that it calls make is longer than what came in: it says more and counts as full. Else prove '..UptoSaid'. A law counts once. -/
mutual
def uptoBulk {H : Type} : DataW H → Nat
  | .lit (.string bytes) => bytes.length + 1
  | .lit _ => 1
  | .nil => 1
  | .ptr d => uptoBulk d + 1
  | .slice elems spare => uptoBulkAll elems + uptoBulkAll spare + 1
  | .agg parts => uptoBulkAll parts + 1
  | .iface _ d => uptoBulk d + 1
  | .map entries => uptoBulkEntries entries + 1
  | .held _ => 1
def uptoBulkAll {H : Type} : List (DataW H) → Nat
  | [] => 0
  | d :: r => uptoBulk d + uptoBulkAll r
def uptoBulkEntries {H : Type} : List (Lit × DataW H) → Nat
  | [] => 0
  | x :: r => uptoBulkEntry x + uptoBulkEntries r
def uptoBulkEntry {H : Type} : Lit × DataW H → Nat
  | (.string bytes, d) => bytes.length + uptoBulk d + 1
  | (_, d) => uptoBulk d + 1
 end
def uptoSmall : (H : Type) → List (DataW H) → Bool := fun _ ds => decide (uptoBulkAll ds ≤ 1048576)
def OpenSpec.upto (s : _root_.Go.ChangeSpec) : _root_.Go.OpenSpec := { _root_.Go.OpenSpec.ofChange s with cond := some uptoSmall }

/-- 'laws.FnExactTechniqueCounts', WHERE WHAT IT READS IS OF BULK AT MOST 1048576: true; the input reads as it did. -/
def fnExactTechniqueCountsUptoRow : OpenClaim := { program := "ytdemlminhkhonaa", sum := "9c42591e5ace04b2c7c50daeefa43abeeb40145948b47bf335593b5a7a3e9db8", func := "loop.example/gridpuzzles/laws.FnExactTechniqueCounts", spec := "fnExactTechniqueCounts", unfollowed := true, recurses := true, apart := false, narrowed := true }
def FnExactTechniqueCountsUptoSaid : Prop := fnExactTechniqueCountsUptoRow.holds Try.pinned (OpenSpec.upto fnExactTechniqueCountsSpec)

/-- 'laws.FnExactSolveSteps', WHERE WHAT IT READS IS OF BULK AT MOST 1048576: true; the input reads as it did. -/
def fnExactSolveStepsUptoRow : OpenClaim := { program := "ytdemlminhkhonaa", sum := "9c42591e5ace04b2c7c50daeefa43abeeb40145948b47bf335593b5a7a3e9db8", func := "loop.example/gridpuzzles/laws.FnExactSolveSteps", spec := "fnExactSolveSteps", unfollowed := true, recurses := true, apart := false, narrowed := true }
def FnExactSolveStepsUptoSaid : Prop := fnExactSolveStepsUptoRow.holds Try.pinned (OpenSpec.upto fnExactSolveStepsSpec)

/-- 'laws.FnExactGradePuzzle', WHERE WHAT IT READS IS OF BULK AT MOST 1048576: true; the input reads as it did. -/
def fnExactGradePuzzleUptoRow : OpenClaim := { program := "ytdemlminhkhonaa", sum := "9c42591e5ace04b2c7c50daeefa43abeeb40145948b47bf335593b5a7a3e9db8", func := "loop.example/gridpuzzles/laws.FnExactGradePuzzle", spec := "fnExactGradePuzzle", unfollowed := true, recurses := true, apart := false, narrowed := true }
def FnExactGradePuzzleUptoSaid : Prop := fnExactGradePuzzleUptoRow.holds Try.pinned (OpenSpec.upto fnExactGradePuzzleSpec)

/-- 'laws.FnExactNarrowBy', WHERE WHAT IT READS IS OF BULK AT MOST 1048576: true; the input reads as it did. -/
def fnExactNarrowByUptoRow : OpenClaim := { program := "ytdemlminhkhonaa", sum := "9c42591e5ace04b2c7c50daeefa43abeeb40145948b47bf335593b5a7a3e9db8", func := "loop.example/gridpuzzles/laws.FnExactNarrowBy", spec := "fnExactNarrowBy", unfollowed := true, recurses := true, apart := false, narrowed := true }
def FnExactNarrowByUptoSaid : Prop := fnExactNarrowByUptoRow.holds Try.pinned (OpenSpec.upto fnExactNarrowBySpec)

/-- 'laws.FnExactNarrowAll', WHERE WHAT IT READS IS OF BULK AT MOST 1048576: true; the input reads as it did. -/
def fnExactNarrowAllUptoRow : OpenClaim := { program := "ytdemlminhkhonaa", sum := "9c42591e5ace04b2c7c50daeefa43abeeb40145948b47bf335593b5a7a3e9db8", func := "loop.example/gridpuzzles/laws.FnExactNarrowAll", spec := "fnExactNarrowAll", unfollowed := true, recurses := true, apart := false, narrowed := true }
def FnExactNarrowAllUptoSaid : Prop := fnExactNarrowAllUptoRow.holds Try.pinned (OpenSpec.upto fnExactNarrowAllSpec)

/-- 'laws.FnExactStepMasks', WHERE WHAT IT READS IS OF BULK AT MOST 1048576: true; the input reads as it did. -/
def fnExactStepMasksUptoRow : OpenClaim := { program := "ytdemlminhkhonaa", sum := "9c42591e5ace04b2c7c50daeefa43abeeb40145948b47bf335593b5a7a3e9db8", func := "loop.example/gridpuzzles/laws.FnExactStepMasks", spec := "fnExactStepMasks", unfollowed := true, recurses := true, apart := false, narrowed := true }
def FnExactStepMasksUptoSaid : Prop := fnExactStepMasksUptoRow.holds Try.pinned (OpenSpec.upto fnExactStepMasksSpec)

end Rows
end Go.Proofs.Ytdemlminhkhonaa
