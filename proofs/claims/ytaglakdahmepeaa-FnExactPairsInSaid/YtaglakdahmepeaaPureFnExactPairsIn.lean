/- The pure statement of the law FnExactPairsIn: it answers true. Conditions: those of the row. -/
import Derived.Test.YtaglakdahmepeaaWWords
import Derived.Test.YtaglakdahmepeaaWMore
import Derived.Test.YtaglakdahmepeaaP39
import Derived.Test.YtaglakdahmepeaaHelp
import Derived.Test.YtaglakdahmepeaaPairs
namespace Go.Proofs.Ytaglakdahmepeaa.Pure
set_option linter.unusedSimpArgs false
set_option linter.unusedVariables false
open Go.RowKit Go.Proofs.YtaglakdahmepeaaW.PrintWords Go.Proofs.YtaglakdahmepeaaW.PrintMore Go.Proofs.Ytaglakdahmepeaa.P

theorem FnExactPairsIn : laws_FnExactPairsIn.Pure := by
  intro g s l _ _ hwg hws hwl
  apply Ev.rounds
  unfold laws_FnExactPairsIn.f
  have hxg : ∀ x ∈ g, x ≤ 9223372036854775807 := fun x hx => (bounds_i64 (hwg x hx)).2
  by_cases hlg : (g.length : Int) > 1048576
  · simp only [hlg, if_true, if_false]; exact Ev.now _
  simp only [hlg, if_false]
  refine Ev.bind (toIntS_ev g (by omega)) ?_
  refine Ev.bind (specPairsIn_ev g s l (by omega)) ?_
  refine Ev.bind (toIntS_ev g (by omega)) ?_
  refine Ev.bind (implPairsIn_ev g s l (by omega) hxg) ?_
  simp only [if_true]
  refine Ev.bind (toIntS_ev g (by omega)) ?_
  refine Ev.bind (eqIntS_ev g g (by omega)) ?_
  simp only [decide_true, if_true]
  exact Ev.now _

end Go.Proofs.Ytaglakdahmepeaa.Pure
