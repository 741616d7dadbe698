/- The pure statement of the law FnExactSquareFits: it answers true. Conditions: those of the row. -/
import Derived.Test.YtaglakdahmepeaaWWords
import Derived.Test.YtaglakdahmepeaaWMore
import Derived.Test.YtaglakdahmepeaaP6
import Derived.Test.YtaglakdahmepeaaClashI
import Derived.Test.YtaglakdahmepeaaClashS
import Derived.Test.YtaglakdahmepeaaHelp
namespace Go.Proofs.Ytaglakdahmepeaa.Pure
set_option linter.unusedSimpArgs false
set_option linter.unusedVariables false
open Go.RowKit Go.Proofs.YtaglakdahmepeaaW.PrintWords Go.Proofs.YtaglakdahmepeaaW.PrintMore Go.Proofs.Ytaglakdahmepeaa.P

theorem FnExactSquareFits : laws_FnExactSquareFits.Pure := by
  intro g s _ _ hwg hws
  apply Ev.rounds
  unfold laws_FnExactSquareFits.f
  by_cases hlg : (g.length : Int) > 1048576
  · simp only [hlg, if_true, if_false]; exact Ev.now _
  simp only [hlg, if_false]
  refine Ev.bind (toIntS_ev g (by omega)) ?_
  refine Ev.bind (specSquareFits_ev g s (by omega)) ?_
  refine Ev.bind (toIntS_ev g (by omega)) ?_
  refine Ev.bind (implSquareFits_ev g s (by omega)) ?_
  simp only [bne_self_eq_false, Bool.false_eq_true, if_false]
  refine Ev.bind (toIntS_ev g (by omega)) ?_
  refine Ev.bind (eqIntS_ev g g (by omega)) ?_
  simp only [decide_true, if_true]
  exact Ev.now _

end Go.Proofs.Ytaglakdahmepeaa.Pure
