/- The pure statement of the law FnExactMasksHave: it answers true. Conditions: those of the row. -/
import Derived.Test.YtlkgoifmfjcohaaWWords
import Derived.Test.YtlkgoifmfjcohaaWMore
import Derived.Test.YtlkgoifmfjcohaaP31
import Derived.Test.YtlkgoifmfjcohaaHelp
import Derived.Test.YtlkgoifmfjcohaaMHave
namespace Go.Proofs.Ytlkgoifmfjcohaa.Pure
set_option linter.unusedSimpArgs false
set_option linter.unusedVariables false
open Go.RowKit Go.Proofs.YtlkgoifmfjcohaaW.PrintWords Go.Proofs.YtlkgoifmfjcohaaW.PrintMore Go.Proofs.Ytlkgoifmfjcohaa.P

theorem FnExactMasksHave : laws_FnExactMasksHave.Pure := by
  intro m s g _ _ hwm hws _ _ hwg
  apply Ev.rounds
  unfold laws_FnExactMasksHave.f
  have hxm : ∀ x ∈ m, x ≤ 9223372036854775807 := fun x hx => (bounds_i64 (hwm x hx)).2
  by_cases hlm : (m.length : Int) > 1048576
  · simp only [hlm, if_true, if_false]; exact Ev.now _
  by_cases hlg : (g.length : Int) > 1048576
  · simp only [hlm, hlg, if_true, if_false]; exact Ev.now _
  simp only [hlm, hlg, if_false]
  refine Ev.bind (toIntS_ev m (by omega)) ?_
  refine Ev.bind (toIntS_ev g (by omega)) ?_
  refine Ev.bind (specMasksHave_ev m s g (by omega) (by omega)) ?_
  refine Ev.bind (toIntS_ev m (by omega)) ?_
  refine Ev.bind (toIntS_ev g (by omega)) ?_
  refine Ev.bind (implMasksHave_ev m s g (by omega) hxm (by omega)) ?_
  simp only [bne_self_eq_false, Bool.false_eq_true, if_false]
  refine Ev.bind (toIntS_ev m (by omega)) ?_
  refine Ev.bind (eqIntS_ev m m (by omega)) ?_
  simp only [decide_true, if_true]
  refine Ev.bind (toIntS_ev g (by omega)) ?_
  refine Ev.bind (eqIntS_ev g g (by omega)) ?_
  simp only [decide_true, if_true]
  exact Ev.now _

end Go.Proofs.Ytlkgoifmfjcohaa.Pure
