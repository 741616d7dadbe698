/- The pure statement of the law FnExactLineCells: it answers true. Conditions: those of the row. -/
import Derived.Test.YtlkgoifmfjcohaaWWords
import Derived.Test.YtlkgoifmfjcohaaWMore
import Derived.Test.YtlkgoifmfjcohaaP14
import Derived.Test.YtlkgoifmfjcohaaHelp
import Derived.Test.YtlkgoifmfjcohaaLineC
import Derived.Test.YtlkgoifmfjcohaaModel
namespace Go.Proofs.Ytlkgoifmfjcohaa.Pure
set_option linter.unusedSimpArgs false
set_option linter.unusedVariables false
open Go.RowKit Go.Proofs.YtlkgoifmfjcohaaW.PrintWords Go.Proofs.YtlkgoifmfjcohaaW.PrintMore Go.Proofs.Ytlkgoifmfjcohaa.P

theorem FnExactLineCells : laws_FnExactLineCells.Pure := by
  intro s l _ _
  apply Ev.rounds
  unfold laws_FnExactLineCells.f
  have hlen : (lineC s l).length ≤ 16 := lineC_len s l
  refine Ev.bind (specLineCells_ev s l) ?_
  refine Ev.bind (implLineCells_ev s l) ?_
  refine Ev.bind (eqIntS_ev _ _ (by omega)) ?_
  simp only [decide_true, if_true]
  refine Ev.bind (markIntS_ev _ 1 (by omega) (by decide) (by decide)) ?_
  refine Ev.bind (heldIntS_marks 1 _ (by omega) (by decide) (by decide)) ?_
  have hp : ¬ ((1 : Int) + ((lineC s l).length : Int) < 0) := by omega
  simp only [hp, if_false, if_true]
  refine Ev.bind (implLineCells_ev s l) ?_
  refine Ev.bind (eqIntS_ev _ _ (by omega)) ?_
  simp only [decide_true, if_true]
  refine Ev.bind (heldIntS_marks 1 _ (by omega) (by decide) (by decide)) ?_
  simp only [hp, if_false, if_true]
  exact Ev.now _

end Go.Proofs.Ytlkgoifmfjcohaa.Pure
