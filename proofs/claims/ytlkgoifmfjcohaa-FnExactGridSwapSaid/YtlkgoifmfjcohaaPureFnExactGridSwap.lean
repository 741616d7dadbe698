/- The pure statement of the law FnExactGridSwap: it answers true. Conditions: those of the row. -/
import Derived.Test.YtlkgoifmfjcohaaWWords
import Derived.Test.YtlkgoifmfjcohaaWMore
import Derived.Test.YtlkgoifmfjcohaaP28
import Derived.Test.YtlkgoifmfjcohaaHelp
import Derived.Test.YtlkgoifmfjcohaaSwap
namespace Go.Proofs.Ytlkgoifmfjcohaa.Pure
set_option linter.unusedSimpArgs false
set_option linter.unusedVariables false
open Go.RowKit Go.Proofs.YtlkgoifmfjcohaaW.PrintWords Go.Proofs.YtlkgoifmfjcohaaW.PrintMore Go.Proofs.Ytlkgoifmfjcohaa.P

theorem FnExactGridSwap : laws_FnExactGridSwap.Pure := by
  intro g s a b _ _ hwg hws hwa hwb
  apply Ev.rounds
  unfold laws_FnExactGridSwap.f
  by_cases hlg : (g.length : Int) > 1048576
  · simp only [hlg, if_true, if_false]; exact Ev.now _
  simp only [hlg, if_false]
  refine Ev.bind (toIntS_ev g (by omega)) ?_
  refine Ev.bind (specGridSwap_ev g s a b (by omega)) ?_
  refine Ev.bind (toIntS_ev g (by omega)) ?_
  refine Ev.bind (implGridSwap_ev g s a b (by omega)) ?_
  have hr : (swapG g s a b).length ≤ 16 := swapG_len g s a b
  have hp : ¬ ((1 : Int) + ((swapG g s a b).length : Int) < 0) := by omega
  refine Ev.bind (eqIntS_ev _ _ (by omega)) ?_
  simp only [decide_true, if_true]
  refine Ev.bind (toIntS_ev g (by omega)) ?_
  refine Ev.bind (eqIntS_ev g g (by omega)) ?_
  simp only [decide_true, if_true]
  have hq : ¬ ((1 : Int) + (g.length : Int) < 0) := by omega
  refine Ev.bind (markIntS_ev g 1 (by omega) (by decide) (by decide)) ?_
  simp only [hq, if_false]
  refine Ev.bind (eqIntS_ev _ _ (by omega)) ?_
  simp only [decide_true, Bool.not_true]
  refine Ev.step (fun k => laws_FnExactGridSwap.j0.eq_2 _ _ _ _ _ _ _ k) ?_
  simp only [Bool.false_eq_true, if_false]
  refine Ev.bind (markIntS_ev _ 1 (by omega) (by decide) (by decide)) ?_
  refine Ev.bind (heldIntS_marks 1 _ (by omega) (by decide) (by decide)) ?_
  simp only [hp, if_false, if_true]
  refine Ev.bind (toIntS_ev g (by omega)) ?_
  refine Ev.bind (implGridSwap_ev g s a b (by omega)) ?_
  refine Ev.bind (eqIntS_ev _ _ (by omega)) ?_
  simp only [decide_true, if_true]
  refine Ev.bind (heldIntS_marks 1 _ (by omega) (by decide) (by decide)) ?_
  simp only [hp, if_false, if_true]
  exact Ev.now _

end Go.Proofs.Ytlkgoifmfjcohaa.Pure
