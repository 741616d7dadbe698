/- The pure statement of the law FnExactGridTurn: it answers true. Conditions: those of the row. -/
import Derived.Test.YtlkgoifmfjcohaaWWords
import Derived.Test.YtlkgoifmfjcohaaWMore
import Derived.Test.YtlkgoifmfjcohaaP22
import Derived.Test.YtlkgoifmfjcohaaHelp
import Derived.Test.YtlkgoifmfjcohaaModel
import Derived.Test.YtlkgoifmfjcohaaTurn
namespace Go.Proofs.Ytlkgoifmfjcohaa.Pure
set_option linter.unusedSimpArgs false
set_option linter.unusedVariables false
open Go.RowKit Go.Proofs.YtlkgoifmfjcohaaW.PrintWords Go.Proofs.YtlkgoifmfjcohaaW.PrintMore Go.Proofs.Ytlkgoifmfjcohaa.P

theorem FnExactGridTurn : laws_FnExactGridTurn.Pure := by
  intro l a _ _ hw ha
  apply Ev.rounds
  unfold laws_FnExactGridTurn.f
  by_cases hlen : (l.length : Int) > 1048576
  · simp only [hlen, if_true]; exact Ev.now _
  · simp only [hlen, if_false]
    have hr : (turnG l a).length ≤ 16 := turnG_len l a
    have hp : ¬ ((1 : Int) + ((turnG l a).length : Int) < 0) := by omega
    have hq : ¬ ((1 : Int) + (l.length : Int) < 0) := by omega
    refine Ev.bind (toIntS_ev l (by omega)) ?_
    refine Ev.bind (specGridTurn_ev l a (by omega)) ?_
    refine Ev.bind (toIntS_ev l (by omega)) ?_
    refine Ev.bind (implGridTurn_ev l a (by omega)) ?_
    refine Ev.bind (eqIntS_ev _ _ (by omega)) ?_
    simp only [decide_true, if_true]
    refine Ev.bind (toIntS_ev l (by omega)) ?_
    refine Ev.bind (eqIntS_ev l l (by omega)) ?_
    simp only [decide_true, if_true]
    refine Ev.bind (markIntS_ev l 1 (by omega) (by decide) (by decide)) ?_
    simp only [hq, if_false]
    refine Ev.bind (eqIntS_ev _ _ (by omega)) ?_
    simp only [decide_true, Bool.not_true]
    refine Ev.step (fun k => laws_FnExactGridTurn.j0.eq_2 _ _ _ _ _ k) ?_
    simp only [Bool.false_eq_true, if_false]
    refine Ev.bind (markIntS_ev _ 1 (by omega) (by decide) (by decide)) ?_
    refine Ev.bind (heldIntS_marks 1 _ (by omega) (by decide) (by decide)) ?_
    simp only [hp, if_false, if_true]
    refine Ev.bind (toIntS_ev l (by omega)) ?_
    refine Ev.bind (implGridTurn_ev l a (by omega)) ?_
    refine Ev.bind (eqIntS_ev _ _ (by omega)) ?_
    simp only [decide_true, if_true]
    refine Ev.bind (heldIntS_marks 1 _ (by omega) (by decide) (by decide)) ?_
    simp only [hp, if_false, if_true]
    exact Ev.now _

end Go.Proofs.Ytlkgoifmfjcohaa.Pure
