/- The pure statement of the law FnExactGridMirror: it answers true. Conditions: those of the row. -/
import Derived.Test.YtlkgoifmfjcohaaWWords
import Derived.Test.YtlkgoifmfjcohaaWMore
import Derived.Test.YtlkgoifmfjcohaaP19
import Derived.Test.YtlkgoifmfjcohaaHelp
import Derived.Test.YtlkgoifmfjcohaaMirror
import Derived.Test.YtlkgoifmfjcohaaModel
namespace Go.Proofs.Ytlkgoifmfjcohaa.Pure
set_option linter.unusedSimpArgs false
set_option linter.unusedVariables false
open Go.RowKit Go.Proofs.YtlkgoifmfjcohaaW.PrintWords Go.Proofs.YtlkgoifmfjcohaaW.PrintMore Go.Proofs.Ytlkgoifmfjcohaa.P

theorem FnExactGridMirror : laws_FnExactGridMirror.Pure := by
  intro l a _ _ hw ha
  apply Ev.rounds
  unfold laws_FnExactGridMirror.f
  by_cases hlen : (l.length : Int) > 1048576
  · simp only [hlen, if_true]; exact Ev.now _
  · simp only [hlen, if_false]
    have hr : (mirrorG l a).length ≤ 16 := mirrorG_len l a
    have hp : ¬ ((1 : Int) + ((mirrorG l a).length : Int) < 0) := by omega
    have hq : ¬ ((1 : Int) + (l.length : Int) < 0) := by omega
    refine Ev.bind (toIntS_ev l (by omega)) ?_
    refine Ev.bind (specGridMirror_ev l a (by omega)) ?_
    refine Ev.bind (toIntS_ev l (by omega)) ?_
    refine Ev.bind (implGridMirror_ev l a (by omega)) ?_
    refine Ev.bind (eqIntS_ev _ _ (by omega)) ?_
    simp only [decide_true, if_true]
    refine Ev.bind (toIntS_ev l (by omega)) ?_
    refine Ev.bind (eqIntS_ev l l (by omega)) ?_
    simp only [decide_true, if_true]
    refine Ev.bind (markIntS_ev l 1 (by omega) (by decide) (by decide)) ?_
    simp only [hq, if_false]
    refine Ev.bind (eqIntS_ev _ _ (by omega)) ?_
    simp only [decide_true, Bool.not_true]
    refine Ev.step (fun k => laws_FnExactGridMirror.j0.eq_2 _ _ _ _ _ k) ?_
    simp only [Bool.false_eq_true, if_false]
    refine Ev.bind (markIntS_ev _ 1 (by omega) (by decide) (by decide)) ?_
    refine Ev.bind (heldIntS_marks 1 _ (by omega) (by decide) (by decide)) ?_
    simp only [hp, if_false, if_true]
    refine Ev.bind (toIntS_ev l (by omega)) ?_
    refine Ev.bind (implGridMirror_ev l a (by omega)) ?_
    refine Ev.bind (eqIntS_ev _ _ (by omega)) ?_
    simp only [decide_true, if_true]
    refine Ev.bind (heldIntS_marks 1 _ (by omega) (by decide) (by decide)) ?_
    simp only [hp, if_false, if_true]
    exact Ev.now _

end Go.Proofs.Ytlkgoifmfjcohaa.Pure
