/- The pure statement of the law FnExactCandidatesOf: it answers true. Conditions: those of the row. -/
import Derived.Test.YtaglakdahmepeaaWWords
import Derived.Test.YtaglakdahmepeaaWMore
import Derived.Test.YtaglakdahmepeaaP15
import Derived.Test.YtaglakdahmepeaaCandA
import Derived.Test.YtaglakdahmepeaaCandI
import Derived.Test.YtaglakdahmepeaaCandS
import Derived.Test.YtaglakdahmepeaaHelp
namespace Go.Proofs.Ytaglakdahmepeaa.Pure
set_option linter.unusedSimpArgs false
set_option linter.unusedVariables false
open Go.RowKit Go.Proofs.YtaglakdahmepeaaW.PrintWords Go.Proofs.YtaglakdahmepeaaW.PrintMore Go.Proofs.Ytaglakdahmepeaa.P

theorem FnExactCandidatesOf : laws_FnExactCandidatesOf.Pure := by
  intro g s _ _ hwg hws
  apply Ev.rounds
  unfold laws_FnExactCandidatesOf.f
  by_cases hlg : (g.length : Int) > 1048576
  · simp only [hlg, if_true, if_false]; exact Ev.now _
  simp only [hlg, if_false]
  refine Ev.bind (toIntS_ev g (by omega)) ?_
  refine Ev.bind (specCandidates_ev g s (by omega)) ?_
  refine Ev.bind (toIntS_ev g (by omega)) ?_
  refine Ev.bind (implCandidates_ev g s (by omega)) ?_
  have hr : (candidates g s).length ≤ 16 := candidates_len g s
  have hp : ¬ ((1 : Int) + ((candidates g s).length : Int) < 0) := by omega
  refine Ev.bind (eqIntS_ev _ _ (by omega)) ?_
  simp only [decide_true, if_true]
  refine Ev.bind (toIntS_ev g (by omega)) ?_
  refine Ev.bind (eqIntS_ev g g (by omega)) ?_
  simp only [decide_true, if_true]
  have hq : ¬ ((1 : Int) + (g.length : Int) < 0) := by omega
  refine Ev.bind (markIntS_ev g 1 (by omega) (by decide) (by decide)) ?_
  simp only [hq, if_false]
  refine Ev.bind (eqIntS_ev _ _ (by omega)) ?_
  simp only [decide_true, Bool.not_true]
  refine Ev.step (fun k => laws_FnExactCandidatesOf.j0.eq_2 _ _ _ _ _ k) ?_
  simp only [Bool.false_eq_true, if_false]
  refine Ev.bind (markIntS_ev _ 1 (by omega) (by decide) (by decide)) ?_
  refine Ev.bind (heldIntS_marks 1 _ (by omega) (by decide) (by decide)) ?_
  simp only [hp, if_false, if_true]
  refine Ev.bind (toIntS_ev g (by omega)) ?_
  refine Ev.bind (implCandidates_ev g s (by omega)) ?_
  refine Ev.bind (eqIntS_ev _ _ (by omega)) ?_
  simp only [decide_true, if_true]
  refine Ev.bind (heldIntS_marks 1 _ (by omega) (by decide) (by decide)) ?_
  simp only [hp, if_false, if_true]
  exact Ev.now _

end Go.Proofs.Ytaglakdahmepeaa.Pure
