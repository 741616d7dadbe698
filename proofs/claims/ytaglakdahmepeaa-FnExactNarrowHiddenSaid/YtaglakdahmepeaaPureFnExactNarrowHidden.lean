/- The pure statement of the law FnExactNarrowHidden: it answers true. Conditions: those of the row. -/
import Derived.Test.YtaglakdahmepeaaWWords
import Derived.Test.YtaglakdahmepeaaWMore
import Derived.Test.YtaglakdahmepeaaP36
import Derived.Test.YtaglakdahmepeaaHelp
import Derived.Test.YtaglakdahmepeaaNHid
namespace Go.Proofs.Ytaglakdahmepeaa.Pure
set_option linter.unusedSimpArgs false
set_option linter.unusedVariables false
open Go.RowKit Go.Proofs.YtaglakdahmepeaaW.PrintWords Go.Proofs.YtaglakdahmepeaaW.PrintMore Go.Proofs.Ytaglakdahmepeaa.P

theorem FnExactNarrowHidden : laws_FnExactNarrowHidden.Pure := by
  intro g s _ _ hwg hws
  apply Ev.rounds
  unfold laws_FnExactNarrowHidden.f
  have hxg : ∀ x ∈ g, x ≤ 9223372036854775807 := fun x hx => (bounds_i64 (hwg x hx)).2
  by_cases hlg : (g.length : Int) > 1048576
  · simp only [hlg, if_true, if_false]; exact Ev.now _
  simp only [hlg, if_false]
  refine Ev.bind (toIntS_ev g (by omega)) ?_
  refine Ev.bind (specNarrowHidden_ev g s (by omega)) ?_
  refine Ev.bind (toIntS_ev g (by omega)) ?_
  refine Ev.bind (implNarrowHidden_ev g s (by omega) hxg) ?_
  have hr : (narrowHidden g s).length ≤ 16 := narrowHidden_len g s
  have hp : ¬ ((1 : Int) + ((narrowHidden g s).length : Int) < 0) := by omega
  refine Ev.bind (eqIntS_ev _ _ (by omega)) ?_
  simp only [decide_true, if_true]
  refine Ev.bind (toIntS_ev g (by omega)) ?_
  refine Ev.bind (eqIntS_ev g g (by omega)) ?_
  simp only [decide_true, if_true]
  have hq : ¬ ((1 : Int) + (g.length : Int) < 0) := by omega
  refine Ev.bind (markIntS_ev g 1 (by omega) (by decide) (by decide)) ?_
  simp only [hq, if_false]
  refine Ev.bind (eqIntS_ev _ _ (by omega)) ?_
  simp only [decide_true, Bool.not_true]
  refine Ev.step (fun k => laws_FnExactNarrowHidden.j0.eq_2 _ _ _ _ _ k) ?_
  simp only [Bool.false_eq_true, if_false]
  refine Ev.bind (markIntS_ev _ 1 (by omega) (by decide) (by decide)) ?_
  refine Ev.bind (heldIntS_marks 1 _ (by omega) (by decide) (by decide)) ?_
  simp only [hp, if_false, if_true]
  refine Ev.bind (toIntS_ev g (by omega)) ?_
  refine Ev.bind (implNarrowHidden_ev g s (by omega) hxg) ?_
  refine Ev.bind (eqIntS_ev _ _ (by omega)) ?_
  simp only [decide_true, if_true]
  refine Ev.bind (heldIntS_marks 1 _ (by omega) (by decide) (by decide)) ?_
  simp only [hp, if_false, if_true]
  exact Ev.now _

end Go.Proofs.Ytaglakdahmepeaa.Pure
