/- The law FnExactRuleHolds's plain statement: it answers true. Conditions: those of the row. -/
import Derived.Test.YtaglakdahmepeaaWWords
import Derived.Test.YtaglakdahmepeaaWMore
import Derived.Test.YtaglakdahmepeaaP47
import Derived.Test.YtaglakdahmepeaaHelp
import Derived.Test.YtaglakdahmepeaaRuleHelp
import Derived.Test.YtaglakdahmepeaaRuleHoldsP
namespace Go.Proofs.Ytaglakdahmepeaa.Pure
set_option linter.unusedSimpArgs false
set_option linter.unusedVariables false
open Go.RowKit Go.Proofs.YtaglakdahmepeaaW.PrintWords Go.Proofs.YtaglakdahmepeaaW.PrintMore Go.Proofs.Ytaglakdahmepeaa.P

theorem FnExactRuleHolds (a : Int) (l : List Int) (c : Int) (_ : (Lit.int .i64 a).wf = true) (hm : l.length ≤ maxLen) (_ : ∀ x ∈ l, (Lit.int .i64 x).wf = true) (_ : (Lit.int .i64 c).wf = true) (g : List Int) (_ : g.length ≤ maxLen) (_ : ∀ x ∈ g, (Lit.int .i64 x).wf = true) (s : Int) (_ : (Lit.int .i64 s).wf = true) : ∃ k, laws_FnExactRuleHolds.f k a l c g s = some true := by
  apply Ev.rounds
  have hm' : l.length ≤ 9223372036854775807 := hm
  unfold laws_FnExactRuleHolds.f
  by_cases hgl : (g.length : Int) > 1048576
  · simp only [hgl, if_true]; exact Ev.now _
  simp only [hgl, if_false, szRule_eq a l c hm', Option.bind_some]
  by_cases hl : (l.length : Int) ≤ 1048576
  · have h1 : ¬ 1048576 - (l.length : Int) < 0 := by omega
    simp only [hl, h1, if_true, if_false]
    refine Ev.bind (toRule_ev a l c (by omega)) ?_
    refine Ev.bind (toIntS_ev g (by omega)) ?_
    refine Ev.bind (specRuleHolds_ev a l c g s (by omega) (by omega)) ?_
    refine Ev.bind (toRule_ev a l c (by omega)) ?_
    refine Ev.bind (toIntS_ev g (by omega)) ?_
    refine Ev.bind (implRuleHolds_ev a l c g s (by omega) (by omega)) ?_
    simp only [bne_self_eq_false, Bool.false_eq_true, if_false]
    refine Ev.bind (toRule_ev a l c (by omega)) ?_
    refine Ev.bind (eqRule_ev a l c (by omega)) ?_
    simp only [if_true]
    refine Ev.bind (toIntS_ev g (by omega)) ?_
    refine Ev.bind (eqIntS_ev g g (by omega)) ?_
    simp only [decide_true, if_true]
    exact Ev.now _
  · have h2 : (-1 : Int) < 0 := by decide
    simp only [hl, h2, if_true, if_false]
    exact Ev.now _

end Go.Proofs.Ytaglakdahmepeaa.Pure
