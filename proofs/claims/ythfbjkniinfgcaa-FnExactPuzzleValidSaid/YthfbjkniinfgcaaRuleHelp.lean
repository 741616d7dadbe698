/- The laws' own helpers for rules: sizes, copies, comparisons. Conditions: as stated in each. -/
import Derived.Test.YthfbjkniinfgcaaWWords
import Derived.Test.YthfbjkniinfgcaaWMore
import Derived.Test.YthfbjkniinfgcaaP14
import Derived.Test.YthfbjkniinfgcaaP16
import Derived.Test.YthfbjkniinfgcaaP17
import Derived.Test.YthfbjkniinfgcaaP18
import Derived.Test.YthfbjkniinfgcaaHelp
namespace Go.Proofs.Ythfbjkniinfgcaa.Pure
set_option linter.unusedSimpArgs false
set_option linter.unusedVariables false
open Go.RowKit Go.Proofs.YthfbjkniinfgcaaW.PrintWords Go.Proofs.YthfbjkniinfgcaaW.PrintMore Go.Proofs.Ythfbjkniinfgcaa.P

theorem szRule_eq (a : Int) (l : List Int) (c : Int) (h : l.length ≤ 9223372036854775807) : laws_szRule.f a l c 1048576 = some (if (l.length : Int) ≤ 1048576 then 1048576 - (l.length : Int) else -1) := by
  unfold laws_szRule.f laws_szIntS.f
  have hw : wrap64 (1048576 - (l.length : Int)) = 1048576 - (l.length : Int) := by unfold wrap64; omega
  rw [hw]
  by_cases hl : (l.length : Int) ≤ 1048576
  · have h1 : ¬ 1048576 - (l.length : Int) < 0 := by omega
    simp only [hl, h1, if_true, if_false, Option.bind_some]
  · have h1 : 1048576 - (l.length : Int) < 0 := by omega
    have h2 : (-1 : Int) < 0 := by decide
    simp only [hl, h1, h2, if_true, if_false, Option.bind_some]
theorem toRule_ev (a : Int) (l : List Int) (c : Int) (h : l.length ≤ 35184372088832) : Ev (fun k => laws_toRule.f k a l c) (a, l, c) := by
  unfold laws_toRule.f
  refine Ev.bind (toIntS_ev l h) ?_
  exact Ev.now _
theorem eqRule_ev (a : Int) (l : List Int) (c : Int) (h : l.length ≤ 35184372088832) : Ev (fun k => laws_eqRule.f k a l c a l c) true := by
  unfold laws_eqRule.f
  simp only [if_true]
  refine Ev.bind (eqIntS_ev l l (by omega)) ?_
  simp only [decide_true, if_true]
  exact Ev.now _

end Go.Proofs.Ythfbjkniinfgcaa.Pure
