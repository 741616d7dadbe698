/- The law FnExactPuzzleValid's plain statement: it answers true. Conditions: those of the row. -/
import Derived.Test.YthfbjkniinfgcaaWWords
import Derived.Test.YthfbjkniinfgcaaWMore
import Derived.Test.YthfbjkniinfgcaaP21
import Derived.Test.YthfbjkniinfgcaaOpenRules
import Derived.Test.YthfbjkniinfgcaaPuzHelp
import Derived.Test.YthfbjkniinfgcaaPuzV
namespace Go.Proofs.Ythfbjkniinfgcaa.Pure
set_option linter.unusedSimpArgs false
set_option linter.unusedVariables false
open Go.RowKit Go.Proofs.YthfbjkniinfgcaaW.PrintWords Go.Proofs.YthfbjkniinfgcaaW.PrintMore Go.Proofs.Ythfbjkniinfgcaa.P

theorem FnExactPuzzleValid (s : Int) (_ : (Lit.int .i64 s).wf = true) (g : List Int) (hg : g.length ≤ 9223372036854775807) (_ : ∀ x ∈ g, (Lit.int .i64 x).wf = true) (rs : List S47) (hl : rs.length ≤ 9223372036854775807) (hr : ∀ x ∈ rs, RuleWf x) : ∃ k, laws_FnExactPuzzleValid.f k s g rs = some true := by
  apply Ev.rounds
  unfold laws_FnExactPuzzleValid.f
  obtain ⟨r, he, hb⟩ := szPuzzle_ev s g rs hg hl (fun x hx => (hr x hx).2.1)
  refine Ev.bind he ?_
  by_cases h0 : r < 0
  · simp only [h0, if_true]; exact Ev.now _
  · obtain ⟨hg', hl', hr'⟩ := hb (by omega)
    have hl2 : (rs.map convR).length ≤ 1048576 := by rw [List.length_map]; exact hl'
    have hr2 : ∀ x ∈ rs.map convR, x.f1.length ≤ 1048576 := by
      intro x hx
      obtain ⟨y, hy, rfl⟩ := List.mem_map.1 hx
      exact hr' y hy
    simp only [h0, if_false]
    refine Ev.bind (toPuzzle_ev s g rs hg' hl' hr') ?_
    refine Ev.bind (specPuzzleValid_ev s g _ hg' hl2 hr2) ?_
    refine Ev.bind (toPuzzle_ev s g rs hg' hl' hr') ?_
    refine Ev.bind (implPuzzleValid_ev s g _ hg' hl2 hr2) ?_
    simp only [bne_self_eq_false, Bool.false_eq_true, if_false]
    refine Ev.bind (toPuzzle_ev s g rs hg' hl' hr') ?_
    refine Ev.bind (eqPuzzle_ev s g _ hg' hl2 hr2) ?_
    simp only [if_true]
    exact Ev.now _

end Go.Proofs.Ythfbjkniinfgcaa.Pure
