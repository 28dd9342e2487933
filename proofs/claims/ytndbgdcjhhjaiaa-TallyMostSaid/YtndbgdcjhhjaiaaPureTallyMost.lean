/- The transaction with the most events has so many, and none has more. No condition. -/
import Derived.Test.YtndbgdcjhhjaiaaB2
import Derived.Test.YtndbgdcjhhjaiaaB4
import Derived.Test.YtndbgdcjhhjaiaaG
import Derived.Test.YtndbgdcjhhjaiaaL20k
import Derived.Test.YtndbgdcjhhjaiaaL20m
namespace Go.Proofs.Ytndbgdcjhhjaiaa.Pure
open Go.RowKit Go.Proofs.Ytndbgdcjhhjaiaa.B Go.Proofs.YtndbgdcjhhjaiaaW.PrintWords Go.Proofs.YtndbgdcjhhjaiaaW.PrintLast Go.Proofs.Ytndbgdcjhhjaiaa.Pl

theorem TallyMost : ∀ (l0 : List (S46)), (l0.length * 48 ≤ 140737488351232 ∧ ∀ x ∈ l0, ((Lit.int .i64 x.f0).wf = true ∧ (Lit.int .i64 x.f1).wf = true ∧ x.f2.size ≤ 140737488351232 ∧ x.f3.size ≤ 140737488351232)) → ∃ k, cartouchelaw20_TallyMost.f k l0 = some true := by
  intro l hl
  by_cases h : (l.length : Int) > 300
  · refine ⟨0, ?_⟩
    simp only [cartouchelaw20_TallyMost.f, cartouchelaw20_shown.f, Option.bind_some]
    rw [if_pos h]
  · obtain ⟨k, hk⟩ := law_most l (by omega)
    refine ⟨k, ?_⟩
    simp only [cartouchelaw20_TallyMost.f, cartouchelaw20_shown.f, Option.bind_some]
    rw [if_neg h, most_f l (fun x hx => (hl.2 x hx).2.1)]
    exact hk

end Go.Proofs.Ytndbgdcjhhjaiaa.Pure
