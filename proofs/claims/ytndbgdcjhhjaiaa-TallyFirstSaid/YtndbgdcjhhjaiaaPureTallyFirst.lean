/- The first text that isn't empty is as the document says. No condition. -/
import Derived.Test.YtndbgdcjhhjaiaaB3
import Derived.Test.YtndbgdcjhhjaiaaG
import Derived.Test.YtndbgdcjhhjaiaaL20f
namespace Go.Proofs.Ytndbgdcjhhjaiaa.Pure
open Go.RowKit Go.Proofs.Ytndbgdcjhhjaiaa.B Go.Proofs.YtndbgdcjhhjaiaaW.PrintWords Go.Proofs.YtndbgdcjhhjaiaaW.PrintLast Go.Proofs.Ytndbgdcjhhjaiaa.Pl

theorem TallyFirst : ∀ (l0 : List ByteArray), (l0.length * 16 ≤ 140737488351232 ∧ ∀ x ∈ l0, x.size ≤ 140737488351232) → ∃ k, cartouchelaw20_TallyFirst.f k l0 = some true := by
  intro l hl
  refine ⟨l.length + 1, ?_⟩
  unfold cartouchelaw20_TallyFirst.f
  rw [first_f l (by omega) _ (by omega)]
  simp [cartouchelaw20_shown.f, tally_First.f]

end Go.Proofs.Ytndbgdcjhhjaiaa.Pure
