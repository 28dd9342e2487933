/- A history behind another one counts both; all kinds together are all events. No condition. -/
import Derived.Test.YtndbgdcjhhjaiaaB5
import Derived.Test.YtndbgdcjhhjaiaaG
import Derived.Test.YtndbgdcjhhjaiaaL20k
namespace Go.Proofs.Ytndbgdcjhhjaiaa.Pure
open Go.RowKit Go.Proofs.Ytndbgdcjhhjaiaa.B Go.Proofs.YtndbgdcjhhjaiaaW.PrintWords Go.Proofs.YtndbgdcjhhjaiaaW.PrintLast Go.Proofs.Ytndbgdcjhhjaiaa.Pl

theorem TallyJoins : ∀ (l0 : List (S46)) (l1 : List (S46)) (a2 : ByteArray), (l0.length * 48 ≤ 140737488351232 ∧ ∀ x ∈ l0, ((Lit.int .i64 x.f0).wf = true ∧ (Lit.int .i64 x.f1).wf = true ∧ x.f2.size ≤ 140737488351232 ∧ x.f3.size ≤ 140737488351232)) → (l1.length * 48 ≤ 140737488351232 ∧ ∀ x ∈ l1, ((Lit.int .i64 x.f0).wf = true ∧ (Lit.int .i64 x.f1).wf = true ∧ x.f2.size ≤ 140737488351232 ∧ x.f3.size ≤ 140737488351232)) → a2.size ≤ 140737488351232 → cartouchelaw20_TallyJoins.f l0 l1 a2 = some true := by
  intro l m a _ _ _
  unfold cartouchelaw20_TallyJoins.f
  by_cases h : l.length ≤ 2000 ∧ m.length ≤ 2000
  · rw [if_pos h, if_pos ⟨kinds_join l m h.1 h.2, kinds_sum (l ++ m) (by rw [List.length_append]; omega), keys_join a l m h.1 h.2⟩]
  · rw [if_neg h]

end Go.Proofs.Ytndbgdcjhhjaiaa.Pure
