/- How many events there are of each kind, how often a key was read and written, and which transaction has the most, is as the document says. No condition. -/
import Derived.Test.YtndbgdcjhhjaiaaB3
import Derived.Test.YtndbgdcjhhjaiaaB5
import Derived.Test.YtndbgdcjhhjaiaaB8
import Derived.Test.YtndbgdcjhhjaiaaG
import Derived.Test.YtndbgdcjhhjaiaaL20k
import Derived.Test.YtndbgdcjhhjaiaaL20m
namespace Go.Proofs.Ytndbgdcjhhjaiaa.Pure
open Go.RowKit Go.Proofs.Ytndbgdcjhhjaiaa.B Go.Proofs.YtndbgdcjhhjaiaaW.PrintWords Go.Proofs.YtndbgdcjhhjaiaaW.PrintLast Go.Proofs.Ytndbgdcjhhjaiaa.Pl

theorem TallyCounts : ∀ (l0 : List (S46)) (a1 : ByteArray), (l0.length * 48 ≤ 140737488351232 ∧ ∀ x ∈ l0, ((Lit.int .i64 x.f0).wf = true ∧ (Lit.int .i64 x.f1).wf = true ∧ x.f2.size ≤ 140737488351232 ∧ x.f3.size ≤ 140737488351232)) → a1.size ≤ 140737488351232 → cartouchelaw20_TallyCounts.f l0 a1 = some true := by
  intro l a hl _
  unfold cartouchelaw20_TallyCounts.f
  by_cases h : l.length ≤ 2000
  · have hm := most_f l (fun x hx => (hl.2 x hx).2.1)
    rw [if_pos h, if_pos ⟨rfl, refkeys_f a l (by omega) _ (by omega), by rw [hm]; rfl, by rw [hm]; exact refmost_f l (by omega)⟩]
  · rw [if_neg h]

end Go.Proofs.Ytndbgdcjhhjaiaa.Pure
