/- A row that was written is taken, whatever stands behind it. No condition. -/
import Derived.Test.YtkgonihoeghphaaA11
import Derived.Test.YtkgonihoeghphaaG
import Derived.Test.YtkgonihoeghphaaL01
import Derived.Test.YtkgonihoeghphaaL01t
import Derived.Test.YtkgonihoeghphaaL01c
import Derived.Test.YtkgonihoeghphaaL01r
namespace Go.Proofs.Ytkgonihoeghphaa.Pure
open Go.RowKit Go.Proofs.Ytkgonihoeghphaa.A Go.Proofs.YtkgonihoeghphaaW.PrintWords Go.Proofs.YtkgonihoeghphaaW.PrintLast Go.Proofs.Ytkgonihoeghphaa.Pl

theorem LumpRowBack : ∀ (l0 : List ByteArray) (a1 : ByteArray), (l0.length * 16 ≤ 140737488351232 ∧ ∀ x ∈ l0, x.size ≤ 140737488351232) → a1.size ≤ 140737488351232 → ∃ k, cartouchelaw01_LumpRowBack.f k l0 a1 = some true := by
  intro l s _ hs
  refine ⟨70000, ?_⟩
  unfold cartouchelaw01_LumpRowBack.f
  rw [shown01 _ (by omega), row_f]
  simp only [Option.bind_some]
  by_cases a : (rb l).2 = 0
  · obtain ⟨h1, h2, h3⟩ := rb_ok a
    have hx := rx_len l h2
    have hb := lb_len l.length
    have hr := tr_rb l (D s) a
    rw [if_pos a, if_pos (by rw [size_B, h3, List.length_append]; omega), takeRow_f _ _ _ _ (by omega)]
    have e : D (B (rb l).1 ++ s) = (rb l).1 ++ D s := by rw [D_append, D_B]
    simp only [Tr, Option.bind_some, e, hr]
    rw [same01_f _ _ (by omega) _ (by omega)]
    simp [B_D]
  · have := rb_code l
    rw [if_neg a]
    have h4 : (rb l).2 = 4 := by omega
    simp [h4]

end Go.Proofs.Ytkgonihoeghphaa.Pure
