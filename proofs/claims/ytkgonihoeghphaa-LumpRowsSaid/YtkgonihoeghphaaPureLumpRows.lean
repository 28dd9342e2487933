/- A row's bytes, and the row that bytes begin with, are as the document says. No condition. -/
import Derived.Test.YtkgonihoeghphaaA11
import Derived.Test.YtkgonihoeghphaaG
import Derived.Test.YtkgonihoeghphaaL01
import Derived.Test.YtkgonihoeghphaaL01t
import Derived.Test.YtkgonihoeghphaaL01c
import Derived.Test.YtkgonihoeghphaaL01r
namespace Go.Proofs.Ytkgonihoeghphaa.Pure
open Go.RowKit Go.Proofs.Ytkgonihoeghphaa.A Go.Proofs.YtkgonihoeghphaaW.PrintWords Go.Proofs.YtkgonihoeghphaaW.PrintLast Go.Proofs.Ytkgonihoeghphaa.Pl

theorem LumpRows : ∀ (l0_0 : List ByteArray) (a0_1 : ByteArray) (a0_2 : Int) (a0_3 : Int), (l0_0.length * 16 ≤ 140737488351232 ∧ ∀ x ∈ l0_0, x.size ≤ 140737488351232) → a0_1.size ≤ 140737488351232 → (Lit.int .i64 a0_2).wf = true → (Lit.int .i64 a0_3).wf = true → ∃ k, cartouchelaw01_LumpRows.f k l0_0 a0_1 a0_2 a0_3 = some true := by
  intro l s many most _ _ _ _
  refine ⟨70000, ?_⟩
  have ht := tr_len (D s) many most
  unfold cartouchelaw01_LumpRows.f
  rw [shown01 _ (by omega), row_f, refrow_f01, takeRow_f _ _ _ _ (by omega), refTakeRow_f _ _ _ _ (by omega)]
  simp only [Tr, Option.bind_some]
  rw [same01_f _ _ (by omega) _ (by omega)]
  simp

end Go.Proofs.Ytkgonihoeghphaa.Pure
