/- Which of several costs are taken is as the document says. No condition. -/
import Derived.Test.YtndbgdcjhhjaiaaA4
import Derived.Test.YtndbgdcjhhjaiaaG
import Derived.Test.YtndbgdcjhhjaiaaL18
namespace Go.Proofs.Ytndbgdcjhhjaiaa.Pure
open Go.RowKit Go.Proofs.Ytndbgdcjhhjaiaa.A Go.Proofs.YtndbgdcjhhjaiaaW.PrintWords Go.Proofs.YtndbgdcjhhjaiaaW.PrintLast Go.Proofs.Ytndbgdcjhhjaiaa.Pl

theorem MeterSpends : cartouchelaw18_MeterSpends.Pure := by
  intro now l _ _ hl _
  refine ⟨l.length + 1, ?_⟩
  unfold cartouchelaw18_MeterSpends.f
  rw [shown18, spend_f now l (by omega), ref_spend_f now l (by omega) _ (by omega)]
  simp only [Option.bind_some]
  rw [same_f _ (by rw [sp_len]; omega) _ (by rw [sp_len]; omega)]
  rfl

end Go.Proofs.Ytndbgdcjhhjaiaa.Pure
