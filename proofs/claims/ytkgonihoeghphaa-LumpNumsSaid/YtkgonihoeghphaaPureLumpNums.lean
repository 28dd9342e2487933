/- A number's bytes, and a text's, are the document's. No condition. -/
import Derived.Test.YtkgonihoeghphaaA5
import Derived.Test.YtkgonihoeghphaaL01
import Derived.Test.YtkgonihoeghphaaL01b
namespace Go.Proofs.Ytkgonihoeghphaa.Pure
open Go.RowKit Go.Proofs.Ytkgonihoeghphaa.A Go.Proofs.YtkgonihoeghphaaW.PrintWords Go.Proofs.YtkgonihoeghphaaW.PrintLast Go.Proofs.Ytkgonihoeghphaa.Pl

theorem LumpNums : cartouchelaw01_LumpNums.Pure := by
  intro v t wv _
  have hv := u64_range wv
  refine ⟨11, ?_⟩
  unfold cartouchelaw01_LumpNums.f
  rw [shown01 11 (by omega), text_f, reftext_f, num_f v hv.1 hv.2, refnum_f v 11 hv.1 hv.2 (by omega)]
  simp

end Go.Proofs.Ytkgonihoeghphaa.Pure
