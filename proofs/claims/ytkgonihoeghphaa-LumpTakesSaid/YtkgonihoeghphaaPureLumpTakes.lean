/- Whatever bytes there are, the number that begins them, and what stands behind it, are as the document says. No condition. -/
import Derived.Test.YtkgonihoeghphaaA3
import Derived.Test.YtkgonihoeghphaaL01
namespace Go.Proofs.Ytkgonihoeghphaa.Pure
open Go.RowKit Go.Proofs.Ytkgonihoeghphaa.A Go.Proofs.YtkgonihoeghphaaW.PrintWords Go.Proofs.YtkgonihoeghphaaW.PrintLast Go.Proofs.Ytkgonihoeghphaa.Pl

theorem LumpTakes : cartouchelaw01_LumpTakes.Pure := by
  intro s _
  refine ⟨11, ?_⟩
  unfold cartouchelaw01_LumpTakes.f
  rw [shown01 11 (by omega), takeNum s 11 (by omega), refTakeNum s 11 (by omega)]
  simp [Tn]

end Go.Proofs.Ytkgonihoeghphaa.Pure
