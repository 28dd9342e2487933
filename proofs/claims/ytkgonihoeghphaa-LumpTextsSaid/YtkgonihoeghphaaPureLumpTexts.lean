/- Whatever bytes there are, the text that begins them, and what stands behind it, are as the document says. No condition. -/
import Derived.Test.YtkgonihoeghphaaA6
import Derived.Test.YtkgonihoeghphaaL01
import Derived.Test.YtkgonihoeghphaaL01c
namespace Go.Proofs.Ytkgonihoeghphaa.Pure
open Go.RowKit Go.Proofs.Ytkgonihoeghphaa.A Go.Proofs.YtkgonihoeghphaaW.PrintWords Go.Proofs.YtkgonihoeghphaaW.PrintLast Go.Proofs.Ytkgonihoeghphaa.Pl

theorem LumpTexts : cartouchelaw01_LumpTexts.Pure := by
  intro s most _ _
  refine ⟨11, ?_⟩
  unfold cartouchelaw01_LumpTexts.f
  rw [shown01 11 (by omega), takeText, refTakeText s most 11 (by omega)]
  simp [Tt]

end Go.Proofs.Ytkgonihoeghphaa.Pure
