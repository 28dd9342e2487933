/- Which events may be, their bytes, and the event of bytes, are as the document says. No condition. -/
import Derived.Test.YtpfmdpbhmilepaaA12
import Derived.Test.YtpfmdpbhmilepaaG
import Derived.Test.YtpfmdpbhmilepaaL01t
import Derived.Test.YtpfmdpbhmilepaaL01c
import Derived.Test.YtpfmdpbhmilepaaL06
import Derived.Test.YtpfmdpbhmilepaaL06r
namespace Go.Proofs.Ytpfmdpbhmilepaa.Pure
open Go.RowKit Go.Proofs.Ytpfmdpbhmilepaa.A Go.Proofs.YtpfmdpbhmilepaaW.PrintWords Go.Proofs.YtpfmdpbhmilepaaW.PrintLast Go.Proofs.Ytpfmdpbhmilepaa.Pl

theorem EventBytes : ∀ (a0_0 : Int) (a0_1 : Int) (a0_2 : ByteArray) (a0_3 : ByteArray) (a1 : ByteArray), (Lit.int .i64 a0_0).wf = true → (Lit.int .i64 a0_1).wf = true → a0_2.size ≤ 140737488351232 → a0_3.size ≤ 140737488351232 → a1.size ≤ 140737488351232 → ∃ k, cartouchelaw06_EventBytes.f k a0_0 a0_1 a0_2 a0_3 a1 = some true := by
  intro a b c d s _ _ _ _ _
  refine ⟨9, ?_⟩
  unfold cartouchelaw06_EventBytes.f
  rw [shown06, bytes_f, refbytes_f 9 (by omega), take_f 9 (by omega), reftake_f 9 (by omega), may_f 9 (by omega), refmay_f 9 (by omega)]
  simp

end Go.Proofs.Ytpfmdpbhmilepaa.Pure
