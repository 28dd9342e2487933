/- A history as bytes, the history of bytes, and which histories are the same, are as the document says. No condition. -/
import Derived.Test.YtpfmdpbhmilepaaA17
import Derived.Test.YtpfmdpbhmilepaaG
import Derived.Test.YtpfmdpbhmilepaaL01t
import Derived.Test.YtpfmdpbhmilepaaL01c
import Derived.Test.YtpfmdpbhmilepaaL06
import Derived.Test.YtpfmdpbhmilepaaL06r
import Derived.Test.YtpfmdpbhmilepaaL06h
import Derived.Test.YtpfmdpbhmilepaaL06g
namespace Go.Proofs.Ytpfmdpbhmilepaa.Pure
open Go.RowKit Go.Proofs.Ytpfmdpbhmilepaa.A Go.Proofs.YtpfmdpbhmilepaaW.PrintWords Go.Proofs.YtpfmdpbhmilepaaW.PrintLast Go.Proofs.Ytpfmdpbhmilepaa.Pl

theorem EventRows : ∀ (l0 : List (S23)) (l1 : List ByteArray) (l2 : List (S23)), (l0.length * 48 ≤ 140737488351232 ∧ ∀ x ∈ l0, ((Lit.int .i64 x.f0).wf = true ∧ (Lit.int .i64 x.f1).wf = true ∧ x.f2.size ≤ 140737488351232 ∧ x.f3.size ≤ 140737488351232)) → (l1.length * 16 ≤ 140737488351232 ∧ ∀ x ∈ l1, x.size ≤ 140737488351232) → (l2.length * 48 ≤ 140737488351232 ∧ ∀ x ∈ l2, ((Lit.int .i64 x.f0).wf = true ∧ (Lit.int .i64 x.f1).wf = true ∧ x.f2.size ≤ 140737488351232 ∧ x.f3.size ≤ 140737488351232)) → ∃ k, cartouchelaw06_EventRows.f k l0 l1 l2 = some true := by
  intro h l o hh hl ho
  refine ⟨h.length + l.length + 300, ?_⟩
  unfold cartouchelaw06_EventRows.f
  have l1 := lvs_len h
  have l2 := bks_len l
  rw [shown06, leaves_f h _ (by omega), refleaves_f h _ (by omega), back_f l _ (by omega), refback_f l _ (by omega)]
  simp only [Option.bind_some]
  rw [refrow_f _ (by omega) _ (by omega)]
  simp only [Option.bind_some, if_true]
  rw [refsame_f _ _ (by omega) _ (by omega)]
  simp only [Option.bind_some, smE_self, if_true]
  rw [same_f06 h o (by omega) _ (by omega), refsame_f h o (by omega) _ (by omega), same_f06 h h (by omega) _ (by omega)]
  simp [smE_self]

end Go.Proofs.Ytpfmdpbhmilepaa.Pure
