/- A history's bytes, event by event, are that history again. No condition. -/
import Derived.Test.YtpfmdpbhmilepaaA15
import Derived.Test.YtpfmdpbhmilepaaG
import Derived.Test.YtpfmdpbhmilepaaL01t
import Derived.Test.YtpfmdpbhmilepaaL01c
import Derived.Test.YtpfmdpbhmilepaaL06
import Derived.Test.YtpfmdpbhmilepaaL06h
namespace Go.Proofs.Ytpfmdpbhmilepaa.Pure
open Go.RowKit Go.Proofs.Ytpfmdpbhmilepaa.A Go.Proofs.YtpfmdpbhmilepaaW.PrintWords Go.Proofs.YtpfmdpbhmilepaaW.PrintLast Go.Proofs.Ytpfmdpbhmilepaa.Pl

theorem EventRowBack : ∀ (l0 : List (S23)), (l0.length * 48 ≤ 140737488351232 ∧ ∀ x ∈ l0, ((Lit.int .i64 x.f0).wf = true ∧ (Lit.int .i64 x.f1).wf = true ∧ x.f2.size ≤ 140737488351232 ∧ x.f3.size ≤ 140737488351232)) → ∃ k, cartouchelaw06_EventRowBack.f k l0 = some true := by
  intro l hl
  refine ⟨l.length + 9, ?_⟩
  unfold cartouchelaw06_EventRowBack.f
  rw [shown06, leaves_f l _ (by omega)]
  simp only [Option.bind_some]
  by_cases h : l.length > 256
  · have e : lvs l = ([], 4) := by unfold lvs; rw [if_pos h]
    rw [e]; rfl
  · by_cases ha : l.all mayE = true
    · have e : lvs l = (l.map ebE, 0) := by unfold lvs; rw [if_neg h, if_pos ha]
      rw [e]
      simp only [if_true]
      rw [back_f _ _ (by rw [List.length_map]; omega), bks_lvs l h ha]
      simp only [Option.bind_some]
      rw [refsame_f l l (by omega) _ (by omega)]
      simp [smE_self]
    · have e : lvs l = ([], 1) := by unfold lvs; rw [if_neg h, if_neg ha]
      rw [e]; rfl

end Go.Proofs.Ytpfmdpbhmilepaa.Pure
