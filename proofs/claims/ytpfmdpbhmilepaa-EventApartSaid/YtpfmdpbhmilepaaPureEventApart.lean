/- Of events that are not the same the bytes are not; what is taken is written by the same bytes. No condition. -/
import Derived.Test.YtpfmdpbhmilepaaA14
import Derived.Test.YtpfmdpbhmilepaaG
import Derived.Test.YtpfmdpbhmilepaaL01t
import Derived.Test.YtpfmdpbhmilepaaL01c
import Derived.Test.YtpfmdpbhmilepaaL06
namespace Go.Proofs.Ytpfmdpbhmilepaa.Pure
open Go.RowKit Go.Proofs.Ytpfmdpbhmilepaa.A Go.Proofs.YtpfmdpbhmilepaaW.PrintWords Go.Proofs.YtpfmdpbhmilepaaW.PrintLast Go.Proofs.Ytpfmdpbhmilepaa.Pl

theorem EventApart : ∀ (a0_0 : Int) (a0_1 : Int) (a0_2 : ByteArray) (a0_3 : ByteArray) (a1_0 : Int) (a1_1 : Int) (a1_2 : ByteArray) (a1_3 : ByteArray) (a2 : ByteArray), (Lit.int .i64 a0_0).wf = true → (Lit.int .i64 a0_1).wf = true → a0_2.size ≤ 140737488351232 → a0_3.size ≤ 140737488351232 → (Lit.int .i64 a1_0).wf = true → (Lit.int .i64 a1_1).wf = true → a1_2.size ≤ 140737488351232 → a1_3.size ≤ 140737488351232 → a2.size ≤ 140737488351232 → ∃ k, cartouchelaw06_EventApart.f k a0_0 a0_1 a0_2 a0_3 a1_0 a1_1 a1_2 a1_3 a2 = some true := by
  intro a b c d a' b' c' d' s _ _ _ _ _ _ _ _ _
  refine ⟨9, ?_⟩
  unfold cartouchelaw06_EventApart.f
  rw [shown06, bytes_f, bytes_f]
  simp only [Option.bind_some]
  have hj : cartouchelaw06_EventApart.j0 9 s true false = some true := by
    simp only [cartouchelaw06_EventApart.j0, Bool.false_eq_true, if_false]
    rw [take_f 8 (by omega)]
    simp only [Option.bind_some]
    rcases hx : et (D s) with _ | ⟨x, y, u, v⟩
    · have hE : Et s = (0, 0, B [], B [], 3) := by unfold Et; rw [hx]
      rw [hE]
      simp only [bytes_f, Option.bind_some, if_true]
      rfl
    · have hE : Et s = (x, y, B u, B v, 0) := by unfold Et; rw [hx]
      have he := eb_et hx
      rw [hE]
      simp only [bytes_f, Option.bind_some, if_true, D_B, if_pos he.2, he.1, toList_D]
      rfl
  by_cases hm : may a b (D c) (D d) = true
  · by_cases hm' : may a' b' (D c') (D d') = true
    · simp only [if_pos hm, if_pos hm', if_true, toList_D, D_B]
      have hq : ((eb a b (D c) (D d) == eb a' b' (D c') (D d')) != (a == a' && (b == b' && (D c == D c' && D d == D d')))) = false := by
        by_cases e : eb a b (D c) (D d) = eb a' b' (D c') (D d')
        · have h1 := et_eb hm
          have h2 := et_eb hm'
          rw [e, h2] at h1
          simp only [Option.some.injEq, Prod.mk.injEq] at h1
          obtain ⟨e1, e2, e3, e4⟩ := h1
          rw [beq_iff_eq.2 e, e1, e2, e3, e4]; simp
        · have hn : (a == a' && (b == b' && (D c == D c' && D d == D d'))) = false := by
            rw [Bool.eq_false_iff]
            intro h
            simp only [Bool.and_eq_true, beq_iff_eq] at h
            exact e (by rw [h.1, h.2.1, h.2.2.1, h.2.2.2])
          rw [beq_eq_false_iff_ne.2 e, hn]; rfl
      rw [hq, hj]
    · simp only [if_pos hm, if_neg hm', if_true]
      rw [if_neg (by omega), hj]
  · simp only [if_neg hm]
    rw [if_neg (by omega), hj]

end Go.Proofs.Ytpfmdpbhmilepaa.Pure
