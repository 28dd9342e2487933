/- Of a number's bytes no beginning is one, nor of a row's. No condition. -/
import Derived.Test.YtkgonihoeghphaaA12
import Derived.Test.YtkgonihoeghphaaG
import Derived.Test.YtkgonihoeghphaaL01
import Derived.Test.YtkgonihoeghphaaL01b
import Derived.Test.YtkgonihoeghphaaL01k
import Derived.Test.YtkgonihoeghphaaL01t
import Derived.Test.YtkgonihoeghphaaL01c
import Derived.Test.YtkgonihoeghphaaL01r
namespace Go.Proofs.Ytkgonihoeghphaa.Pure
open Go.RowKit Go.Proofs.Ytkgonihoeghphaa.A Go.Proofs.YtkgonihoeghphaaW.PrintWords Go.Proofs.YtkgonihoeghphaaW.PrintLast Go.Proofs.Ytkgonihoeghphaa.Pl

theorem LumpCut : ∀ (a0 : Int) (l1 : List ByteArray) (a2 : Int), (Lit.int .u64 a0).wf = true → (l1.length * 16 ≤ 140737488351232 ∧ ∀ x ∈ l1, x.size ≤ 140737488351232) → (Lit.int .i64 a2).wf = true → ∃ k, cartouchelaw01_LumpCut.f k a0 l1 a2 = some true := by
  intro v l a wv _ _
  have hv := u64_range wv
  refine ⟨70002, ?_⟩
  unfold cartouchelaw01_LumpCut.f
  rw [shown01 _ (by omega), num_f v hv.1 hv.2, row_f]
  simp only [Option.bind_some]
  by_cases ha : a < 0
  · rw [if_pos ha]; simp only [cartouchelaw01_LumpCut.j0, if_true]
  rw [if_neg ha]
  obtain ⟨n, rfl⟩ : ∃ n : Nat, a = n := ⟨a.toNat, by omega⟩
  by_cases hc : (rb l).2 = 0
  · have j1 : ∀ k, 65537 < k → cartouchelaw01_LumpCut.j1 (k + 1) l n true (B (rb l).1) = some true := by
      intro k hk
      simp only [cartouchelaw01_LumpCut.j1, size_B]
      by_cases h : n < (rb l).1.length
      · rw [if_pos (by omega), if_pos (by omega), if_pos (by omega), takeRow_f _ _ _ _ (by omega), extract_beg]
        have := tr_cut l hc n h
        simp only [Tr, Option.bind_some, D_B, Int.toNat_natCast, this, if_true]
      · rw [if_neg (by omega)]
    have e : ((rb l).2 != 0) = false := by simp [hc]
    rw [e]
    simp only [cartouchelaw01_LumpCut.j0, size_B, Bool.false_eq_true, if_false]
    by_cases h : n < (nb v).length
    · rw [if_pos (by omega), if_pos (by omega), if_pos (by omega), takeNum _ _ (by omega), extract_beg]
      have := tn_cut v n h
      simp only [Tn, Option.bind_some, D_B, Int.toNat_natCast, this, if_true]
      exact j1 _ (by omega)
    · rw [if_neg (by omega)]; exact j1 _ (by omega)
  · have e : ((rb l).2 != 0) = true := by simp [hc]
    rw [e]; simp only [cartouchelaw01_LumpCut.j0, if_true]

end Go.Proofs.Ytkgonihoeghphaa.Pure
