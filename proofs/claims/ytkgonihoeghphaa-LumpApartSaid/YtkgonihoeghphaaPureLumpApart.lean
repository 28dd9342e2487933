/- Two rows have the same bytes just if they are the same. No condition. -/
import Derived.Test.YtkgonihoeghphaaA9
import Derived.Test.YtkgonihoeghphaaG
import Derived.Test.YtkgonihoeghphaaL01
import Derived.Test.YtkgonihoeghphaaL01t
import Derived.Test.YtkgonihoeghphaaL01c
import Derived.Test.YtkgonihoeghphaaL01r
namespace Go.Proofs.Ytkgonihoeghphaa.Pure
open Go.RowKit Go.Proofs.Ytkgonihoeghphaa.A Go.Proofs.YtkgonihoeghphaaW.PrintWords Go.Proofs.YtkgonihoeghphaaW.PrintLast Go.Proofs.Ytkgonihoeghphaa.Pl

theorem LumpApart : ∀ (l0 : List ByteArray) (l1 : List ByteArray), (l0.length * 16 ≤ 140737488351232 ∧ ∀ x ∈ l0, x.size ≤ 140737488351232) → (l1.length * 16 ≤ 140737488351232 ∧ ∀ x ∈ l1, x.size ≤ 140737488351232) → ∃ k, cartouchelaw01_LumpApart.f k l0 l1 = some true := by
  intro l m hl hm
  refine ⟨l.length + 20, ?_⟩
  unfold cartouchelaw01_LumpApart.f
  rw [shown01 _ (by omega), row_f, row_f]
  simp only [Option.bind_some]
  by_cases a : (rb l).2 = 0
  · by_cases b : (rb m).2 = 0
    · rw [if_pos a, if_pos b, same01_f l m (by omega) _ (by omega)]
      simp only [Option.bind_some, if_true, toList_D, D_B]
      by_cases c : l = m
      · subst c; simp
      · have : (rb l).1 ≠ (rb m).1 := fun e => c (rb_inj a b e)
        simp [c, this]
    · rw [if_pos a, if_neg b]
  · rw [if_neg a]

end Go.Proofs.Ytkgonihoeghphaa.Pure
