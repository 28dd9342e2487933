/- A number's bytes are as few as may be: fewer for a less number, or as many. No condition. -/
import Derived.Test.YtkgonihoeghphaaA4
import Derived.Test.YtkgonihoeghphaaL01
import Derived.Test.YtkgonihoeghphaaL01b
namespace Go.Proofs.Ytkgonihoeghphaa.Pure
open Go.RowKit Go.Proofs.Ytkgonihoeghphaa.A Go.Proofs.YtkgonihoeghphaaW.PrintWords Go.Proofs.YtkgonihoeghphaaW.PrintLast Go.Proofs.Ytkgonihoeghphaa.Pl

theorem LumpShort : cartouchelaw01_LumpShort.Pure := by
  intro a b wa wb
  have ha := u64_range wa
  have hb := u64_range wb
  refine ⟨11, ?_⟩
  unfold cartouchelaw01_LumpShort.f
  rw [shown01 11 (by omega), num_f a ha.1 ha.2, num_f b hb.1 hb.2]
  have hl := nb_len a
  have he : ((nb a == nb b) == (a == b)) = true := by
    by_cases h : a = b
    · subst h; simp
    · have hn : ¬ nb a = nb b := fun e => h (nb_inj ha.1 hb.1 ha.2 hb.2 e)
      rw [beq_eq_false_iff_ne.2 h, beq_eq_false_iff_ne.2 hn]; rfl
  simp only [Option.bind_some, if_true, toList_D, D_B, size_B, he]
  have hm : ¬ a > b → (nb a).length ≤ (nb b).length := by
    intro h
    have := nd_mono 8 a b ha.1 (by omega)
    simp only [nb, List.length_cons]; omega
  by_cases h : a > b
  · rw [if_pos h, if_pos (by omega)]; simp; omega
  · rw [if_neg h, if_pos (by have := hm h; omega), if_pos (by omega)]; simp; omega

end Go.Proofs.Ytkgonihoeghphaa.Pure
