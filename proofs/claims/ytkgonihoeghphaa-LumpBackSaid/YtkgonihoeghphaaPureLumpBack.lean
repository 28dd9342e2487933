/- What was written is taken, whatever stands behind it; what is taken is written by the same bytes. No condition. -/
import Derived.Test.YtkgonihoeghphaaA7
import Derived.Test.YtkgonihoeghphaaL01
import Derived.Test.YtkgonihoeghphaaL01b
import Derived.Test.YtkgonihoeghphaaL01c
namespace Go.Proofs.Ytkgonihoeghphaa.Pure
open Go.RowKit Go.Proofs.Ytkgonihoeghphaa.A Go.Proofs.YtkgonihoeghphaaW.PrintWords Go.Proofs.YtkgonihoeghphaaW.PrintLast Go.Proofs.Ytkgonihoeghphaa.Pl

theorem LumpBack : ∀ (a0_0 : Int) (a0_1 : ByteArray) (a0_2 : ByteArray) (a0_3 : ByteArray), (Lit.int .u64 a0_0).wf = true → a0_1.size ≤ 140737488351232 → a0_2.size ≤ 140737488351232 → a0_3.size ≤ 140737488351232 → ∃ k, cartouchelaw01_LumpBack.f k a0_0 a0_1 a0_2 a0_3 = some true := by
  intro v t s more wv ht hs hm
  have hv := u64_range wv
  refine ⟨20, ?_⟩
  unfold cartouchelaw01_LumpBack.f
  have hl := nb_len v
  rw [shown01 20 (by omega), num_f v hv.1 hv.2]
  simp only [Option.bind_some]
  rw [if_pos (by rw [size_B]; omega), ← B_D more, B_append, takeNum _ 20 (by omega), Tn]
  simp only [D_B, tn_nb v hv.1 hv.2 (D more), Option.bind_some, if_true]
  have j1 : cartouchelaw01_LumpBack.j1 19 t (B (D more)) true false = some true := by
    simp only [cartouchelaw01_LumpBack.j1]
    rw [text_f]
    simp only [Option.bind_some, Bool.false_eq_true, if_false]
    by_cases ha : (D t).length > 65535
    · simp only [tx, if_pos ha]
      rw [if_neg (by omega)]
      simp only [if_true]
      rw [size_D]; simp; omega
    · simp only [tx, if_neg ha]
      have la := lb_len (D t).length
      have t1 := tt_tx (D t) (D more) 65535 (by omega) (by omega)
      rw [if_pos trivial, if_pos (by rw [size_B, B_D, List.length_append]; have := size_D t; omega), takeText, B_append]
      simp only [Tt, D_B, t1, Option.bind_some, toList_D, if_true]
      rfl
  simp only [cartouchelaw01_LumpBack.j0]
  rw [takeNum _ 19 (by omega), Tn]
  simp only [Option.bind_some, bne_self_eq_false, Bool.false_eq_true, if_false]
  by_cases h0 : (tn (D s)).2.2 = 0
  · have hn := nb_tn (D s) h0
    rw [if_pos h0, num_f _ hn.2.1 hn.2.2]
    simp only [Option.bind_some]
    have hz := size_D s
    have hlen := congrArg List.length hn.1
    rw [List.length_append] at hlen
    rw [if_pos (by rw [size_B, size_B]; omega), B_append, hn.1, toList_D, toList_D, D_B, bne_self_eq_false, j1]
  · rw [if_neg h0, j1]

end Go.Proofs.Ytkgonihoeghphaa.Pure
