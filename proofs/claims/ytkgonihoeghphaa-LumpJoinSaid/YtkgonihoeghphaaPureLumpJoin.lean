/- Of two texts' bytes, one behind the other, both are taken. No condition. -/
import Derived.Test.YtkgonihoeghphaaA8
import Derived.Test.YtkgonihoeghphaaL01
import Derived.Test.YtkgonihoeghphaaL01b
import Derived.Test.YtkgonihoeghphaaL01c
namespace Go.Proofs.Ytkgonihoeghphaa.Pure
open Go.RowKit Go.Proofs.Ytkgonihoeghphaa.A Go.Proofs.YtkgonihoeghphaaW.PrintWords Go.Proofs.YtkgonihoeghphaaW.PrintLast Go.Proofs.Ytkgonihoeghphaa.Pl

theorem LumpJoin : cartouchelaw01_LumpJoin.Pure := by
  intro a b _ _
  refine ⟨11, ?_⟩
  unfold cartouchelaw01_LumpJoin.f
  rw [shown01 11 (by omega), text_f, text_f]
  simp only [Option.bind_some, cartouchelaw01_LumpJoin.j0]
  by_cases ha : (D a).length > 65535
  · simp [tx, ha]
  · by_cases hb : (D b).length > 65535
    · simp [tx, ha, hb]
    · have la := lb_len (D a).length
      have lb := lb_len (D b).length
      have t1 := tt_tx (D a) (Pl.lb (D b).length ++ D b) 65535 (by omega) (by omega)
      have t2 := tt_tx (D b) [] 65535 (by omega) (by omega)
      rw [List.append_nil] at t2
      simp only [tx, if_neg ha, if_neg hb]
      rw [if_pos trivial, if_neg (by simp), if_pos (by rw [size_B, size_B, List.length_append, List.length_append]; omega), takeText, B_append]
      simp only [Tt, D_B, t1, Option.bind_some]
      rw [takeText]
      simp only [Tt, D_B, t2, Option.bind_some, toList_D, if_true]
      rfl

end Go.Proofs.Ytkgonihoeghphaa.Pure
