/- What costs nothing is always taken, and changes nothing that is left. No condition. -/
import Derived.Test.YtndbgdcjhhjaiaaA6
import Derived.Test.YtndbgdcjhhjaiaaG
import Derived.Test.YtndbgdcjhhjaiaaL18
namespace Go.Proofs.Ytndbgdcjhhjaiaa.Pure
open Go.RowKit Go.Proofs.Ytndbgdcjhhjaiaa.A Go.Proofs.YtndbgdcjhhjaiaaW.PrintWords Go.Proofs.YtndbgdcjhhjaiaaW.PrintLast Go.Proofs.YtndbgdcjhhjaiaaW.PrintMore Go.Proofs.Ytndbgdcjhhjaiaa.Pl

theorem MeterZero : ∀ (a0_0 : Int) (a0_1 : Int) (a1 : Int), (Lit.int .u64 a0_0).wf = true → (Lit.int .i64 a0_1).wf = true → (Lit.int .u64 a1).wf = true → cartouchelaw18_MeterZero.f a0_0 a0_1 a1 = some true := by
  intro a b now wa wb wn
  have hb := i64_range wb
  unfold cartouchelaw18_MeterZero.f
  rw [shown18, charge_f]
  simp only [Option.bind_some, left_f, if_true]
  have hlf : -9223372036854775808 ≤ lf a b now ∧ lf a b now ≤ 9223372036854775807 := by unfold lf; split <;> omega
  by_cases c1 : lf a b now < 0
  · have e : ch a b now 0 = (a, b, 12) := by unfold ch; rw [if_neg (show ¬ (0 : Int) < 0 by omega), if_pos (by omega)]
    rw [e, if_pos c1]; simp
  · have e : ch a b now 0 = (mx a now, wrap64 (lf a b now - 0), 0) := by unfold ch; rw [if_neg (show ¬ (0 : Int) < 0 by omega), if_neg (by omega)]
    have hm : ¬ now > mx a now := by unfold mx; split <;> omega
    have e1 : lf (mx a now) (wrap64 (lf a b now - 0)) now = lf a b now := by
      have e2 : lf (mx a now) (wrap64 (lf a b now - 0)) now = wrap64 (lf a b now - 0) := by rw [lf, if_neg hm]
      rw [e2, i64_wrap (by omega) (by omega)]; omega
    rw [e, if_neg c1]
    simp only [e1, if_true]
    simp

end Go.Proofs.Ytndbgdcjhhjaiaa.Pure
