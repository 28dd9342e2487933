/- Who waits for the next time has it whole; who doesn't has what was left. No condition. -/
import Derived.Test.YtndbgdcjhhjaiaaA5
import Derived.Test.YtndbgdcjhhjaiaaG
import Derived.Test.YtndbgdcjhhjaiaaL18
namespace Go.Proofs.Ytndbgdcjhhjaiaa.Pure
open Go.RowKit Go.Proofs.Ytndbgdcjhhjaiaa.A Go.Proofs.YtndbgdcjhhjaiaaW.PrintWords Go.Proofs.YtndbgdcjhhjaiaaW.PrintLast Go.Proofs.YtndbgdcjhhjaiaaW.PrintMore Go.Proofs.Ytndbgdcjhhjaiaa.Pl

theorem MeterAnew : ∀ (a0_0 : Int) (a0_1 : Int) (a1 : Int) (a2 : Int), (Lit.int .u64 a0_0).wf = true → (Lit.int .i64 a0_1).wf = true → (Lit.int .u64 a1).wf = true → (Lit.int .i64 a2).wf = true → cartouchelaw18_MeterAnew.f a0_0 a0_1 a1 a2 = some true := by
  intro a b now c wa wb wn wc
  have ha := u64_range wa
  have hn := u64_range wn
  unfold cartouchelaw18_MeterAnew.f
  rw [shown18, charge_f]
  simp only [Option.bind_some, left_f, if_true]
  unfold ch
  by_cases c0 : c < 0
  · simp only [if_pos c0]; simp
  · simp only [if_neg c0]
    by_cases c1 : c > lf a b now
    · simp only [if_pos c1]; simp
    · simp only [if_neg c1, if_true]
      have hm : ¬ now > mx a now := by unfold mx; split <;> omega
      have hm2 : mx a now ≤ 18446744073709551615 ∧ 0 ≤ mx a now := by unfold mx; split <;> omega
      have e1 : lf (mx a now) (wrap64 (lf a b now - c)) now = wrap64 (lf a b now - c) := by
        rw [lf, if_neg hm]
      rw [e1, if_pos rfl]
      by_cases c2 : mx a now = 18446744073709551615
      · rw [if_pos c2]
      · rw [if_neg c2, u64_wrap (by omega) (by omega)]
        have e2 : lf (mx a now) (wrap64 (lf a b now - c)) (mx a now + 1) = 150 := by rw [lf, if_pos (by omega)]
        rw [e2]; rfl

end Go.Proofs.Ytndbgdcjhhjaiaa.Pure
