/- At one time no more than Budget is spent. No condition. -/
import Derived.Test.YtndbgdcjhhjaiaaA4
import Derived.Test.YtndbgdcjhhjaiaaG
import Derived.Test.YtndbgdcjhhjaiaaL18
namespace Go.Proofs.Ytndbgdcjhhjaiaa.Pure
open Go.RowKit Go.Proofs.Ytndbgdcjhhjaiaa.A Go.Proofs.YtndbgdcjhhjaiaaW.PrintWords Go.Proofs.YtndbgdcjhhjaiaaW.PrintLast Go.Proofs.YtndbgdcjhhjaiaaW.PrintMore Go.Proofs.Ytndbgdcjhhjaiaa.Pl

theorem most_loop (now : Int) (l : List Int) (res : List Bool) (hl : l.length < 140737488355328) (hres : res.length = l.length) (d : Nat) : ∀ (i k : Nat) (b : Int), l.length - i = d → i ≤ l.length → 2 * d < k → 0 ≤ b → b ≤ 150 → sp now now b (l.drop i) = res.drop i →
    cartouchelaw18_MeterMost.l0 k l true res b i = some true := by
  induction d with
  | zero =>
    intro i k b hd hi hk h0 h1 hs
    obtain ⟨k, rfl⟩ : ∃ m, k = m + 1 := ⟨k - 1, by omega⟩
    simp only [cartouchelaw18_MeterMost.l0]
    rw [if_neg (by omega), if_pos trivial, if_pos (by omega)]
    simp; omega
  | succ d ih =>
    intro i k b hd hi hk h0 h1 hs
    obtain ⟨k, rfl⟩ : ∃ m, k = m + 1 + 1 := ⟨k - 2, by omega⟩
    have hw : wrap64 ((i : Int) + 1) = ((i + 1 : Nat) : Int) := by rw [i64_wrap (by omega) (by omega)]; omega
    rw [rd_drop (show i < l.length by omega), rdb_drop (show i < res.length by omega), sp] at hs
    obtain ⟨hs1, hs2⟩ := List.cons.inj hs
    have hlf : lf now b now = b := by unfold lf; rw [if_neg (by omega)]
    have hmx : mx now now = now := by unfold mx; split <;> rfl
    simp only [cartouchelaw18_MeterMost.l0]
    rw [if_pos (by omega), if_pos (by omega)]
    unfold ch at hs1 hs2
    rw [hlf] at hs1 hs2
    by_cases c0 : rd l i < 0
    · rw [if_pos c0] at hs1 hs2
      have e : rdOf false res i = false := by rw [← hs1]; rfl
      rw [e, if_neg (by simp)]
      simp only [cartouchelaw18_MeterMost.j1]
      rw [if_neg (by simp), if_pos (by omega), if_pos (by omega), e, if_neg (by simp), hw]
      exact ih (i + 1) k b (by omega) (by omega) (by omega) h0 h1 hs2
    · rw [if_neg c0] at hs1 hs2
      by_cases c1 : rd l i > b
      · rw [if_pos c1] at hs1 hs2
        have e : rdOf false res i = false := by rw [← hs1]; rfl
        rw [e, if_neg (by simp)]
        simp only [cartouchelaw18_MeterMost.j1]
        rw [if_neg (by simp), if_pos (by omega), if_pos (by omega), e, if_neg (by simp), hw]
        exact ih (i + 1) k b (by omega) (by omega) (by omega) h0 h1 hs2
      · rw [if_neg c1] at hs1 hs2
        have e : rdOf false res i = true := by rw [← hs1]; rfl
        rw [e, if_pos rfl, if_pos (by omega), if_neg c0, decide_eq_false c1]
        simp only [cartouchelaw18_MeterMost.j1]
        rw [if_neg (by simp), if_pos (by omega), if_pos (by omega), e, if_pos rfl, if_pos (by omega), hw, i64_wrap (x := b - rd l i) (by omega) (by omega)]
        simp only at hs2
        rw [hmx, i64_wrap (by omega) (by omega)] at hs2
        exact ih (i + 1) k (b - rd l i) (by omega) (by omega) (by omega) (by omega) (by omega) hs2
theorem MeterMost : cartouchelaw18_MeterMost.Pure := by
  intro now l _ _ hl _
  refine ⟨2 * l.length + 2, ?_⟩
  unfold cartouchelaw18_MeterMost.f
  rw [shown18, spend_f now l (by omega)]
  simp only [Option.bind_some]
  rw [if_pos (by rw [sp_len])]
  exact most_loop now l _ (by omega) (sp_len _ _ _ _) (l.length - 0) 0 _ 150 rfl (by omega) (by omega) (by omega) (by omega) rfl

end Go.Proofs.Ytndbgdcjhhjaiaa.Pure
