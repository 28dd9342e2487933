/- What is taken of some costs hangs on those ahead of each alone. No condition. -/
import Derived.Test.YtndbgdcjhhjaiaaA7
import Derived.Test.YtndbgdcjhhjaiaaG
import Derived.Test.YtndbgdcjhhjaiaaL18
namespace Go.Proofs.Ytndbgdcjhhjaiaa.Pure
open Go.RowKit Go.Proofs.Ytndbgdcjhhjaiaa.A Go.Proofs.YtndbgdcjhhjaiaaW.PrintWords Go.Proofs.YtndbgdcjhhjaiaaW.PrintLast Go.Proofs.Ytndbgdcjhhjaiaa.Pl

theorem begins_loop (x : List Bool) (n : Nat) (hn : n ≤ x.length) (hx : x.length < 140737488355328) (d : Nat) : ∀ (i k : Nat), n - i = d → i ≤ n → d < k → cartouchelaw18_MeterBegins.l0 k n true x (x.take n) i = some true := by
  induction d with
  | zero =>
    intro i k hd hi hk
    obtain ⟨k, rfl⟩ : ∃ m, k = m + 1 := ⟨k - 1, by omega⟩
    simp only [cartouchelaw18_MeterBegins.l0]
    rw [if_neg (by omega)]
  | succ d ih =>
    intro i k hd hi hk
    obtain ⟨k, rfl⟩ : ∃ m, k = m + 1 := ⟨k - 1, by omega⟩
    have hw : wrap64 ((i : Int) + 1) = ((i + 1 : Nat) : Int) := by rw [i64_wrap (by omega) (by omega)]; omega
    have e : rdOf false (x.take n) i = rdOf false x i := by
      simp [rdOf, List.getElem?_take_of_lt (show i < n by omega)]
    simp only [cartouchelaw18_MeterBegins.l0]
    rw [if_pos (by omega), if_pos (by omega), if_pos (by omega), if_pos (by rw [List.length_take]; omega), e, if_neg (by simp), hw, ih (i + 1) k (by omega) (by omega) (by omega)]
theorem MeterBegins : cartouchelaw18_MeterBegins.Pure := by
  intro now l n _ _ hl _ _
  refine ⟨l.length + 4, ?_⟩
  unfold cartouchelaw18_MeterBegins.f
  rw [shown18]
  simp only [Option.bind_some, cartouchelaw18_MeterBegins.j0, if_true]
  by_cases h0 : n < 0
  · rw [if_pos h0]
  · rw [if_neg h0]
    by_cases h1 : n > (l.length : Int)
    · rw [if_pos (decide_eq_true h1)]
    · obtain ⟨m, rfl⟩ := Int.eq_ofNat_of_zero_le (show 0 ≤ n by omega)
      rw [if_neg (by simpa using h1), spend_f now l (by omega)]
      simp only [Option.bind_some]
      rw [if_pos (by omega), if_pos (by omega), Int.toNat_natCast, spend_f now (l.take m) (by rw [List.length_take]; omega)]
      simp only [Option.bind_some]
      rw [if_pos (by rw [sp_len]), sp_take]
      have e : ((((sp now now 150 l).take m).length : Int) != (m : Int)) = false := by
        rw [List.length_take, sp_len, Nat.min_eq_left (by omega)]; simp
      rw [e]
      simp only [cartouchelaw18_MeterBegins.j1]
      rw [if_neg (by simp)]
      exact begins_loop _ m (by rw [sp_len]; omega) (by rw [sp_len]; omega) (m - 0) 0 _ rfl (by omega) (by omega)

end Go.Proofs.Ytndbgdcjhhjaiaa.Pure
