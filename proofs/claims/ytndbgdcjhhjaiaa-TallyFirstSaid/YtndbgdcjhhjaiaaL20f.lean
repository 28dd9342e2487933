/- The document's First in plain terms. -/
import Derived.Test.YtndbgdcjhhjaiaaG
import Derived.Test.YtndbgdcjhhjaiaaB1
import Derived.Test.YtndbgdcjhhjaiaaB2
namespace Go.Proofs.Ytndbgdcjhhjaiaa.Pl
open Go.RowKit Go.Proofs.Ytndbgdcjhhjaiaa.B Go.Proofs.YtndbgdcjhhjaiaaW.PrintWords Go.Proofs.YtndbgdcjhhjaiaaW.PrintLast
theorem first_loop (l : List ByteArray) (hl : l.length < 140737488355328) (d : Nat) : ∀ (i k : Nat), l.length - i = d → i ≤ l.length → d < k → cartoucheref20_First.l0 k l i = some (tally_First.go (l.drop i)) := by
  induction d with
  | zero =>
    intro i k hd hi hk
    obtain ⟨k, rfl⟩ : ∃ n, k = n + 1 := ⟨k - 1, by omega⟩
    simp only [cartoucheref20_First.l0]
    rw [if_neg (by omega), List.drop_of_length_le (by omega)]; rfl
  | succ d ih =>
    intro i k hd hi hk
    obtain ⟨k, rfl⟩ : ∃ n, k = n + 1 := ⟨k - 1, by omega⟩
    have hil : i < l.length := by omega
    have e : (i : Int) + 1 = ((i + 1 : Nat) : Int) := by omega
    have r1 : rdOf ByteArray.empty l (i : Int) = l[i] := by simp [rdOf, List.getD_eq_getElem?_getD, List.getElem?_eq_getElem hil]
    simp only [cartoucheref20_First.l0]
    have d1 := List.drop_eq_getElem_cons hil
    rw [if_pos (by omega), if_pos (by omega), r1, i64_wrap (x := (i : Int) + 1) (by omega) (by omega), e, d1, tally_First.go, ih (i + 1) k (by omega) (by omega) (by omega)]
    by_cases c : l[i].toList = []
    · rw [if_pos c, if_pos c]
    · rw [if_neg c, if_neg c]
theorem first_f (l : List ByteArray) (hl : l.length < 140737488355328) (k : Nat) (hk : l.length < k) : cartoucheref20_First.f k l = some (tally_First.go l) := by
  have := first_loop l hl _ 0 k rfl (by omega) (by omega)
  simpa [cartoucheref20_First.f] using this
end Go.Proofs.Ytndbgdcjhhjaiaa.Pl
