/- What the bound of the second form gives of a slice's length. -/
import Derived.Test.YtpfmdpbhmilepaaRows
import Derived.Test.YtpfmdpbhmilepaaOp
import Derived.ChangeArms
namespace Go.Proofs.Ytpfmdpbhmilepaa.Up
open Go.ChangeShapes Go.WideShapes Go.RowKit

theorem one_le {H : Type} (d : DataW H) : 1 ≤ Rows.uptoBulk d := by
  cases d with
  | lit l => cases l <;> simp [Rows.uptoBulk]
  | nil => simp [Rows.uptoBulk]
  | ptr d => simp [Rows.uptoBulk]
  | slice elems spare => simp [Rows.uptoBulk]
  | agg parts => simp [Rows.uptoBulk]
  | iface t d => simp [Rows.uptoBulk]
  | map entries => simp [Rows.uptoBulk]
  | held h => simp [Rows.uptoBulk]
theorem length_le {H : Type} (l : List (DataW H)) : l.length ≤ Rows.uptoBulkAll l := by
  induction l with
  | nil => simp [Rows.uptoBulkAll]
  | cons x r ih => have := one_le x; simp only [Rows.uptoBulkAll, List.length_cons]; omega
theorem slice_le {H : Type} (elems spare : List (DataW H)) : elems.length + spare.length + 1 ≤ Rows.uptoBulk (.slice elems spare) := by
  have h1 := length_le elems
  have h2 := length_le spare
  simp only [Rows.uptoBulk]
  omega
/-- A slice that came in is shorter than what it weighs. -/
theorem len_bulk {H : Type} {enc : TypeId × Value → H} {P : Program} {w : World} {base : Nat} {sp : Nat → Bool} {held : Bool} {t e : TypeId} {a : Option Addr} {n c : Nat} {d : DataW H} {p : List MemPlace}
    (ht : P.underlying t = some (.slice e)) (h : DataW.Trod enc P w base sp held t (.slice a n c) d p) : n + 1 ≤ Rows.uptoBulk d := by
  obtain ⟨fuel, hf⟩ := h
  rcases DataW.trod_slice ht hf with ⟨hcs, hx⟩ | ⟨a', len, cap, elems, rest, m, _, hcs, hx, _, _, _, hlen, _⟩
  · have e : Value.slice a n c = .slice none 0 0 := by simpa [Value.cells] using hcs
    injection e with _ e2 _
    subst e2
    have := one_le d
    omega
  · have e : Value.slice a n c = .slice (some a') len cap := by simpa [Value.cells] using hcs
    injection e with _ e2 _
    subst e2
    obtain ⟨hx, _⟩ := Prod.mk.inj hx
    subst hx
    have := slice_le (elems.map (·.1)) (rest.map (·.1))
    rw [List.length_map, List.length_map, hlen] at this
    omega
theorem bound {H : Type} {l : List (DataW H)} (hk : Rows.uptoSmall H l = true) : Rows.uptoBulkAll l ≤ 1048576 := by
  have h := of_decide_eq_true hk
  exact h
end Go.Proofs.Ytpfmdpbhmilepaa.Up
