/- The meter, in plain terms. -/
import Derived.Test.YtndbgdcjhhjaiaaG
import Derived.Test.YtndbgdcjhhjaiaaA2
import Derived.Test.YtndbgdcjhhjaiaaA3
namespace Go.Proofs.Ytndbgdcjhhjaiaa.Pl
open Go.RowKit Go.Proofs.Ytndbgdcjhhjaiaa.A Go.Proofs.YtndbgdcjhhjaiaaW.PrintWords Go.Proofs.YtndbgdcjhhjaiaaW.PrintLast Go.Proofs.YtndbgdcjhhjaiaaW.PrintMore

def lf (a b now : Int) : Int := if now > a then 150 else b
theorem left_f (a b now : Int) : meter_Left.f a b now = some (lf a b now) := by
  unfold meter_Left.f lf; split <;> rfl
def ch (a b now c : Int) : Int × Int × Int :=
  if c < 0 then (a, b, 1) else if c > lf a b now then (a, b, 12) else (mx a now, wrap64 (lf a b now - c), 0)
theorem charge_f (a b now c : Int) : meter_Charge.f a b now c = some (ch a b now c) := by
  unfold meter_Charge.f ch
  rw [left_f]
  simp only [Option.bind_some]
  split
  · rfl
  · split <;> rfl
theorem refcharge_f (a b now c : Int) : cartoucheref18_Charge.f a b now c = some (ch a b now c) := by
  unfold cartoucheref18_Charge.f ch
  have hl : cartoucheref18_Left.f a b now = some (lf a b now) := by unfold cartoucheref18_Left.f lf; split <;> rfl
  rw [hl]
  simp only [Option.bind_some]
  by_cases h : c < 0
  · rw [if_pos h, if_pos h]
  · rw [if_neg h, if_neg h]
    by_cases h2 : c > lf a b now
    · rw [if_pos h2, if_pos h2]
    · rw [if_neg h2, if_neg h2]
      unfold mx
      by_cases h3 : now > a
      · rw [if_pos h3, if_pos h3]
      · rw [if_neg h3, if_neg h3]
/-- What is taken of some costs. -/
def sp (now : Int) : Int → Int → List Int → List Bool
  | _, _, [] => []
  | a, b, c :: cs => ((ch a b now c).2.2 == 0) :: sp now (ch a b now c).1 (ch a b now c).2.1 cs
theorem go_f (now : Int) : ∀ (l : List Int) (a b : Int), meter_Spend.go now a b l = some (sp now a b l)
  | [], _, _ => rfl
  | c :: l, a, b => by
    rw [meter_Spend.go, charge_f]
    simp only [Option.bind_some]
    rw [go_f now l]
    rfl
theorem spend_f (now : Int) (l : List Int) (h : l.length < 140737488355328) : meter_Spend.f now l = some (sp now now 150 l) := by
  unfold meter_Spend.f meter_Full.f
  simp only [Option.bind_some]
  rw [if_pos h, go_f]
theorem sp_len (now : Int) : ∀ (l : List Int) (a b : Int), (sp now a b l).length = l.length
  | [], _, _ => rfl
  | c :: l, a, b => by simp [sp, sp_len now l]
theorem sp_take (now : Int) : ∀ (l : List Int) (n : Nat) (a b : Int), sp now a b (l.take n) = (sp now a b l).take n
  | l, 0, _, _ => by simp [sp]
  | [], n + 1, _, _ => by simp [sp]
  | c :: l, n + 1, a, b => by simp [sp, sp_take now l n]
theorem shown18 : cartouchelaw18_shown.f = some true := by
  have e : sp 7 7 150 [100, 100, 50] = [true, false, true] := by decide +kernel
  unfold cartouchelaw18_shown.f
  rw [spend_f 7 [100, 100, 50] (by decide), e]
  rfl
theorem rd_drop {l : List Int} {i : Nat} (h : i < l.length) : l.drop i = rd l i :: l.drop (i + 1) := by
  rw [List.drop_eq_getElem_cons h]
  simp [rd, List.getElem?_eq_getElem h]
theorem rdb_drop {l : List Bool} {i : Nat} (h : i < l.length) : l.drop i = rdOf false l i :: l.drop (i + 1) := by
  rw [List.drop_eq_getElem_cons h]
  simp [rdOf, List.getElem?_eq_getElem h]
/-- The document's loop. -/
theorem ref_spend_loop (now : Int) (l : List Int) (hl : l.length < 140737488355328) (d : Nat) : ∀ (i k : Nat) (acc : List Bool) (a b : Int), l.length - i = d → i ≤ l.length → d < k → acc.length = i →
    cartoucheref18_Spend.l0 k now l acc i a b = some (acc ++ sp now a b (l.drop i)) := by
  induction d with
  | zero =>
    intro i k acc a b hd hi hk ha
    obtain ⟨k, rfl⟩ : ∃ m, k = m + 1 := ⟨k - 1, by omega⟩
    simp only [cartoucheref18_Spend.l0]
    rw [if_neg (by omega), List.drop_of_length_le (by omega), sp, List.append_nil]
  | succ d ih =>
    intro i k acc a b hd hi hk ha
    obtain ⟨k, rfl⟩ : ∃ m, k = m + 1 := ⟨k - 1, by omega⟩
    have hw : wrap64 ((i : Int) + 1) = ((i + 1 : Nat) : Int) := by rw [i64_wrap (by omega) (by omega)]; omega
    simp only [cartoucheref18_Spend.l0]
    rw [if_pos (by omega), if_pos (by omega), refcharge_f]
    simp only [Option.bind_some]
    rw [if_pos (by omega), hw, ih (i + 1) k _ _ _ (by omega) (by omega) (by omega) (by simp [ha])]
    rw [rd_drop (show i < l.length by omega), sp]
    simp
theorem ref_spend_f (now : Int) (l : List Int) (hl : l.length < 140737488355328) (k : Nat) (hk : l.length < k) : cartoucheref18_Spend.f k now l = some (sp now now 150 l) := by
  have := ref_spend_loop now l hl (l.length - 0) 0 k [] now 150 rfl (by omega) (by omega) rfl
  simpa [cartoucheref18_Spend.f] using this
theorem same_loop (x : List Bool) (hx : x.length < 140737488355328) (d : Nat) : ∀ (i k : Nat), x.length - i = d → i ≤ x.length → d < k → cartoucheref18_Same.l0 k x x i = some true := by
  induction d with
  | zero =>
    intro i k hd hi hk
    obtain ⟨k, rfl⟩ : ∃ m, k = m + 1 := ⟨k - 1, by omega⟩
    simp only [cartoucheref18_Same.l0]
    rw [if_neg (by omega)]
  | succ d ih =>
    intro i k hd hi hk
    obtain ⟨k, rfl⟩ : ∃ m, k = m + 1 := ⟨k - 1, by omega⟩
    have hw : wrap64 ((i : Int) + 1) = ((i + 1 : Nat) : Int) := by rw [i64_wrap (by omega) (by omega)]; omega
    simp only [cartoucheref18_Same.l0]
    rw [if_pos (by omega), if_pos (by omega), if_pos (by omega), if_neg (by simp), hw, ih (i + 1) k (by omega) (by omega) (by omega)]
theorem same_f (x : List Bool) (hx : x.length < 140737488355328) (k : Nat) (hk : x.length < k) : cartoucheref18_Same.f k x x = some true := by
  unfold cartoucheref18_Same.f
  rw [if_pos rfl]
  exact same_loop x hx (x.length - 0) 0 k rfl (by omega) (by omega)
end Go.Proofs.Ytndbgdcjhhjaiaa.Pl
