/- The document's histories, in plain terms. -/
import Derived.Test.YtpfmdpbhmilepaaG
import Derived.Test.YtpfmdpbhmilepaaL01t
import Derived.Test.YtpfmdpbhmilepaaL01c
import Derived.Test.YtpfmdpbhmilepaaL06
import Derived.Test.YtpfmdpbhmilepaaL06r
import Derived.Test.YtpfmdpbhmilepaaL06h
import Derived.Test.YtpfmdpbhmilepaaA15
import Derived.Test.YtpfmdpbhmilepaaA16
namespace Go.Proofs.Ytpfmdpbhmilepaa.Pl
open Go.RowKit Go.Proofs.Ytpfmdpbhmilepaa.A Go.Proofs.YtpfmdpbhmilepaaW.PrintWords Go.Proofs.YtpfmdpbhmilepaaW.PrintLast

theorem refleaves_loop (l : List Ev) (hl : l.length ≤ 256) (d : Nat) : ∀ (i k : Nat) (acc : List ByteArray), l.length - i = d → i ≤ l.length → d + 3 < k → acc.length = i →
    cartoucheref06_Leaves.l0 k l acc i = some (if (l.drop i).all mayE = true then (acc ++ (l.drop i).map ebE, 0) else ([], 1)) := by
  induction d with
  | zero =>
    intro i k acc hd hi hk ha
    obtain ⟨k, rfl⟩ : ∃ m, k = m + 1 := ⟨k - 1, by omega⟩
    simp only [cartoucheref06_Leaves.l0]
    rw [if_neg (by omega), List.drop_of_length_le (by omega)]
    simp
  | succ d ih =>
    intro i k acc hd hi hk ha
    obtain ⟨k, rfl⟩ : ∃ m, k = m + 1 := ⟨k - 1, by omega⟩
    have hlt : i < l.length := by omega
    have hw : wrap64 ((i : Int) + 1) = ((i + 1 : Nat) : Int) := by rw [i64_wrap (by omega) (by omega)]; omega
    have hr : rd_T23 l i = l[i] := rdE_get hlt
    have hb : ∀ x : Ev, cartoucheref06_Bytes.f k x.f0 x.f1 x.f2 x.f3 = some (if mayE x = true then (ebE x, 0) else (B [], 1)) := fun x => refbytes_f k (by omega) _ _ _ _
    simp only [cartoucheref06_Leaves.l0]
    rw [if_pos (by omega), if_pos (by omega), hr, hb]
    simp only [Option.bind_some]
    rw [List.drop_eq_getElem_cons hlt]
    by_cases hm : mayE l[i] = true
    · rw [if_pos hm]
      simp only [if_true]
      rw [if_pos (by omega), hw, ih (i + 1) k _ (by omega) (by omega) (by omega) (by simp [ha])]
      rw [List.all_cons, hm, Bool.true_and, List.map_cons, List.append_assoc]; rfl
    · have hf : mayE l[i] = false := by simpa using hm
      rw [if_neg hm]
      simp only
      rw [if_neg (by omega), List.all_cons, hf, Bool.false_and]; rfl
theorem refleaves_f (l : List Ev) (k : Nat) (hk : l.length + 3 < k) : cartoucheref06_Leaves.f k l = some (lvs l) := by
  unfold cartoucheref06_Leaves.f lvs
  by_cases h : l.length > 256
  · rw [if_pos (by omega), if_pos h]
  · rw [if_neg (by omega), if_neg h]
    have := refleaves_loop l (by omega) (l.length - 0) 0 k [] rfl (by omega) (by omega) rfl
    simpa using this
theorem refback_loop (l : List ByteArray) (hl : l.length ≤ 256) (d : Nat) : ∀ (i k : Nat) (acc : List Ev), l.length - i = d → i ≤ l.length → d + 5 < k → acc.length = i →
    cartoucheref06_Back.l0 k l acc i = some (if (l.drop i).all isE = true then (acc ++ (l.drop i).map etE, 0) else ([], 3)) := by
  induction d with
  | zero =>
    intro i k acc hd hi hk ha
    obtain ⟨k, rfl⟩ : ∃ m, k = m + 1 := ⟨k - 1, by omega⟩
    simp only [cartoucheref06_Back.l0]
    rw [if_neg (by omega), List.drop_of_length_le (by omega)]
    simp
  | succ d ih =>
    intro i k acc hd hi hk ha
    obtain ⟨k, rfl⟩ : ∃ m, k = m + 1 := ⟨k - 1, by omega⟩
    have hlt : i < l.length := by omega
    have hw : wrap64 ((i : Int) + 1) = ((i + 1 : Nat) : Int) := by rw [i64_wrap (by omega) (by omega)]; omega
    simp only [cartoucheref06_Back.l0]
    rw [if_pos (by omega), if_pos (by omega), rdS_get hlt, reftake_f k (by omega)]
    simp only [Option.bind_some, Et_code]
    rw [List.drop_eq_getElem_cons hlt]
    by_cases hm : isE l[i] = true
    · rw [if_pos hm]
      rw [if_pos rfl, if_pos (by omega), hw]
      have e : acc ++ [(⟨(Et l[i]).1, (Et l[i]).2.1, (Et l[i]).2.2.1, (Et l[i]).2.2.2.1⟩ : Ev)] = acc ++ [etE l[i]] := rfl
      rw [e, ih (i + 1) k _ (by omega) (by omega) (by omega) (by simp [ha])]
      rw [List.all_cons, hm, Bool.true_and, List.map_cons, List.append_assoc]; rfl
    · have hf : isE l[i] = false := by simpa using hm
      rw [if_neg hm]
      rw [if_neg (by omega), List.all_cons, hf, Bool.false_and]; rfl
theorem refback_f (l : List ByteArray) (k : Nat) (hk : l.length + 5 < k) : cartoucheref06_Back.f k l = some (bks l) := by
  unfold cartoucheref06_Back.f bks
  by_cases h : l.length > 256
  · rw [if_pos (by omega), if_pos h]
  · rw [if_neg (by omega), if_neg h]
    have := refback_loop l (by omega) (l.length - 0) 0 k [] rfl (by omega) (by omega) rfl
    simpa using this
theorem refrow_loop (x : List ByteArray) (hx : x.length < 140737488355328) (d : Nat) : ∀ (i k : Nat), x.length - i = d → i ≤ x.length → d < k → cartoucheref01_Same.l0 k x x i = some true := by
  induction d with
  | zero =>
    intro i k hd hi hk
    obtain ⟨k, rfl⟩ : ∃ m, k = m + 1 := ⟨k - 1, by omega⟩
    simp only [cartoucheref01_Same.l0]
    rw [if_neg (by omega)]
  | succ d ih =>
    intro i k hd hi hk
    obtain ⟨k, rfl⟩ : ∃ m, k = m + 1 := ⟨k - 1, by omega⟩
    have hw : wrap64 ((i : Int) + 1) = ((i + 1 : Nat) : Int) := by rw [i64_wrap (by omega) (by omega)]; omega
    simp only [cartoucheref01_Same.l0]
    rw [if_pos (by omega), if_pos (by omega), if_pos (by omega), if_pos trivial, hw, ih (i + 1) k (by omega) (by omega) (by omega)]
theorem refrow_f (x : List ByteArray) (hx : x.length < 140737488355328) (k : Nat) (hk : x.length < k) : cartoucheref01_Same.f k x x = some true := by
  unfold cartoucheref01_Same.f
  rw [if_pos rfl]
  exact refrow_loop x hx (x.length - 0) 0 k rfl (by omega) (by omega)
theorem same_loop06 (l m : List Ev) (hlm : l.length = m.length) (hl : l.length < 140737488355328) (d : Nat) : ∀ (i k : Nat), l.length - i = d → i ≤ l.length → d < k →
    api_Event.l0 k l m l.length i = some (smE (l.drop i) (m.drop i)) := by
  induction d with
  | zero =>
    intro i k hd hi hk
    obtain ⟨k, rfl⟩ : ∃ m, k = m + 1 := ⟨k - 1, by omega⟩
    simp only [api_Event.l0]
    rw [if_neg (by omega), List.drop_of_length_le (by omega)]
    rfl
  | succ d ih =>
    intro i k hd hi hk
    obtain ⟨k, rfl⟩ : ∃ m, k = m + 1 := ⟨k - 1, by omega⟩
    have hlt : i < l.length := by omega
    have hlt2 : i < m.length := by omega
    have hw : wrap64 ((i : Int) + 1) = ((i + 1 : Nat) : Int) := by rw [i64_wrap (by omega) (by omega)]; omega
    have hr : rd_T23 l i = l[i] := rdE_get hlt
    have hr2 : rd_T23 m i = m[i] := rdE_get hlt2
    simp only [api_Event.l0]
    rw [if_pos (by omega), if_pos (by omega), if_pos (by omega), if_pos (by omega), hr, hr2, List.drop_eq_getElem_cons hlt, List.drop_eq_getElem_cons hlt2, smE, hw, ih (i + 1) k (by omega) (by omega) (by omega)]
    show (if neE l[i] m[i] = true then _ else _) = _
    by_cases h : neE l[i] m[i] = true
    · rw [if_pos h, if_pos h]
    · rw [if_neg h, if_neg h]
theorem same_f06 (l m : List Ev) (hl : l.length < 140737488355328) (k : Nat) (hk : l.length < k) : event_Same.f k l m = some (if l.length = m.length then smE l m else false) := by
  unfold event_Same.f api_Event.f
  by_cases h : l.length = m.length
  · rw [if_pos (by omega), if_pos h]
    have := same_loop06 l m h hl (l.length - 0) 0 k rfl (by omega) (by omega)
    have e : api_Event.l0 k l m l.length 0 = some (smE l m) := by simpa using this
    rw [e]; rfl
  · rw [if_neg (by omega), if_neg h]; rfl
theorem lvs_len (l : List Ev) : (lvs l).1.length ≤ 256 := by
  unfold lvs
  split
  · simp
  · split
    · simp; omega
    · simp
theorem bks_len (l : List ByteArray) : (bks l).1.length ≤ 256 := by
  unfold bks
  split
  · simp
  · split
    · simp; omega
    · simp
end Go.Proofs.Ytpfmdpbhmilepaa.Pl
