/- Histories as bytes, in plain terms. -/
import Derived.Test.YtpfmdpbhmilepaaG
import Derived.Test.YtpfmdpbhmilepaaL01t
import Derived.Test.YtpfmdpbhmilepaaL01c
import Derived.Test.YtpfmdpbhmilepaaL06
import Derived.Test.YtpfmdpbhmilepaaA14
import Derived.Test.YtpfmdpbhmilepaaA15
import Derived.Test.YtpfmdpbhmilepaaA4
namespace Go.Proofs.Ytpfmdpbhmilepaa.Pl
open Go.RowKit Go.Proofs.Ytpfmdpbhmilepaa.A Go.Proofs.YtpfmdpbhmilepaaW.PrintWords Go.Proofs.YtpfmdpbhmilepaaW.PrintLast

abbrev Ev := S23
abbrev rdE := rd_T23
/-- May an event be; its bytes; the event of bytes. -/
def mayE (x : Ev) : Bool := may x.f0 x.f1 (D x.f2) (D x.f3)
def ebE (x : Ev) : ByteArray := B (eb x.f0 x.f1 (D x.f2) (D x.f3))
def isE (s : ByteArray) : Bool := (et (D s)).isSome
def etE (s : ByteArray) : Ev := ⟨(Et s).1, (Et s).2.1, (Et s).2.2.1, (Et s).2.2.2.1⟩
theorem bytes_E (x : Ev) : event_Bytes.f x.f0 x.f1 x.f2 x.f3 = some (if mayE x = true then (ebE x, 0) else (B [], 1)) := bytes_f _ _ _ _
theorem Et_code (s : ByteArray) : (Et s).2.2.2.2 = if isE s = true then 0 else 3 := by
  unfold Et isE
  rcases h : et (D s) with _ | ⟨a, b, c, d⟩ <;> simp
theorem etE_ebE (x : Ev) (h : mayE x = true) : isE (ebE x) = true ∧ etE (ebE x) = x := by
  have he := et_eb h
  have hE : Et (ebE x) = (x.f0, x.f1, x.f2, x.f3, 0) := by
    unfold Et ebE; rw [D_B, he]; simp only [B_D]
  refine ⟨?_, ?_⟩
  · unfold isE ebE; rw [D_B, he]; rfl
  · unfold etE; rw [hE]
theorem rdE_get {l : List Ev} {i : Nat} (h : i < l.length) : rdE l i = l[i] := by
  simp [rdE, rd_T23, List.getElem?_eq_getElem h]
theorem rdS_get {l : List ByteArray} {i : Nat} (h : i < l.length) : rdOf ByteArray.empty l i = l[i] := by
  simp [rdOf, List.getElem?_eq_getElem h]
/-- A history's bytes, event by event. -/
def lvs (l : List Ev) : List ByteArray × Int := if l.length > 256 then ([], 4) else if l.all mayE = true then (l.map ebE, 0) else ([], 1)
def bks (l : List ByteArray) : List Ev × Int := if l.length > 256 then ([], 4) else if l.all isE = true then (l.map etE, 0) else ([], 3)
theorem leaves_loop (l : List Ev) (hl : l.length ≤ 256) (d : Nat) : ∀ (i k : Nat) (acc : List ByteArray), l.length - i = d → i ≤ l.length → d < k → acc.length = i →
    event_Leaves.l0 k acc l l.length i = some (if (l.drop i).all mayE = true then (acc ++ (l.drop i).map ebE, 0) else ([], 1)) := by
  induction d with
  | zero =>
    intro i k acc hd hi hk ha
    obtain ⟨k, rfl⟩ : ∃ m, k = m + 1 := ⟨k - 1, by omega⟩
    simp only [event_Leaves.l0]
    rw [if_neg (by omega), List.drop_of_length_le (by omega)]
    simp
  | succ d ih =>
    intro i k acc hd hi hk ha
    obtain ⟨k, rfl⟩ : ∃ m, k = m + 1 := ⟨k - 1, by omega⟩
    have hlt : i < l.length := by omega
    have hw : wrap64 ((i : Int) + 1) = ((i + 1 : Nat) : Int) := by rw [i64_wrap (by omega) (by omega)]; omega
    have hr : rd_T23 l i = l[i] := rdE_get hlt
    simp only [event_Leaves.l0]
    rw [if_pos (by omega), if_pos (by omega), if_pos (by omega), hr, bytes_E]
    simp only [Option.bind_some]
    rw [List.drop_eq_getElem_cons hlt]
    by_cases hm : mayE l[i] = true
    · rw [if_pos hm]
      simp only [if_true]
      rw [if_pos (by omega), hw, ih (i + 1) k _ (by omega) (by omega) (by omega) (by simp [ha])]
      rw [List.all_cons, hm, Bool.true_and, List.map_cons, List.append_assoc]; rfl
    · have hf : mayE l[i] = false := by simpa using hm
      rw [if_neg hm]
      simp only
      rw [if_neg (by omega), List.all_cons, hf, Bool.false_and]; rfl
theorem leaves_f (l : List Ev) (k : Nat) (hk : l.length < k) : event_Leaves.f k l = some (lvs l) := by
  unfold event_Leaves.f lvs
  by_cases h : l.length > 256
  · rw [if_pos (by omega), if_pos h]
  · rw [if_neg (by omega), if_neg h]
    have := leaves_loop l (by omega) (l.length - 0) 0 k [] rfl (by omega) (by omega) rfl
    simpa using this
theorem back_loop (l : List ByteArray) (hl : l.length ≤ 256) (d : Nat) : ∀ (i k : Nat) (acc : List Ev), l.length - i = d → i ≤ l.length → d + 4 < k → acc.length = i →
    event_Back.l0 k acc l l.length i = some (if (l.drop i).all isE = true then (acc ++ (l.drop i).map etE, 0) else ([], 3)) := by
  induction d with
  | zero =>
    intro i k acc hd hi hk ha
    obtain ⟨k, rfl⟩ : ∃ m, k = m + 1 := ⟨k - 1, by omega⟩
    simp only [event_Back.l0]
    rw [if_neg (by omega), List.drop_of_length_le (by omega)]
    simp
  | succ d ih =>
    intro i k acc hd hi hk ha
    obtain ⟨k, rfl⟩ : ∃ m, k = m + 1 := ⟨k - 1, by omega⟩
    have hlt : i < l.length := by omega
    have hw : wrap64 ((i : Int) + 1) = ((i + 1 : Nat) : Int) := by rw [i64_wrap (by omega) (by omega)]; omega
    simp only [event_Back.l0]
    rw [if_pos (by omega), if_pos (by omega), if_pos (by omega), rdS_get hlt, take_f k (by omega)]
    simp only [Option.bind_some, Et_code]
    rw [List.drop_eq_getElem_cons hlt]
    by_cases hm : isE l[i] = true
    · rw [if_pos hm]
      rw [if_pos rfl, if_pos (by omega), hw]
      have e : acc ++ [(⟨(Et l[i]).1, (Et l[i]).2.1, (Et l[i]).2.2.1, (Et l[i]).2.2.2.1⟩ : Ev)] = acc ++ [etE l[i]] := rfl
      rw [e, ih (i + 1) k _ (by omega) (by omega) (by omega) (by simp [ha])]
      rw [List.all_cons, hm, Bool.true_and, List.map_cons, List.append_assoc]; rfl
    · have hf : isE l[i] = false := by simpa using hm
      rw [if_neg hm]
      rw [if_neg (by omega), List.all_cons, hf, Bool.false_and]; rfl
theorem back_f (l : List ByteArray) (k : Nat) (hk : l.length + 4 < k) : event_Back.f k l = some (bks l) := by
  unfold event_Back.f bks
  by_cases h : l.length > 256
  · rw [if_pos (by omega), if_pos h]
  · rw [if_neg (by omega), if_neg h]
    have := back_loop l (by omega) (l.length - 0) 0 k [] rfl (by omega) (by omega) rfl
    simpa using this
/-- A history that is written is taken as it was. -/
theorem bks_lvs (l : List Ev) (hl : ¬ l.length > 256) (h : l.all mayE = true) : bks (l.map ebE) = (l, 0) := by
  unfold bks
  have h1 : (l.map ebE).all isE = true := by
    rw [List.all_map, List.all_eq_true]
    intro x hx
    exact (etE_ebE x (List.all_eq_true.1 h x hx)).1
  have h2 : (l.map ebE).map etE = l := by
    rw [List.map_map]
    conv => rhs; rw [← List.map_id l]
    exact List.map_congr_left fun x hx => (etE_ebE x (List.all_eq_true.1 h x hx)).2
  rw [if_neg (by rw [List.length_map]; exact hl), if_pos h1, h2]
/-- Are two events the same, as Go asks it. -/
def neE (x y : Ev) : Bool := (!(x.f0 == y.f0) || (!(x.f1 == y.f1) || (!(x.f2.toList == y.f2.toList) || (!(x.f3.toList == y.f3.toList)))))
theorem neE_self (x : Ev) : neE x x = false := by simp [neE]
/-- Are two histories the same: from event i on. -/
def smE : List Ev → List Ev → Bool
  | x :: l, y :: m => if neE x y = true then false else smE l m
  | _, _ => true
theorem smE_self : ∀ l : List Ev, smE l l = true
  | [] => rfl
  | x :: l => by simp [smE, neE_self, smE_self l]
theorem refsame_loop (l m : List Ev) (hlm : l.length = m.length) (hl : l.length < 140737488355328) (d : Nat) : ∀ (i k : Nat), l.length - i = d → i ≤ l.length → d < k →
    cartoucheref06_Same.l0 k l m i = some (smE (l.drop i) (m.drop i)) := by
  induction d with
  | zero =>
    intro i k hd hi hk
    obtain ⟨k, rfl⟩ : ∃ m, k = m + 1 := ⟨k - 1, by omega⟩
    simp only [cartoucheref06_Same.l0]
    rw [if_neg (by omega), List.drop_of_length_le (by omega)]
    rfl
  | succ d ih =>
    intro i k hd hi hk
    obtain ⟨k, rfl⟩ : ∃ m, k = m + 1 := ⟨k - 1, by omega⟩
    have hlt : i < l.length := by omega
    have hlt2 : i < m.length := by omega
    have hw : wrap64 ((i : Int) + 1) = ((i + 1 : Nat) : Int) := by rw [i64_wrap (by omega) (by omega)]; omega
    have hr : rd_T23 l i = l[i] := rdE_get hlt
    have hr2 : rd_T23 m i = m[i] := rdE_get hlt2
    simp only [cartoucheref06_Same.l0]
    rw [if_pos (by omega), if_pos (by omega), if_pos (by omega), hr, hr2, List.drop_eq_getElem_cons hlt, List.drop_eq_getElem_cons hlt2, smE, hw, ih (i + 1) k (by omega) (by omega) (by omega)]
    show (if neE l[i] m[i] = true then _ else _) = _
    by_cases h : neE l[i] m[i] = true
    · rw [if_pos h, if_pos h]
    · rw [if_neg h, if_neg h]
theorem refsame_f (l m : List Ev) (hl : l.length < 140737488355328) (k : Nat) (hk : l.length < k) : cartoucheref06_Same.f k l m = some (if l.length = m.length then smE l m else false) := by
  unfold cartoucheref06_Same.f
  by_cases h : l.length = m.length
  · rw [if_pos (by omega), if_pos h]
    have := refsame_loop l m h hl (l.length - 0) 0 k rfl (by omega) (by omega)
    simpa using this
  · rw [if_neg (by omega), if_neg h]
end Go.Proofs.Ytpfmdpbhmilepaa.Pl
