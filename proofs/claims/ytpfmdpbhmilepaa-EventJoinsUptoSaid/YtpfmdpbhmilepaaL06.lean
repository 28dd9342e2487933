/- Events as bytes, in plain terms. -/
import Derived.Test.YtpfmdpbhmilepaaG
import Derived.Test.YtpfmdpbhmilepaaL01t
import Derived.Test.YtpfmdpbhmilepaaL01c
import Derived.Test.YtpfmdpbhmilepaaA2
import Derived.Test.YtpfmdpbhmilepaaA3
import Derived.Test.YtpfmdpbhmilepaaA9
namespace Go.Proofs.Ytpfmdpbhmilepaa.Pl
open Go.RowKit Go.Proofs.Ytpfmdpbhmilepaa.A Go.Proofs.YtpfmdpbhmilepaaW.PrintWords Go.Proofs.YtpfmdpbhmilepaaW.PrintLast

/-- Has a kind a key? -/
def ky (a : Int) : Bool := decide (a = 2 ∨ a = 3)
/-- May an event be? -/
def may (a b : Int) (c d : List UInt8) : Bool :=
  decide (1 ≤ a ∧ a ≤ 5 ∧ 1 ≤ b ∧ b ≤ 32) && (if ky a = true then decide (1 ≤ c.length ∧ c.length ≤ 32 ∧ d.length ≤ 32 ∧ (a = 2 ∨ 0 < d.length)) else decide (c = [] ∧ d = []))
theorem keyed_f (a : Int) : event_keyed.f a = some (ky a) := by
  unfold event_keyed.f ky
  by_cases h : a = 2
  · simp [h]
  · simp [h]
    by_cases h3 : a = 3 <;> simp [h3]
theorem may_true {a b : Int} {c d : List UInt8} (h : may a b c d = true) : (1 ≤ a ∧ a ≤ 5 ∧ 1 ≤ b ∧ b ≤ 32) ∧ (ky a = true → 1 ≤ c.length ∧ c.length ≤ 32 ∧ d.length ≤ 32 ∧ (a = 2 ∨ 0 < d.length)) ∧ (ky a = false → c = [] ∧ d = []) := by
  unfold may at h
  rw [Bool.and_eq_true] at h
  refine ⟨of_decide_eq_true h.1, fun hk => ?_, fun hk => ?_⟩
  · rw [if_pos hk] at h; exact of_decide_eq_true h.2
  · rw [if_neg (by simp [hk])] at h; exact of_decide_eq_true h.2
theorem ne_nil_len {l : List UInt8} : (l != []) = decide (0 < l.length) := by cases l <;> simp
theorem may_f (k : Nat) (hk : 2 ≤ k) (a b : Int) (c d : ByteArray) : event_May.f k a b c d = some (may a b (D c) (D d)) := by
  obtain ⟨k, rfl⟩ : ∃ m, k = m + 1 + 1 := ⟨k - 2, by omega⟩
  unfold event_May.f may
  simp only [event_May.j0, event_May.j1, keyed_f, Option.bind_some, size_D, toList_D, empty_B, D_B, if_true]
  have hc : ((D c).length : Int) ≥ 1 ↔ 1 ≤ (D c).length := by omega
  have hc2 : ((D c).length : Int) ≤ 32 ↔ (D c).length ≤ 32 := by omega
  have hd2 : ((D d).length : Int) ≤ 32 ↔ (D d).length ≤ 32 := by omega
  simp only [hc, hc2, hd2, ne_nil_len]
  by_cases h1 : a < 1
  · rw [if_pos h1, decide_eq_false (show ¬ (1 ≤ a ∧ a ≤ 5 ∧ 1 ≤ b ∧ b ≤ 32) by omega)]; rfl
  · rw [if_neg h1]
    by_cases h2 : a > 5
    · rw [if_pos (decide_eq_true h2), decide_eq_false (show ¬ (1 ≤ a ∧ a ≤ 5 ∧ 1 ≤ b ∧ b ≤ 32) by omega)]; rfl
    · rw [if_neg (by simpa using h2)]
      by_cases h3 : b < 1
      · rw [if_pos h3, decide_eq_false (show ¬ (1 ≤ a ∧ a ≤ 5 ∧ 1 ≤ b ∧ b ≤ 32) by omega)]; rfl
      · rw [if_neg h3]
        by_cases h4 : b > 32
        · rw [if_pos (decide_eq_true h4), decide_eq_false (show ¬ (1 ≤ a ∧ a ≤ 5 ∧ 1 ≤ b ∧ b ≤ 32) by omega)]; rfl
        · rw [if_neg (by simpa using h4), decide_eq_true (show (1 ≤ a ∧ a ≤ 5 ∧ 1 ≤ b ∧ b ≤ 32) by omega), Bool.true_and]
          cases hk : ky a with
          | true =>
            rw [if_pos rfl, if_pos rfl]
            by_cases c1 : 1 ≤ (D c).length
            · rw [if_pos c1]
              by_cases c2 : (D c).length ≤ 32
              · rw [if_pos c2]
                by_cases c3 : (D d).length ≤ 32
                · rw [if_pos c3]
                  by_cases c4 : a = 2
                  · rw [if_pos c4]; simp [c1, c2, c3, c4]
                  · rw [if_neg c4]; simp [c1, c2, c3, c4]
                · rw [if_neg c3]; simp [c3]
              · rw [if_neg c2]; simp [c2]
            · rw [if_neg c1]; simp [c1]
          | false =>
            rw [if_neg (by simp), if_neg (by simp)]
            simp
            by_cases e1 : D c = [] <;> by_cases e2 : D d = [] <;> simp [e1, e2]
/-- An event's bytes. -/
def eb (a b : Int) (c d : List UInt8) : List UInt8 := [UInt8.ofNat a.toNat, UInt8.ofNat b.toNat] ++ (if ky a = true then (lb c.length ++ c) ++ (lb d.length ++ d) else [])
theorem two_bytes {a b : Int} (ha : 1 ≤ a ∧ a ≤ 5) (hb : 1 ≤ b ∧ b ≤ 32) : strOfNums [a % 256, b % 256] = B [UInt8.ofNat a.toNat, UInt8.ofNat b.toNat] := by
  rw [strOfNums_B]
  have e1 : a % 256 = a := by omega
  have e2 : b % 256 = b := by omega
  rw [e1, e2]; rfl
theorem bytes_f (a b : Int) (c d : ByteArray) : event_Bytes.f a b c d = some (if may a b (D c) (D d) = true then (B (eb a b (D c) (D d)), 0) else (B [], 1)) := by
  unfold event_Bytes.f
  rw [may_f 9 (by omega)]
  simp only [Option.bind_some]
  by_cases hm : may a b (D c) (D d) = true
  · have h := may_true hm
    rw [if_pos hm, if_pos hm, keyed_f]
    simp only [Option.bind_some]
    have h2 := two_bytes (a := a) (b := b) ⟨h.1.1, h.1.2.1⟩ ⟨h.1.2.2.1, h.1.2.2.2⟩
    by_cases hk : ky a = true
    · have h3 := h.2.1 hk
      have l1 := lb_len (D c).length
      have l2 := lb_len (D d).length
      rw [if_pos hk, text_f, text_f]
      simp only [Option.bind_some, tx, if_neg (show ¬ (D c).length > 65535 by omega), if_neg (show ¬ (D d).length > 65535 by omega)]
      rw [if_pos ⟨by rw [size_B, List.length_append]; omega, by rw [size_B, size_B, List.length_append, List.length_append]; omega⟩, h2, B_append, B_append]
      unfold eb
      rw [if_pos hk, List.append_assoc]
    · rw [if_neg hk, h2]
      unfold eb
      rw [if_neg hk, List.append_nil]
  · rw [if_neg hm, if_neg hm]; rfl
theorem shown06 : cartouchelaw06_shown.f = some true := by
  have m1 : may 1 3 [] [] = true := by decide
  have m2 : may 3 3 [97] [98] = true := by decide
  have e1 : eb 1 3 [] [] = [1, 3] := by decide
  have e2 : eb 3 3 [97] [98] = [3, 3, 1, 97, 1, 98] := by decide
  have a : (⟨#[97]⟩ : ByteArray) = B [97] := rfl
  have b : (⟨#[98]⟩ : ByteArray) = B [98] := rfl
  unfold cartouchelaw06_shown.f
  rw [empty_B, a, b, bytes_f, bytes_f]
  simp only [D_B, m1, m2, e1, e2, if_true, Option.bind_some, toList_D]
  rfl
/-- The event of bytes, where there is one. -/
def et (l : List UInt8) : Option (Int × Int × List UInt8 × List UInt8) :=
  match l with
  | x :: y :: r =>
    if ky x.toNat = true then
      if (tt r 32).2.2 = 0 ∧ (tt (tt r 32).2.1 32).2.2 = 0 ∧ (tt (tt r 32).2.1 32).2.1 = [] ∧ may x.toNat y.toNat (tt r 32).1 (tt (tt r 32).2.1 32).1 = true then some (x.toNat, y.toNat, (tt r 32).1, (tt (tt r 32).2.1 32).1) else none
    else if r = [] ∧ may x.toNat y.toNat [] [] = true then some (x.toNat, y.toNat, [], []) else none
  | _ => none
def Et (s : ByteArray) : Int × Int × ByteArray × ByteArray × Int :=
  match et (D s) with
  | some (a, b, c, d) => (a, b, B c, B d, 0)
  | none => (0, 0, B [], B [], 3)
theorem take_f (k : Nat) (hk : 3 ≤ k) (s : ByteArray) : event_Take.f k s = some (Et s) := by
  obtain ⟨k, rfl⟩ : ∃ m, k = m + 1 := ⟨k - 1, by omega⟩
  have hsz := size_D s
  unfold event_Take.f Et et
  simp only [wrap64_bt, empty_B]
  rcases hD : D s with _ | ⟨x, _ | ⟨y, r⟩⟩
  · rw [hD] at hsz; rw [if_pos (by simp at hsz; simp [hsz])]
  · rw [hD] at hsz; simp at hsz; rw [if_pos (by omega)]
  · rw [hD] at hsz
    simp only [List.length_cons] at hsz
    have hr : s.extract 2 s.size = B r := by rw [extract_end, hD]; rfl
    rw [if_neg (by omega), if_pos (by omega), if_pos (by omega), if_pos (by omega), hr, bt0 hD, bt1 hD, keyed_f]
    simp only [Option.bind_some, toList_D, D_B]
    by_cases hk2 : ky (x.toNat : Int) = true
    · rw [if_pos hk2, takeText]
      simp only [Tt, Option.bind_some, D_B, if_pos hk2]
      rw [takeText]
      simp only [Tt, Option.bind_some, D_B, event_Take.j0]
      rw [may_f k (by omega)]
      simp only [Option.bind_some, D_B, toList_D, if_true]
      by_cases a : (tt r 32).2.2 = 0
      · rw [if_pos a]
        by_cases b : (tt (tt r 32).2.1 32).2.2 = 0
        · rw [if_neg (by simp [b])]
          by_cases c : (tt (tt r 32).2.1 32).2.1 = []
          · rw [if_pos c]
            by_cases m : may x.toNat y.toNat (tt r 32).1 (tt (tt r 32).2.1 32).1 = true
            · rw [if_pos m, if_pos ⟨a, b, c, m⟩]
            · rw [if_neg m, if_neg (fun h => m h.2.2.2)]; rfl
          · rw [if_neg c, if_neg (fun h => c h.2.2.1)]; rfl
        · rw [if_pos (by simpa using b), if_neg (fun h => b h.2.1)]; rfl
      · rw [if_neg a, if_neg (fun h => a h.1)]; rfl
    · rw [if_neg hk2]
      simp only [if_neg hk2]
      rw [may_f (k + 1) (by omega)]
      simp only [Option.bind_some, D_B]
      by_cases c : r = []
      · rw [if_pos c]
        by_cases m : may x.toNat y.toNat [] [] = true
        · rw [if_pos m, if_pos ⟨c, m⟩]
        · rw [if_neg m, if_neg (fun h => m h.2)]
      · rw [if_neg c, if_neg (fun h => c h.1)]
/-- An event that may be is taken from its bytes. -/
theorem et_eb {a b : Int} {c d : List UInt8} (h : may a b c d = true) : et (eb a b c d) = some (a, b, c, d) := by
  have hm := may_true h
  have ea : ((UInt8.ofNat a.toNat).toNat : Int) = a := by simp; omega
  have ebb : ((UInt8.ofNat b.toNat).toNat : Int) = b := by simp; omega
  unfold eb et
  simp only [List.cons_append, List.nil_append, ea, ebb]
  by_cases hk : ky a = true
  · have h3 := hm.2.1 hk
    have t1 := tt_tx c (lb d.length ++ d) 32 (by omega) (by omega)
    have t2 := tt_tx d [] 32 (by omega) (by omega)
    rw [List.append_nil] at t2
    simp only [if_pos hk, t1, t2]
    rw [if_pos ⟨trivial, trivial, trivial, h⟩]
  · have h3 := hm.2.2 (by simpa using hk)
    simp only [if_neg hk]
    obtain ⟨rfl, rfl⟩ := h3
    rw [if_pos ⟨trivial, h⟩]
/-- What is taken is written by the same bytes. -/
theorem eb_et {l : List UInt8} {a b : Int} {c d : List UInt8} (h : et l = some (a, b, c, d)) : eb a b c d = l ∧ may a b c d = true := by
  rcases l with _ | ⟨x, _ | ⟨y, r⟩⟩
  · simp [et] at h
  · simp [et] at h
  · unfold et at h
    simp only at h
    by_cases hk : ky (x.toNat : Int) = true
    · rw [if_pos hk] at h
      split at h
      · rename_i hc
        simp only [Option.some.injEq, Prod.mk.injEq] at h
        obtain ⟨rfl, rfl, rfl, rfl⟩ := h
        refine ⟨?_, hc.2.2.2⟩
        have t1 := tx_tt r 32 hc.1
        have t2 := tx_tt (tt r 32).2.1 32 hc.2.1
        rw [hc.2.2.1, List.append_nil] at t2
        unfold eb
        rw [if_pos hk, t2.1, t1.1]
        simp
      · cases h
    · rw [if_neg hk] at h
      split at h
      · rename_i hc
        simp only [Option.some.injEq, Prod.mk.injEq] at h
        obtain ⟨rfl, rfl, rfl, rfl⟩ := h
        refine ⟨?_, hc.2⟩
        unfold eb
        rw [if_neg hk, hc.1]
        simp
      · cases h
/-- Behind an event's bytes nothing stands. -/
theorem et_more {l more : List UInt8} {v : Int × Int × List UInt8 × List UInt8} (h : et l = some v) (hm : more ≠ []) : et (l ++ more) = none := by
  obtain ⟨a, b, c, d⟩ := v
  have he := eb_et h
  have hma := may_true he.2
  rw [← he.1]
  have ea : ((UInt8.ofNat a.toNat).toNat : Int) = a := by simp; omega
  unfold eb et
  simp only [List.cons_append, List.nil_append, ea]
  by_cases hk : ky a = true
  · have h3 := hma.2.1 hk
    have t1 := tt_tx c ((lb d.length ++ d) ++ more) 32 (by omega) (by omega)
    have t2 := tt_tx d more 32 (by omega) (by omega)
    simp only [if_pos hk]
    rw [List.append_assoc (lb c.length ++ c), t1]
    simp only [t2]
    rw [if_neg (fun hh => hm hh.2.2.1)]
  · simp only [if_neg hk, List.nil_append]
    rw [if_neg (fun hh => hm hh.1)]
end Go.Proofs.Ytpfmdpbhmilepaa.Pl
