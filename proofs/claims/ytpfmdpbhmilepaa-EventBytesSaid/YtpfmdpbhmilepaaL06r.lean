/- The document's events, in plain terms. -/
import Derived.Test.YtpfmdpbhmilepaaG
import Derived.Test.YtpfmdpbhmilepaaL01t
import Derived.Test.YtpfmdpbhmilepaaL01c
import Derived.Test.YtpfmdpbhmilepaaL06
import Derived.Test.YtpfmdpbhmilepaaA11
import Derived.Test.YtpfmdpbhmilepaaA6
import Derived.Test.YtpfmdpbhmilepaaA7
namespace Go.Proofs.Ytpfmdpbhmilepaa.Pl
open Go.RowKit Go.Proofs.Ytpfmdpbhmilepaa.A Go.Proofs.YtpfmdpbhmilepaaW.PrintWords Go.Proofs.YtpfmdpbhmilepaaW.PrintLast

theorem refmay_f (k : Nat) (hk : 2 ≤ k) (a b : Int) (c d : ByteArray) : cartoucheref06_May.f k a b c d = some (may a b (D c) (D d)) := by
  obtain ⟨k, rfl⟩ : ∃ m, k = m + 1 + 1 := ⟨k - 2, by omega⟩
  unfold cartoucheref06_May.f may
  simp only [cartoucheref06_May.j0, if_true]
  by_cases h1 : a < 1
  · rw [if_pos h1, decide_eq_false (show ¬ (1 ≤ a ∧ a ≤ 5 ∧ 1 ≤ b ∧ b ≤ 32) by omega)]; rfl
  · rw [if_neg h1]
    by_cases h2 : a > 5
    · rw [if_pos h2, decide_eq_false (show ¬ (1 ≤ a ∧ a ≤ 5 ∧ 1 ≤ b ∧ b ≤ 32) by omega)]; rfl
    · rw [if_neg h2]
      by_cases h3 : b < 1
      · rw [if_pos h3, decide_eq_false (show ¬ (1 ≤ a ∧ a ≤ 5 ∧ 1 ≤ b ∧ b ≤ 32) by omega)]; rfl
      · rw [if_neg h3]
        by_cases h4 : b > 32
        · rw [if_pos (decide_eq_true h4), decide_eq_false (show ¬ (1 ≤ a ∧ a ≤ 5 ∧ 1 ≤ b ∧ b ≤ 32) by omega)]; rfl
        · rw [if_neg (by simpa using h4), decide_eq_true (show (1 ≤ a ∧ a ≤ 5 ∧ 1 ≤ b ∧ b ≤ 32) by omega), Bool.true_and]
          have key : ∀ q : Bool, (q = true ↔ ¬ (a = 2 ∨ a = 3)) → cartoucheref06_May.j1 (k + 1) q a b c d =
              some (if ky a = true then decide (1 ≤ (D c).length ∧ (D c).length ≤ 32 ∧ (D d).length ≤ 32 ∧ (a = 2 ∨ 0 < (D d).length)) else decide (D c = [] ∧ D d = [])) := by
            intro q hq
            simp only [cartoucheref06_May.j1, size_D, toList_D]
            by_cases hk : a = 2 ∨ a = 3
            · have hky : ky a = true := decide_eq_true hk
              rw [if_neg (fun e => hq.1 e hk), if_pos hky]
              by_cases c1 : 1 ≤ (D c).length
              · rw [if_neg (by omega)]
                by_cases c2 : (D c).length ≤ 32
                · rw [if_neg (by omega)]
                  by_cases c3 : (D d).length ≤ 32
                  · rw [if_neg (by omega)]
                    by_cases c4 : a = 2
                    · rw [if_pos c4]; simp [c1, c2, c3, c4]
                    · rw [if_neg c4]; simp [c1, c2, c3, c4]
                  · rw [if_pos (by omega)]; simp [c3]
                · rw [if_pos (by omega)]; simp [c2]
              · rw [if_pos (by omega)]; simp [c1]
            · have hky : ¬ ky a = true := by simpa [ky] using hk
              rw [if_pos (hq.2 hk), if_neg hky]
              by_cases e1 : D c = [] <;> by_cases e2 : D d = [] <;> simp [e1, e2]
          by_cases k2 : a = 2
          · rw [if_pos k2]; exact key false (by simp [k2])
          · rw [if_neg k2]; exact key (a != 3) (by simp [k2])
theorem refbytes_f (k : Nat) (hk : 2 ≤ k) (a b : Int) (c d : ByteArray) : cartoucheref06_Bytes.f k a b c d = some (if may a b (D c) (D d) = true then (B (eb a b (D c) (D d)), 0) else (B [], 1)) := by
  unfold cartoucheref06_Bytes.f
  rw [refmay_f k hk]
  obtain ⟨k, rfl⟩ : ∃ m, k = m + 1 := ⟨k - 1, by omega⟩
  simp only [Option.bind_some]
  by_cases hm : may a b (D c) (D d) = true
  · have h := may_true hm
    rw [if_pos hm, if_pos hm]
    have h2 := two_bytes (a := a) (b := b) ⟨h.1.1, h.1.2.1⟩ ⟨h.1.2.2.1, h.1.2.2.2⟩
    have key : ∀ q : Bool, q = ky a → cartoucheref06_Bytes.j0 (k + 1) (strOfNums [a % 256, b % 256]) q a b c d = some (B (eb a b (D c) (D d)), 0) := by
      intro q hq
      subst hq
      simp only [cartoucheref06_Bytes.j0]
      by_cases hk : ky a = true
      · have h3 := h.2.1 hk
        have l1 := lb_len (D c).length
        have l2 := lb_len (D d).length
        rw [if_pos hk, reftext_f, reftext_f]
        simp only [Option.bind_some, tx, if_neg (show ¬ (D c).length > 65535 by omega), if_neg (show ¬ (D d).length > 65535 by omega)]
        rw [h2, if_pos (by rw [size_B, size_B, List.length_append]; simp; omega), B_append, if_pos (by rw [size_B, size_B, List.length_append, List.length_append, List.length_append]; simp; omega), B_append]
        unfold eb
        rw [if_pos hk, List.append_assoc]
      · rw [if_neg hk, h2]
        unfold eb
        rw [if_neg hk, List.append_nil]
    by_cases k2 : a = 2
    · rw [if_pos k2]; exact key true (by simp [ky, k2])
    · rw [if_neg k2]; exact key (a == 3) (by by_cases k3 : a = 3 <;> simp [ky, k2, k3])
  · rw [if_neg hm, if_neg hm]; rfl
theorem reftake_f (k : Nat) (hk : 4 ≤ k) (s : ByteArray) : cartoucheref06_Take.f k s = some (Et s) := by
  obtain ⟨k, rfl⟩ : ∃ m, k = m + 1 + 1 := ⟨k - 2, by omega⟩
  have hsz := size_D s
  unfold cartoucheref06_Take.f Et et
  simp only [wrap64_bt, empty_B]
  rcases hD : D s with _ | ⟨x, _ | ⟨y, r⟩⟩
  · rw [hD] at hsz; rw [if_pos (by simp at hsz; simp [hsz])]
  · rw [hD] at hsz; simp at hsz; rw [if_pos (by omega)]
  · rw [hD] at hsz
    simp only [List.length_cons] at hsz
    have hr : s.extract 2 s.size = B r := by rw [extract_end, hD]; rfl
    rw [if_neg (by omega), if_pos (by omega), if_pos (by omega), bt0 hD, bt1 hD]
    have key : ∀ q : Bool, (q = true ↔ ky (x.toNat : Int) = false) → cartoucheref06_Take.j0 (k + 1 + 1) s q x.toNat y.toNat (B []) (B []) =
        some (match (if ky x.toNat = true then
          if (tt r 32).2.2 = 0 ∧ (tt (tt r 32).2.1 32).2.2 = 0 ∧ (tt (tt r 32).2.1 32).2.1 = [] ∧ may x.toNat y.toNat (tt r 32).1 (tt (tt r 32).2.1 32).1 = true then some ((x.toNat : Int), (y.toNat : Int), (tt r 32).1, (tt (tt r 32).2.1 32).1) else none
          else if r = [] ∧ may x.toNat y.toNat [] [] = true then some ((x.toNat : Int), (y.toNat : Int), [], []) else none) with
          | some (a, b, c, d) => (a, b, B c, B d, 0)
          | none => (0, 0, B [], B [], 3)) := by
      intro q hq
      simp only [cartoucheref06_Take.j0]
      by_cases hk2 : ky (x.toNat : Int) = true
      · rw [if_neg (fun e => by rw [hq.1 e] at hk2; cases hk2), if_pos (by omega), hr, refTakeText _ _ _ (by omega)]
        simp only [Tt, Option.bind_some, D_B, if_pos hk2]
        rw [refTakeText _ _ _ (by omega)]
        simp only [Tt, Option.bind_some, D_B, cartoucheref06_Take.j1]
        rw [refmay_f k (by omega)]
        simp only [Option.bind_some, D_B, size_B, if_true]
        by_cases a : (tt r 32).2.2 = 0
        · rw [if_pos a]
          by_cases b : (tt (tt r 32).2.1 32).2.2 = 0
          · rw [if_pos b]
            by_cases c : (tt (tt r 32).2.1 32).2.1 = []
            · rw [if_neg (by simp [c])]
              by_cases m : may x.toNat y.toNat (tt r 32).1 (tt (tt r 32).2.1 32).1 = true
              · rw [if_pos m, if_pos ⟨a, b, c, m⟩]
              · rw [if_neg m, if_neg (fun h => m h.2.2.2)]; rfl
            · rw [if_pos (by have := List.length_pos_iff.2 c; simp; omega), if_neg (fun h => c h.2.2.1)]; rfl
          · rw [if_neg b, if_neg (fun h => b h.2.1)]; rfl
        · rw [if_neg a, if_neg (fun h => a h.1)]; rfl
      · rw [if_pos (hq.2 (by simpa using hk2)), refmay_f (k + 1) (by omega)]
        simp only [Option.bind_some, D_B, if_neg hk2]
        by_cases c : r = []
        · have hl : r.length = 0 := by rw [c]; rfl
          rw [if_neg (by omega)]
          by_cases m : may x.toNat y.toNat [] [] = true
          · rw [if_pos m, if_pos ⟨c, m⟩]
          · rw [if_neg m, if_neg (fun h => m h.2)]; rfl
        · have := List.length_pos_iff.2 c
          rw [if_pos (by omega), if_neg (fun h => c h.1)]; rfl
    by_cases k2 : (x.toNat : Int) = 2
    · rw [if_pos k2]; exact key false (by simp [ky, k2])
    · rw [if_neg k2]; exact key ((x.toNat : Int) != 3) (by by_cases k3 : (x.toNat : Int) = 3 <;> simp [ky, k2, k3])
end Go.Proofs.Ytpfmdpbhmilepaa.Pl
