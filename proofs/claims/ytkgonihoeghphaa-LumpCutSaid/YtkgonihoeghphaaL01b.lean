/- lump's numbers and texts, in plain terms: their bytes, and that these are taken again. -/
import Derived.Test.YtkgonihoeghphaaG
import Derived.Test.YtkgonihoeghphaaL01
import Derived.Test.YtkgonihoeghphaaA2
import Derived.Test.YtkgonihoeghphaaA4
namespace Go.Proofs.Ytkgonihoeghphaa.Pl
open Go.RowKit Go.Proofs.Ytkgonihoeghphaa.A Go.Proofs.YtkgonihoeghphaaW.PrintWords Go.Proofs.YtkgonihoeghphaaW.PrintLast

/-! ### numbers -/
theorem go_acc : ∀ (k : Nat) (v : Int) (acc : List Int), lump_Num.go k v acc = lump_Num.go k v [] ++ acc
  | 0, _, _ => rfl
  | k + 1, v, acc => by
    unfold lump_Num.go
    split
    · rfl
    · rw [go_acc k (v / 256) (v % 256 :: acc), go_acc k (v / 256) [v % 256]]; simp
/-- A number's digits. -/
def nd (k : Nat) (v : Int) : List UInt8 := Lib.bytesOf (lump_Num.go k v [])
theorem nd_zero (k : Nat) : nd k 0 = [] := by cases k <;> simp [nd, lump_Num.go, Lib.bytesOf]
theorem nd_succ (k : Nat) (v : Int) (h : v ≠ 0) : nd (k + 1) v = nd k (v / 256) ++ [UInt8.ofNat (v % 256).toNat] := by
  unfold nd
  rw [lump_Num.go, if_neg h, go_acc]
  simp [Lib.bytesOf]
theorem nd_len : ∀ (k : Nat) (v : Int), (nd k v).length ≤ k
  | 0, _ => by simp [nd, lump_Num.go, Lib.bytesOf]
  | k + 1, v => by
    by_cases h : v = 0
    · subst h; simp [nd_zero]
    · rw [nd_succ k v h]; have := nd_len k (v / 256); simp; omega
theorem ofNat_mod (v : Int) : ((UInt8.ofNat (v % 256).toNat).toNat : Int) = v % 256 := by
  simp; omega
theorem val_nd : ∀ (k : Nat) (v : Int), 0 ≤ v → v < 256 ^ k → val 0 (nd k v) = v
  | 0, v, h0, h => by simp at h; obtain rfl : v = 0 := by omega
                      rfl
  | k + 1, v, h0, h => by
    by_cases hv : v = 0
    · subst hv; rw [nd_zero]; rfl
    · rw [nd_succ k v hv, val_snoc, ofNat_mod, val_nd k (v / 256) (by omega) (by rw [Int.pow_succ] at h; exact Int.ediv_lt_of_lt_mul (by omega) h)]
      omega
theorem nd_ne : ∀ (k : Nat) (v : Int), v ≠ 0 → 0 < k → nd k v ≠ []
  | 0, _, _, h => absurd h (by omega)
  | k + 1, v, h, _ => by rw [nd_succ k v h]; simp
theorem nd_head : ∀ (k : Nat) (v : Int), 0 ≤ v → v < 256 ^ k → (nd k v).head? ≠ some 0
  | 0, v, h0, h => by simp [nd, lump_Num.go, Lib.bytesOf]
  | k + 1, v, h0, h => by
    by_cases hv : v = 0
    · subst hv; rw [nd_zero]; simp
    · rw [nd_succ k v hv]
      by_cases hq : v / 256 = 0
      · rw [hq, nd_zero]
        intro hh
        have h1 : (UInt8.ofNat (v % 256).toNat) = 0 := by simpa using hh
        have h2 := ofNat_mod v
        rw [h1] at h2
        have h3 : ((0 : UInt8).toNat : Int) = 0 := rfl
        omega
      · have hlt : v / 256 < 256 ^ k := by rw [Int.pow_succ] at h; exact Int.ediv_lt_of_lt_mul (by omega) h
        have hk : 0 < k := by
          rcases Nat.eq_zero_or_pos k with hk | hk
          · subst hk; simp at hlt; omega
          · exact hk
        have ih := nd_head k (v / 256) (by omega) hlt
        have hne := nd_ne k (v / 256) hq hk
        rcases hl : nd k (v / 256) with _ | ⟨c, t⟩
        · exact absurd hl hne
        · rw [hl] at ih; simpa using ih
/-- Digits, the first not 0, are those of their number. -/
theorem nd_val (n : Nat) : ∀ (k : Nat) (l : List UInt8), l.length = n → n ≤ k → l.head? ≠ some 0 → nd k (val 0 l) = l := by
  induction n with
  | zero =>
    intro k l hl _ _
    obtain rfl : l = [] := List.eq_nil_of_length_eq_zero hl
    exact nd_zero k
  | succ n ih =>
    intro k l hl hk hh
    obtain ⟨k, rfl⟩ : ∃ m, k = m + 1 := ⟨k - 1, by omega⟩
    obtain ⟨m, b, rfl⟩ : ∃ m b, l = m ++ [b] := by
      rcases List.eq_nil_or_concat l with h | ⟨m, b, h⟩
      · subst h; simp at hl
      · exact ⟨m, b, by simpa using h⟩
    have hm : m.length = n := by simpa using hl
    have hmh : m.head? ≠ some 0 := by
      rcases m with _ | ⟨c, t⟩
      · simp
      · simpa using hh
    have hb := u8_lt b
    have h0 := val_nonneg m 0 (by omega)
    have i1 := ih k m hm (by omega) hmh
    rw [val_snoc]
    by_cases hz : 256 * val 0 m + (b.toNat : Int) = 0
    · exfalso
      have h1 : val 0 m = 0 := by omega
      have h2 : b.toNat = 0 := by omega
      rw [h1, nd_zero] at i1
      subst i1
      have h3 : b = 0 := by rw [← UInt8.toNat_inj, h2]; rfl
      subst h3
      exact hh rfl
    · rw [nd_succ k _ hz]
      have e1 : (256 * val 0 m + (b.toNat : Int)) / 256 = val 0 m := by omega
      have e2 : (256 * val 0 m + (b.toNat : Int)) % 256 = b.toNat := by omega
      rw [e1, e2, i1, Int.toNat_natCast, UInt8.ofNat_toNat]
theorem nd_mono : ∀ (k : Nat) (a b : Int), 0 ≤ a → a ≤ b → (nd k a).length ≤ (nd k b).length
  | 0, a, b, _, _ => by simp [nd, lump_Num.go, Lib.bytesOf]
  | k + 1, a, b, h0, h => by
    by_cases ha : a = 0
    · subst ha; rw [nd_zero]; simp
    · rw [nd_succ k a ha, nd_succ k b (by omega)]
      have := nd_mono k (a / 256) (b / 256) (by omega) (by omega)
      simp; omega
theorem pow256_mono {m n : Nat} (h : m ≤ n) : (256 : Int) ^ m ≤ 256 ^ n := by
  have h1 : 256 ^ m ≤ 256 ^ n := Nat.pow_le_pow_right (by omega) h
  have h2 := Int.ofNat_le.2 h1
  rwa [Int.natCast_pow, Int.natCast_pow] at h2
theorem p64 : (256 : Int) ^ 8 = 18446744073709551616 := by decide

/-- A number's bytes. -/
def nb (v : Int) : List UInt8 := UInt8.ofNat (nd 8 v).length :: nd 8 v
theorem num_f (v : Int) (h0 : 0 ≤ v) (h1 : v ≤ 18446744073709551615) : lump_Num.f v = some (B (nb v)) := by
  unfold lump_Num.f
  rw [if_pos ⟨h0, h1⟩, strOfNums_B]
  have e : Lib.bytesOf (((lump_Num.digits v).length : Int) :: lump_Num.digits v) = nb v := by
    unfold nb nd lump_Num.digits
    rw [Lib.bytesOf_length]
    simp [Lib.bytesOf]
  rw [e]
theorem nb_head (v : Int) : (UInt8.ofNat (nd 8 v).length).toNat = (nd 8 v).length := by
  have := nd_len 8 v
  simp; omega
theorem nb_len (v : Int) : 1 ≤ (nb v).length ∧ (nb v).length ≤ 9 := by
  have := nd_len 8 v
  simp [nb]; exact this
theorem nb_inj {a b : Int} (ha : 0 ≤ a) (hb : 0 ≤ b) (ha1 : a ≤ 18446744073709551615) (hb1 : b ≤ 18446744073709551615) (h : nb a = nb b) : a = b := by
  have h' : nd 8 a = nd 8 b := (List.cons.inj h).2
  rw [← val_nd 8 a ha (by rw [p64]; omega), ← val_nd 8 b hb (by rw [p64]; omega), h']
/-- What was written is taken. -/
theorem tn_nb (v : Int) (h0 : 0 ≤ v) (h1 : v ≤ 18446744073709551615) (more : List UInt8) : tn (nb v ++ more) = (v, more, 0) := by
  have hl := nd_len 8 v
  have hc := nb_head v
  have hv := val_nd 8 v h0 (by rw [p64]; omega)
  have hh := nd_head 8 v h0 (by rw [p64]; omega)
  unfold nb
  simp only [List.cons_append, tn, hc]
  rw [if_neg (by omega), if_neg (by simp)]
  have hneg : ¬ (0 < (nd 8 v).length ∧ (nd 8 v ++ more).head? = some 0) := by
    rintro ⟨a, b⟩
    rcases hn : nd 8 v with _ | ⟨c, t⟩
    · rw [hn] at a; simp at a
    · rw [hn] at b hh; simp at b hh; exact hh b
  rw [if_neg hneg, List.take_left, List.drop_left, hv]
/-- What is taken is written by the same bytes. -/
theorem nb_tn (l : List UInt8) (h : (tn l).2.2 = 0) : nb (tn l).1 ++ (tn l).2.1 = l ∧ 0 ≤ (tn l).1 ∧ (tn l).1 ≤ 18446744073709551615 := by
  rcases l with _ | ⟨c, t⟩
  · simp [tn] at h
  · unfold tn at h ⊢
    simp only at h ⊢
    split at h
    · simp at h
    · rename_i h1
      split at h
      · simp at h
      · rename_i h2
        split at h
        · simp at h
        · rename_i h3
          rw [if_neg h1, if_neg h2, if_neg h3]
          have hl : (t.take c.toNat).length = c.toNat := by simp; omega
          have hh : (t.take c.toNat).head? ≠ some 0 := by
            intro e
            rcases Nat.eq_zero_or_pos c.toNat with hz | hz
            · rw [hz] at e; simp at e
            · refine h3 ⟨hz, ?_⟩
              rw [List.head?_take] at e
              split at e
              · simp at e
              · exact e
          have hv := nd_val c.toNat 8 (t.take c.toNat) hl (by omega) hh
          refine ⟨?_, val_nonneg _ 0 (by omega), ?_⟩
          · simp only [nb]
            rw [hv, hl, UInt8.ofNat_toNat, List.cons_append, List.take_append_drop]
          · have h4 := val_lt (t.take c.toNat) 0 1 (by omega) (by omega)
            rw [hl, Int.one_mul] at h4
            have h5 : (256 : Int) ^ c.toNat ≤ 256 ^ 8 := pow256_mono (by omega)
            rw [p64] at h5
            omega
/-- The document's Num: one round, and the last. -/
theorem ref_last (k n : Nat) (acc : List UInt8) (hn : n ≤ 8) (ha : acc.length ≤ 8) : cartoucheref01_Num.l0 (k + 1) 0 (B acc) n = some (B (UInt8.ofNat n :: acc)) := by
  simp only [cartoucheref01_Num.l0]
  rw [if_neg (by omega)]
  have e : (n : Int) % 256 = n := by omega
  have e1 : Lib.bytesOf [(n : Int) % 256] = [UInt8.ofNat n] := by rw [e]; rfl
  simp only [Option.bind_some, strOfNums_B, e1]
  rw [if_pos (by rw [size_B, size_B]; simp only [List.length_cons, List.length_nil]; omega), B_append]
  rfl
theorem ref_round (k n : Nat) (v : Int) (acc : List UInt8) (h0 : 0 < v) (h1 : v ≤ 18446744073709551615) (hn : n ≤ 8) (ha : acc.length ≤ 8) :
    cartoucheref01_Num.l0 (k + 1) v (B acc) n = cartoucheref01_Num.l0 k (v / 256) (B (UInt8.ofNat (v % 256).toNat :: acc)) ((n + 1 : Nat) : Int) := by
  simp only [cartoucheref01_Num.l0]
  have e1 : Int.tdiv v 256 = v / 256 := Int.tdiv_eq_ediv_of_nonneg (by omega)
  have e2 : Int.tmod v 256 = v % 256 := Int.tmod_eq_emod_of_nonneg (by omega)
  have e3 : v % 256 % 256 = v % 256 := by omega
  have e4 : wrap64 ((n : Int) + 1) = ((n + 1 : Nat) : Int) := by rw [i64_wrap (by omega) (by omega)]; omega
  have e5 : Lib.bytesOf [v % 256] = [UInt8.ofNat (v % 256).toNat] := rfl
  rw [if_pos h0]
  simp only [Option.bind_some, strOfNums_B, e1, e2, e3, e5]
  rw [if_pos (by rw [size_B, size_B]; simp only [List.length_cons, List.length_nil]; omega), B_append, e4, u64_wrap (by omega) (by omega)]
  rfl
/-- From digit on. -/
theorem ref_num_loop : ∀ (m : Nat) (v : Int) (acc : List UInt8) (n k : Nat), 0 ≤ v → v < 256 ^ m → m < k → n + m ≤ 8 → acc.length ≤ 8 - m →
    cartoucheref01_Num.l0 k v (B acc) n = some (B (UInt8.ofNat (n + (nd m v).length) :: nd m v ++ acc)) := by
  intro m
  induction m with
  | zero =>
    intro v acc n k h0 h1 hk hn ha
    obtain ⟨k, rfl⟩ : ∃ m, k = m + 1 := ⟨k - 1, by omega⟩
    rw [Int.pow_zero] at h1
    obtain rfl : v = 0 := by omega
    rw [ref_last k n acc (by omega) (by omega), nd_zero]; rfl
  | succ m ih =>
    intro v acc n k h0 h1 hk hn ha
    obtain ⟨k, rfl⟩ : ∃ m, k = m + 1 := ⟨k - 1, by omega⟩
    by_cases hv : v = 0
    · subst hv
      rw [ref_last k n acc (by omega) (by omega), nd_zero]; rfl
    · have hp : (256 : Int) ^ (m + 1) ≤ 256 ^ 8 := pow256_mono (by omega)
      rw [p64] at hp
      have hd : v / 256 < 256 ^ m := by rw [Int.pow_succ] at h1; exact Int.ediv_lt_of_lt_mul (by omega) h1
      rw [ref_round k n v acc (by omega) (by omega) (by omega) (by omega)]
      rw [ih (v / 256) _ (n + 1) k (by omega) hd (by omega) (by omega) (by rw [List.length_cons]; omega)]
      rw [nd_succ m v hv]
      have e5 : n + 1 + (nd m (v / 256)).length = n + (nd m (v / 256) ++ [UInt8.ofNat (v % 256).toNat]).length := by rw [List.length_append, List.length_cons, List.length_nil]; omega
      rw [e5]
      simp only [List.cons_append, List.append_assoc, List.nil_append]
theorem refnum_f (v : Int) (k : Nat) (h0 : 0 ≤ v) (h1 : v ≤ 18446744073709551615) (hk : 9 ≤ k) : cartoucheref01_Num.f k v = some (B (nb v)) := by
  have := ref_num_loop 8 v [] 0 k h0 (by rw [p64]; omega) (by omega) (by omega) (by simp)
  unfold cartoucheref01_Num.f
  rw [empty_B]
  have e : ((0 : Nat) : Int) = 0 := rfl
  rw [e] at this
  rw [this]
  simp [nb]

end Go.Proofs.Ytkgonihoeghphaa.Pl
