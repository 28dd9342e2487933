/- lump's texts taken, in plain terms. -/
import Derived.Test.YtkgonihoeghphaaG
import Derived.Test.YtkgonihoeghphaaL01t
import Derived.Test.YtkgonihoeghphaaA5
import Derived.Test.YtkgonihoeghphaaA6
namespace Go.Proofs.Ytkgonihoeghphaa.Pl
open Go.RowKit Go.Proofs.Ytkgonihoeghphaa.A Go.Proofs.YtkgonihoeghphaaW.PrintWords Go.Proofs.YtkgonihoeghphaaW.PrintLast

/-- A length that bytes begin with. -/
def tl (l : List UInt8) : Nat × List UInt8 × Int :=
  match l with
  | [] => (0, [], 2)
  | c :: t => if c.toNat ≤ 250 then (c.toNat, t, 0) else if 251 < c.toNat then (0, [], 3) else
    match t with
    | a :: b :: r => if 256 * a.toNat + b.toNat ≤ 250 then (0, [], 3) else (256 * a.toNat + b.toNat, r, 0)
    | _ => (0, [], 2)
def Tl (s : ByteArray) : Option (Int × ByteArray × Int) := some (((tl (D s)).1 : Int), B (tl (D s)).2.1, (tl (D s)).2.2)
theorem bt0 {s : ByteArray} {c : UInt8} {t : List UInt8} (h : D s = c :: t) : bt s 0 = c.toNat := by rw [bt_D, h]; rfl
theorem bt1 {s : ByteArray} {c a : UInt8} {t : List UInt8} (h : D s = c :: a :: t) : bt s 1 = a.toNat := by rw [bt_D, h]; rfl
theorem bt2 {s : ByteArray} {c a b : UInt8} {t : List UInt8} (h : D s = c :: a :: b :: t) : bt s 2 = b.toNat := by rw [bt_D, h]; rfl
theorem takeLength (s : ByteArray) : lump_takeLength.f s = Tl s := by
  have hsz := size_D s
  unfold lump_takeLength.f Tl
  simp only [wrap64_bt, empty_B]
  rcases hD : D s with _ | ⟨c, t⟩
  · rw [if_pos (D_nil.2 hD)]; rfl
  · rw [hD, List.length_cons] at hsz
    have hc := u8_lt c
    rw [if_neg (by rw [D_nil, hD]; simp), if_pos (by omega), bt0 hD]
    unfold tl
    by_cases a : c.toNat ≤ 250
    · rw [if_pos (by omega), if_pos (by omega), extract_end, hD]; simp only [if_pos a]; rfl
    · rw [if_neg (by omega)]; simp only [if_neg a]
      by_cases b : 251 < c.toNat
      · rw [if_pos (by omega)]; simp only [if_pos b]; rfl
      · rw [if_neg (by omega)]; simp only [if_neg b]
        rcases t with _ | ⟨x, _ | ⟨y, r⟩⟩
        · rw [if_pos (by simp at hsz; omega)]; rfl
        · rw [if_pos (by simp at hsz; omega)]; rfl
        · have hx := u8_lt x
          have hy := u8_lt y
          simp only [List.length_cons] at hsz
          rw [if_neg (by omega), if_pos (by omega), if_pos (by omega), bt1 hD, bt2 hD, i64_wrap (x := (x.toNat : Int) * 256) (by omega) (by omega), or_i64 (by omega) (by omega) (by omega) (by omega)]
          by_cases z : 256 * x.toNat + y.toNat ≤ 250
          · rw [if_pos (by omega)]; simp only [if_pos z]; rfl
          · rw [if_neg (by omega), if_pos (by omega), extract_end, hD]; simp only [if_neg z]
            have e : (x.toNat : Int) * 256 + y.toNat = ((256 * x.toNat + y.toNat : Nat) : Int) := by omega
            rw [e]; rfl
theorem takeSize (s : ByteArray) : cartoucheref01_takeSize.f s = Tl s := by
  have hsz := size_D s
  unfold cartoucheref01_takeSize.f Tl
  simp only [wrap64_bt, empty_B]
  rcases hD : D s with _ | ⟨c, t⟩
  · rw [hD] at hsz
    have hz : s.size = 0 := hsz
    rw [if_pos (by omega)]; rfl
  · rw [hD, List.length_cons] at hsz
    have hc := u8_lt c
    rw [if_neg (by omega), if_pos (by omega), bt0 hD]
    unfold tl
    by_cases a : c.toNat ≤ 250
    · rw [if_pos (by omega), if_pos (by omega), extract_end, hD]; simp only [if_pos a]; rfl
    · rw [if_neg (by omega)]; simp only [if_neg a]
      by_cases b : 251 < c.toNat
      · rw [if_pos (by omega)]; simp only [if_pos b]; rfl
      · rw [if_neg (by omega)]; simp only [if_neg b]
        rcases t with _ | ⟨x, _ | ⟨y, r⟩⟩
        · rw [if_pos (by simp at hsz; omega)]; rfl
        · rw [if_pos (by simp at hsz; omega)]; rfl
        · have hx := u8_lt x
          have hy := u8_lt y
          simp only [List.length_cons] at hsz
          rw [if_neg (by omega), if_pos (by omega), if_pos (by omega), bt1 hD, bt2 hD, i64_wrap (x := 256 * (x.toNat : Int)) (by omega) (by omega), i64_wrap (by omega) (by omega)]
          by_cases z : 256 * x.toNat + y.toNat ≤ 250
          · rw [if_pos (by omega)]; simp only [if_pos z]; rfl
          · rw [if_neg (by omega), if_pos (by omega), extract_end, hD]; simp only [if_neg z]
            have e : 256 * (x.toNat : Int) + y.toNat = ((256 * x.toNat + y.toNat : Nat) : Int) := by omega
            rw [e]; rfl
/-- A length that was written is taken. -/
theorem tl_lb (n : Nat) (h : n ≤ 65535) (r : List UInt8) : tl (lb n ++ r) = (n, r, 0) := by
  unfold lb
  by_cases a : n ≤ 250
  · have e : (UInt8.ofNat n).toNat = n := by simp; omega
    rw [if_pos a]
    simp only [List.cons_append, List.nil_append, tl, e, if_pos a]
  · have e1 : (UInt8.ofNat (n / 256)).toNat = n / 256 := by simp; omega
    have e2 : (UInt8.ofNat (n % 256)).toNat = n % 256 := by simp
    have e3 : (251 : UInt8).toNat = 251 := rfl
    have e4 : 256 * (n / 256) + n % 256 = n := by omega
    rw [if_neg a]
    simp only [List.cons_append, List.nil_append, tl, e1, e2, e3, e4]
    rw [if_neg (by omega), if_neg (by omega), if_neg a]
/-- A length that is taken is written by the same bytes. -/
theorem lb_tl (l : List UInt8) (h : (tl l).2.2 = 0) : lb (tl l).1 ++ (tl l).2.1 = l ∧ (tl l).1 ≤ 65535 := by
  rcases l with _ | ⟨c, t⟩
  · simp [tl] at h
  · have hc := u8_lt c
    unfold tl at h ⊢
    simp only at h ⊢
    by_cases a : c.toNat ≤ 250
    · rw [if_pos a]
      refine ⟨?_, by omega⟩
      simp only [lb, if_pos a, UInt8.ofNat_toNat]; rfl
    · rw [if_neg a] at h ⊢
      by_cases b : 251 < c.toNat
      · rw [if_pos b] at h; simp at h
      · rw [if_neg b] at h ⊢
        rcases t with _ | ⟨x, _ | ⟨y, r⟩⟩
        · simp at h
        · simp at h
        · have hx := u8_lt x
          have hy := u8_lt y
          simp only at h ⊢
          by_cases z : 256 * x.toNat + y.toNat ≤ 250
          · rw [if_pos z] at h; simp at h
          · rw [if_neg z]
            refine ⟨?_, by omega⟩
            have e1 : (256 * x.toNat + y.toNat) / 256 = x.toNat := by omega
            have e2 : (256 * x.toNat + y.toNat) % 256 = y.toNat := by omega
            have e3 : c = 251 := by rw [← UInt8.toNat_inj]; show c.toNat = 251; omega
            simp only [lb, if_neg z, e1, e2, UInt8.ofNat_toNat, e3]; rfl
theorem tl_code (l : List UInt8) : (tl l).2.2 = 0 ∨ (tl l).2.2 = 2 ∨ (tl l).2.2 = 3 := by
  rcases l with _ | ⟨c, t⟩
  · simp [tl]
  · unfold tl
    simp only
    split
    · simp
    · split
      · simp
      · split
        · split <;> simp
        · simp
theorem tl_le (l : List UInt8) : (tl l).1 ≤ 65535 := by
  rcases l with _ | ⟨c, t⟩
  · simp [tl]
  · have hc := u8_lt c
    unfold tl
    simp only
    split
    · simp only; omega
    · split
      · simp
      · split
        · rename_i x y r
          have hx := u8_lt x
          have hy := u8_lt y
          split
          · simp
          · simp only; omega
        · simp
/-- The text that bytes begin with. -/
def tt (l : List UInt8) (most : Int) : List UInt8 × List UInt8 × Int :=
  if (tl l).2.2 = 0 then
    if most < 0 ∨ ((tl l).1 : Int) > most then ([], [], 4)
    else if (tl l).1 > (tl l).2.1.length then ([], [], 2)
    else ((tl l).2.1.take (tl l).1, (tl l).2.1.drop (tl l).1, 0)
  else ([], [], (tl l).2.2)
def Tt (s : ByteArray) (most : Int) : Option (ByteArray × ByteArray × Int) := some (B (tt (D s) most).1, B (tt (D s) most).2.1, (tt (D s) most).2.2)
theorem takeText (s : ByteArray) (most : Int) : lump_TakeText.f s most = Tt s most := by
  unfold lump_TakeText.f Tt tt
  rw [takeLength]
  simp only [Tl, Option.bind_some, empty_B]
  by_cases a : (tl (D s)).2.2 = 0
  · rw [if_pos a, if_pos a]
    by_cases b : most < 0
    · rw [if_pos b, if_pos (Or.inl b)]
    · rw [if_neg b]
      by_cases c : ((tl (D s)).1 : Int) > most
      · rw [if_pos c, if_pos (Or.inr c)]
      · rw [if_neg c, if_neg (show ¬ (most < 0 ∨ ((tl (D s)).1 : Int) > most) from not_or.2 ⟨b, c⟩), size_B]
        by_cases d : (tl (D s)).1 > (tl (D s)).2.1.length
        · rw [if_pos (by omega), if_pos d]
        · rw [if_neg (by omega), if_neg d, if_pos (by omega), if_pos (by omega), Int.toNat_natCast, extract_beg, D_B]
          have e := extract_end (B (tl (D s)).2.1) (tl (D s)).1
          rw [size_B, D_B] at e
          rw [e]
  · rw [if_neg a, if_neg a]
theorem refTakeText (s : ByteArray) (most : Int) (k : Nat) (hk : 1 ≤ k) : cartoucheref01_TakeText.f k s most = Tt s most := by
  obtain ⟨k, rfl⟩ : ∃ m, k = m + 1 := ⟨k - 1, by omega⟩
  unfold cartoucheref01_TakeText.f Tt tt
  rw [takeSize]
  simp only [Tl, Option.bind_some, empty_B, cartoucheref01_TakeText.j0, if_true]
  by_cases a : (tl (D s)).2.2 = 0
  · rw [if_pos a, if_pos a]
    by_cases b : most < 0
    · rw [if_pos b, if_pos (Or.inl b)]
    · rw [if_neg b]
      by_cases c : ((tl (D s)).1 : Int) > most
      · rw [if_pos (decide_eq_true c), if_pos (Or.inr c)]
      · rw [if_neg (by simpa using c), if_neg (show ¬ (most < 0 ∨ ((tl (D s)).1 : Int) > most) from not_or.2 ⟨b, c⟩), size_B]
        by_cases d : (tl (D s)).1 > (tl (D s)).2.1.length
        · rw [if_pos (by omega), if_pos d]
        · rw [if_neg (by omega), if_neg d, if_pos (by omega), if_pos (by omega), Int.toNat_natCast, extract_beg, D_B]
          have e := extract_end (B (tl (D s)).2.1) (tl (D s)).1
          rw [size_B, D_B] at e
          rw [e]
  · rw [if_neg a, if_neg a]
/-- A text that was written is taken. -/
theorem tt_tx (l more : List UInt8) (most : Int) (h : l.length ≤ 65535) (hm : (l.length : Int) ≤ most) : tt ((lb l.length ++ l) ++ more) most = (l, more, 0) := by
  unfold tt
  rw [List.append_assoc, tl_lb _ h]
  simp only
  rw [if_pos trivial, if_neg (by omega), if_neg (by simp)]
  simp
/-- What is taken is written by the same bytes. -/
theorem tx_tt (l : List UInt8) (most : Int) (h : (tt l most).2.2 = 0) : lb (tt l most).1.length ++ (tt l most).1 ++ (tt l most).2.1 = l ∧ (tt l most).1.length ≤ 65535 ∧ ((tt l most).1.length : Int) ≤ most := by
  unfold tt at h ⊢
  by_cases a : (tl l).2.2 = 0
  · rw [if_pos a] at h ⊢
    have hb := lb_tl l a
    by_cases b : most < 0 ∨ ((tl l).1 : Int) > most
    · rw [if_pos b] at h; simp at h
    · rw [if_neg b] at h ⊢
      by_cases c : (tl l).1 > (tl l).2.1.length
      · rw [if_pos c] at h; simp at h
      · rw [if_neg c]
        have e : ((tl l).2.1.take (tl l).1).length = (tl l).1 := by rw [List.length_take]; omega
        simp only [e]
        refine ⟨?_, hb.2, by omega⟩
        rw [List.append_assoc, List.take_append_drop, hb.1]
  · rw [if_neg a] at h; exact absurd h a
theorem tt_code (l : List UInt8) (most : Int) : (tt l most).2.2 = 0 ∨ (tt l most).2.2 = 2 ∨ (tt l most).2.2 = 3 ∨ (tt l most).2.2 = 4 := by
  unfold tt
  split
  · split
    · simp
    · split <;> simp
  · have := tl_code l; simp only; omega
end Go.Proofs.Ytkgonihoeghphaa.Pl
