/- lump's numbers, in plain terms: what TakeNum and Num answer, by lists of bytes. -/
import Derived.Test.YtkgonihoeghphaaG
import Derived.Test.YtkgonihoeghphaaA1
import Derived.Test.YtkgonihoeghphaaA2
import Derived.Test.YtkgonihoeghphaaA3
namespace Go.Proofs.Ytkgonihoeghphaa.Pl
open Go.RowKit Go.Proofs.Ytkgonihoeghphaa.A Go.Proofs.YtkgonihoeghphaaW.PrintWords Go.Proofs.YtkgonihoeghphaaW.PrintLast

/-- A row of bytes as a number, the greatest digit first. -/
def val : Int → List UInt8 → Int
  | v, [] => v
  | v, b :: l => val (256 * v + (b.toNat : Int)) l
theorem val_nonneg : ∀ (l : List UInt8) (v : Int), 0 ≤ v → 0 ≤ val v l
  | [], _, h => h
  | b :: l, v, h => val_nonneg l _ (by omega)
theorem val_lt : ∀ (l : List UInt8) (v : Int) (B : Int), 0 ≤ v → v < B → val v l < B * 256 ^ l.length
  | [], v, B, _, h => by simpa [val] using h
  | b :: l, v, B, h0, h => by
    have hb := u8_lt b
    have := val_lt l (256 * v + (b.toNat : Int)) (B * 256) (by omega) (by omega)
    rw [val, List.length_cons, Int.pow_succ, Int.mul_comm (256 ^ l.length) 256, ← Int.mul_assoc]
    exact this
theorem val_snoc : ∀ (l : List UInt8) (v : Int) (b : UInt8), val v (l ++ [b]) = 256 * val v l + (b.toNat : Int)
  | [], _, _ => rfl
  | c :: l, v, b => by simp only [List.cons_append, val]; exact val_snoc l _ b

/-- What TakeNum answers. -/
def tn (l : List UInt8) : Int × List UInt8 × Int :=
  match l with
  | [] => (0, [], 2)
  | c :: t => if c.toNat > 8 then (0, [], 3) else if t.length < c.toNat then (0, [], 2) else if 0 < c.toNat ∧ t.head? = some 0 then (0, [], 3) else (val 0 (t.take c.toNat), t.drop c.toNat, 0)

theorem pow256_le {i : Nat} (h : i ≤ 7) : (256 : Int) ^ i ≤ 72057594037927936 := by
  have : i = 0 ∨ i = 1 ∨ i = 2 ∨ i = 3 ∨ i = 4 ∨ i = 5 ∨ i = 6 ∨ i = 7 := by omega
  rcases this with rfl | rfl | rfl | rfl | rfl | rfl | rfl | rfl <;> decide
theorem drop_getD {l : List UInt8} {i : Nat} (h : i < l.length) : l.drop i = l.getD i 0 :: l.drop (i + 1) := by
  rw [List.drop_eq_getElem_cons h]; simp [List.getD_eq_getElem?_getD, List.getElem?_eq_getElem h]

/-- The loop of the program's TakeNum: from digit i on. -/
theorem loop_num (s : ByteArray) (n : Nat) (hn : n ≤ 8) (hs : n + 1 ≤ s.size) (d : Nat) : ∀ (k i : Nat) (x : Int), n - i = d → i ≤ n → d < k → 0 ≤ x → x < 256 ^ i →
    lump_TakeNum.l0 k s x ((n : Int) + 1) n i = some (val x ((((D s).drop 1).take n).drop i), B ((D s).drop (n + 1)), 0) := by
  induction d with
  | zero =>
    intro k i x hd hi hk h0 h1
    obtain ⟨k, rfl⟩ : ∃ m, k = m + 1 := ⟨k - 1, by omega⟩
    obtain rfl : i = n := by omega
    simp only [lump_TakeNum.l0]
    rw [if_neg (by omega), if_pos (by omega), if_pos (by omega), extract_end]
    have e : ((i : Int) + 1).toNat = i + 1 := by omega
    have e3 : (((D s).drop 1).take i).drop i = [] := List.drop_of_length_le (List.length_take_le _ _)
    rw [e, e3]
    rfl
  | succ d ih =>
    intro k i x hd hi hk h0 h1
    obtain ⟨k, rfl⟩ : ∃ m, k = m + 1 := ⟨k - 1, by omega⟩
    have hin : i < n := by omega
    have hb := bt_range s ((i : Int) + 1)
    have h72 : x < 72057594037927936 := Int.lt_of_lt_of_le h1 (pow256_le (by omega))
    have hw : wrap64 ((i : Int) + 1) = i + 1 := i64_wrap (by omega) (by omega)
    simp only [lump_TakeNum.l0]
    rw [hw, if_pos (by omega), if_pos (by omega), if_pos (by omega), u64_wrap (x := x * 256) (by omega) (by omega), u64_wrap (x := bt s ((i : Int) + 1)) (by omega) (by omega), or_u64 h0 (by omega) (by omega) h72]
    have hih := ih k (i + 1) (x * 256 + bt s ((i : Int) + 1)) (by omega) (by omega) (by omega) (by omega) (by
      rw [Int.pow_succ]; omega)
    have ec : ((i + 1 : Nat) : Int) = (i : Int) + 1 := by omega
    rw [ec] at hih
    rw [hih]
    have hl : i < (((D s).drop 1).take n).length := by
      have := size_D s
      simp; omega
    rw [drop_getD hl, val]
    have e : (((((D s).drop 1).take n).getD i 0).toNat : Int) = bt s ((i : Int) + 1) := by
      rw [bt_D]
      have e2 : ((i : Int) + 1).toNat = i + 1 := by omega
      rw [e2]
      simp [List.getD_eq_getElem?_getD, List.getElem?_take_of_lt hin]
    rw [e, Int.mul_comm 256 x]
theorem loop_refnum (s : ByteArray) (n : Nat) (hn : n ≤ 8) (hs : n + 1 ≤ s.size) (d : Nat) : ∀ (k i : Nat) (x : Int), n - i = d → i ≤ n → d < k → 0 ≤ x → x < 256 ^ i →
    cartoucheref01_TakeNum.l0 k s n x ((i : Int) + 1) = some (val x ((((D s).drop 1).take n).drop i), B ((D s).drop (n + 1)), 0) := by
  induction d with
  | zero =>
    intro k i x hd hi hk h0 h1
    obtain ⟨k, rfl⟩ : ∃ m, k = m + 1 := ⟨k - 1, by omega⟩
    obtain rfl : i = n := by omega
    simp only [cartoucheref01_TakeNum.l0]
    have hw : wrap64 ((i : Int) + 1) = i + 1 := i64_wrap (by omega) (by omega)
    rw [hw, if_neg (by omega), if_pos (by omega), if_pos (by omega), extract_end]
    have e : ((i : Int) + 1).toNat = i + 1 := by omega
    have e3 : (((D s).drop 1).take i).drop i = [] := List.drop_of_length_le (List.length_take_le _ _)
    rw [e, e3]
    rfl
  | succ d ih =>
    intro k i x hd hi hk h0 h1
    obtain ⟨k, rfl⟩ : ∃ m, k = m + 1 := ⟨k - 1, by omega⟩
    have hin : i < n := by omega
    have hb := bt_range s ((i : Int) + 1)
    have h72 : x < 72057594037927936 := Int.lt_of_lt_of_le h1 (pow256_le (by omega))
    have hw : wrap64 ((i : Int) + 1 + 1) = i + 1 + 1 := i64_wrap (by omega) (by omega)
    simp only [cartoucheref01_TakeNum.l0]
    rw [hw, if_pos (by omega), if_pos (by omega), if_pos (by omega), u64_wrap (x := 256 * x) (by omega) (by omega), u64_wrap (x := bt s ((i : Int) + 1)) (by omega) (by omega), u64_wrap (by omega) (by omega)]
    have hih := ih k (i + 1) (256 * x + bt s ((i : Int) + 1)) (by omega) (by omega) (by omega) (by omega) (by
      rw [Int.pow_succ]; omega)
    have ec : ((i + 1 : Nat) : Int) = (i : Int) + 1 := by omega
    rw [ec] at hih
    rw [hih]
    have hl : i < (((D s).drop 1).take n).length := by
      have := size_D s
      simp; omega
    rw [drop_getD hl, val]
    have e : (((((D s).drop 1).take n).getD i 0).toNat : Int) = bt s ((i : Int) + 1) := by
      rw [bt_D]
      have e2 : ((i : Int) + 1).toNat = i + 1 := by omega
      rw [e2]
      simp [List.getD_eq_getElem?_getD, List.getElem?_take_of_lt hin]
    rw [e]
/-- TakeNum, the program's and the document's, is tn. -/
def Tn (s : ByteArray) : Option (Int × ByteArray × Int) := some ((tn (D s)).1, B (tn (D s)).2.1, (tn (D s)).2.2)
theorem takeNum (s : ByteArray) (k : Nat) (hk : 10 ≤ k) : lump_TakeNum.f k s = Tn s := by
  have hsz := size_D s
  unfold lump_TakeNum.f Tn
  simp only [wrap64_bt, empty_B]
  have h0 := bt_D s 0
  have h1 := bt_D s 1
  have hr := bt_range s 0
  rcases hD : D s with _ | ⟨c, t⟩
  · rw [if_pos (D_nil.2 hD)]; rfl
  · rw [hD] at hsz h0 h1
    have hc : ((c :: t).getD (0 : Int).toNat 0) = c := rfl
    rw [hc] at h0
    have hc1 : ((c :: t).getD (1 : Int).toNat 0) = t.getD 0 0 := rfl
    rw [hc1] at h1
    simp only [List.length_cons] at hsz
    rw [if_neg (by rw [D_nil, hD]; simp), if_pos (by omega), h0, h1]
    unfold tn
    by_cases a : c.toNat > 8
    · rw [if_pos (by omega)]; simp only [if_pos a]
    · rw [if_neg (by omega)]; simp only [if_neg a]
      by_cases b : t.length < c.toNat
      · rw [if_pos (by omega)]; simp only [if_pos b]
      · rw [if_neg (by omega)]; simp only [if_neg b]
        have hj : lump_TakeNum.j0 k s = some (val 0 (t.take c.toNat), B (t.drop c.toNat), 0) := by
          obtain ⟨k, rfl⟩ : ∃ m, k = m + 1 := ⟨k - 1, by omega⟩
          simp only [lump_TakeNum.j0, wrap64_bt]
          rw [if_pos (by omega), h0, i64_wrap (x := (c.toNat : Int) + 1) (by omega) (by omega), i64_wrap (by omega) (by omega)]
          have e : (c.toNat : Int) + 1 - 1 = c.toNat := by omega
          have := loop_num s c.toNat (by omega) (by omega) (c.toNat - 0) k 0 0 rfl (by omega) (by omega) (by omega) (by simp)
          rw [e]
          rw [hD] at this
          simpa using this
        by_cases z : 0 < c.toNat
        · rw [if_pos (by omega), if_pos (by omega)]
          have hh : t.head? = some 0 ↔ ((t.getD 0 0).toNat : Int) = 0 := by
            rcases t with _ | ⟨b, t⟩
            · simp at b; omega
            · simp [← UInt8.toNat_inj]
          by_cases y : t.head? = some 0
          · rw [if_pos (hh.1 y)]; simp only [if_pos (And.intro z y)]
          · rw [if_neg (fun h => y (hh.2 h)), hj]; simp only [if_neg (fun h : 0 < c.toNat ∧ t.head? = some 0 => y h.2)]
        · rw [if_neg (by omega), hj]; simp only [if_neg (fun h : 0 < c.toNat ∧ t.head? = some 0 => z h.1)]
theorem refTakeNum (s : ByteArray) (k : Nat) (hk : 11 ≤ k) : cartoucheref01_TakeNum.f k s = Tn s := by
  have hsz := size_D s
  unfold cartoucheref01_TakeNum.f Tn
  simp only [wrap64_bt, empty_B]
  have h0 := bt_D s 0
  have h1 := bt_D s 1
  have hr := bt_range s 0
  rcases hD : D s with _ | ⟨c, t⟩
  · rw [hD] at hsz
    have hz : s.size = 0 := hsz
    rw [if_pos (by omega)]; rfl
  · rw [hD] at hsz h0 h1
    have hc : ((c :: t).getD (0 : Int).toNat 0) = c := rfl
    rw [hc] at h0
    have hc1 : ((c :: t).getD (1 : Int).toNat 0) = t.getD 0 0 := rfl
    rw [hc1] at h1
    simp only [List.length_cons] at hsz
    rw [if_neg (by omega), if_pos (by omega), h0, h1]
    unfold tn
    have hlt := u8_lt c
    rw [i64_wrap (x := (c.toNat : Int) + 1) (by omega) (by omega)]
    by_cases a : c.toNat > 8
    · rw [if_pos (by omega)]; simp only [if_pos a]
    · rw [if_neg (by omega)]; simp only [if_neg a]
      by_cases b : t.length < c.toNat
      · rw [if_pos (by omega)]; simp only [if_pos b]
      · rw [if_neg (by omega)]; simp only [if_neg b]
        have hl : cartoucheref01_TakeNum.l0 (k - 1) s c.toNat 0 1 = some (val 0 (t.take c.toNat), B (t.drop c.toNat), 0) := by
          have := loop_refnum s c.toNat (by omega) (by omega) (c.toNat - 0) (k - 1) 0 0 rfl (by omega) (by omega) (by omega) (by simp)
          rw [hD] at this
          simpa using this
        obtain ⟨k, rfl⟩ : ∃ m, k = m + 1 := ⟨k - 1, by omega⟩
        rw [Nat.add_sub_cancel] at hl
        by_cases z : 0 < c.toNat
        · rw [if_pos (by omega), if_pos (by omega)]
          have hh : t.head? = some 0 ↔ ((t.getD 0 0).toNat : Int) = 0 := by
            rcases t with _ | ⟨b, t⟩
            · simp at b; omega
            · simp [← UInt8.toNat_inj]
          simp only [cartoucheref01_TakeNum.j0]
          by_cases y : t.head? = some 0
          · rw [if_pos (beq_iff_eq.2 (hh.1 y))]; simp only [if_pos (And.intro z y)]; rfl
          · rw [if_neg (fun h => y (hh.2 (beq_iff_eq.1 h))), hl]; simp only [if_neg (fun h : 0 < c.toNat ∧ t.head? = some 0 => y h.2)]
        · simp only [cartoucheref01_TakeNum.j0]
          rw [if_neg (by omega), if_neg (by simp), hl]; simp only [if_neg (fun h : 0 < c.toNat ∧ t.head? = some 0 => z h.1)]
/-- The document's examples stand. -/
theorem num0 : lump_Num.f 0 = some (B [0]) := by
  unfold lump_Num.f
  rw [if_pos (by omega)]
  rw [strOfNums_B]
  congr 2
theorem num258 : lump_Num.f 258 = some (B [2, 1, 2]) := by
  unfold lump_Num.f
  rw [if_pos (by omega)]
  rw [strOfNums_B]
  congr 2
theorem shown01 (k : Nat) (hk : 10 ≤ k) : cartouchelaw01_shown.f k = some true := by
  unfold cartouchelaw01_shown.f
  rw [takeNum _ k hk, num0, num258]
  have e : (⟨#[2, 0, 1]⟩ : ByteArray) = B [2, 0, 1] := rfl
  have t0 : (B [0]).toList = [0] := by rw [toList_D, D_B]
  have t1 : (B [2, 1, 2]).toList = [2, 1, 2] := by rw [toList_D, D_B]
  simp only [Tn, e, D_B, Option.bind_some, t0, t1, if_pos]
  rfl
end Go.Proofs.Ytkgonihoeghphaa.Pl
