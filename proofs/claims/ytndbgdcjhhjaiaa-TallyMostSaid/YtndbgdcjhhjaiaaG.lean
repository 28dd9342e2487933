/- Bytes as lists: what the texts of this seat say of strings is said of lists of bytes. -/
import Derived.Test.YtndbgdcjhhjaiaaWWords
import Derived.Laws.Strings
import Derived.Laws.BitsLemmas
import Derived.Lib.Bytes
import Derived.Lib.IndexBytes
namespace Go.Proofs.Ytndbgdcjhhjaiaa.Pl
open Go.RowKit Go.Proofs.YtndbgdcjhhjaiaaW.PrintWords

/-- A list of bytes as a string; a string's bytes. -/
def B (l : List UInt8) : ByteArray := ⟨l.toArray⟩
def D (s : ByteArray) : List UInt8 := s.data.toList

theorem D_B (l : List UInt8) : D (B l) = l := by simp [D, B]
theorem B_D (s : ByteArray) : B (D s) = s := by simp [D, B]
theorem D_inj {a b : ByteArray} (h : D a = D b) : a = b := by rw [← B_D a, ← B_D b, h]
theorem B_inj {a b : List UInt8} (h : B a = B b) : a = b := by rw [← D_B a, ← D_B b, h]
theorem toList_D (s : ByteArray) : s.toList = D s := ByteArray.toList_eq s
theorem size_D (s : ByteArray) : s.size = (D s).length := by unfold D; rw [Array.length_toList]; rfl
theorem size_B (l : List UInt8) : (B l).size = l.length := by rw [size_D, D_B]
theorem D_append (a b : ByteArray) : D (a ++ b) = D a ++ D b := by simp [D, ByteArray.data_append]
theorem B_append (a b : List UInt8) : B a ++ B b = B (a ++ b) := D_inj (by rw [D_append, D_B, D_B, D_B])
theorem D_extract (s : ByteArray) (i j : Nat) : D (s.extract i j) = ((D s).take j).drop i := by
  simp [D, ByteArray.data_extract, List.extract_eq_take_drop, List.drop_take]
theorem extract_end (s : ByteArray) (i : Nat) : s.extract i s.size = B ((D s).drop i) :=
  D_inj (by rw [D_extract, D_B, size_D, List.take_length])
theorem extract_beg (s : ByteArray) (i : Nat) : s.extract 0 i = B ((D s).take i) :=
  D_inj (by rw [D_extract, D_B, List.drop_zero])
theorem toList_inj {a b : ByteArray} : a.toList = b.toList ↔ a = b :=
  ⟨fun h => D_inj (by rw [← toList_D, ← toList_D, h]), fun h => by rw [h]⟩
theorem bt_D (s : ByteArray) (i : Int) : bt s i = (((D s).getD i.toNat 0).toNat : Int) := by
  unfold bt D
  split
  · rename_i h
    have h' : i.toNat < s.data.size := h
    simp [List.getD_eq_getElem?_getD, List.getElem?_eq_getElem (show i.toNat < s.data.toList.length by simpa using h'), ByteArray.getElem_eq_getElem_data]
  · rename_i h
    have h' : ¬ i.toNat < s.data.size := h
    simp [List.getD_eq_getElem?_getD, List.getElem?_eq_none (show s.data.toList.length ≤ i.toNat by simp; omega)]
theorem u8_lt (b : UInt8) : b.toNat < 256 := b.toNat_lt
theorem wrap64_bt (s : ByteArray) (i : Int) : wrap64 (bt s i) = bt s i := by
  have := bt_range s i
  unfold wrap64; omega
theorem strOfNums_B (xs : List Int) : strOfNums xs = B (Lib.bytesOf xs) := D_inj (by rw [D_B, ← toList_D, Lib.strOfNums_toList])
theorem u64_wrap {x : Int} (h0 : 0 ≤ x) (h1 : x ≤ 18446744073709551615) : IntKind.u64.wrap x = x := by
  simp [IntKind.wrap, IntKind.bits, IntKind.signed]; omega
theorem i64_wrap {x : Int} (h0 : -9223372036854775808 ≤ x) (h1 : x ≤ 9223372036854775807) : wrap64 x = x := by
  unfold wrap64; omega
theorem u64_range {a : Int} (h : (Lit.int .u64 a).wf = true) : 0 ≤ a ∧ a ≤ 18446744073709551615 := by
  have h' : IntKind.u64.min ≤ a ∧ a ≤ IntKind.u64.max := by simpa [Lit.wf] using h
  have e1 : IntKind.u64.min = 0 := by decide
  have e2 : IntKind.u64.max = 18446744073709551615 := by decide
  rw [e1, e2] at h'; exact h'
theorem i64_range {a : Int} (h : (Lit.int .i64 a).wf = true) : -9223372036854775808 ≤ a ∧ a ≤ 9223372036854775807 := by
  have h' : IntKind.i64.min ≤ a ∧ a ≤ 9223372036854775807 := by simpa [Lit.wf] using h
  have e1 : IntKind.i64.min = -9223372036854775808 := by decide
  rw [e1] at h'; exact h'
theorem u64_pow (n : Int) (h0 : 0 ≤ n) (h1 : n < 2 ^ 64) : IntKind.u64.wrap n = n := by
  have e : (2 : Int) ^ 64 = 18446744073709551616 := by decide
  rw [e] at h1
  exact u64_wrap h0 (by omega)
/-- 'x << 8 | b' is 256 x + b. -/
theorem or_u64 {x y : Int} (hx : 0 ≤ x) (hy0 : 0 ≤ y) (hy : y < 256) (h : x < 72057594037927936) : Go.bits .or .u64 (x * 256) y = x * 256 + y := by
  have e8 : (2 : Int) ^ 8 = 256 := by decide
  have e64 : (2 : Int) ^ 64 = 18446744073709551616 := by decide
  refine bits_join .u64 64 (by decide) u64_pow 8 (x * 256) y (by omega) ?_ ?_ hy0 ?_ ?_
  · rw [e8]; omega
  · rw [e64]; omega
  · rw [e8]; exact hy
  · rw [e64]; omega
theorem i64_pow (n : Int) (h0 : 0 ≤ n) (h1 : n < 2 ^ 32) : IntKind.i64.wrap n = n := by
  have e : (2 : Int) ^ 32 = 4294967296 := by decide
  rw [e] at h1
  rw [IntKind.wrap_i64]; omega
theorem or_i64 {x y : Int} (hx : 0 ≤ x) (hy0 : 0 ≤ y) (hy : y < 256) (h : x < 256) : Go.bits .or .i64 (x * 256) y = x * 256 + y := by
  have e8 : (2 : Int) ^ 8 = 256 := by decide
  have e32 : (2 : Int) ^ 32 = 4294967296 := by decide
  refine bits_join .i64 32 (by decide) i64_pow 8 (x * 256) y (by omega) ?_ ?_ hy0 ?_ ?_
  · rw [e8]; omega
  · rw [e32]; omega
  · rw [e8]; exact hy
  · rw [e32]; omega
end Go.Proofs.Ytndbgdcjhhjaiaa.Pl
