/- lump's texts, in plain terms: their bytes. -/
import Derived.Test.YtkgonihoeghphaaG
import Derived.Test.YtkgonihoeghphaaA4
namespace Go.Proofs.Ytkgonihoeghphaa.Pl
open Go.RowKit Go.Proofs.Ytkgonihoeghphaa.A Go.Proofs.YtkgonihoeghphaaW.PrintWords Go.Proofs.YtkgonihoeghphaaW.PrintLast

/-! ### lengths, texts -/
/-- A length's bytes. -/
def lb (n : Nat) : List UInt8 := if n ≤ 250 then [UInt8.ofNat n] else [251, UInt8.ofNat (n / 256), UInt8.ofNat (n % 256)]
theorem lb_len (n : Nat) : 1 ≤ (lb n).length ∧ (lb n).length ≤ 3 := by unfold lb; split <;> simp
theorem length_f (n : Nat) (h : n ≤ 65535) : lump_length.f n = some (B (lb n)) := by
  unfold lump_length.f lb
  by_cases a : n ≤ 250
  · rw [if_pos (by omega), if_pos a, strOfNums_B]
    have e : (n : Int) % 256 = n := by omega
    simp [Lib.bytesOf, e]
  · rw [if_neg (by omega), if_neg a, strOfNums_B]
    have e : (n : Int) / 256 % 256 = ((n / 256 : Nat) : Int) := by omega
    have e2 : (n : Int) % 256 = ((n % 256 : Nat) : Int) := by omega
    rw [e, e2]
    simp only [Lib.bytesOf, List.map_cons, List.map_nil, Int.toNat_natCast]
    rfl
theorem size_f (n : Nat) (h : n ≤ 65535) : cartoucheref01_size.f n = some (B (lb n)) := by
  unfold cartoucheref01_size.f lb
  by_cases a : n ≤ 250
  · rw [if_pos (by omega), if_pos a, strOfNums_B]
    have e : (n : Int) % 256 = n := by omega
    simp [Lib.bytesOf, e]
  · have d1 : Int.tdiv (n : Int) 256 = (n : Int) / 256 := Int.tdiv_eq_ediv_of_nonneg (by omega)
    have d2 : Int.tmod (n : Int) 256 = (n : Int) % 256 := Int.tmod_eq_emod_of_nonneg (by omega)
    rw [if_neg (by omega), if_neg a, strOfNums_B, d1, d2, i64_wrap (by omega) (by omega)]
    have e : (n : Int) / 256 % 256 = ((n / 256 : Nat) : Int) := by omega
    have e2 : (n : Int) % 256 % 256 = ((n % 256 : Nat) : Int) := by omega
    rw [e, e2]
    simp only [Lib.bytesOf, List.map_cons, List.map_nil, Int.toNat_natCast]
    rfl
/-- A text's bytes. -/
def tx (l : List UInt8) : List UInt8 × Int := if l.length > 65535 then ([], 4) else (lb l.length ++ l, 0)
theorem text_f (s : ByteArray) : lump_Text.f s = some (B (tx (D s)).1, (tx (D s)).2) := by
  unfold lump_Text.f tx
  rw [size_D]
  by_cases a : (D s).length > 65535
  · rw [if_pos (by omega), if_pos a]; rfl
  · rw [if_neg (by omega), if_neg a, length_f _ (by omega)]
    have := lb_len (D s).length
    simp only [Option.bind_some]
    rw [if_pos (by rw [size_B]; omega)]
    rw [← B_D s, B_append, D_B]
theorem reftext_f (s : ByteArray) : cartoucheref01_Text.f s = some (B (tx (D s)).1, (tx (D s)).2) := by
  unfold cartoucheref01_Text.f tx
  rw [size_D]
  by_cases a : (D s).length > 65535
  · rw [if_pos (by omega), if_pos a]; rfl
  · rw [if_neg (by omega), if_neg a, size_f _ (by omega)]
    have := lb_len (D s).length
    simp only [Option.bind_some]
    rw [if_pos (by rw [size_B]; omega)]
    rw [← B_D s, B_append, D_B]
end Go.Proofs.Ytkgonihoeghphaa.Pl
