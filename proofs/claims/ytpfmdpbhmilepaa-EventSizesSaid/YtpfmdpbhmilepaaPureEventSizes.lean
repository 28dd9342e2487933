/- An event's bytes begin with its kind and its transaction; those of a beginning, or an end, are these two alone. No condition. -/
import Derived.Test.YtpfmdpbhmilepaaA4
import Derived.Test.YtpfmdpbhmilepaaG
import Derived.Test.YtpfmdpbhmilepaaL01t
import Derived.Test.YtpfmdpbhmilepaaL01c
import Derived.Test.YtpfmdpbhmilepaaL06
namespace Go.Proofs.Ytpfmdpbhmilepaa.Pure
open Go.RowKit Go.Proofs.Ytpfmdpbhmilepaa.A Go.Proofs.YtpfmdpbhmilepaaW.PrintWords Go.Proofs.YtpfmdpbhmilepaaW.PrintLast Go.Proofs.Ytpfmdpbhmilepaa.Pl

theorem EventSizes : ∀ (a0_0 : Int) (a0_1 : Int) (a0_2 : ByteArray) (a0_3 : ByteArray), (Lit.int .i64 a0_0).wf = true → (Lit.int .i64 a0_1).wf = true → a0_2.size ≤ 140737488351232 → a0_3.size ≤ 140737488351232 → cartouchelaw06_EventSizes.f a0_0 a0_1 a0_2 a0_3 = some true := by
  intro a b c d _ _ hc hd
  unfold cartouchelaw06_EventSizes.f
  rw [shown06, bytes_f]
  have hcs := size_D c
  have hds := size_D d
  by_cases hm : may a b (D c) (D d) = true
  · have h := may_true hm
    simp only [Option.bind_some, if_pos hm, if_true]
    have ea : ((UInt8.ofNat a.toNat).toNat : Int) = a := by simp; omega
    have ebb : ((UInt8.ofNat b.toNat).toNat : Int) = b := by simp; omega
    have b0 : bt (B (eb a b (D c) (D d))) 0 = a := by rw [bt_D, D_B]; exact ea
    have b1 : bt (B (eb a b (D c) (D d))) 1 = b := by rw [bt_D, D_B]; exact ebb
    have hsz : (B (eb a b (D c) (D d))).size = if ky a = true then 4 + c.size + d.size else 2 := by
      rw [size_B]
      unfold eb
      by_cases hk : ky a = true
      · have h3 := h.2.1 hk
        rw [if_pos hk, if_pos hk]
        have l1 : (lb (D c).length).length = 1 := by unfold lb; rw [if_pos (by omega)]; rfl
        have l2 : (lb (D d).length).length = 1 := by unfold lb; rw [if_pos (by omega)]; rfl
        simp only [List.length_append, l1, l2, List.length_cons, List.length_nil]
        omega
      · rw [if_neg hk, if_neg hk]; rfl
    have h2 : 2 ≤ (B (eb a b (D c) (D d))).size := by rw [hsz]; split <;> omega
    rw [if_neg (by omega), if_pos (by omega), wrap64_bt, wrap64_bt, b0, b1, if_pos rfl, if_pos (by omega), if_pos rfl]
    have hw : wrap64 (wrap64 (4 + (c.size : Int)) + (d.size : Int)) = 4 + c.size + d.size := by
      rw [i64_wrap (x := 4 + (c.size : Int)) (by omega) (by omega), i64_wrap (by omega) (by omega)]
    rw [hw]
    by_cases k2 : a = 2
    · have hk : ky a = true := by simp [ky, k2]
      rw [if_pos k2, if_pos (by rw [hsz, if_pos hk]; omega)]
    · rw [if_neg k2]
      by_cases k3 : a = 3
      · have hk : ky a = true := by simp [ky, k3]
        rw [if_pos k3, if_pos (by rw [hsz, if_pos hk]; omega)]
      · have hk : ¬ ky a = true := by simp [ky, k2, k3]
        rw [if_neg k3, hsz, if_neg hk]; rfl
  · simp only [Option.bind_some, if_neg hm, toList_D, D_B]
    rfl

end Go.Proofs.Ytpfmdpbhmilepaa.Pure
