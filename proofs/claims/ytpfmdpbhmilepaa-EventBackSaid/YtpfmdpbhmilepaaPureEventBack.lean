/- An event that may be is taken from its bytes as it was; a byte more, or less, is none. No condition. -/
import Derived.Test.YtpfmdpbhmilepaaA13
import Derived.Test.YtpfmdpbhmilepaaG
import Derived.Test.YtpfmdpbhmilepaaL01t
import Derived.Test.YtpfmdpbhmilepaaL01c
import Derived.Test.YtpfmdpbhmilepaaL06
namespace Go.Proofs.Ytpfmdpbhmilepaa.Pure
open Go.RowKit Go.Proofs.Ytpfmdpbhmilepaa.A Go.Proofs.YtpfmdpbhmilepaaW.PrintWords Go.Proofs.YtpfmdpbhmilepaaW.PrintLast Go.Proofs.Ytpfmdpbhmilepaa.Pl

theorem EventBack : ∀ (a0_0 : Int) (a0_1 : Int) (a0_2 : ByteArray) (a0_3 : ByteArray) (a1 : Int), (Lit.int .i64 a0_0).wf = true → (Lit.int .i64 a0_1).wf = true → a0_2.size ≤ 140737488351232 → a0_3.size ≤ 140737488351232 → (Lit.int .i64 a1).wf = true → ∃ k, cartouchelaw06_EventBack.f k a0_0 a0_1 a0_2 a0_3 a1 = some true := by
  intro a b c d n _ _ hc hd _
  refine ⟨9, ?_⟩
  unfold cartouchelaw06_EventBack.f
  rw [shown06, bytes_f]
  by_cases hm : may a b (D c) (D d) = true
  · have he := et_eb hm
    have h48 : (⟨#[48]⟩ : ByteArray) = B [48] := rfl
    have hE : Et (B (eb a b (D c) (D d))) = (a, b, c, d, 0) := by
      unfold Et; rw [D_B, he]; simp only [B_D]
    have hE2 : Et (B (eb a b (D c) (D d)) ++ B [48]) = (0, 0, B [], B [], 3) := by
      unfold Et; rw [D_append, D_B, D_B, et_more he (by simp)]
    have hlen : (eb a b (D c) (D d)).length ≤ 9223372036854775806 := by
      have h := may_true hm
      have l1 := lb_len (D c).length
      have l2 := lb_len (D d).length
      unfold eb
      by_cases hk : ky a = true
      · have h3 := h.2.1 hk
        rw [if_pos hk]; simp only [List.length_append, List.length_cons, List.length_nil]; omega
      · rw [if_neg hk]; simp
    simp only [Option.bind_some, if_pos hm, if_true, h48]
    rw [take_f 9 (by omega), hE]
    simp only [Option.bind_some]
    rw [if_pos (by rw [size_B]; omega), take_f 9 (by omega), hE2]
    simp only [Option.bind_some, beq_self_eq_true, Bool.not_true, Bool.or_false, Bool.false_eq_true, if_false, if_true, bne_self_eq_false]
    simp only [cartouchelaw06_EventBack.j0, Bool.false_eq_true, if_false]
    by_cases h0 : n < 0
    · rw [if_pos h0]
    · rw [if_neg h0]
      by_cases h1 : n ≥ ((B (eb a b (D c) (D d))).size : Int)
      · rw [if_pos h1]
      · rw [size_B] at h1
        rw [if_neg (by rw [size_B]; exact h1), if_pos (by omega), if_pos (by rw [size_B]; omega), take_f 8 (by omega), extract_beg, D_B]
        have hcut : et ((eb a b (D c) (D d)).take n.toNat) = none := by
          rcases hx : et ((eb a b (D c) (D d)).take n.toNat) with _ | v
          · rfl
          · have hne : (eb a b (D c) (D d)).drop n.toNat ≠ [] := by
              intro e
              have := congrArg List.length e
              simp at this; omega
            have := et_more hx hne
            rw [List.take_append_drop, he] at this
            cases this
        unfold Et
        rw [D_B, hcut]
        rfl
  · simp only [Option.bind_some, if_neg hm]
    rw [may_f 9 (by omega)]
    simp only [Option.bind_some]
    simp [hm]

end Go.Proofs.Ytpfmdpbhmilepaa.Pure
