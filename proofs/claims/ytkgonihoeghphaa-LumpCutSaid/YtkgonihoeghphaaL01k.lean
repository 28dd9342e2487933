/- A beginning of a number's bytes. -/
import Derived.Test.YtkgonihoeghphaaG
import Derived.Test.YtkgonihoeghphaaL01
import Derived.Test.YtkgonihoeghphaaL01b
namespace Go.Proofs.Ytkgonihoeghphaa.Pl
open Go.RowKit Go.Proofs.Ytkgonihoeghphaa.A Go.Proofs.YtkgonihoeghphaaW.PrintWords Go.Proofs.YtkgonihoeghphaaW.PrintLast
theorem tn_cut (v : Int) (n : Nat) (h : n < (nb v).length) : (tn ((nb v).take n)).2.2 = 2 := by
  have hh := nb_head v
  have hl := nd_len 8 v
  unfold nb at h ⊢
  rcases n with _ | n
  · rfl
  · simp only [List.take_succ_cons, List.length_cons] at h ⊢
    simp only [tn, hh]
    rw [if_neg (by omega), if_pos (by rw [List.length_take]; omega)]
end Go.Proofs.Ytkgonihoeghphaa.Pl
