/- sync/atomic's Int64 in one goroutine at this seat's program. -/
import Derived.Test.YtndbgdcjhhjaiaaProg
import Derived.Tactics
import Derived.Tactics2
import Derived.Laws.Pointers
import Derived.Laws.LoneSync
import Derived.ChangeAlike
import Derived.WalkKit
import Derived.Test.YtndbgdcjhhjaiaaWWords
namespace Go.Proofs.Ytndbgdcjhhjaiaa.Atom
open Go.RowKit Go.Proofs.YtndbgdcjhhjaiaaW.PrintWords
theorem add64 (a : Addr) (x : Int) (w : World) (hc : w.cell? a = some (.int .i64 x)) (hz : w.frozen? a = false) :
    Calls Try.prog 37 #[.pointer (some a), .int .i64 1] w fun e w' => e = .returned (.int .i64 (wrap64 (x + 1))) ∧ w' = w.setCell a (.int .i64 (wrap64 (x + 1))) := by
  have hadd := run_call_add (P := Try.prog) Try.func43 (by kernel_rfl) (by kernel_rfl) (by kernel_rfl) .i64 (by kernel_rfl) (y := 1) (s := wrap64 (x + 1)) hc hz (by simp [go_sem, IntKind.wrap_i64, wrap64])
  go_enter Try.func37, Try.ntmps37
  go_wp2
  go_ret
  exact ⟨rfl, rfl⟩
theorem load64 (a : Addr) (x : Int) (w : World) (hc : w.cell? a = some (.int .i64 x)) :
    Calls Try.prog 38 #[.pointer (some a)] w fun e w' => e = .returned (.int .i64 x) ∧ w' = w := by
  have hl := run_call_load (P := Try.prog) Try.func44 (by kernel_rfl) (by kernel_rfl) (by kernel_rfl) .i64 (by kernel_rfl) hc
  go_enter Try.func38, Try.ntmps38
  go_wp2
  go_ret
  exact ⟨rfl, rfl⟩
end Go.Proofs.Ytndbgdcjhhjaiaa.Atom
