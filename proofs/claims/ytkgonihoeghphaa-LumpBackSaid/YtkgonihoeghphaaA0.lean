-- Written by wip/hand.py of this session's repository, out of the translation and of contracts typed by hand. Not trusted: Lean checks it.
import Derived.Test.YtkgonihoeghphaaProg
import Derived.Below
import Derived.Deep.Draws
import Derived.Deep.AppendLies
import Derived.Maps.AppendAt
import Derived.OwnWalk
import Derived.Laws.BytesArg
import Derived.Laws.MakeOwn
import Derived.Laws.OwnMore
import Derived.Deep.OwnRows
import Derived.Tactics
import Derived.Lib.ConvBytes
import Derived.Laws.Slices
import Derived.WalkKit
import Derived.KernelRfl
import Derived.RowKit3
import Derived.Deep.LoopGhost
import Derived.Deep.QuietTactic
import Derived.BigQuiet
import Derived.WideLaws
import Derived.Deep.DeepCutAuto
import Derived.Deep.CutBlock
import Derived.Deep.RegionHeld3
import Derived.Laws.Rows
import Derived.Lib.AppendStr
import Derived.ArgAppend
import Derived.Laws.IdiomCopy
import Derived.OrdersHeld
import Derived.Laws.BitsLemmas
import Derived.RowKit
import Derived.Test.YtkgonihoeghphaaWWords
import Derived.Test.YtkgonihoeghphaaWLast
import Derived.Test.YtkgonihoeghphaaWTab
import Derived.Test.YtkgonihoeghphaaWFour
import Derived.Test.YtkgonihoeghphaaWQPut
import Derived.Test.YtkgonihoeghphaaWApart
import Derived.Test.YtkgonihoeghphaaWArr
import Derived.Test.YtkgonihoeghphaaWZeros
import Derived.Test.YtkgonihoeghphaaWFoot
import Derived.Test.YtkgonihoeghphaaWKept
import Derived.Test.YtkgonihoeghphaaWShare
import Derived.Test.YtkgonihoeghphaaWN
import Derived.Test.YtkgonihoeghphaaWFootNe
import Derived.Test.YtkgonihoeghphaaWAt
import Derived.Test.YtkgonihoeghphaaWEqStruct
import Derived.Test.YtkgonihoeghphaaWRepsOne
import Derived.Test.YtkgonihoeghphaaWInv
import Derived.Test.YtkgonihoeghphaaWInvWords
import Derived.Test.YtkgonihoeghphaaWGuard
import Derived.Test.YtkgonihoeghphaaWNEv
import Derived.Test.YtkgonihoeghphaaWMore
namespace Go.Proofs.Ytkgonihoeghphaa.A
open Go.RowKit Go.Proofs.YtkgonihoeghphaaW.PrintWords Go.Proofs.YtkgonihoeghphaaW.PrintLast Go.Proofs.YtkgonihoeghphaaW.PrintMore
attribute [local go_sem] max2_int min2_int max_two min_two max_three min_three max_four min_four   -- for this text's walks alone
set_option linter.unusedVariables false
set_option linter.unusedSimpArgs false



def errW : Option Int → Value
  | none => .nilIface
  | some c => .iface 0 (.int .i64 c)
theorem bne_nil_ (l : List UInt8) : (!l.isEmpty) = (l != []) := by cases l <;> rfl
theorem errW_none : errW none = .nilIface := rfl
theorem errW_some (c : Int) : errW (some c) = .iface 0 (.int .i64 c) := rfl

theorem info5 : (Try.prog.info? 5).map (fun i => (i.zero, i.size, i.bytes)) = some (some (.int .u8 0), 1, 1) := by kernel_rfl
theorem info9 : (Try.prog.info? 9).map (fun i => (i.zero, i.size, i.bytes)) = some (some (.string ⟨#[]⟩), 1, 16) := by kernel_rfl
-- the values' own types

end Go.Proofs.Ytkgonihoeghphaa.A
