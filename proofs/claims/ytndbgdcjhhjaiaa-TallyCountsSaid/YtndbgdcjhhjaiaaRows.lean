/-
  No cell of these rows narrows 'for every input' (looked for: loops, veiled, ifaces, maps, wideKeys, modest, calm, conditions, laid).
  DERIVED. THE GIVEN ROWS OF THIS SEAT. 9 by the template 'for every input the law returns true; each argument reads behind the call as it read before'; 0 by the template 'total and deterministic' (their statements: YtndbgdcjhhjaiaaTotals.lean).
  GIVEN WITH THE SEED: the statements are not yours to turn. If you find one false, say at which input.
  Laid BY PROGRAM, IN A SANDBOX (cutbox-rows.mjs): the forced cells as the released guide's own fill.sh prints them over the translation 2ee8441853f26343… (all of the seat's roots in one cut). By AI agents, Wed Nov 11 2026. No macro, syntax, notation, axiom, sorry.
-/
import Derived.Test.YtndbgdcjhhjaiaaChecked
import GoSem.Claim
import GoSem.ClaimJoined
import GoSem.ClaimMapViews
import Derived.JoinedTies
import Derived.KernelRfl
namespace Go.Proofs.Ytndbgdcjhhjaiaa
/- THE CELL 'sum', in the pinned program and in every row, IS THE sha256 OF THE DUMP (.gsa) THAT YtndbgdcjhhjaiaaProg.lean LOADS. Nothing in Lean hashes anything: it is a label: what it is worth is what the hold of that sum in a sandbox is worth. -/
noncomputable def Try.pinned : Pinned := { name := "ytndbgdcjhhjaiaa", sum := "2ee8441853f263430d382a699d67b1851d740b9a8366bf2a8013ba4fb00678b0", checked := Try.checked }
namespace Rows
def none {H : Type} : Left H := { results := [], args := [] }

/-- 'cartouchelaw18.MeterSpends': WHATEVER THE INPUT: true; the input reads as it did. -/
def meterSpendsSpec : ChangeSpec := { name := "meterSpends", fn := fun _ => fun
  | [d1, d2] => { results := [.lit (.bool true)], args := [d1, d2] }
  | _ => none }
def meterSpendsRow : OpenClaim := { program := "ytndbgdcjhhjaiaa", sum := "2ee8441853f263430d382a699d67b1851d740b9a8366bf2a8013ba4fb00678b0", func := "cartouche/cartouchelaw18.MeterSpends", spec := "meterSpends", unfollowed := true, recurses := true, apart := false }
def MeterSpendsSaid : Prop := meterSpendsRow.holds Try.pinned (OpenSpec.ofChange meterSpendsSpec)

/-- ITS FALSE NEIGHBOUR: 'it returns false'. Refute it at one input. -/
def meterSpendsWrong : ChangeSpec := { name := "meterSpends", fn := fun _ => fun
  | [d1, d2] => { results := [.lit (.bool false)], args := [d1, d2] }
  | _ => none }
def MeterSpendsWrongFalsely : Prop := meterSpendsRow.holds Try.pinned (OpenSpec.ofChange meterSpendsWrong)

/-- 'cartouchelaw18.MeterMost': WHATEVER THE INPUT: true; the input reads as it did. -/
def meterMostSpec : ChangeSpec := { name := "meterMost", fn := fun _ => fun
  | [d1, d2] => { results := [.lit (.bool true)], args := [d1, d2] }
  | _ => none }
def meterMostRow : OpenClaim := { program := "ytndbgdcjhhjaiaa", sum := "2ee8441853f263430d382a699d67b1851d740b9a8366bf2a8013ba4fb00678b0", func := "cartouche/cartouchelaw18.MeterMost", spec := "meterMost", unfollowed := true, recurses := true, apart := false }
def MeterMostSaid : Prop := meterMostRow.holds Try.pinned (OpenSpec.ofChange meterMostSpec)

/-- ITS FALSE NEIGHBOUR: 'it returns false'. Refute it at one input. -/
def meterMostWrong : ChangeSpec := { name := "meterMost", fn := fun _ => fun
  | [d1, d2] => { results := [.lit (.bool false)], args := [d1, d2] }
  | _ => none }
def MeterMostWrongFalsely : Prop := meterMostRow.holds Try.pinned (OpenSpec.ofChange meterMostWrong)

/-- 'cartouchelaw18.MeterAnew': WHATEVER THE INPUT: true; the input reads as it did. -/
def meterAnewSpec : ChangeSpec := { name := "meterAnew", fn := fun _ => fun
  | [d1, d2, d3] => { results := [.lit (.bool true)], args := [d1, d2, d3] }
  | _ => none }
def meterAnewRow : OpenClaim := { program := "ytndbgdcjhhjaiaa", sum := "2ee8441853f263430d382a699d67b1851d740b9a8366bf2a8013ba4fb00678b0", func := "cartouche/cartouchelaw18.MeterAnew", spec := "meterAnew", unfollowed := true, recurses := true, apart := false }
def MeterAnewSaid : Prop := meterAnewRow.holds Try.pinned (OpenSpec.ofChange meterAnewSpec)

/-- ITS FALSE NEIGHBOUR: 'it returns false'. Refute it at one input. -/
def meterAnewWrong : ChangeSpec := { name := "meterAnew", fn := fun _ => fun
  | [d1, d2, d3] => { results := [.lit (.bool false)], args := [d1, d2, d3] }
  | _ => none }
def MeterAnewWrongFalsely : Prop := meterAnewRow.holds Try.pinned (OpenSpec.ofChange meterAnewWrong)

/-- 'cartouchelaw18.MeterZero': WHATEVER THE INPUT: true; the input reads as it did. -/
def meterZeroSpec : ChangeSpec := { name := "meterZero", fn := fun _ => fun
  | [d1, d2] => { results := [.lit (.bool true)], args := [d1, d2] }
  | _ => none }
def meterZeroRow : OpenClaim := { program := "ytndbgdcjhhjaiaa", sum := "2ee8441853f263430d382a699d67b1851d740b9a8366bf2a8013ba4fb00678b0", func := "cartouche/cartouchelaw18.MeterZero", spec := "meterZero", unfollowed := true, recurses := true, apart := false }
def MeterZeroSaid : Prop := meterZeroRow.holds Try.pinned (OpenSpec.ofChange meterZeroSpec)

/-- ITS FALSE NEIGHBOUR: 'it returns false'. Refute it at one input. -/
def meterZeroWrong : ChangeSpec := { name := "meterZero", fn := fun _ => fun
  | [d1, d2] => { results := [.lit (.bool false)], args := [d1, d2] }
  | _ => none }
def MeterZeroWrongFalsely : Prop := meterZeroRow.holds Try.pinned (OpenSpec.ofChange meterZeroWrong)

/-- 'cartouchelaw18.MeterBegins': WHATEVER THE INPUT: true; the input reads as it did. -/
def meterBeginsSpec : ChangeSpec := { name := "meterBegins", fn := fun _ => fun
  | [d1, d2, d3] => { results := [.lit (.bool true)], args := [d1, d2, d3] }
  | _ => none }
def meterBeginsRow : OpenClaim := { program := "ytndbgdcjhhjaiaa", sum := "2ee8441853f263430d382a699d67b1851d740b9a8366bf2a8013ba4fb00678b0", func := "cartouche/cartouchelaw18.MeterBegins", spec := "meterBegins", unfollowed := true, recurses := true, apart := false }
def MeterBeginsSaid : Prop := meterBeginsRow.holds Try.pinned (OpenSpec.ofChange meterBeginsSpec)

/-- ITS FALSE NEIGHBOUR: 'it returns false'. Refute it at one input. -/
def meterBeginsWrong : ChangeSpec := { name := "meterBegins", fn := fun _ => fun
  | [d1, d2, d3] => { results := [.lit (.bool false)], args := [d1, d2, d3] }
  | _ => none }
def MeterBeginsWrongFalsely : Prop := meterBeginsRow.holds Try.pinned (OpenSpec.ofChange meterBeginsWrong)

/-- 'cartouchelaw20.TallyFirst': WHATEVER THE INPUT: true; the input reads as it did. -/
def tallyFirstSpec : ChangeSpec := { name := "tallyFirst", fn := fun _ => fun
  | [d] => { results := [.lit (.bool true)], args := [d] }
  | _ => none }
def tallyFirstRow : OpenClaim := { program := "ytndbgdcjhhjaiaa", sum := "2ee8441853f263430d382a699d67b1851d740b9a8366bf2a8013ba4fb00678b0", func := "cartouche/cartouchelaw20.TallyFirst", spec := "tallyFirst", inPlace := ["sync/atomic.AddInt64", "sync/atomic.LoadInt64", "sync/atomic.LoadUint32", "(*internal/sync.Mutex).Lock", "internal/race.Disable", "sync/atomic.CompareAndSwapInt32", "internal/race.Enable", "internal/race.Acquire", "(*internal/sync.Mutex).lockSlow", "internal/sync.runtime_canSpin", "internal/sync.runtime_doSpin", "internal/sync.throw", "internal/sync.runtime_nanotime", "internal/sync.runtime_SemacquireMutex", "sync/atomic.AddInt32", "(*internal/sync.Mutex).Unlock", "internal/race.ReleaseMerge", "(*internal/sync.Mutex).unlockSlow", "internal/sync.fatal", "internal/sync.runtime_Semrelease", "sync/atomic.StoreUint32"], unfollowed := true, recurses := true, apart := false }
def TallyFirstSaid : Prop := tallyFirstRow.holds Try.pinned (OpenSpec.ofChange tallyFirstSpec)

/-- ITS FALSE NEIGHBOUR: 'it returns false'. Refute it at one input. -/
def tallyFirstWrong : ChangeSpec := { name := "tallyFirst", fn := fun _ => fun
  | [d] => { results := [.lit (.bool false)], args := [d] }
  | _ => none }
def TallyFirstWrongFalsely : Prop := tallyFirstRow.holds Try.pinned (OpenSpec.ofChange tallyFirstWrong)

/-- 'cartouchelaw20.TallyMost': WHATEVER THE INPUT: true; the input reads as it did. -/
def tallyMostSpec : ChangeSpec := { name := "tallyMost", fn := fun _ => fun
  | [d] => { results := [.lit (.bool true)], args := [d] }
  | _ => none }
def tallyMostRow : OpenClaim := { program := "ytndbgdcjhhjaiaa", sum := "2ee8441853f263430d382a699d67b1851d740b9a8366bf2a8013ba4fb00678b0", func := "cartouche/cartouchelaw20.TallyMost", spec := "tallyMost", inPlace := ["sync/atomic.AddInt64", "sync/atomic.LoadInt64", "sync/atomic.LoadUint32", "(*internal/sync.Mutex).Lock", "internal/race.Disable", "sync/atomic.CompareAndSwapInt32", "internal/race.Enable", "internal/race.Acquire", "(*internal/sync.Mutex).lockSlow", "internal/sync.runtime_canSpin", "internal/sync.runtime_doSpin", "internal/sync.throw", "internal/sync.runtime_nanotime", "internal/sync.runtime_SemacquireMutex", "sync/atomic.AddInt32", "(*internal/sync.Mutex).Unlock", "internal/race.ReleaseMerge", "(*internal/sync.Mutex).unlockSlow", "internal/sync.fatal", "internal/sync.runtime_Semrelease", "sync/atomic.StoreUint32"], unfollowed := true, recurses := true, apart := false }
def TallyMostSaid : Prop := tallyMostRow.holds Try.pinned (OpenSpec.ofChange tallyMostSpec)

/-- ITS FALSE NEIGHBOUR: 'it returns false'. Refute it at one input. -/
def tallyMostWrong : ChangeSpec := { name := "tallyMost", fn := fun _ => fun
  | [d] => { results := [.lit (.bool false)], args := [d] }
  | _ => none }
def TallyMostWrongFalsely : Prop := tallyMostRow.holds Try.pinned (OpenSpec.ofChange tallyMostWrong)

/-- 'cartouchelaw20.TallyJoins': WHATEVER THE INPUT: true; the input reads as it did. -/
def tallyJoinsSpec : ChangeSpec := { name := "tallyJoins", fn := fun _ => fun
  | [d1, d2, d3] => { results := [.lit (.bool true)], args := [d1, d2, d3] }
  | _ => none }
def tallyJoinsRow : OpenClaim := { program := "ytndbgdcjhhjaiaa", sum := "2ee8441853f263430d382a699d67b1851d740b9a8366bf2a8013ba4fb00678b0", func := "cartouche/cartouchelaw20.TallyJoins", spec := "tallyJoins", inPlace := ["sync/atomic.AddInt64", "sync/atomic.LoadInt64", "sync/atomic.LoadUint32", "(*internal/sync.Mutex).Lock", "internal/race.Disable", "sync/atomic.CompareAndSwapInt32", "internal/race.Enable", "internal/race.Acquire", "(*internal/sync.Mutex).lockSlow", "internal/sync.runtime_canSpin", "internal/sync.runtime_doSpin", "internal/sync.throw", "internal/sync.runtime_nanotime", "internal/sync.runtime_SemacquireMutex", "sync/atomic.AddInt32", "(*internal/sync.Mutex).Unlock", "internal/race.ReleaseMerge", "(*internal/sync.Mutex).unlockSlow", "internal/sync.fatal", "internal/sync.runtime_Semrelease", "sync/atomic.StoreUint32"], unfollowed := true, recurses := true, apart := false }
def TallyJoinsSaid : Prop := tallyJoinsRow.holds Try.pinned (OpenSpec.ofChange tallyJoinsSpec)

/-- ITS FALSE NEIGHBOUR: 'it returns false'. Refute it at one input. -/
def tallyJoinsWrong : ChangeSpec := { name := "tallyJoins", fn := fun _ => fun
  | [d1, d2, d3] => { results := [.lit (.bool false)], args := [d1, d2, d3] }
  | _ => none }
def TallyJoinsWrongFalsely : Prop := tallyJoinsRow.holds Try.pinned (OpenSpec.ofChange tallyJoinsWrong)

/-- 'cartouchelaw20.TallyCounts': WHATEVER THE INPUT: true; the input reads as it did. -/
def tallyCountsSpec : ChangeSpec := { name := "tallyCounts", fn := fun _ => fun
  | [d1, d2] => { results := [.lit (.bool true)], args := [d1, d2] }
  | _ => none }
def tallyCountsRow : OpenClaim := { program := "ytndbgdcjhhjaiaa", sum := "2ee8441853f263430d382a699d67b1851d740b9a8366bf2a8013ba4fb00678b0", func := "cartouche/cartouchelaw20.TallyCounts", spec := "tallyCounts", inPlace := ["sync/atomic.AddInt64", "sync/atomic.LoadInt64", "sync/atomic.LoadUint32", "(*internal/sync.Mutex).Lock", "internal/race.Disable", "sync/atomic.CompareAndSwapInt32", "internal/race.Enable", "internal/race.Acquire", "(*internal/sync.Mutex).lockSlow", "internal/sync.runtime_canSpin", "internal/sync.runtime_doSpin", "internal/sync.throw", "internal/sync.runtime_nanotime", "internal/sync.runtime_SemacquireMutex", "sync/atomic.AddInt32", "(*internal/sync.Mutex).Unlock", "internal/race.ReleaseMerge", "(*internal/sync.Mutex).unlockSlow", "internal/sync.fatal", "internal/sync.runtime_Semrelease", "sync/atomic.StoreUint32"], unfollowed := true, recurses := true, apart := false }
def TallyCountsSaid : Prop := tallyCountsRow.holds Try.pinned (OpenSpec.ofChange tallyCountsSpec)

/-- ITS FALSE NEIGHBOUR: 'it returns false'. Refute it at one input. -/
def tallyCountsWrong : ChangeSpec := { name := "tallyCounts", fn := fun _ => fun
  | [d1, d2] => { results := [.lit (.bool false)], args := [d1, d2] }
  | _ => none }
def TallyCountsWrongFalsely : Prop := tallyCountsRow.holds Try.pinned (OpenSpec.ofChange tallyCountsWrong)

/- THE SECOND FORM. 'bulk': how many values and letters a reading holds, each counted each time it is reached (what is shared counts as often as it is met; a slice's spare places count too). A statement '..UptoSaid' is the law's where the arguments, and the package variables that the reading takes, are together of bulk at most 1048576: NARROWER than '..Said'. Prove '..Said' where nothing that the law and all that it calls make is longer than what came in: it says more and counts as full. Else prove '..UptoSaid'. A law counts once. -/
mutual
def uptoBulk {H : Type} : DataW H → Nat
  | .lit (.string bytes) => bytes.length + 1
  | .lit _ => 1
  | .nil => 1
  | .ptr d => uptoBulk d + 1
  | .slice elems spare => uptoBulkAll elems + uptoBulkAll spare + 1
  | .agg parts => uptoBulkAll parts + 1
  | .iface _ d => uptoBulk d + 1
  | .map entries => uptoBulkEntries entries + 1
  | .held _ => 1
def uptoBulkAll {H : Type} : List (DataW H) → Nat
  | [] => 0
  | d :: r => uptoBulk d + uptoBulkAll r
def uptoBulkEntries {H : Type} : List (Lit × DataW H) → Nat
  | [] => 0
  | x :: r => uptoBulkEntry x + uptoBulkEntries r
def uptoBulkEntry {H : Type} : Lit × DataW H → Nat
  | (.string bytes, d) => bytes.length + uptoBulk d + 1
  | (_, d) => uptoBulk d + 1
 end
def uptoSmall : (H : Type) → List (DataW H) → Bool := fun _ ds => decide (uptoBulkAll ds ≤ 1048576)
def OpenSpec.upto (s : _root_.Go.ChangeSpec) : _root_.Go.OpenSpec := { _root_.Go.OpenSpec.ofChange s with cond := some uptoSmall }

/-- 'cartouchelaw18.MeterSpends', WHERE WHAT IT READS IS OF BULK AT MOST 1048576: true; the input reads as it did. -/
def meterSpendsUptoRow : OpenClaim := { program := "ytndbgdcjhhjaiaa", sum := "2ee8441853f263430d382a699d67b1851d740b9a8366bf2a8013ba4fb00678b0", func := "cartouche/cartouchelaw18.MeterSpends", spec := "meterSpends", unfollowed := true, recurses := true, apart := false, narrowed := true }
def MeterSpendsUptoSaid : Prop := meterSpendsUptoRow.holds Try.pinned (OpenSpec.upto meterSpendsSpec)

/-- 'cartouchelaw18.MeterMost', WHERE WHAT IT READS IS OF BULK AT MOST 1048576: true; the input reads as it did. -/
def meterMostUptoRow : OpenClaim := { program := "ytndbgdcjhhjaiaa", sum := "2ee8441853f263430d382a699d67b1851d740b9a8366bf2a8013ba4fb00678b0", func := "cartouche/cartouchelaw18.MeterMost", spec := "meterMost", unfollowed := true, recurses := true, apart := false, narrowed := true }
def MeterMostUptoSaid : Prop := meterMostUptoRow.holds Try.pinned (OpenSpec.upto meterMostSpec)

/-- 'cartouchelaw18.MeterAnew', WHERE WHAT IT READS IS OF BULK AT MOST 1048576: true; the input reads as it did. -/
def meterAnewUptoRow : OpenClaim := { program := "ytndbgdcjhhjaiaa", sum := "2ee8441853f263430d382a699d67b1851d740b9a8366bf2a8013ba4fb00678b0", func := "cartouche/cartouchelaw18.MeterAnew", spec := "meterAnew", unfollowed := true, recurses := true, apart := false, narrowed := true }
def MeterAnewUptoSaid : Prop := meterAnewUptoRow.holds Try.pinned (OpenSpec.upto meterAnewSpec)

/-- 'cartouchelaw18.MeterZero', WHERE WHAT IT READS IS OF BULK AT MOST 1048576: true; the input reads as it did. -/
def meterZeroUptoRow : OpenClaim := { program := "ytndbgdcjhhjaiaa", sum := "2ee8441853f263430d382a699d67b1851d740b9a8366bf2a8013ba4fb00678b0", func := "cartouche/cartouchelaw18.MeterZero", spec := "meterZero", unfollowed := true, recurses := true, apart := false, narrowed := true }
def MeterZeroUptoSaid : Prop := meterZeroUptoRow.holds Try.pinned (OpenSpec.upto meterZeroSpec)

/-- 'cartouchelaw18.MeterBegins', WHERE WHAT IT READS IS OF BULK AT MOST 1048576: true; the input reads as it did. -/
def meterBeginsUptoRow : OpenClaim := { program := "ytndbgdcjhhjaiaa", sum := "2ee8441853f263430d382a699d67b1851d740b9a8366bf2a8013ba4fb00678b0", func := "cartouche/cartouchelaw18.MeterBegins", spec := "meterBegins", unfollowed := true, recurses := true, apart := false, narrowed := true }
def MeterBeginsUptoSaid : Prop := meterBeginsUptoRow.holds Try.pinned (OpenSpec.upto meterBeginsSpec)

/-- 'cartouchelaw20.TallyFirst', WHERE WHAT IT READS IS OF BULK AT MOST 1048576: true; the input reads as it did. -/
def tallyFirstUptoRow : OpenClaim := { program := "ytndbgdcjhhjaiaa", sum := "2ee8441853f263430d382a699d67b1851d740b9a8366bf2a8013ba4fb00678b0", func := "cartouche/cartouchelaw20.TallyFirst", spec := "tallyFirst", inPlace := ["sync/atomic.AddInt64", "sync/atomic.LoadInt64", "sync/atomic.LoadUint32", "(*internal/sync.Mutex).Lock", "internal/race.Disable", "sync/atomic.CompareAndSwapInt32", "internal/race.Enable", "internal/race.Acquire", "(*internal/sync.Mutex).lockSlow", "internal/sync.runtime_canSpin", "internal/sync.runtime_doSpin", "internal/sync.throw", "internal/sync.runtime_nanotime", "internal/sync.runtime_SemacquireMutex", "sync/atomic.AddInt32", "(*internal/sync.Mutex).Unlock", "internal/race.ReleaseMerge", "(*internal/sync.Mutex).unlockSlow", "internal/sync.fatal", "internal/sync.runtime_Semrelease", "sync/atomic.StoreUint32"], unfollowed := true, recurses := true, apart := false, narrowed := true }
def TallyFirstUptoSaid : Prop := tallyFirstUptoRow.holds Try.pinned (OpenSpec.upto tallyFirstSpec)

/-- 'cartouchelaw20.TallyMost', WHERE WHAT IT READS IS OF BULK AT MOST 1048576: true; the input reads as it did. -/
def tallyMostUptoRow : OpenClaim := { program := "ytndbgdcjhhjaiaa", sum := "2ee8441853f263430d382a699d67b1851d740b9a8366bf2a8013ba4fb00678b0", func := "cartouche/cartouchelaw20.TallyMost", spec := "tallyMost", inPlace := ["sync/atomic.AddInt64", "sync/atomic.LoadInt64", "sync/atomic.LoadUint32", "(*internal/sync.Mutex).Lock", "internal/race.Disable", "sync/atomic.CompareAndSwapInt32", "internal/race.Enable", "internal/race.Acquire", "(*internal/sync.Mutex).lockSlow", "internal/sync.runtime_canSpin", "internal/sync.runtime_doSpin", "internal/sync.throw", "internal/sync.runtime_nanotime", "internal/sync.runtime_SemacquireMutex", "sync/atomic.AddInt32", "(*internal/sync.Mutex).Unlock", "internal/race.ReleaseMerge", "(*internal/sync.Mutex).unlockSlow", "internal/sync.fatal", "internal/sync.runtime_Semrelease", "sync/atomic.StoreUint32"], unfollowed := true, recurses := true, apart := false, narrowed := true }
def TallyMostUptoSaid : Prop := tallyMostUptoRow.holds Try.pinned (OpenSpec.upto tallyMostSpec)

/-- 'cartouchelaw20.TallyJoins', WHERE WHAT IT READS IS OF BULK AT MOST 1048576: true; the input reads as it did. -/
def tallyJoinsUptoRow : OpenClaim := { program := "ytndbgdcjhhjaiaa", sum := "2ee8441853f263430d382a699d67b1851d740b9a8366bf2a8013ba4fb00678b0", func := "cartouche/cartouchelaw20.TallyJoins", spec := "tallyJoins", inPlace := ["sync/atomic.AddInt64", "sync/atomic.LoadInt64", "sync/atomic.LoadUint32", "(*internal/sync.Mutex).Lock", "internal/race.Disable", "sync/atomic.CompareAndSwapInt32", "internal/race.Enable", "internal/race.Acquire", "(*internal/sync.Mutex).lockSlow", "internal/sync.runtime_canSpin", "internal/sync.runtime_doSpin", "internal/sync.throw", "internal/sync.runtime_nanotime", "internal/sync.runtime_SemacquireMutex", "sync/atomic.AddInt32", "(*internal/sync.Mutex).Unlock", "internal/race.ReleaseMerge", "(*internal/sync.Mutex).unlockSlow", "internal/sync.fatal", "internal/sync.runtime_Semrelease", "sync/atomic.StoreUint32"], unfollowed := true, recurses := true, apart := false, narrowed := true }
def TallyJoinsUptoSaid : Prop := tallyJoinsUptoRow.holds Try.pinned (OpenSpec.upto tallyJoinsSpec)

/-- 'cartouchelaw20.TallyCounts', WHERE WHAT IT READS IS OF BULK AT MOST 1048576: true; the input reads as it did. -/
def tallyCountsUptoRow : OpenClaim := { program := "ytndbgdcjhhjaiaa", sum := "2ee8441853f263430d382a699d67b1851d740b9a8366bf2a8013ba4fb00678b0", func := "cartouche/cartouchelaw20.TallyCounts", spec := "tallyCounts", inPlace := ["sync/atomic.AddInt64", "sync/atomic.LoadInt64", "sync/atomic.LoadUint32", "(*internal/sync.Mutex).Lock", "internal/race.Disable", "sync/atomic.CompareAndSwapInt32", "internal/race.Enable", "internal/race.Acquire", "(*internal/sync.Mutex).lockSlow", "internal/sync.runtime_canSpin", "internal/sync.runtime_doSpin", "internal/sync.throw", "internal/sync.runtime_nanotime", "internal/sync.runtime_SemacquireMutex", "sync/atomic.AddInt32", "(*internal/sync.Mutex).Unlock", "internal/race.ReleaseMerge", "(*internal/sync.Mutex).unlockSlow", "internal/sync.fatal", "internal/sync.runtime_Semrelease", "sync/atomic.StoreUint32"], unfollowed := true, recurses := true, apart := false, narrowed := true }
def TallyCountsUptoSaid : Prop := tallyCountsUptoRow.holds Try.pinned (OpenSpec.upto tallyCountsSpec)

end Rows
end Go.Proofs.Ytndbgdcjhhjaiaa
