/-
  No cell of these rows narrows 'for every input' (looked for: loops, veiled, ifaces, maps, wideKeys, modest, calm, conditions, laid).
  DERIVED. THE GIVEN ROWS OF THIS SEAT. 10 by the template 'for every input the law returns true; each argument reads behind the call as it read before'; 0 by the template 'total and deterministic' (their statements: YtkgonihoeghphaaTotals.lean).
  GIVEN WITH THE SEED: the statements are not yours to turn. If you find one false, say at which input.
  Laid BY PROGRAM, IN A SANDBOX (cutbox-rows.mjs): the forced cells as the released guide's own fill.sh prints them over the translation 3a2e6f81ac75c358… (all of the seat's roots in one cut). By AI agents, Wed Nov 11 2026. No macro, syntax, notation, axiom, sorry.
-/
import Derived.Test.YtkgonihoeghphaaChecked
import GoSem.Claim
import GoSem.ClaimJoined
import GoSem.ClaimMapViews
import Derived.JoinedTies
import Derived.KernelRfl
namespace Go.Proofs.Ytkgonihoeghphaa
/- THE CELL 'sum', in the pinned program and in every row, IS THE sha256 OF THE DUMP (.gsa) THAT YtkgonihoeghphaaProg.lean LOADS. Nothing in Lean hashes anything: it is a label: what it is worth is what the hold of that sum in a sandbox is worth. -/
noncomputable def Try.pinned : Pinned := { name := "ytkgonihoeghphaa", sum := "3a2e6f81ac75c358560936b6c44437753b79486258fb26aae5f620388c138bde", checked := Try.checked }
namespace Rows
def none {H : Type} : Left H := { results := [], args := [] }

/-- 'cartouchelaw01.LumpTakes': WHATEVER THE INPUT: true; the input reads as it did. -/
def lumpTakesSpec : ChangeSpec := { name := "lumpTakes", fn := fun _ => fun
  | [d] => { results := [.lit (.bool true)], args := [d] }
  | _ => none }
def lumpTakesRow : OpenClaim := { program := "ytkgonihoeghphaa", sum := "3a2e6f81ac75c358560936b6c44437753b79486258fb26aae5f620388c138bde", func := "cartouche/cartouchelaw01.LumpTakes", spec := "lumpTakes", apart := false }
def LumpTakesSaid : Prop := lumpTakesRow.holds Try.pinned (OpenSpec.ofChange lumpTakesSpec)

/-- ITS FALSE NEIGHBOUR: 'it returns false'. Refute it at one input. -/
def lumpTakesWrong : ChangeSpec := { name := "lumpTakes", fn := fun _ => fun
  | [d] => { results := [.lit (.bool false)], args := [d] }
  | _ => none }
def LumpTakesWrongFalsely : Prop := lumpTakesRow.holds Try.pinned (OpenSpec.ofChange lumpTakesWrong)

/-- 'cartouchelaw01.LumpShort': WHATEVER THE INPUT: true; the input reads as it did. -/
def lumpShortSpec : ChangeSpec := { name := "lumpShort", fn := fun _ => fun
  | [d1, d2] => { results := [.lit (.bool true)], args := [d1, d2] }
  | _ => none }
def lumpShortRow : OpenClaim := { program := "ytkgonihoeghphaa", sum := "3a2e6f81ac75c358560936b6c44437753b79486258fb26aae5f620388c138bde", func := "cartouche/cartouchelaw01.LumpShort", spec := "lumpShort", apart := false }
def LumpShortSaid : Prop := lumpShortRow.holds Try.pinned (OpenSpec.ofChange lumpShortSpec)

/-- ITS FALSE NEIGHBOUR: 'it returns false'. Refute it at one input. -/
def lumpShortWrong : ChangeSpec := { name := "lumpShort", fn := fun _ => fun
  | [d1, d2] => { results := [.lit (.bool false)], args := [d1, d2] }
  | _ => none }
def LumpShortWrongFalsely : Prop := lumpShortRow.holds Try.pinned (OpenSpec.ofChange lumpShortWrong)

/-- 'cartouchelaw01.LumpNums': WHATEVER THE INPUT: true; the input reads as it did. -/
def lumpNumsSpec : ChangeSpec := { name := "lumpNums", fn := fun _ => fun
  | [d1, d2] => { results := [.lit (.bool true)], args := [d1, d2] }
  | _ => none }
def lumpNumsRow : OpenClaim := { program := "ytkgonihoeghphaa", sum := "3a2e6f81ac75c358560936b6c44437753b79486258fb26aae5f620388c138bde", func := "cartouche/cartouchelaw01.LumpNums", spec := "lumpNums", apart := false }
def LumpNumsSaid : Prop := lumpNumsRow.holds Try.pinned (OpenSpec.ofChange lumpNumsSpec)

/-- ITS FALSE NEIGHBOUR: 'it returns false'. Refute it at one input. -/
def lumpNumsWrong : ChangeSpec := { name := "lumpNums", fn := fun _ => fun
  | [d1, d2] => { results := [.lit (.bool false)], args := [d1, d2] }
  | _ => none }
def LumpNumsWrongFalsely : Prop := lumpNumsRow.holds Try.pinned (OpenSpec.ofChange lumpNumsWrong)

/-- 'cartouchelaw01.LumpTexts': WHATEVER THE INPUT: true; the input reads as it did. -/
def lumpTextsSpec : ChangeSpec := { name := "lumpTexts", fn := fun _ => fun
  | [d1, d2] => { results := [.lit (.bool true)], args := [d1, d2] }
  | _ => none }
def lumpTextsRow : OpenClaim := { program := "ytkgonihoeghphaa", sum := "3a2e6f81ac75c358560936b6c44437753b79486258fb26aae5f620388c138bde", func := "cartouche/cartouchelaw01.LumpTexts", spec := "lumpTexts", apart := false }
def LumpTextsSaid : Prop := lumpTextsRow.holds Try.pinned (OpenSpec.ofChange lumpTextsSpec)

/-- ITS FALSE NEIGHBOUR: 'it returns false'. Refute it at one input. -/
def lumpTextsWrong : ChangeSpec := { name := "lumpTexts", fn := fun _ => fun
  | [d1, d2] => { results := [.lit (.bool false)], args := [d1, d2] }
  | _ => none }
def LumpTextsWrongFalsely : Prop := lumpTextsRow.holds Try.pinned (OpenSpec.ofChange lumpTextsWrong)

/-- 'cartouchelaw01.LumpBack': WHATEVER THE INPUT: true; the input reads as it did. -/
def lumpBackSpec : ChangeSpec := { name := "lumpBack", fn := fun _ => fun
  | [d] => { results := [.lit (.bool true)], args := [d] }
  | _ => none }
def lumpBackRow : OpenClaim := { program := "ytkgonihoeghphaa", sum := "3a2e6f81ac75c358560936b6c44437753b79486258fb26aae5f620388c138bde", func := "cartouche/cartouchelaw01.LumpBack", spec := "lumpBack", apart := false }
def LumpBackSaid : Prop := lumpBackRow.holds Try.pinned (OpenSpec.ofChange lumpBackSpec)

/-- ITS FALSE NEIGHBOUR: 'it returns false'. Refute it at one input. -/
def lumpBackWrong : ChangeSpec := { name := "lumpBack", fn := fun _ => fun
  | [d] => { results := [.lit (.bool false)], args := [d] }
  | _ => none }
def LumpBackWrongFalsely : Prop := lumpBackRow.holds Try.pinned (OpenSpec.ofChange lumpBackWrong)

/-- 'cartouchelaw01.LumpJoin': WHATEVER THE INPUT: true; the input reads as it did. -/
def lumpJoinSpec : ChangeSpec := { name := "lumpJoin", fn := fun _ => fun
  | [d1, d2] => { results := [.lit (.bool true)], args := [d1, d2] }
  | _ => none }
def lumpJoinRow : OpenClaim := { program := "ytkgonihoeghphaa", sum := "3a2e6f81ac75c358560936b6c44437753b79486258fb26aae5f620388c138bde", func := "cartouche/cartouchelaw01.LumpJoin", spec := "lumpJoin", apart := false }
def LumpJoinSaid : Prop := lumpJoinRow.holds Try.pinned (OpenSpec.ofChange lumpJoinSpec)

/-- ITS FALSE NEIGHBOUR: 'it returns false'. Refute it at one input. -/
def lumpJoinWrong : ChangeSpec := { name := "lumpJoin", fn := fun _ => fun
  | [d1, d2] => { results := [.lit (.bool false)], args := [d1, d2] }
  | _ => none }
def LumpJoinWrongFalsely : Prop := lumpJoinRow.holds Try.pinned (OpenSpec.ofChange lumpJoinWrong)

/-- 'cartouchelaw01.LumpApart': WHATEVER THE INPUT: true; the input reads as it did. -/
def lumpApartSpec : ChangeSpec := { name := "lumpApart", fn := fun _ => fun
  | [d1, d2] => { results := [.lit (.bool true)], args := [d1, d2] }
  | _ => none }
def lumpApartRow : OpenClaim := { program := "ytkgonihoeghphaa", sum := "3a2e6f81ac75c358560936b6c44437753b79486258fb26aae5f620388c138bde", func := "cartouche/cartouchelaw01.LumpApart", spec := "lumpApart", inPlace := ["internal/abi.NoEscape"], apart := false }
def LumpApartSaid : Prop := lumpApartRow.holds Try.pinned (OpenSpec.ofChange lumpApartSpec)

/-- ITS FALSE NEIGHBOUR: 'it returns false'. Refute it at one input. -/
def lumpApartWrong : ChangeSpec := { name := "lumpApart", fn := fun _ => fun
  | [d1, d2] => { results := [.lit (.bool false)], args := [d1, d2] }
  | _ => none }
def LumpApartWrongFalsely : Prop := lumpApartRow.holds Try.pinned (OpenSpec.ofChange lumpApartWrong)

/-- 'cartouchelaw01.LumpRows': WHATEVER THE INPUT: true; the input reads as it did. -/
def lumpRowsSpec : ChangeSpec := { name := "lumpRows", fn := fun _ => fun
  | [d] => { results := [.lit (.bool true)], args := [d] }
  | _ => none }
def lumpRowsRow : OpenClaim := { program := "ytkgonihoeghphaa", sum := "3a2e6f81ac75c358560936b6c44437753b79486258fb26aae5f620388c138bde", func := "cartouche/cartouchelaw01.LumpRows", spec := "lumpRows", inPlace := ["internal/abi.NoEscape"], apart := false }
def LumpRowsSaid : Prop := lumpRowsRow.holds Try.pinned (OpenSpec.ofChange lumpRowsSpec)

/-- ITS FALSE NEIGHBOUR: 'it returns false'. Refute it at one input. -/
def lumpRowsWrong : ChangeSpec := { name := "lumpRows", fn := fun _ => fun
  | [d] => { results := [.lit (.bool false)], args := [d] }
  | _ => none }
def LumpRowsWrongFalsely : Prop := lumpRowsRow.holds Try.pinned (OpenSpec.ofChange lumpRowsWrong)

/-- 'cartouchelaw01.LumpRowBack': WHATEVER THE INPUT: true; the input reads as it did. -/
def lumpRowBackSpec : ChangeSpec := { name := "lumpRowBack", fn := fun _ => fun
  | [d1, d2] => { results := [.lit (.bool true)], args := [d1, d2] }
  | _ => none }
def lumpRowBackRow : OpenClaim := { program := "ytkgonihoeghphaa", sum := "3a2e6f81ac75c358560936b6c44437753b79486258fb26aae5f620388c138bde", func := "cartouche/cartouchelaw01.LumpRowBack", spec := "lumpRowBack", inPlace := ["internal/abi.NoEscape"], apart := false }
def LumpRowBackSaid : Prop := lumpRowBackRow.holds Try.pinned (OpenSpec.ofChange lumpRowBackSpec)

/-- ITS FALSE NEIGHBOUR: 'it returns false'. Refute it at one input. -/
def lumpRowBackWrong : ChangeSpec := { name := "lumpRowBack", fn := fun _ => fun
  | [d1, d2] => { results := [.lit (.bool false)], args := [d1, d2] }
  | _ => none }
def LumpRowBackWrongFalsely : Prop := lumpRowBackRow.holds Try.pinned (OpenSpec.ofChange lumpRowBackWrong)

/-- 'cartouchelaw01.LumpCut': WHATEVER THE INPUT: true; the input reads as it did. -/
def lumpCutSpec : ChangeSpec := { name := "lumpCut", fn := fun _ => fun
  | [d1, d2, d3] => { results := [.lit (.bool true)], args := [d1, d2, d3] }
  | _ => none }
def lumpCutRow : OpenClaim := { program := "ytkgonihoeghphaa", sum := "3a2e6f81ac75c358560936b6c44437753b79486258fb26aae5f620388c138bde", func := "cartouche/cartouchelaw01.LumpCut", spec := "lumpCut", inPlace := ["internal/abi.NoEscape"], apart := false }
def LumpCutSaid : Prop := lumpCutRow.holds Try.pinned (OpenSpec.ofChange lumpCutSpec)

/-- ITS FALSE NEIGHBOUR: 'it returns false'. Refute it at one input. -/
def lumpCutWrong : ChangeSpec := { name := "lumpCut", fn := fun _ => fun
  | [d1, d2, d3] => { results := [.lit (.bool false)], args := [d1, d2, d3] }
  | _ => none }
def LumpCutWrongFalsely : Prop := lumpCutRow.holds Try.pinned (OpenSpec.ofChange lumpCutWrong)

/- THE SECOND FORM. 'bulk': how many values and letters a reading holds, each counted each time it is reached (what is shared counts as often as it is met; a slice's spare places count too). A statement '..UptoSaid' is the law's where the arguments, and the package variables that the reading takes, are together of bulk at most 1048576: NARROWER than '..Said'. Prove '..Said' where nothing that the law and all that it calls make is longer than what came in: it says more and counts as full. Else prove '..UptoSaid'. A law counts once. -/
mutual
def uptoBulk {H : Type} : DataW H → Nat
  | .lit (.string bytes) => bytes.length + 1
  | .lit _ => 1
  | .nil => 1
  | .ptr d => uptoBulk d + 1
  | .slice elems spare => uptoBulkAll elems + uptoBulkAll spare + 1
  | .agg parts => uptoBulkAll parts + 1
  | .iface _ d => uptoBulk d + 1
  | .map entries => uptoBulkEntries entries + 1
  | .held _ => 1
def uptoBulkAll {H : Type} : List (DataW H) → Nat
  | [] => 0
  | d :: r => uptoBulk d + uptoBulkAll r
def uptoBulkEntries {H : Type} : List (Lit × DataW H) → Nat
  | [] => 0
  | x :: r => uptoBulkEntry x + uptoBulkEntries r
def uptoBulkEntry {H : Type} : Lit × DataW H → Nat
  | (.string bytes, d) => bytes.length + uptoBulk d + 1
  | (_, d) => uptoBulk d + 1
 end
def uptoSmall : (H : Type) → List (DataW H) → Bool := fun _ ds => decide (uptoBulkAll ds ≤ 1048576)
def OpenSpec.upto (s : _root_.Go.ChangeSpec) : _root_.Go.OpenSpec := { _root_.Go.OpenSpec.ofChange s with cond := some uptoSmall }

/-- 'cartouchelaw01.LumpTakes', WHERE WHAT IT READS IS OF BULK AT MOST 1048576: true; the input reads as it did. -/
def lumpTakesUptoRow : OpenClaim := { program := "ytkgonihoeghphaa", sum := "3a2e6f81ac75c358560936b6c44437753b79486258fb26aae5f620388c138bde", func := "cartouche/cartouchelaw01.LumpTakes", spec := "lumpTakes", apart := false, narrowed := true }
def LumpTakesUptoSaid : Prop := lumpTakesUptoRow.holds Try.pinned (OpenSpec.upto lumpTakesSpec)

/-- 'cartouchelaw01.LumpShort', WHERE WHAT IT READS IS OF BULK AT MOST 1048576: true; the input reads as it did. -/
def lumpShortUptoRow : OpenClaim := { program := "ytkgonihoeghphaa", sum := "3a2e6f81ac75c358560936b6c44437753b79486258fb26aae5f620388c138bde", func := "cartouche/cartouchelaw01.LumpShort", spec := "lumpShort", apart := false, narrowed := true }
def LumpShortUptoSaid : Prop := lumpShortUptoRow.holds Try.pinned (OpenSpec.upto lumpShortSpec)

/-- 'cartouchelaw01.LumpNums', WHERE WHAT IT READS IS OF BULK AT MOST 1048576: true; the input reads as it did. -/
def lumpNumsUptoRow : OpenClaim := { program := "ytkgonihoeghphaa", sum := "3a2e6f81ac75c358560936b6c44437753b79486258fb26aae5f620388c138bde", func := "cartouche/cartouchelaw01.LumpNums", spec := "lumpNums", apart := false, narrowed := true }
def LumpNumsUptoSaid : Prop := lumpNumsUptoRow.holds Try.pinned (OpenSpec.upto lumpNumsSpec)

/-- 'cartouchelaw01.LumpTexts', WHERE WHAT IT READS IS OF BULK AT MOST 1048576: true; the input reads as it did. -/
def lumpTextsUptoRow : OpenClaim := { program := "ytkgonihoeghphaa", sum := "3a2e6f81ac75c358560936b6c44437753b79486258fb26aae5f620388c138bde", func := "cartouche/cartouchelaw01.LumpTexts", spec := "lumpTexts", apart := false, narrowed := true }
def LumpTextsUptoSaid : Prop := lumpTextsUptoRow.holds Try.pinned (OpenSpec.upto lumpTextsSpec)

/-- 'cartouchelaw01.LumpBack', WHERE WHAT IT READS IS OF BULK AT MOST 1048576: true; the input reads as it did. -/
def lumpBackUptoRow : OpenClaim := { program := "ytkgonihoeghphaa", sum := "3a2e6f81ac75c358560936b6c44437753b79486258fb26aae5f620388c138bde", func := "cartouche/cartouchelaw01.LumpBack", spec := "lumpBack", apart := false, narrowed := true }
def LumpBackUptoSaid : Prop := lumpBackUptoRow.holds Try.pinned (OpenSpec.upto lumpBackSpec)

/-- 'cartouchelaw01.LumpJoin', WHERE WHAT IT READS IS OF BULK AT MOST 1048576: true; the input reads as it did. -/
def lumpJoinUptoRow : OpenClaim := { program := "ytkgonihoeghphaa", sum := "3a2e6f81ac75c358560936b6c44437753b79486258fb26aae5f620388c138bde", func := "cartouche/cartouchelaw01.LumpJoin", spec := "lumpJoin", apart := false, narrowed := true }
def LumpJoinUptoSaid : Prop := lumpJoinUptoRow.holds Try.pinned (OpenSpec.upto lumpJoinSpec)

/-- 'cartouchelaw01.LumpApart', WHERE WHAT IT READS IS OF BULK AT MOST 1048576: true; the input reads as it did. -/
def lumpApartUptoRow : OpenClaim := { program := "ytkgonihoeghphaa", sum := "3a2e6f81ac75c358560936b6c44437753b79486258fb26aae5f620388c138bde", func := "cartouche/cartouchelaw01.LumpApart", spec := "lumpApart", inPlace := ["internal/abi.NoEscape"], apart := false, narrowed := true }
def LumpApartUptoSaid : Prop := lumpApartUptoRow.holds Try.pinned (OpenSpec.upto lumpApartSpec)

/-- 'cartouchelaw01.LumpRows', WHERE WHAT IT READS IS OF BULK AT MOST 1048576: true; the input reads as it did. -/
def lumpRowsUptoRow : OpenClaim := { program := "ytkgonihoeghphaa", sum := "3a2e6f81ac75c358560936b6c44437753b79486258fb26aae5f620388c138bde", func := "cartouche/cartouchelaw01.LumpRows", spec := "lumpRows", inPlace := ["internal/abi.NoEscape"], apart := false, narrowed := true }
def LumpRowsUptoSaid : Prop := lumpRowsUptoRow.holds Try.pinned (OpenSpec.upto lumpRowsSpec)

/-- 'cartouchelaw01.LumpRowBack', WHERE WHAT IT READS IS OF BULK AT MOST 1048576: true; the input reads as it did. -/
def lumpRowBackUptoRow : OpenClaim := { program := "ytkgonihoeghphaa", sum := "3a2e6f81ac75c358560936b6c44437753b79486258fb26aae5f620388c138bde", func := "cartouche/cartouchelaw01.LumpRowBack", spec := "lumpRowBack", inPlace := ["internal/abi.NoEscape"], apart := false, narrowed := true }
def LumpRowBackUptoSaid : Prop := lumpRowBackUptoRow.holds Try.pinned (OpenSpec.upto lumpRowBackSpec)

/-- 'cartouchelaw01.LumpCut', WHERE WHAT IT READS IS OF BULK AT MOST 1048576: true; the input reads as it did. -/
def lumpCutUptoRow : OpenClaim := { program := "ytkgonihoeghphaa", sum := "3a2e6f81ac75c358560936b6c44437753b79486258fb26aae5f620388c138bde", func := "cartouche/cartouchelaw01.LumpCut", spec := "lumpCut", inPlace := ["internal/abi.NoEscape"], apart := false, narrowed := true }
def LumpCutUptoSaid : Prop := lumpCutUptoRow.holds Try.pinned (OpenSpec.upto lumpCutSpec)

end Rows
end Go.Proofs.Ytkgonihoeghphaa
