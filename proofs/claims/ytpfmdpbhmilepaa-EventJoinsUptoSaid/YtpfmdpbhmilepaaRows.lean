/-
  No cell of these rows narrows 'for every input' (looked for: loops, veiled, ifaces, maps, wideKeys, modest, calm, conditions, laid).
  DERIVED. THE GIVEN ROWS OF THIS SEAT. 7 by the template 'for every input the law returns true; each argument reads behind the call as it read before'; 0 by the template 'total and deterministic' (their statements: YtpfmdpbhmilepaaTotals.lean).
  GIVEN WITH THE SEED: the statements are not yours to turn. If you find one false, say at which input.
  Laid BY PROGRAM, IN A SANDBOX (cutbox-rows.mjs): the forced cells as the released guide's own fill.sh prints them over the translation 627bcc6c3b1bf7a4… (all of the seat's roots in one cut). By AI agents, Wed Nov 11 2026. No macro, syntax, notation, axiom, sorry.
-/
import Derived.Test.YtpfmdpbhmilepaaChecked
import GoSem.Claim
import GoSem.ClaimJoined
import GoSem.ClaimMapViews
import Derived.JoinedTies
import Derived.KernelRfl
namespace Go.Proofs.Ytpfmdpbhmilepaa
/- THE CELL 'sum', in the pinned program and in every row, IS THE sha256 OF THE DUMP (.gsa) THAT YtpfmdpbhmilepaaProg.lean LOADS. Nothing in Lean hashes anything: it is a label: what it is worth is what the hold of that sum in a sandbox is worth. -/
noncomputable def Try.pinned : Pinned := { name := "ytpfmdpbhmilepaa", sum := "627bcc6c3b1bf7a43eefa8078c99c590a5ae594e9f7a97abb97e18c46e84b710", checked := Try.checked }
namespace Rows
def none {H : Type} : Left H := { results := [], args := [] }

/-- 'cartouchelaw06.EventSizes': WHATEVER THE INPUT: true; the input reads as it did. -/
def eventSizesSpec : ChangeSpec := { name := "eventSizes", fn := fun _ => fun
  | [d] => { results := [.lit (.bool true)], args := [d] }
  | _ => none }
def eventSizesRow : OpenClaim := { program := "ytpfmdpbhmilepaa", sum := "627bcc6c3b1bf7a43eefa8078c99c590a5ae594e9f7a97abb97e18c46e84b710", func := "cartouche/cartouchelaw06.EventSizes", spec := "eventSizes", unfollowed := true, recurses := true, apart := false }
def EventSizesSaid : Prop := eventSizesRow.holds Try.pinned (OpenSpec.ofChange eventSizesSpec)

/-- ITS FALSE NEIGHBOUR: 'it returns false'. Refute it at one input. -/
def eventSizesWrong : ChangeSpec := { name := "eventSizes", fn := fun _ => fun
  | [d] => { results := [.lit (.bool false)], args := [d] }
  | _ => none }
def EventSizesWrongFalsely : Prop := eventSizesRow.holds Try.pinned (OpenSpec.ofChange eventSizesWrong)

/-- 'cartouchelaw06.EventJoins': WHATEVER THE INPUT: true; the input reads as it did. -/
def eventJoinsSpec : ChangeSpec := { name := "eventJoins", fn := fun _ => fun
  | [d1, d2] => { results := [.lit (.bool true)], args := [d1, d2] }
  | _ => none }
def eventJoinsRow : OpenClaim := { program := "ytpfmdpbhmilepaa", sum := "627bcc6c3b1bf7a43eefa8078c99c590a5ae594e9f7a97abb97e18c46e84b710", func := "cartouche/cartouchelaw06.EventJoins", spec := "eventJoins", unfollowed := true, recurses := true, apart := false }
def EventJoinsSaid : Prop := eventJoinsRow.holds Try.pinned (OpenSpec.ofChange eventJoinsSpec)

/-- ITS FALSE NEIGHBOUR: 'it returns false'. Refute it at one input. -/
def eventJoinsWrong : ChangeSpec := { name := "eventJoins", fn := fun _ => fun
  | [d1, d2] => { results := [.lit (.bool false)], args := [d1, d2] }
  | _ => none }
def EventJoinsWrongFalsely : Prop := eventJoinsRow.holds Try.pinned (OpenSpec.ofChange eventJoinsWrong)

/-- 'cartouchelaw06.EventBytes': WHATEVER THE INPUT: true; the input reads as it did. -/
def eventBytesSpec : ChangeSpec := { name := "eventBytes", fn := fun _ => fun
  | [d1, d2] => { results := [.lit (.bool true)], args := [d1, d2] }
  | _ => none }
def eventBytesRow : OpenClaim := { program := "ytpfmdpbhmilepaa", sum := "627bcc6c3b1bf7a43eefa8078c99c590a5ae594e9f7a97abb97e18c46e84b710", func := "cartouche/cartouchelaw06.EventBytes", spec := "eventBytes", unfollowed := true, recurses := true, apart := false }
def EventBytesSaid : Prop := eventBytesRow.holds Try.pinned (OpenSpec.ofChange eventBytesSpec)

/-- ITS FALSE NEIGHBOUR: 'it returns false'. Refute it at one input. -/
def eventBytesWrong : ChangeSpec := { name := "eventBytes", fn := fun _ => fun
  | [d1, d2] => { results := [.lit (.bool false)], args := [d1, d2] }
  | _ => none }
def EventBytesWrongFalsely : Prop := eventBytesRow.holds Try.pinned (OpenSpec.ofChange eventBytesWrong)

/-- 'cartouchelaw06.EventBack': WHATEVER THE INPUT: true; the input reads as it did. -/
def eventBackSpec : ChangeSpec := { name := "eventBack", fn := fun _ => fun
  | [d1, d2] => { results := [.lit (.bool true)], args := [d1, d2] }
  | _ => none }
def eventBackRow : OpenClaim := { program := "ytpfmdpbhmilepaa", sum := "627bcc6c3b1bf7a43eefa8078c99c590a5ae594e9f7a97abb97e18c46e84b710", func := "cartouche/cartouchelaw06.EventBack", spec := "eventBack", unfollowed := true, recurses := true, apart := false }
def EventBackSaid : Prop := eventBackRow.holds Try.pinned (OpenSpec.ofChange eventBackSpec)

/-- ITS FALSE NEIGHBOUR: 'it returns false'. Refute it at one input. -/
def eventBackWrong : ChangeSpec := { name := "eventBack", fn := fun _ => fun
  | [d1, d2] => { results := [.lit (.bool false)], args := [d1, d2] }
  | _ => none }
def EventBackWrongFalsely : Prop := eventBackRow.holds Try.pinned (OpenSpec.ofChange eventBackWrong)

/-- 'cartouchelaw06.EventApart': WHATEVER THE INPUT: true; the input reads as it did. -/
def eventApartSpec : ChangeSpec := { name := "eventApart", fn := fun _ => fun
  | [d1, d2, d3] => { results := [.lit (.bool true)], args := [d1, d2, d3] }
  | _ => none }
def eventApartRow : OpenClaim := { program := "ytpfmdpbhmilepaa", sum := "627bcc6c3b1bf7a43eefa8078c99c590a5ae594e9f7a97abb97e18c46e84b710", func := "cartouche/cartouchelaw06.EventApart", spec := "eventApart", unfollowed := true, recurses := true, apart := false }
def EventApartSaid : Prop := eventApartRow.holds Try.pinned (OpenSpec.ofChange eventApartSpec)

/-- ITS FALSE NEIGHBOUR: 'it returns false'. Refute it at one input. -/
def eventApartWrong : ChangeSpec := { name := "eventApart", fn := fun _ => fun
  | [d1, d2, d3] => { results := [.lit (.bool false)], args := [d1, d2, d3] }
  | _ => none }
def EventApartWrongFalsely : Prop := eventApartRow.holds Try.pinned (OpenSpec.ofChange eventApartWrong)

/-- 'cartouchelaw06.EventRowBack': WHATEVER THE INPUT: true; the input reads as it did. -/
def eventRowBackSpec : ChangeSpec := { name := "eventRowBack", fn := fun _ => fun
  | [d] => { results := [.lit (.bool true)], args := [d] }
  | _ => none }
def eventRowBackRow : OpenClaim := { program := "ytpfmdpbhmilepaa", sum := "627bcc6c3b1bf7a43eefa8078c99c590a5ae594e9f7a97abb97e18c46e84b710", func := "cartouche/cartouchelaw06.EventRowBack", spec := "eventRowBack", unfollowed := true, recurses := true, apart := false }
def EventRowBackSaid : Prop := eventRowBackRow.holds Try.pinned (OpenSpec.ofChange eventRowBackSpec)

/-- ITS FALSE NEIGHBOUR: 'it returns false'. Refute it at one input. -/
def eventRowBackWrong : ChangeSpec := { name := "eventRowBack", fn := fun _ => fun
  | [d] => { results := [.lit (.bool false)], args := [d] }
  | _ => none }
def EventRowBackWrongFalsely : Prop := eventRowBackRow.holds Try.pinned (OpenSpec.ofChange eventRowBackWrong)

/-- 'cartouchelaw06.EventRows': WHATEVER THE INPUT: true; the input reads as it did. -/
def eventRowsSpec : ChangeSpec := { name := "eventRows", fn := fun _ => fun
  | [d1, d2, d3] => { results := [.lit (.bool true)], args := [d1, d2, d3] }
  | _ => none }
def eventRowsRow : OpenClaim := { program := "ytpfmdpbhmilepaa", sum := "627bcc6c3b1bf7a43eefa8078c99c590a5ae594e9f7a97abb97e18c46e84b710", func := "cartouche/cartouchelaw06.EventRows", spec := "eventRows", unfollowed := true, recurses := true, apart := false }
def EventRowsSaid : Prop := eventRowsRow.holds Try.pinned (OpenSpec.ofChange eventRowsSpec)

/-- ITS FALSE NEIGHBOUR: 'it returns false'. Refute it at one input. -/
def eventRowsWrong : ChangeSpec := { name := "eventRows", fn := fun _ => fun
  | [d1, d2, d3] => { results := [.lit (.bool false)], args := [d1, d2, d3] }
  | _ => none }
def EventRowsWrongFalsely : Prop := eventRowsRow.holds Try.pinned (OpenSpec.ofChange eventRowsWrong)

/- THE SECOND FORM. 'bulk': how many values and letters a reading holds, each counted each time it is reached (what is shared counts as often as it is met; a slice's spare places count too). A statement '..UptoSaid' is the law's where the arguments, and the package variables that the reading takes, are together of bulk at most 1048576: NARROWER than '..Said'. Prove '..Said' where nothing that the law and all that it calls make is longer than what came in: it says more and counts as full. Else prove '..UptoSaid'. A law counts once. -/
mutual
def uptoBulk {H : Type} : DataW H → Nat
  | .lit (.string bytes) => bytes.length + 1
  | .lit _ => 1
  | .nil => 1
  | .ptr d => uptoBulk d + 1
  | .slice elems spare => uptoBulkAll elems + uptoBulkAll spare + 1
  | .agg parts => uptoBulkAll parts + 1
  | .iface _ d => uptoBulk d + 1
  | .map entries => uptoBulkEntries entries + 1
  | .held _ => 1
def uptoBulkAll {H : Type} : List (DataW H) → Nat
  | [] => 0
  | d :: r => uptoBulk d + uptoBulkAll r
def uptoBulkEntries {H : Type} : List (Lit × DataW H) → Nat
  | [] => 0
  | x :: r => uptoBulkEntry x + uptoBulkEntries r
def uptoBulkEntry {H : Type} : Lit × DataW H → Nat
  | (.string bytes, d) => bytes.length + uptoBulk d + 1
  | (_, d) => uptoBulk d + 1
 end
def uptoSmall : (H : Type) → List (DataW H) → Bool := fun _ ds => decide (uptoBulkAll ds ≤ 1048576)
def OpenSpec.upto (s : _root_.Go.ChangeSpec) : _root_.Go.OpenSpec := { _root_.Go.OpenSpec.ofChange s with cond := some uptoSmall }

/-- 'cartouchelaw06.EventSizes', WHERE WHAT IT READS IS OF BULK AT MOST 1048576: true; the input reads as it did. -/
def eventSizesUptoRow : OpenClaim := { program := "ytpfmdpbhmilepaa", sum := "627bcc6c3b1bf7a43eefa8078c99c590a5ae594e9f7a97abb97e18c46e84b710", func := "cartouche/cartouchelaw06.EventSizes", spec := "eventSizes", unfollowed := true, recurses := true, apart := false, narrowed := true }
def EventSizesUptoSaid : Prop := eventSizesUptoRow.holds Try.pinned (OpenSpec.upto eventSizesSpec)

/-- 'cartouchelaw06.EventJoins', WHERE WHAT IT READS IS OF BULK AT MOST 1048576: true; the input reads as it did. -/
def eventJoinsUptoRow : OpenClaim := { program := "ytpfmdpbhmilepaa", sum := "627bcc6c3b1bf7a43eefa8078c99c590a5ae594e9f7a97abb97e18c46e84b710", func := "cartouche/cartouchelaw06.EventJoins", spec := "eventJoins", unfollowed := true, recurses := true, apart := false, narrowed := true }
def EventJoinsUptoSaid : Prop := eventJoinsUptoRow.holds Try.pinned (OpenSpec.upto eventJoinsSpec)

/-- 'cartouchelaw06.EventBytes', WHERE WHAT IT READS IS OF BULK AT MOST 1048576: true; the input reads as it did. -/
def eventBytesUptoRow : OpenClaim := { program := "ytpfmdpbhmilepaa", sum := "627bcc6c3b1bf7a43eefa8078c99c590a5ae594e9f7a97abb97e18c46e84b710", func := "cartouche/cartouchelaw06.EventBytes", spec := "eventBytes", unfollowed := true, recurses := true, apart := false, narrowed := true }
def EventBytesUptoSaid : Prop := eventBytesUptoRow.holds Try.pinned (OpenSpec.upto eventBytesSpec)

/-- 'cartouchelaw06.EventBack', WHERE WHAT IT READS IS OF BULK AT MOST 1048576: true; the input reads as it did. -/
def eventBackUptoRow : OpenClaim := { program := "ytpfmdpbhmilepaa", sum := "627bcc6c3b1bf7a43eefa8078c99c590a5ae594e9f7a97abb97e18c46e84b710", func := "cartouche/cartouchelaw06.EventBack", spec := "eventBack", unfollowed := true, recurses := true, apart := false, narrowed := true }
def EventBackUptoSaid : Prop := eventBackUptoRow.holds Try.pinned (OpenSpec.upto eventBackSpec)

/-- 'cartouchelaw06.EventApart', WHERE WHAT IT READS IS OF BULK AT MOST 1048576: true; the input reads as it did. -/
def eventApartUptoRow : OpenClaim := { program := "ytpfmdpbhmilepaa", sum := "627bcc6c3b1bf7a43eefa8078c99c590a5ae594e9f7a97abb97e18c46e84b710", func := "cartouche/cartouchelaw06.EventApart", spec := "eventApart", unfollowed := true, recurses := true, apart := false, narrowed := true }
def EventApartUptoSaid : Prop := eventApartUptoRow.holds Try.pinned (OpenSpec.upto eventApartSpec)

/-- 'cartouchelaw06.EventRowBack', WHERE WHAT IT READS IS OF BULK AT MOST 1048576: true; the input reads as it did. -/
def eventRowBackUptoRow : OpenClaim := { program := "ytpfmdpbhmilepaa", sum := "627bcc6c3b1bf7a43eefa8078c99c590a5ae594e9f7a97abb97e18c46e84b710", func := "cartouche/cartouchelaw06.EventRowBack", spec := "eventRowBack", unfollowed := true, recurses := true, apart := false, narrowed := true }
def EventRowBackUptoSaid : Prop := eventRowBackUptoRow.holds Try.pinned (OpenSpec.upto eventRowBackSpec)

/-- 'cartouchelaw06.EventRows', WHERE WHAT IT READS IS OF BULK AT MOST 1048576: true; the input reads as it did. -/
def eventRowsUptoRow : OpenClaim := { program := "ytpfmdpbhmilepaa", sum := "627bcc6c3b1bf7a43eefa8078c99c590a5ae594e9f7a97abb97e18c46e84b710", func := "cartouche/cartouchelaw06.EventRows", spec := "eventRows", unfollowed := true, recurses := true, apart := false, narrowed := true }
def EventRowsUptoSaid : Prop := eventRowsUptoRow.holds Try.pinned (OpenSpec.upto eventRowsSpec)

end Rows
end Go.Proofs.Ytpfmdpbhmilepaa
