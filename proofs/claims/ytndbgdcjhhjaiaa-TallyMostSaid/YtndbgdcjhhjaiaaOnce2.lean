/- (*sync.Once).Do with tally.First's closure, and what stands behind it. -/
import Derived.Test.YtndbgdcjhhjaiaaOnce
import Derived.OwnWalk
import Derived.Below
namespace Go.Proofs.Ytndbgdcjhhjaiaa.Once
open Go.RowKit
set_option maxRecDepth 100000 in
set_option maxHeartbeats 1600000 in
theorem do_first (g gs gout gis : Nat) (s : ByteArray) (x y : Value) (w : World) (n1 : g ≠ gs) (n2 : g ≠ gout) (n3 : g ≠ gis) (n4 : gout ≠ gis)
    (h0 : w.cell? ⟨g, 0, none⟩ = some (.int .u32 0)) (h1 : w.cell? ⟨g, 1, none⟩ = some (.int .i32 0)) (hs : w.cell? ⟨gs, 0, none⟩ = some (.string s)) (ho : w.cell? ⟨gout, 0, none⟩ = some x) (hi : w.cell? ⟨gis, 0, none⟩ = some y)
    (f0 : w.frozen? ⟨g, 0, none⟩ = false) (f1 : w.frozen? ⟨g, 1, none⟩ = false) (f2 : w.frozen? ⟨gout, 0, none⟩ = false) (f3 : w.frozen? ⟨gis, 0, none⟩ = false) :
    Calls Try.prog 31 #[.pointer (some ⟨g, 0, none⟩), .func (.func 32) #[] #[.pointer (some ⟨gs, 0, none⟩), .pointer (some ⟨gout, 0, none⟩), .pointer (some ⟨gis, 0, none⟩)]] w fun e w' => e = .returned (.tuple #[]) ∧ w' = put w g gout gis s := by
  have hl := run_call_load (P := Try.prog) Try.func45 (by kernel_rfl) (by kernel_rfl) (by kernel_rfl) .u32 (by kernel_rfl) h0
  have hnot : ∀ (x : Bool) (w : World), (Op.unary .not (.bool x)).run Try.prog w = .ok (.bool (!x)) w := fun _ _ => rfl
  go_enter Try.func31, Try.ntmps31
  go_wp2_with (first | (go_at_call 42; refine (slow g gs gout gis s x y _ n1 n2 n3 n4 h0 h1 hs ho hi f0 f1 f2 f3).mono ?_; rintro e w' ⟨rfl, rfl⟩) | (go_at_call 41; go_in))
  go_end0
  exact ⟨rfl, rfl⟩
theorem do_done (a : Addr) (fv : Value) (w : World) (h0 : w.cell? a = some (.int .u32 1)) :
    Calls Try.prog 31 #[.pointer (some a), fv] w fun e w' => e = .returned (.tuple #[]) ∧ w' = w := by
  have hl := run_call_load (P := Try.prog) Try.func45 (by kernel_rfl) (by kernel_rfl) (by kernel_rfl) .u32 (by kernel_rfl) h0
  have hnot : ∀ (x : Bool) (w : World), (Op.unary .not (.bool x)).run Try.prog w = .ok (.bool (!x)) w := fun _ _ => rfl
  have hd' : ((1 : Int) != 0) = true := rfl
  go_enter Try.func31, Try.ntmps31
  go_wp2
  go_end0
  exact ⟨rfl, rfl⟩
/-- A block's cell is set: the block. -/
theorem set_at {w : World} {g : Nat} {cs : Array Value} {t : TypeId} {fr : Nat × Nat} (h : w.heap[g]? = some (.cells cs t fr)) (j : Nat) (v : Value) : (w.setCell ⟨g, j, none⟩ v).heap[g]? = some (.cells (cs.setIfInBounds j v) t fr) := by
  simp [World.setCell, Array.getElem?_modify, h]
theorem set_other {w : World} {g k : Nat} (h : k ≠ g) (j : Nat) (v : Value) : (w.setCell ⟨g, j, none⟩ v).heap[k]? = w.heap[k]? := Below.heap_setCell w ⟨g, j, none⟩ v k (fun e => h e)
theorem put_below {B : Nat} {w0 w : World} {g gout gis : Nat} {s : ByteArray} (h : Below B w0 w) (h1 : B ≤ g) (h2 : B ≤ gout) (h3 : B ≤ gis) : Below B w0 (put w g gout gis s) :=
  ((((((h.setCell (p := ⟨g, 1, none⟩) h1 _).setCell (p := ⟨gout, 0, none⟩) h2 _).setCell (p := ⟨gis, 0, none⟩) h3 _).drew).setCell (p := ⟨g, 0, none⟩) h1 _).setCell (p := ⟨g, 1, none⟩) h1 _)
theorem put_once {w : World} {g gout gis : Nat} {s : ByteArray} {z : Value} {t : TypeId} (n2 : g ≠ gout) (n3 : g ≠ gis) (h : w.heap[g]? = some (.cells #[.int .u32 0, .int .i32 0, z] t (0, 0))) : (put w g gout gis s).heap[g]? = some (.cells #[.int .u32 1, .int .i32 0, z] t (0, 0)) := by
  unfold put
  have h1 := set_at h 1 (.int .i32 1)
  have h2 := (set_other (w := w.setCell ⟨g, 1, none⟩ (.int .i32 1)) n2 0 (.string s)).trans h1
  have h3 := (set_other (w := (w.setCell ⟨g, 1, none⟩ (.int .i32 1)).setCell ⟨gout, 0, none⟩ (.string s)) n3 0 (.bool true)).trans h2
  have h4 : (((w.setCell ⟨g, 1, none⟩ (.int .i32 1)).setCell ⟨gout, 0, none⟩ (.string s)).setCell ⟨gis, 0, none⟩ (.bool true)).drew.heap[g]? = _ := h3
  have h5 := set_at (set_at h4 0 (.int .u32 1)) 1 (.int .i32 0)
  exact h5
theorem put_out {w : World} {g gout gis : Nat} {s : ByteArray} {x : Value} {t : TypeId} (n2 : g ≠ gout) (n4 : gout ≠ gis) (h : w.heap[gout]? = some (.cells #[x] t (0, 0))) : (put w g gout gis s).heap[gout]? = some (.cells #[.string s] t (0, 0)) := by
  unfold put
  refine (set_other (Ne.symm n2) _ _).trans ((set_other (Ne.symm n2) _ _).trans ?_)
  refine (show ((((w.setCell ⟨g, 1, none⟩ (.int .i32 1)).setCell ⟨gout, 0, none⟩ (.string s)).setCell ⟨gis, 0, none⟩ (.bool true)).drew).heap[gout]? = _ from (set_other n4 _ _).trans ?_)
  exact set_at ((set_other (Ne.symm n2) _ _).trans h) 0 (.string s)
theorem put_is {w : World} {g gout gis : Nat} {s : ByteArray} {x : Value} {t : TypeId} (n3 : g ≠ gis) (n4 : gout ≠ gis) (h : w.heap[gis]? = some (.cells #[x] t (0, 0))) : (put w g gout gis s).heap[gis]? = some (.cells #[.bool true] t (0, 0)) := by
  unfold put
  refine (set_other (Ne.symm n3) _ _).trans ((set_other (Ne.symm n3) _ _).trans ?_)
  exact set_at ((set_other (Ne.symm n4) _ _).trans ((set_other (Ne.symm n3) _ _).trans h)) 0 (.bool true)
end Go.Proofs.Ytndbgdcjhhjaiaa.Once
