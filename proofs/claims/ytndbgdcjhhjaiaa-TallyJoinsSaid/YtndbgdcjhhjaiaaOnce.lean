/- sync.Once in one goroutine at this seat's program (after the kit's worked family Lazy), the function handed to it: tally.First's closure. -/
import Derived.Test.YtndbgdcjhhjaiaaProg
import Derived.Tactics
import Derived.Tactics2
import Derived.Defers
import Derived.Laws.Pointers
import Derived.Laws.LoneSync
import Derived.Laws.NewBlocks
import Derived.RegionTactic
import Derived.RegionCalls
import Derived.ChangeAlike
namespace Go.Proofs.Ytndbgdcjhhjaiaa.Once
theorem disable (w : World) : (callFunc 53 #[]).run Try.prog w = .ok (.value (.tuple #[])) w := run_call_mark0 Try.func53 (by kernel_rfl) (by kernel_rfl) (by kernel_rfl) .disable (by kernel_rfl) w
theorem enable (w : World) : (callFunc 55 #[]).run Try.prog w = .ok (.value (.tuple #[])) w := run_call_mark0 Try.func55 (by kernel_rfl) (by kernel_rfl) (by kernel_rfl) .enable (by kernel_rfl) w
theorem acquire (a : Addr) (w : World) : (callFunc 56 #[.pointer (some a)]).run Try.prog w = .ok (.value (.tuple #[])) w := run_call_marked Try.func56 (by kernel_rfl) (by kernel_rfl) (by kernel_rfl) .acquire (by kernel_rfl) a w
theorem releaseMerge (a : Addr) (w : World) : (callFunc 58 #[.pointer (some a)]).run Try.prog w = .ok (.value (.tuple #[])) w := run_call_marked Try.func58 (by kernel_rfl) (by kernel_rfl) (by kernel_rfl) .releaseMerge (by kernel_rfl) a w
theorem store_deferred (a : Addr) (x : Value) (u : FrameMode) (w : World) (hc : w.cell? a = some x) (hz : w.frozen? a = false) :
    CallsD Try.prog 48 #[.pointer (some a), .bool true] u w fun e u' w' => u' = u ∧ (e = .returned (.tuple #[]) ∧ w' = w.drew.setCell a (.int .u32 1)) := by
  have hc' : w.drew.cell? a = some x := by go_simp
  have hz' : w.drew.frozen? a = false := by go_simp
  have hst := run_call_store (P := Try.prog) Try.func51 (by kernel_rfl) (by kernel_rfl) (by kernel_rfl) (by kernel_rfl) (k := .u32) (y := 1) hc' hz'
  go_enter_d Try.func48, Try.ntmps48
  go_wp2
  go_region_calls
  all_goals (go_end0; exact ⟨rfl, rfl⟩)
set_option maxRecDepth 100000 in
set_option maxHeartbeats 1600000 in
theorem unlock_deferred (a : Addr) (u : FrameMode) (w : World) (hc : w.cell? a = some (.int .i32 1)) (hz : w.frozen? a = false) :
    CallsD Try.prog 47 #[.pointer (some a)] u w fun e u' w' => u' = u ∧ (e = .returned (.tuple #[]) ∧ w' = w.setCell a (.int .i32 0)) := by
  have hd := disable
  have he := enable
  have hr := releaseMerge
  have hadd := run_call_add (P := Try.prog) Try.func59 (by kernel_rfl) (by kernel_rfl) (by kernel_rfl) .i32 (by kernel_rfl) (y := -1) (s := 0) hc hz (by simp [go_sem]; rfl)
  have hcv := run_convert_to_unsafe (P := Try.prog) (src := 91) (dst := 95) Try.underlying91 Try.underlying95 (by kernel_rfl) hc
  go_enter_d Try.func47, Try.ntmps47
  go_wp2
  go_end0
  go_wp2
  go_end0
  exact ⟨rfl, rfl⟩
set_option maxRecDepth 100000 in
set_option maxHeartbeats 1600000 in
theorem lock_free (a : Addr) (w : World) (hc : w.cell? a = some (.int .i32 0)) (hz : w.frozen? a = false) :
    Calls Try.prog 46 #[.pointer (some a)] w fun e w' => e = .returned (.tuple #[]) ∧ w' = w.setCell a (.int .i32 1) := by
  have hd := disable
  have he := enable
  have ha := acquire
  have hcas := run_call_cas_hit (P := Try.prog) Try.func54 (by kernel_rfl) (by kernel_rfl) (by kernel_rfl) .i32 (by kernel_rfl) (y := 1) hc hz
  have hc' : (w.setCell a (.int .i32 1)).cell? a = some (.int .i32 1) := World.cell?_setCell_same w a _ hc
  have hcv := run_convert_to_unsafe (P := Try.prog) (src := 91) (dst := 95) Try.underlying91 Try.underlying95 (by kernel_rfl) hc'
  go_enter Try.func46, Try.ntmps46
  go_wp2
  first | go_end0 | (simp only [Exit.inBlock, Exit.then]; refine bodyPost_ret (results_none rfl _ _ _) rfl ?_) | refine bodyPost_ret (results_none rfl _ _ _) rfl ?_
  go_wp2
  go_end0
  exact ⟨rfl, rfl⟩
/-- The world behind the function: the text is handed over. -/
def put (w : World) (g gout gis : Nat) (s : ByteArray) : World :=
  ((((w.setCell ⟨g, 1, none⟩ (.int .i32 1)).setCell ⟨gout, 0, none⟩ (.string s)).setCell ⟨gis, 0, none⟩ (.bool true)).drew.setCell ⟨g, 0, none⟩ (.int .u32 1)).setCell ⟨g, 1, none⟩ (.int .i32 0)
set_option maxRecDepth 100000 in
set_option maxHeartbeats 1600000 in
theorem slow (g gs gout gis : Nat) (s : ByteArray) (x y : Value) (w : World) (n1 : g ≠ gs) (n2 : g ≠ gout) (n3 : g ≠ gis) (n4 : gout ≠ gis)
    (h0 : w.cell? ⟨g, 0, none⟩ = some (.int .u32 0)) (h1 : w.cell? ⟨g, 1, none⟩ = some (.int .i32 0)) (hs : w.cell? ⟨gs, 0, none⟩ = some (.string s)) (ho : w.cell? ⟨gout, 0, none⟩ = some x) (hi : w.cell? ⟨gis, 0, none⟩ = some y)
    (f0 : w.frozen? ⟨g, 0, none⟩ = false) (f1 : w.frozen? ⟨g, 1, none⟩ = false) (f2 : w.frozen? ⟨gout, 0, none⟩ = false) (f3 : w.frozen? ⟨gis, 0, none⟩ = false) :
    Calls Try.prog 42 #[.pointer (some ⟨g, 0, none⟩), .func (.func 32) #[] #[.pointer (some ⟨gs, 0, none⟩), .pointer (some ⟨gout, 0, none⟩), .pointer (some ⟨gis, 0, none⟩)]] w fun e w' => e = .returned (.tuple #[]) ∧ w' = put w g gout gis s := by
  have nb : ∀ {i j k l : Nat}, i ≠ j → (⟨i, k, none⟩ : Addr) ≠ ⟨j, l, none⟩ := fun h e => h (congrArg Addr.block e)
  have hl := run_call_load (P := Try.prog) Try.func45 (by kernel_rfl) (by kernel_rfl) (by kernel_rfl) .u32 (by kernel_rfl) (w := w.setCell ⟨g, 1, none⟩ (.int .i32 1)) (a := ⟨g, 0, none⟩) (x := 0) ((World.cell?_setCell_other _ ⟨g, 1, none⟩ ⟨g, 0, none⟩ _ (by simp)).trans h0)
  have hs1 : (w.setCell ⟨g, 1, none⟩ (.int .i32 1)).cell? ⟨gs, 0, none⟩ = some (.string s) := (World.cell?_setCell_other _ _ _ _ (nb n1)).trans hs
  have ho1 : (w.setCell ⟨g, 1, none⟩ (.int .i32 1)).cell? ⟨gout, 0, none⟩ = some x := (World.cell?_setCell_other _ _ _ _ (nb n2)).trans ho
  have hi1 : ((w.setCell ⟨g, 1, none⟩ (.int .i32 1)).setCell ⟨gout, 0, none⟩ (.string s)).cell? ⟨gis, 0, none⟩ = some y := (World.cell?_setCell_other _ _ _ _ (nb n4)).trans ((World.cell?_setCell_other _ _ _ _ (nb n3)).trans hi)
  have hnot : ∀ (x : Bool) (w : World), (Op.unary .not (.bool x)).run Try.prog w = .ok (.bool (!x)) w := fun _ _ => rfl
  go_enter_defers Try.func42, Try.ntmps42
  go_wp2_with (go_at_call 46; refine (lock_free ⟨g, 1, none⟩ _ (by go_simp) (by go_simp)).mono ?_; rintro e w' ⟨rfl, rfl⟩)
  go_wp2
  go_end0
  go_wp2
  refine leaves_cons (f := 48) (args := #[.pointer (some ⟨g, 0, none⟩), .bool true]) (by simp) (by simp [go_sem]) ?_
  refine (store_deferred ⟨g, 0, none⟩ (.int .u32 0) .returning _ ?_ (by simp [f0])).mono ?_
  · exact (World.cell?_setCell_other _ _ _ _ (nb (Ne.symm n3))).trans ((World.cell?_setCell_other _ _ _ _ (nb (Ne.symm n2))).trans ((World.cell?_setCell_other _ ⟨g, 1, none⟩ ⟨g, 0, none⟩ _ (by simp)).trans h0))
  rintro e u' w'' ⟨rfl, rfl, rfl⟩
  refine leaves_cons (f := 47) (args := #[.pointer (some ⟨g, 1, none⟩)]) (by simp [settle]) (by simp [go_sem]) ?_
  refine (unlock_deferred ⟨g, 1, none⟩ _ _ ?_ (by simp [f1])).mono ?_
  · refine (World.cell?_setCell_other _ ⟨g, 0, none⟩ ⟨g, 1, none⟩ _ (by simp)).trans ?_
    rw [World.cell?_drew]
    exact (World.cell?_setCell_other _ _ _ _ (nb (Ne.symm n3))).trans ((World.cell?_setCell_other _ _ _ _ (nb (Ne.symm n2))).trans (World.cell?_setCell_same w _ _ h1))
  rintro e u' w'' ⟨rfl, rfl, rfl⟩
  simp [Leaves, settle, results, Try.results42, put]
end Go.Proofs.Ytndbgdcjhhjaiaa.Once
