-- Written by wip/hand.py of this session's repository, out of the translation and of contracts typed by hand. Not trusted: Lean checks it.
import Derived.Test.YtndbgdcjhhjaiaaB0
namespace Go.Proofs.Ytndbgdcjhhjaiaa.B
open Go.RowKit Go.Proofs.YtndbgdcjhhjaiaaW.PrintWords Go.Proofs.YtndbgdcjhhjaiaaW.PrintLast Go.Proofs.YtndbgdcjhhjaiaaW.PrintMore
attribute [local go_sem] max2_int min2_int max_two min_two max_three min_three max_four min_four   -- for this text's walks alone
set_option linter.unusedVariables false
set_option linter.unusedSimpArgs false

-- NOT PRINTED: function 45 (atomic_LoadUint32)

-- NOT PRINTED: function 41 (atomic_Bool_Load)

-- NOT PRINTED: function 53 (race_Disable)

-- NOT PRINTED: function 54 (atomic_CompareAndSwapInt32)

-- NOT PRINTED: function 55 (race_Enable)

-- NOT PRINTED: function 56 (race_Acquire)

-- NOT PRINTED: function 59 (atomic_AddInt32)

-- NOT PRINTED: function 61 (sync_runtime_canSpin)

-- NOT PRINTED: function 62 (sync_runtime_doSpin)

-- NOT PRINTED: function 63 (sync_throw)

-- NOT PRINTED: function 64 (sync_runtime_nanotime)

-- NOT PRINTED: function 65 (sync_runtime_SemacquireMutex)

-- NOT PRINTED: function 57 (sync_Mutex_lockSlow)

-- NOT PRINTED: function 49 (sync_Mutex_Lock_49)

-- NOT PRINTED: function 46 (sync_Mutex_Lock_46)

-- NOT PRINTED: function 58 (race_ReleaseMerge)

-- NOT PRINTED: function 66 (sync_fatal)

-- NOT PRINTED: function 67 (sync_runtime_Semrelease)

-- NOT PRINTED: function 60 (sync_Mutex_unlockSlow)

-- NOT PRINTED: function 50 (sync_Mutex_Unlock_50)

-- NOT PRINTED: function 47 (sync_Mutex_Unlock_47)

-- NOT PRINTED: function 51 (atomic_StoreUint32)

/-! ### atomic_b32: function 52 -/
def atomic_b32.f (a0 : Bool) : Option (Int) := if a0 = true then (some 1) else (some 0)
set_option maxHeartbeats 8000000 in
set_option maxRecDepth 100000 in
theorem atomic_b32.calls (a0 : Bool) (r : Int) (w : World) (h : atomic_b32.f a0 = some r) :
    Calls Try.prog 52 #[.bool a0] w fun e w' => e = .returned (.int .u32 r) ∧ Drawn0 w w' := by
  have H : (if a0 = true then (some 1) else (some 0)) = some r := h
  clear h
  by_cases c2 : a0 = true
  · subst c2
    have H1 : (some 1) = some r := by rw [if_pos rfl] at H; exact H
    clear H
    have H := H1
    clear H1
    obtain rfl := Option.some.inj H
    go_enter Try.func52, Try.ntmps52
    go_wp2
    go_ret
    exact ⟨by first | rfl | (simp; done) | (simp [*]; done), by repeat (first | exact Drawn0.refl _ | apply Drawn0.step)⟩
  · replace c2 := Bool.eq_false_iff.mpr c2
    subst c2
    have H1 : (some 0) = some r := by rw [if_neg (show ¬ (false = true) by decide)] at H; exact H
    clear H
    have H := H1
    clear H1
    obtain rfl := Option.some.inj H
    go_enter Try.func52, Try.ntmps52
    go_wp2
    go_ret
    exact ⟨by first | rfl | (simp; done) | (simp [*]; done), by repeat (first | exact Drawn0.refl _ | apply Drawn0.step)⟩

-- NOT PRINTED: function 48 (atomic_Bool_Store)

-- NOT PRINTED: function 42 (sync_Once_doSlow)

-- NOT PRINTED: function 31 (sync_Once_Do)

/-! ### tally_First: function 19 -/
def tally_First.go : List ByteArray → ByteArray × Bool
  | [] => ((⟨#[]⟩ : ByteArray), false)
  | s :: l => if s.toList = [] then tally_First.go l else (s, true)
def tally_First.f (l0 : List ByteArray) : Option (ByteArray × Bool) := some (tally_First.go l0)
theorem tally_First.nil : (⟨#[]⟩ : ByteArray).toList = [] := by rw [ByteArray.toList_eq]
theorem tally_First.read {A : Option Addr} {l : List ByteArray} {w wr : World} (h : Kd.C Kd.string w A l.length l) {i : Nat} (hi : i < l.length) (hb : Below w.heap.size w wr) : ∃ ad, A = some ad ∧ wr.cell? (ad.add i) = some (.string (l[i]'hi)) := by
  obtain ⟨ad, e, hc⟩ := Kd.at_string h (i : Int) (by omega) (by omega)
  refine ⟨ad, e, pw_cell_below hb ?_⟩
  rw [show (i : Int).toNat = i by omega] at hc
  rw [hc]
  simp [rdOf, List.getD_eq_getElem?_getD, List.getElem?_eq_getElem hi]
/-- At the head of round i: the Once at g, the text at g + 1, the flag at g + 2. -/
def tally_First.At (l0 : List ByteArray) (r : ByteArray × Bool) (g : Nat) (w : World) (v11 : Value) (wr : World) : Prop :=
  ∃ (i : Nat), i ≤ l0.length ∧ v11 = .int .i64 i ∧ Below g w wr ∧
    ((tally_First.go (l0.drop i) = r ∧ wr.heap[g]? = some (.cells #[.int .u32 0, .int .i32 0, .int .u32 0] 68 (0, 0)) ∧ wr.heap[g + 1]? = some (.cells #[.string ⟨#[]⟩] 9 (0, 0)) ∧ wr.heap[g + 1 + 1]? = some (.cells #[.bool false] 4 (0, 0))) ∨
     (r.2 = true ∧ wr.heap[g]? = some (.cells #[.int .u32 1, .int .i32 0, .int .u32 0] 68 (0, 0)) ∧ wr.heap[g + 1]? = some (.cells #[.string r.1] 9 (0, 0)) ∧ wr.heap[g + 1 + 1]? = some (.cells #[.bool true] 4 (0, 0))))
set_option maxHeartbeats 1000000 in
theorem tally_First.calls (A0 : Option Addr) (c0 : Nat) (l0 : List ByteArray) (r1 : ByteArray) (r2 : Bool) (w : World) (hr0 : Kd.C Kd.string w A0 l0.length l0) (hc0 : l0.length ≤ c0) (h : tally_First.f l0 = some (r1, r2)) :
    Calls Try.prog 19 #[.slice A0 l0.length c0] w fun e w' => e = .returned (.tuple #[.string r1, .bool r2]) ∧ Below w.heap.size w w' := by
  have hlen : l0.length ≤ 9223372036854775807 := hr0.2.1
  have HR := Aside0.mk hr0
  have HG := Aside0.mk (show tally_First.go l0 = (r1, r2) from Option.some.inj h)
  clear hr0 h
  have hmf : ∀ (fn : Fn) (first cap : Array Value) (w : World), (Instr.makeFunc fn first cap).run Try.prog w = .ok (.func fn first cap) w := fun _ _ _ _ => rfl
  go_enter Try.func19, Try.ntmps19
  go_wp2_with fail
  have b0 := blk_new w (.cells #[.int .u32 0, .int .i32 0, .int .u32 0] 68)
  have b1 := blk_new (w.alloc (.cells #[.int .u32 0, .int .i32 0, .int .u32 0] 68)) (.cells #[.string ⟨#[]⟩] 9)
  have b2 := blk_new ((w.alloc (.cells #[.int .u32 0, .int .i32 0, .int .u32 0] 68)).alloc (.cells #[.string ⟨#[]⟩] 9)) (.cells #[.bool false] 4)
  have e1 : (w.alloc (.cells #[.int .u32 0, .int .i32 0, .int .u32 0] 68)).heap.size = w.heap.size + 1 := by simp
  have e2 : ((w.alloc (.cells #[.int .u32 0, .int .i32 0, .int .u32 0] 68)).alloc (.cells #[.string ⟨#[]⟩] 9)).heap.size = w.heap.size + 1 + 1 := by simp
  rw [e1] at b1
  rw [e2] at b2
  have HS := Aside0.mk (And.intro (blk_alloc (blk_alloc b0 (.cells #[.string ⟨#[]⟩] 9)) (.cells #[.bool false] 4)) (And.intro (blk_alloc b1 (.cells #[.bool false] 4)) b2))
  clear b0 b1 b2 e1 e2
  go_loopw [11] (fun v11 wr => tally_First.At l0 (r1, r2) w.heap.size w v11 wr) (fun v11 _ => l0.length - (intOf v11).toNat)
  case atStart => exact ⟨0, by omega, rfl, below_alloc (below_alloc (below_alloc (Below.refl _ _) _) _) _, .inl ⟨HG.out, HS.out.1, HS.out.2.1, HS.out.2.2⟩⟩
  case round =>
    obtain ⟨i, hi, rfl, hB, hor⟩ := hrel
    have HB := Aside0.mk hB
    have HO := Aside0.mk hor
    clear hB hor HS HG
    by_cases hlt : i < l0.length
    · obtain ⟨ad, hA0, hcell⟩ := tally_First.read HR.out hlt HB.out
      cases hA0
      by_cases hne : (l0[i]'hlt).toList = []
      · have hE : l0[i]'hlt = ⟨#[]⟩ := by
          have := ByteArray.toList_eq (l0[i]'hlt)
          rw [hne] at this
          rcases hq : l0[i]'hlt with ⟨d⟩
          rw [hq] at this
          congr 1
          exact Array.ext' this.symm
        have HE := Aside0.mk hE
        rw [hE] at hcell
        clear hE hne
        go_wp2_with fail
        go_roundw
        case rel =>
          refine ⟨i + 1, by omega, by go_num, below_alloc HB.out _, ?_⟩
          rcases HO.out with ⟨h1, h2, h3, h4⟩ | ⟨h1, h2, h3, h4⟩
          · refine .inl ⟨?_, blk_alloc h2 _, blk_alloc h3 _, blk_alloc h4 _⟩
            rw [List.drop_eq_getElem_cons hlt, tally_First.go, HE.out, if_pos tally_First.nil] at h1
            exact h1
          · exact .inr ⟨h1, blk_alloc h2 _, blk_alloc h3 _, blk_alloc h4 _⟩
        case measure => simp [intOf]; omega
      · obtain ⟨s, hs⟩ : ∃ s, s = l0[i]'hlt := ⟨_, rfl⟩
        rw [← hs] at hcell hne
        have hne2 : s ≠ ⟨#[]⟩ := fun e => hne (by rw [e]; exact tally_First.nil)
        have HQ := Aside0.mk hs
        have HNe := Aside0.mk hne
        have hne3 : (!s.toList.isEmpty) = true := by simpa using hne
        clear hs hne hne2
        rcases HO.out with ⟨h1, h2, h3, h4⟩ | ⟨h1, h2, h3, h4⟩
        · have hn : tally_First.go (l0.drop i) = (s, true) := by
            rw [List.drop_eq_getElem_cons hlt, tally_First.go, ← HQ.out, if_neg HNe.out]
          rw [hn] at h1
          have H1 := Aside0.mk h1
          have k2 := blk_alloc h2 (.cells #[.string s] 9)
          have k3 := blk_alloc h3 (.cells #[.string s] 9)
          have k4 := blk_alloc h4 (.cells #[.string s] 9)
          have k5 := blk_new wr (.cells #[.string s] 9)
          have l2 := blk_lt h2
          have l3 := blk_lt h3
          have l4 := blk_lt h4
          have HK := Aside0.mk (And.intro k2 (And.intro k3 (And.intro k4 k5)))
          have HD := fun (e1 : w.heap.size ≠ wr.heap.size) => Once.do_first w.heap.size wr.heap.size (w.heap.size + 1) (w.heap.size + 1 + 1) s (.string ⟨#[]⟩) (.bool false) _ e1 (by omega) (by omega) (by omega) ((blk_cell k2 0).trans rfl) ((blk_cell k2 1).trans rfl) ((blk_cell k5 0).trans rfl) ((blk_cell k3 0).trans rfl) ((blk_cell k4 0).trans rfl) (blk_frozen k2 0) (blk_frozen k2 1) (blk_frozen k3 0) (blk_frozen k4 0)
          have HDD := Aside0.mk (HD (by omega))
          clear HD h1 h2 h3 h4 k2 k3 k4 k5 l2 l3 l4 hn HO
          go_wp2_with fail
          refine HDD.out.mono ?_
          rintro e w3 ⟨rfl, rfl⟩
          go_wp2_with fail
          go_roundw
          case rel =>
            have hlt1 := blk_lt HK.out.2.2.2
            refine ⟨i + 1, by omega, by go_num, Once.put_below (below_alloc HB.out _) (Nat.le_refl _) (by omega) (by omega), .inr ?_⟩
            have e1 : s = r1 := congrArg Prod.fst H1.out
            have e2 : true = r2 := congrArg Prod.snd H1.out
            rw [← e1, ← e2]
            exact ⟨rfl, Once.put_once (by omega) (by omega) HK.out.1, Once.put_out (by omega) (by omega) HK.out.2.1, Once.put_is (by omega) (by omega) HK.out.2.2.1⟩
          case measure => simp [intOf]; omega
        · have k2 := blk_alloc h2 (.cells #[.string s] 9)
          have k3 := blk_alloc h3 (.cells #[.string s] 9)
          have k4 := blk_alloc h4 (.cells #[.string s] 9)
          have HK := Aside0.mk (And.intro h1 (And.intro k2 (And.intro k3 k4)))
          have hlt1 := blk_lt h2
          have HDD := fun fv => Once.do_done ⟨w.heap.size, 0, none⟩ fv _ ((blk_cell k2 0).trans rfl)
          have HDD := Aside0.mk HDD
          clear h1 h2 h3 h4 k2 k3 k4 HO
          go_wp2_with fail
          refine (HDD.out _).mono ?_
          rintro e w3 ⟨rfl, rfl⟩
          go_wp2_with fail
          go_roundw
          case rel => exact ⟨i + 1, by omega, by go_num, below_alloc HB.out _, .inr HK.out⟩
          case measure => simp [intOf]; omega
    · have hE : ∃ z0 z1, wr.heap[w.heap.size + 1]? = some (.cells #[.string r1] 9 (0, 0)) ∧ wr.heap[w.heap.size + 1 + 1]? = some (.cells #[.bool r2] 4 (0, 0)) ∧ wr.heap[w.heap.size]? = some (.cells #[z0, .int .i32 0, z1] 68 (0, 0)) := by
        rcases HO.out with ⟨h1, h2, h3, h4⟩ | ⟨h1, h2, h3, h4⟩
        · rw [List.drop_of_length_le (by omega), tally_First.go] at h1
          have e1 : (⟨#[]⟩ : ByteArray) = r1 := congrArg Prod.fst h1
          have e2 : false = r2 := congrArg Prod.snd h1
          rw [← e1, ← e2]
          exact ⟨_, _, h3, h4, h2⟩
        · have e2 : r2 = true := h1
          rw [e2]
          exact ⟨_, _, h3, h4, h2⟩
      obtain ⟨z0, z1, h3, h4, _⟩ := hE
      have hc1 : wr.cell? ⟨w.heap.size + 1, 0, none⟩ = some (.string r1) := (blk_cell h3 0).trans rfl
      have hc2 : wr.cell? ⟨w.heap.size + 1 + 1, 0, none⟩ = some (.bool r2) := (blk_cell h4 0).trans rfl
      clear h3 h4 HO
      go_wp2_with fail
      repeat (go_quiet (fail); try go_wp2)
      go_ret2
      exact ⟨rfl, by repeat (first | exact HB.out | apply below_alloc | apply pw_below_drewN | apply below_drew1)⟩

-- NOT PRINTED: function 33 (tally_each)

-- NOT PRINTED: function 44 (atomic_LoadInt64)

-- NOT PRINTED: function 38 (atomic_Int64_Load)

-- NOT PRINTED: function 23 (tally_Kinds)

end Go.Proofs.Ytndbgdcjhhjaiaa.B
