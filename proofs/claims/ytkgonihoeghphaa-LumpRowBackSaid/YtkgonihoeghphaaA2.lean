-- Written by wip/hand.py of this session's repository, out of the translation and of contracts typed by hand. Not trusted: Lean checks it.
import Derived.Test.YtkgonihoeghphaaA0
import Derived.Test.YtkgonihoeghphaaA1
namespace Go.Proofs.Ytkgonihoeghphaa.A
open Go.RowKit Go.Proofs.YtkgonihoeghphaaW.PrintWords Go.Proofs.YtkgonihoeghphaaW.PrintLast Go.Proofs.YtkgonihoeghphaaW.PrintMore
attribute [local go_sem] max2_int min2_int max_two min_two max_three min_three max_four min_four   -- for this text's walks alone
set_option linter.unusedVariables false
set_option linter.unusedSimpArgs false

/-! ### lump_Num: function 16 -/
def lump_Num.go : Nat → Int → List Int → List Int
  | 0, _, acc => acc
  | k + 1, v, acc => if v = 0 then acc else lump_Num.go k (v / 256) (v % 256 :: acc)
def lump_Num.digits (v : Int) : List Int := lump_Num.go 8 v []
def lump_Num.f (a0 : Int) : Option (ByteArray) := if 0 ≤ a0 ∧ a0 ≤ 18446744073709551615 then some (strOfNums (((lump_Num.digits a0).length : Int) :: lump_Num.digits a0)) else none
/-- After k rounds: the number that is left, the digits that are laid. -/
def lump_Num.At (a0 : Int) (k : Nat) (x : Int) (C : Array Value) : Prop :=
  k ≤ 8 ∧ 0 ≤ x ∧ x < 256 ^ (8 - k) ∧ C.size = 9 ∧ ∃ ds : List Int, C.toList.drop (9 - k) = ds.map (Value.int .u8) ∧ lump_Num.go (8 - k) x ds = lump_Num.digits a0
theorem lump_Num.at_start (a0 : Int) (h0 : 0 ≤ a0) (h1 : a0 ≤ 18446744073709551615) : lump_Num.At a0 0 a0 #[.int .u8 0, .int .u8 0, .int .u8 0, .int .u8 0, .int .u8 0, .int .u8 0, .int .u8 0, .int .u8 0, .int .u8 0] :=
  ⟨by omega, h0, by have : (256 : Int) ^ (8 - 0) = 18446744073709551616 := by decide
                    omega, rfl, [], rfl, rfl⟩
theorem lump_Num.at_lt {a0 : Int} {k : Nat} {x : Int} {C : Array Value} (h : lump_Num.At a0 k x C) (hx : 0 < x) : k < 8 := by
  obtain ⟨h1, h2, h3, _⟩ := h
  rcases Nat.lt_or_ge k 8 with h | h
  · exact h
  · obtain rfl : k = 8 := by omega
    simp at h3; omega
theorem lump_Num.at_step {a0 : Int} {k : Nat} {x : Int} {C : Array Value} (h : lump_Num.At a0 k x C) (hx : 0 < x) : lump_Num.At a0 (k + 1) (x / 256) (C.setIfInBounds (8 - k) (.int .u8 (x % 256))) := by
  have hk := lump_Num.at_lt h hx
  obtain ⟨h1, h2, h3, h4, ds, h5, h6⟩ := h
  refine ⟨hk, by omega, ?_, by simpa using h4, x % 256 :: ds, ?_, ?_⟩
  · have e : (256 : Int) ^ (8 - k) = 256 ^ (8 - (k + 1)) * 256 := by rw [← Int.pow_succ]; congr 1; omega
    rw [e] at h3
    exact Int.ediv_lt_of_lt_mul (by omega) h3
  · have e : 9 - (k + 1) = 8 - k := by omega
    have hl : 8 - k < C.toList.length := by simp; omega
    have hg : (C.toList.set (8 - k) (Value.int .u8 (x % 256))).length = 9 := by simp [h4]
    rw [e, Array.toList_setIfInBounds, List.drop_eq_getElem_cons (by omega)]
    have e2 : 8 - k + 1 = 9 - k := by omega
    rw [e2, List.drop_set_of_lt (by omega), h5]
    simp
  · have e : 8 - k = (8 - (k + 1)) + 1 := by omega
    rw [e, lump_Num.go, if_neg (by omega)] at h6
    exact h6
theorem lump_Num.at_step' {a0 : Int} {k : Nat} {x : Int} {C : Array Value} (h : lump_Num.At a0 k x C) (hx : 0 < x) : lump_Num.At a0 (k + 1) (x / 256) (C.setIfInBounds (9 - k - 1) (.int .u8 (x % 256))) := by
  have e : 9 - k - 1 = 8 - k := by omega
  rw [e]; exact lump_Num.at_step h hx
theorem lump_Num.at_end {a0 : Int} {k : Nat} {x : Int} {C : Array Value} (h : lump_Num.At a0 k x C) (hx : ¬ 0 < x) : ∃ ds : List Int, ds.length = k ∧ C.toList.drop (9 - k) = ds.map (Value.int .u8) ∧ ds = lump_Num.digits a0 := by
  obtain ⟨h1, h2, h3, h4, ds, h5, h6⟩ := h
  obtain rfl : x = 0 := by omega
  have hl : ds.length = k := by
    have := congrArg List.length h5
    simp [h4] at this; omega
  refine ⟨ds, hl, h5, ?_⟩
  rw [← h6]
  cases 8 - k <;> simp [lump_Num.go]
theorem lump_Num.arrLen : Try.prog.arrayLen 60 = 9 := by kernel_rfl
theorem lump_Num.arr : Try.prog.underlying 60 = some (.array (Try.prog.arrayLen 60) (Try.prog.elem 60)) := by kernel_rfl
theorem lump_Num.elemSize (w : World) : (sizeOf (Try.prog.elem 60)).run Try.prog w = .ok 1 w := by kernel_rfl
theorem lump_Num.cut (W : World) (g k : Nat) (hk : k ≤ 8) :
    (Instr.sliceAt 60 (Value.pointer (some { block := g, off := 0 })) (some (Value.int IntKind.i64 (9 - ↑k - 1))) none none).run Try.prog W = .ok (.slice (some ⟨g, 9 - k - 1, none⟩) (k + 1) (k + 1)) W := by
  rw [run_sliceAt_array_l W 60 _ lump_Num.arr .i64 (9 - ↑k - 1) (by omega) (by rw [lump_Num.arrLen]; omega)]
  rw [lump_Num.elemSize, lump_Num.arrLen]
  have e1 : (9 - (k : Int) - 1).toNat = 9 - k - 1 := by omega
  simp only [Result.andThen, slicedAt, e1]
  rw [if_neg (by omega)]
  simp [Addr.add]
  omega
theorem lump_Num.reads (w : World) (k : Nat) (ds : List Int) (C : Array Value) (hk : k ≤ 8) (hC : C.size = 9) (hl : ds.length = k) (hd : C.toList.drop (9 - k) = ds.map (Value.int .u8)) :
    ReadsInt (w.alloc (.cells (C.setIfInBounds (9 - k - 1) (Value.int .u8 (8 - (9 - ↑k - 1)))) 60)) .u8 (some ⟨w.heap.size, 9 - k - 1, none⟩) (k + 1) ((k : Int) :: ds) := by
  refine ⟨by simp [hl], by omega, fun _ => ⟨_, rfl, fun j hj => ?_⟩⟩
  have e0 : (⟨w.heap.size, 9 - k - 1, none⟩ : Addr).add j = ⟨w.heap.size, 9 - k - 1 + j, none⟩ := by unfold Addr.add; split <;> simp_all
  rw [e0]
  have hb : (w.alloc (.cells (C.setIfInBounds (9 - k - 1) (Value.int .u8 (8 - (9 - ↑k - 1)))) 60)).heap[w.heap.size]? = some (.cells (C.setIfInBounds (9 - k - 1) (Value.int .u8 (8 - (9 - ↑k - 1)))) 60 (0, 0)) := heap_alloc_new w _
  rw [blk_cell hb]
  rcases j with _ | j
  · rw [Nat.add_zero, Array.getElem?_setIfInBounds_self_of_lt (by omega)]
    simp; omega
  · have e : (C.toList.drop (9 - k))[j]? = (ds.map (Value.int .u8))[j]? := by rw [hd]
    rw [List.getElem?_drop] at e
    have e2 : 9 - k - 1 + (j + 1) = 9 - k + j := by omega
    rw [e2, Array.getElem?_setIfInBounds_ne (by omega)]
    rw [Array.getElem?_toList] at e
    rw [e]
    simp [List.getElem?_eq_getElem (show j < ds.length by omega), List.getD_eq_getElem?_getD]
set_option maxHeartbeats 400000 in
theorem lump_Num.calls (a0 : Int) (r : ByteArray) (w : World) (h : lump_Num.f a0 = some r) :
    Calls Try.prog 16 #[.int .u64 a0] w fun e w' => e = .returned (.string r) ∧ Below w.heap.size w w' := by
  have H : 0 ≤ a0 ∧ a0 ≤ 18446744073709551615 ∧ strOfNums (((lump_Num.digits a0).length : Int) :: lump_Num.digits a0) = r := by
    unfold lump_Num.f at h
    split at h
    · rename_i h'; exact ⟨h'.1, h'.2, Option.some.inj h⟩
    · cases h
  clear h
  obtain ⟨h0, h1, hr⟩ := H
  have HS := Aside0.mk (lump_Num.at_start a0 h0 h1)
  have HR := Aside0.mk hr
  clear h0 h1 hr
  go_enter Try.func16, Try.ntmps16
  go_wp2
  go_loopw [0, 4] (fun v i wr => ∃ (k : Nat) (x : Int) (C : Array Value), Aside0 (lump_Num.At a0 k x C) ∧ k ≤ 8 ∧ 0 ≤ x ∧ v = .int .u64 x ∧ i = .int .i64 (9 - k) ∧ wr = w.alloc (.cells C 60)) (fun _ i _ => (intOf i).toNat)
  case atStart => exact ⟨0, a0, _, HS, by omega, HS.out.2.1, rfl, rfl, rfl⟩
  case round =>
    obtain ⟨k, x, C, HA, hk, hx0, rfl, rfl, rfl⟩ := hrel
    have hC : C.size = 9 := HA.out.2.2.2.1
    obtain ⟨v8, hv8⟩ : ∃ v, C[9 - k - 1]? = some v := ⟨_, Array.getElem?_eq_getElem (by omega)⟩
    by_cases hx : 0 < x
    · have hk8 : k < 8 := lump_Num.at_lt HA.out hx
      go_wp2
      go_roundw
      case rel => exact ⟨k + 1, x / 256, _, ⟨lump_Num.at_step' HA.out hx⟩, by omega, by omega, rfl, by go_num, rfl⟩
      case measure => simp [intOf]; omega
    · obtain ⟨ds, hd1, hd2, hd3⟩ := lump_Num.at_end HA.out hx
      have hsl := fun W => lump_Num.cut W w.heap.size k hk
      have hrd := lump_Num.reads w k ds C hk hC hd1 hd2
      have hcv := string_of_reads (P := Try.prog) (src := 61) (dst := 9) (e := 5) (c := k + 1) Try.underlying61 Try.underlying5 Try.underlying9 hrd
      have Hd := Aside0.mk hd1
      have Hd3 := Aside0.mk hd3
      clear hd1 hd2 hd3 hrd
      go_wp2
      go_ret
      exact ⟨by rw [← HR.out, ← Hd3.out, Hd.out]; rfl, (Below.refl _ _).alloc (Nat.le_refl _) _⟩

/-! ### cartouchelaw01_shown: function 13 -/
def cartouchelaw01_shown.f (k : Nat)  : Option (Bool) := (lump_TakeNum.f k (⟨#[2, 0, 1]⟩ : ByteArray)).bind fun bt101 => ((lump_Num.f 0).bind fun t104 => (if t104.toList = ([0] : List UInt8) then ((lump_Num.f 258).bind fun t105 => (if t105.toList = ([2, 1, 2] : List UInt8) then (some (bt101.2.2 == 3)) else (some false))) else (some false)))
theorem cartouchelaw01_shown.mono : ∀ k, LeO (cartouchelaw01_shown.f k ) (cartouchelaw01_shown.f (k + 1) ) := by
  intro  k
  unfold cartouchelaw01_shown.f
  repeat' first
      | (with_reducible exact lump_TakeNum.mono _ _)
      | (with_reducible exact LeO.refl _)
      | (with_reducible exact LeO.none _)
      | (with_reducible refine LeO.ite ?_ ?_)
      | (with_reducible refine LeO.bind ?_ (fun _ => ?_))
      | exact lump_TakeNum.mono _ _
      | exact LeO.none _
      | refine LeO.ite ?_ ?_
      | refine LeO.bind ?_ (fun _ => ?_)
set_option maxHeartbeats 8000000 in
set_option maxRecDepth 100000 in
theorem cartouchelaw01_shown.calls (k : Nat)  (r : Bool) (w : World) (h : cartouchelaw01_shown.f k  = some r) :
    Calls Try.prog 13 #[] w fun e w' => e = .returned (.bool r) ∧ Below w.heap.size w w' := by
  have HB := Aside0.mk (Below.refl w.heap.size w)
  have H : ((lump_TakeNum.f k (⟨#[2, 0, 1]⟩ : ByteArray)).bind fun bt101 => ((lump_Num.f 0).bind fun t104 => (if t104.toList = ([0] : List UInt8) then ((lump_Num.f 258).bind fun t105 => (if t105.toList = ([2, 1, 2] : List UInt8) then (some (bt101.2.2 == 3)) else (some false))) else (some false)))) = some r := h
  clear h
  replace H := Option.bind_eq_some_iff.mp H
  obtain ⟨⟨t101, t102, t103⟩, A10, H⟩ := H
  replace H : ((lump_Num.f 0).bind fun t104 => (if t104.toList = ([0] : List UInt8) then ((lump_Num.f 258).bind fun t105 => (if t105.toList = ([2, 1, 2] : List UInt8) then (some (t103 == 3)) else (some false))) else (some false))) = some r := H
  have A1 := Aside0.mk A10
  clear A10
  replace H := Option.bind_eq_some_iff.mp H
  obtain ⟨t104, A20, H⟩ := H
  replace H : (if t104.toList = ([0] : List UInt8) then ((lump_Num.f 258).bind fun t105 => (if t105.toList = ([2, 1, 2] : List UInt8) then (some (t103 == 3)) else (some false))) else (some false)) = some r := H
  have A2 := Aside0.mk A20
  clear A20
  by_cases c3 : t104.toList = ([0] : List UInt8)
  · rw [if_pos c3] at H
    have c3b0 : (t104.toList == ([0] : List UInt8)) = true := beq_iff_eq.mpr c3
    have c3b1 : (t104.toList != ([0] : List UInt8)) = false := bne_eq_false_iff_eq.mpr c3
    clear c3
    replace H := Option.bind_eq_some_iff.mp H
    obtain ⟨t105, A40, H⟩ := H
    replace H : (if t105.toList = ([2, 1, 2] : List UInt8) then (some (t103 == 3)) else (some false)) = some r := H
    have A4 := Aside0.mk A40
    clear A40
    by_cases c5 : t105.toList = ([2, 1, 2] : List UInt8)
    · rw [if_pos c5] at H
      have c5b0 : (t105.toList == ([2, 1, 2] : List UInt8)) = true := beq_iff_eq.mpr c5
      have c5b1 : (t105.toList != ([2, 1, 2] : List UInt8)) = false := bne_eq_false_iff_eq.mpr c5
      clear c5
      obtain rfl := Option.some.inj H
      go_enter Try.func13, Try.ntmps13
      go_wp2_with (first | ((with_reducible refine gate_callee (f := 14) rfl ?_); refine goesL_ (some 5) rfl rfl Try.func14 (by kernel_rfl) rfl #[.string (⟨#[2, 0, 1]⟩ : ByteArray)] rfl (by (try simp only [List.map_toArray, List.map_cons, List.map_nil]); first | done | rfl | (simp only [List.length_drop, List.length_take]; rfl)) ?_; (with_reducible refine (lump_TakeNum.calls k (⟨#[2, 0, 1]⟩ : ByteArray) t101 t102 t103 _ A1.out).mono ?_); rintro e w' ⟨rfl, ⟨nd, rfl⟩⟩; refine ⟨_, rfl, ?_⟩) | ((with_reducible refine gate_callee (f := 16) rfl ?_); refine goesL_ (some 9) rfl rfl Try.func16 (by kernel_rfl) rfl #[.int .u64 0] rfl (by (try simp only [List.map_toArray, List.map_cons, List.map_nil]); first | done | rfl | (simp only [List.length_drop, List.length_take]; rfl)) ?_; (with_reducible refine (lump_Num.calls 0 t104 _ A2.out).mono ?_); rintro e w6 ⟨rfl, hb⟩; refine ⟨_, rfl, ?_⟩; have n0_ := Aside0.mk (below_step (by repeat (first | (with_reducible first | exact HB.out | apply below_alloc | apply pw_below_drewN | apply below_drew1) | exact HB.out)) hb); clear HB; have HB := n0_; clear n0_; (try clear hb); (try clear hb2); (try clear hk); (try clear hi)) | (go_at_call 16; (with_reducible refine (lump_Num.calls 258 t105 _ A4.out).mono ?_); rintro e w7 ⟨rfl, hb⟩; have n0_ := Aside0.mk (below_step (by repeat (first | (with_reducible first | exact HB.out | apply below_alloc | apply pw_below_drewN | apply below_drew1) | exact HB.out)) hb); clear HB; have HB := n0_; clear n0_; (try clear hb); (try clear hb2); (try clear hk); (try clear hi)))
      go_ret
      exact ⟨by first | rfl | (simp only [bne_nil_]; rfl) | (simp [errW_none, errW_some] <;> rfl) | (simp [*, errW_none, errW_some] <;> rfl), by repeat (first | (with_reducible first | exact HB.out | apply below_alloc | apply pw_below_drewN | apply below_drew1) | exact HB.out)⟩
    · rw [if_neg c5] at H
      have c5b0 : (t105.toList == ([2, 1, 2] : List UInt8)) = false := beq_eq_false_iff_ne.mpr c5
      have c5b1 : (t105.toList != ([2, 1, 2] : List UInt8)) = true := bne_iff_ne.mpr c5
      obtain rfl := Option.some.inj H
      go_enter Try.func13, Try.ntmps13
      go_wp2_with (first | ((with_reducible refine gate_callee (f := 14) rfl ?_); refine goesL_ (some 5) rfl rfl Try.func14 (by kernel_rfl) rfl #[.string (⟨#[2, 0, 1]⟩ : ByteArray)] rfl (by (try simp only [List.map_toArray, List.map_cons, List.map_nil]); first | done | rfl | (simp only [List.length_drop, List.length_take]; rfl)) ?_; (with_reducible refine (lump_TakeNum.calls k (⟨#[2, 0, 1]⟩ : ByteArray) t101 t102 t103 _ A1.out).mono ?_); rintro e w' ⟨rfl, ⟨nd, rfl⟩⟩; refine ⟨_, rfl, ?_⟩) | ((with_reducible refine gate_callee (f := 16) rfl ?_); refine goesL_ (some 9) rfl rfl Try.func16 (by kernel_rfl) rfl #[.int .u64 0] rfl (by (try simp only [List.map_toArray, List.map_cons, List.map_nil]); first | done | rfl | (simp only [List.length_drop, List.length_take]; rfl)) ?_; (with_reducible refine (lump_Num.calls 0 t104 _ A2.out).mono ?_); rintro e w8 ⟨rfl, hb⟩; refine ⟨_, rfl, ?_⟩; have n0_ := Aside0.mk (below_step (by repeat (first | (with_reducible first | exact HB.out | apply below_alloc | apply pw_below_drewN | apply below_drew1) | exact HB.out)) hb); clear HB; have HB := n0_; clear n0_; (try clear hb); (try clear hb2); (try clear hk); (try clear hi)) | (go_at_call 16; (with_reducible refine (lump_Num.calls 258 t105 _ A4.out).mono ?_); rintro e w9 ⟨rfl, hb⟩; have n0_ := Aside0.mk (below_step (by repeat (first | (with_reducible first | exact HB.out | apply below_alloc | apply pw_below_drewN | apply below_drew1) | exact HB.out)) hb); clear HB; have HB := n0_; clear n0_; (try clear hb); (try clear hb2); (try clear hk); (try clear hi)))
      go_ret
      exact ⟨by first | rfl | (simp only [bne_nil_]; rfl) | (simp [errW_none, errW_some] <;> rfl) | (simp [*, errW_none, errW_some] <;> rfl), by repeat (first | (with_reducible first | exact HB.out | apply below_alloc | apply pw_below_drewN | apply below_drew1) | exact HB.out)⟩
  · rw [if_neg c3] at H
    have c3b0 : (t104.toList == ([0] : List UInt8)) = false := beq_eq_false_iff_ne.mpr c3
    have c3b1 : (t104.toList != ([0] : List UInt8)) = true := bne_iff_ne.mpr c3
    obtain rfl := Option.some.inj H
    go_enter Try.func13, Try.ntmps13
    go_wp2_with (first | ((with_reducible refine gate_callee (f := 14) rfl ?_); refine goesL_ (some 5) rfl rfl Try.func14 (by kernel_rfl) rfl #[.string (⟨#[2, 0, 1]⟩ : ByteArray)] rfl (by (try simp only [List.map_toArray, List.map_cons, List.map_nil]); first | done | rfl | (simp only [List.length_drop, List.length_take]; rfl)) ?_; (with_reducible refine (lump_TakeNum.calls k (⟨#[2, 0, 1]⟩ : ByteArray) t101 t102 t103 _ A1.out).mono ?_); rintro e w' ⟨rfl, ⟨nd, rfl⟩⟩; refine ⟨_, rfl, ?_⟩) | ((with_reducible refine gate_callee (f := 16) rfl ?_); refine goesL_ (some 9) rfl rfl Try.func16 (by kernel_rfl) rfl #[.int .u64 0] rfl (by (try simp only [List.map_toArray, List.map_cons, List.map_nil]); first | done | rfl | (simp only [List.length_drop, List.length_take]; rfl)) ?_; (with_reducible refine (lump_Num.calls 0 t104 _ A2.out).mono ?_); rintro e w10 ⟨rfl, hb⟩; refine ⟨_, rfl, ?_⟩; have n0_ := Aside0.mk (below_step (by repeat (first | (with_reducible first | exact HB.out | apply below_alloc | apply pw_below_drewN | apply below_drew1) | exact HB.out)) hb); clear HB; have HB := n0_; clear n0_; (try clear hb); (try clear hb2); (try clear hk); (try clear hi)))
    go_ret
    exact ⟨by first | rfl | (simp only [bne_nil_]; rfl) | (simp [errW_none, errW_some] <;> rfl) | (simp [*, errW_none, errW_some] <;> rfl), by repeat (first | (with_reducible first | exact HB.out | apply below_alloc | apply pw_below_drewN | apply below_drew1) | exact HB.out)⟩

end Go.Proofs.Ytkgonihoeghphaa.A
