-- Written by wip/hand.py of this session's repository, out of the translation and of contracts typed by hand. Not trusted: Lean checks it.
import Derived.Test.YtkgonihoeghphaaA0
import Derived.Test.YtkgonihoeghphaaA1
import Derived.Test.YtkgonihoeghphaaA2
import Derived.Test.YtkgonihoeghphaaA8
import Derived.Test.YtkgonihoeghphaaA10
namespace Go.Proofs.Ytkgonihoeghphaa.A
open Go.RowKit Go.Proofs.YtkgonihoeghphaaW.PrintWords Go.Proofs.YtkgonihoeghphaaW.PrintLast Go.Proofs.YtkgonihoeghphaaW.PrintMore
attribute [local go_sem] max2_int min2_int max_two min_two max_three min_three max_four min_four   -- for this text's walks alone
set_option linter.unusedVariables false
set_option linter.unusedSimpArgs false

/-! ### cartouchelaw01_LumpCut: function 12 -/
mutual
def cartouchelaw01_LumpCut.j0 : Nat → List ByteArray → Int → Bool → ByteArray → ByteArray → Bool → Option (Bool)
  | 0, _, _, _, _, _, _ => none
  | k + 1, x1, x2, x7, x8, x9, x30 => if x30 = true then (some x7) else (if x2 < (x8.size : Int) then (if 0 ≤ x2 then (if x2 ≤ (x8.size : Int) then ((lump_TakeNum.f k (x8.extract 0 (x2 : Int).toNat)).bind fun bt238 => (if bt238.2.2 = 2 then (cartouchelaw01_LumpCut.j1 k x1 x2 x7 x9) else (some false))) else (none)) else (none)) else (cartouchelaw01_LumpCut.j1 k x1 x2 x7 x9))
def cartouchelaw01_LumpCut.j1 : Nat → List ByteArray → Int → Bool → ByteArray → Option (Bool)
  | 0, _, _, _, _ => none
  | k + 1, x1, x2, x7, x9 => if x2 < (x9.size : Int) then (if 0 ≤ x2 then (if x2 ≤ (x9.size : Int) then ((lump_TakeRow.f k (x9.extract 0 (x2 : Int).toNat) (x1.length : Int) 65535).bind fun bt241 => (if bt241.2.2 = 2 then (some x7) else (some false))) else (none)) else (none)) else (some x7)
end
def cartouchelaw01_LumpCut.f (k : Nat) (a0 : Int) (l1 : List ByteArray) (a2 : Int) : Option (Bool) := (cartouchelaw01_shown.f k).bind fun t234 => ((lump_Num.f a0).bind fun t235 => ((lump_Row.f l1).bind fun bt236 => (if a2 < 0 then (cartouchelaw01_LumpCut.j0 k l1 a2 t234 t235 bt236.1 true) else (cartouchelaw01_LumpCut.j0 k l1 a2 t234 t235 bt236.1 (bt236.2 != 0)))))
theorem cartouchelaw01_LumpCut.mono_l : ∀ k, (∀ y0 y1 y2 y3 y4 y5, LeO (cartouchelaw01_LumpCut.j0 k y0 y1 y2 y3 y4 y5) (cartouchelaw01_LumpCut.j0 (k + 1) y0 y1 y2 y3 y4 y5)) ∧ (∀ y0 y1 y2 y3, LeO (cartouchelaw01_LumpCut.j1 k y0 y1 y2 y3) (cartouchelaw01_LumpCut.j1 (k + 1) y0 y1 y2 y3))
  | 0 => ⟨fun _ _ _ _ _ _ r h => by simp [cartouchelaw01_LumpCut.j0] at h, fun _ _ _ _ r h => by simp [cartouchelaw01_LumpCut.j1] at h⟩
  | k + 1 => by
    obtain ⟨ih0, ih1⟩ := cartouchelaw01_LumpCut.mono_l k
    refine ⟨?_, ?_⟩
    · intro y0 y1 y2 y3 y4 y5
      unfold cartouchelaw01_LumpCut.j0
      repeat' first
      | (with_reducible exact ih0 _ _ _ _ _ _)
      | (with_reducible exact ih1 _ _ _ _)
      | (with_reducible exact cartouchelaw01_shown.mono _)
      | (with_reducible exact lump_TakeNum.mono _ _)
      | (with_reducible exact lump_TakeRow.mono _ _ _ _)
      | (with_reducible exact LeO.refl _)
      | (with_reducible exact LeO.none _)
      | (with_reducible refine LeO.ite ?_ ?_)
      | (with_reducible refine LeO.bind ?_ (fun _ => ?_))
      | exact ih0 _ _ _ _ _ _
      | exact ih1 _ _ _ _
      | exact cartouchelaw01_shown.mono _
      | exact lump_TakeNum.mono _ _
      | exact lump_TakeRow.mono _ _ _ _
      | exact LeO.none _
      | refine LeO.ite ?_ ?_
      | refine LeO.bind ?_ (fun _ => ?_)
    · intro y0 y1 y2 y3
      unfold cartouchelaw01_LumpCut.j1
      repeat' first
      | (with_reducible exact ih0 _ _ _ _ _ _)
      | (with_reducible exact ih1 _ _ _ _)
      | (with_reducible exact cartouchelaw01_shown.mono _)
      | (with_reducible exact lump_TakeNum.mono _ _)
      | (with_reducible exact lump_TakeRow.mono _ _ _ _)
      | (with_reducible exact LeO.refl _)
      | (with_reducible exact LeO.none _)
      | (with_reducible refine LeO.ite ?_ ?_)
      | (with_reducible refine LeO.bind ?_ (fun _ => ?_))
      | exact ih0 _ _ _ _ _ _
      | exact ih1 _ _ _ _
      | exact cartouchelaw01_shown.mono _
      | exact lump_TakeNum.mono _ _
      | exact lump_TakeRow.mono _ _ _ _
      | exact LeO.none _
      | refine LeO.ite ?_ ?_
      | refine LeO.bind ?_ (fun _ => ?_)
theorem cartouchelaw01_LumpCut.mono : ∀ a0 a1 a2 k, LeO (cartouchelaw01_LumpCut.f k a0 a1 a2) (cartouchelaw01_LumpCut.f (k + 1) a0 a1 a2) := by
  intro a0 a1 a2 k
  obtain ⟨ih0, ih1⟩ := cartouchelaw01_LumpCut.mono_l k
  unfold cartouchelaw01_LumpCut.f
  repeat' first
      | (with_reducible exact ih0 _ _ _ _ _ _)
      | (with_reducible exact ih1 _ _ _ _)
      | (with_reducible exact cartouchelaw01_shown.mono _)
      | (with_reducible exact lump_TakeNum.mono _ _)
      | (with_reducible exact lump_TakeRow.mono _ _ _ _)
      | (with_reducible exact LeO.refl _)
      | (with_reducible exact LeO.none _)
      | (with_reducible refine LeO.ite ?_ ?_)
      | (with_reducible refine LeO.bind ?_ (fun _ => ?_))
      | exact ih0 _ _ _ _ _ _
      | exact ih1 _ _ _ _
      | exact cartouchelaw01_shown.mono _
      | exact lump_TakeNum.mono _ _
      | exact lump_TakeRow.mono _ _ _ _
      | exact LeO.none _
      | refine LeO.ite ?_ ?_
      | refine LeO.bind ?_ (fun _ => ?_)
set_option maxHeartbeats 8000000 in
set_option maxRecDepth 100000 in
theorem cartouchelaw01_LumpCut.calls (k : Nat) (a0 : Int) (A1 : Option Addr) (c1 : Nat) (l1 : List ByteArray) (a2 : Int) (r : Bool) (w : World) (hr1 : Kd.C Kd.string w A1 l1.length l1) (hc1 : l1.length ≤ c1) (h : cartouchelaw01_LumpCut.f k a0 l1 a2 = some r) :
    Calls Try.prog 12 #[.int .u64 a0, .slice A1 l1.length c1, .int .i64 a2] w fun e w' => e = .returned (.bool r) ∧ Below w.heap.size w w' := by
  have HR1 := Aside0.mk hr1
  have HC1 := Aside0.mk hc1
  clear hr1 hc1
  have HB := Aside0.mk (Below.refl w.heap.size w)
  have H : ((cartouchelaw01_shown.f k).bind fun t234 => ((lump_Num.f a0).bind fun t235 => ((lump_Row.f l1).bind fun bt236 => (if a2 < 0 then (cartouchelaw01_LumpCut.j0 k l1 a2 t234 t235 bt236.1 true) else (cartouchelaw01_LumpCut.j0 k l1 a2 t234 t235 bt236.1 (bt236.2 != 0)))))) = some r := h
  clear h
  replace H := Option.bind_eq_some_iff.mp H
  obtain ⟨t234, A40, H⟩ := H
  replace H : ((lump_Num.f a0).bind fun t235 => ((lump_Row.f l1).bind fun bt236 => (if a2 < 0 then (cartouchelaw01_LumpCut.j0 k l1 a2 t234 t235 bt236.1 true) else (cartouchelaw01_LumpCut.j0 k l1 a2 t234 t235 bt236.1 (bt236.2 != 0))))) = some r := H
  have A4 := Aside0.mk A40
  clear A40
  replace H := Option.bind_eq_some_iff.mp H
  obtain ⟨t235, A50, H⟩ := H
  replace H : ((lump_Row.f l1).bind fun bt236 => (if a2 < 0 then (cartouchelaw01_LumpCut.j0 k l1 a2 t234 t235 bt236.1 true) else (cartouchelaw01_LumpCut.j0 k l1 a2 t234 t235 bt236.1 (bt236.2 != 0)))) = some r := H
  have A5 := Aside0.mk A50
  clear A50
  replace H := Option.bind_eq_some_iff.mp H
  obtain ⟨⟨t236, t237⟩, A60, H⟩ := H
  replace H : (if a2 < 0 then (cartouchelaw01_LumpCut.j0 k l1 a2 t234 t235 t236 true) else (cartouchelaw01_LumpCut.j0 k l1 a2 t234 t235 t236 (t237 != 0))) = some r := H
  have A6 := Aside0.mk A60
  clear A60
  have HC7 := Aside0.mk H
  clear H
  go_enter Try.func12, Try.ntmps12
  go_upto_region 4 with (first | ((with_reducible refine gate_callee (f := 13) rfl ?_); refine goesL_ (some 17) rfl rfl Try.func13 (by kernel_rfl) rfl #[] rfl (by (try simp only [List.map_toArray, List.map_cons, List.map_nil]); first | done | rfl | (simp only [List.length_drop, List.length_take]; rfl)) ?_; (with_reducible refine (cartouchelaw01_shown.calls k  t234 _ A4.out).mono ?_); rintro e w8 ⟨rfl, hb⟩; refine ⟨_, rfl, ?_⟩; have n0_ := Aside0.mk (below_step (by repeat (first | (with_reducible first | exact HB.out | apply below_alloc | apply pw_below_drewN | apply below_drew1) | exact HB.out)) hb); clear HB; have HB := n0_; clear n0_; (try clear hb); (try clear hb2); (try clear hk); (try clear hi)) | ((with_reducible refine gate_callee (f := 16) rfl ?_); refine goesL_ (some 19) rfl rfl Try.func16 (by kernel_rfl) rfl #[.int .u64 a0] rfl (by (try simp only [List.map_toArray, List.map_cons, List.map_nil]); first | done | rfl | (simp only [List.length_drop, List.length_take]; rfl)) ?_; (with_reducible refine (lump_Num.calls a0 t235 _ A5.out).mono ?_); rintro e w9 ⟨rfl, hb⟩; refine ⟨_, rfl, ?_⟩; have n0_ := Aside0.mk (below_step (by repeat (first | (with_reducible first | exact HB.out | apply below_alloc | apply pw_below_drewN | apply below_drew1) | exact HB.out)) hb); clear HB; have HB := n0_; clear n0_; (try clear hb); (try clear hb2); (try clear hk); (try clear hi)) | ((with_reducible refine gate_callee (f := 22) rfl ?_); refine goesL_ (some 22) rfl rfl Try.func22 (by kernel_rfl) rfl #[.slice A1 l1.length c1] rfl (by (try simp only [List.map_toArray, List.map_cons, List.map_nil]); first | done | rfl | (simp only [List.length_drop, List.length_take]; rfl)) ?_; (with_reducible refine (lump_Row.calls _ _ l1 t236 t237 _ ?side1 ?side2 A6.out).mono ?_); (case side1 => repeat (first | exact (Kd.C_below HR1.out HB.out) | (with_reducible refine Kd.C_alloc ?_ _) | (with_reducible refine Kd.C_drewN ?_ _) | (with_reducible refine Kd.C_drew ?_))); (case side2 => exact HC1.out); rintro e w10 ⟨rfl, hb⟩; refine ⟨_, rfl, ?_⟩; have n0_ := Aside0.mk (below_step (by repeat (first | (with_reducible first | exact HB.out | apply below_alloc | apply pw_below_drewN | apply below_drew1) | exact HB.out)) hb); clear HB; have HB := n0_; clear n0_; (try clear hb); (try clear hb2); (try clear hk); (try clear hi)))
  (try simp only [Act.put, List.setIfInBounds_toArray, List.set_cons_zero, List.set_cons_succ])
  go_cut [30] (fun v30 wc => ∃ (kq : Nat) (x30_6 : Bool), v30 = .bool x30_6 ∧ Aside0 (cartouchelaw01_LumpCut.j0 kq l1 a2 t234 t235 t236 x30_6 = some r) ∧ Aside0 (kq ≤ k) ∧ Aside0 (Below w.heap.size w wc))
  case first =>
    have H := HC7.out
    clear HC7
    by_cases c11 : a2 < 0
    · rw [if_pos c11] at H
      have c11b0 : decide (a2 < 0) = true := decide_eq_true c11
      clear c11
      (first | rw [c11b0] | (simp only [i64_w, i32_w]; rw [c11b0]) | skip)
      have H' := Aside0.mk H
      clear H
      go_wp2
      go_meet
      case rel => exact ⟨_, (true), (by first | rfl | (simp; done) | (simp [*]; done)), H', ⟨by first | omega | exact Nat.le_refl _⟩, ⟨by repeat (first | (with_reducible first | exact HB.out | apply below_alloc | apply pw_below_drewN | apply below_drew1) | exact HB.out)⟩⟩
    · rw [if_neg c11] at H
      have c11b0 : decide (a2 < 0) = false := decide_eq_false c11
      clear c11
      (first | rw [c11b0] | (simp only [i64_w, i32_w]; rw [c11b0]) | skip)
      have H' := Aside0.mk H
      clear H
      go_wp2
      go_meet
      case rel => exact ⟨_, ((t237 != 0)), (by first | rfl | (simp; done) | (simp [*]; done)), H', ⟨by first | omega | exact Nat.le_refl _⟩, ⟨by repeat (first | (with_reducible first | exact HB.out | apply below_alloc | apply pw_below_drewN | apply below_drew1) | exact HB.out)⟩⟩
  case rest =>
    clear HC7
    try clear c1
    try clear c2
    try clear p2
    try clear c11
    try clear c11b0
    obtain ⟨kq, x30_6, rfl, HA, HJ6, HB⟩ := hcut
    cases kq with
    | zero => exact absurd HA.out (by simp [cartouchelaw01_LumpCut.j0])
    | succ kj6 =>
      have H := HA.out
      clear HA
      simp only [cartouchelaw01_LumpCut.j0] at H
      by_cases c12 : x30_6 = true
      · subst c12
        have H1 : (some t234) = some r := by rw [if_pos rfl] at H; exact H
        clear H
        have H := H1
        clear H1
        obtain rfl := Option.some.inj H
        go_wp2
        go_ret
        exact ⟨by first | rfl | (simp only [bne_nil_]; rfl) | (simp [errW_none, errW_some] <;> rfl) | (simp [*, errW_none, errW_some] <;> rfl), by repeat (first | (with_reducible first | exact HB.out | apply below_alloc | apply pw_below_drewN | apply below_drew1) | exact HB.out)⟩
      · replace c12 := Bool.eq_false_iff.mpr c12
        subst c12
        have H1 : (if a2 < (t235.size : Int) then (if 0 ≤ a2 then (if a2 ≤ (t235.size : Int) then ((lump_TakeNum.f kj6 (t235.extract 0 (a2 : Int).toNat)).bind fun bt238 => (if bt238.2.2 = 2 then (cartouchelaw01_LumpCut.j1 kj6 l1 a2 t234 t236) else (some false))) else (none)) else (none)) else (cartouchelaw01_LumpCut.j1 kj6 l1 a2 t234 t236)) = some r := by rw [if_neg (show ¬ (false = true) by decide)] at H; exact H
        clear H
        have H := H1
        clear H1
        have HC13 := Aside0.mk H
        clear H
        go_upto_if 35 with (fail)
        go_cut [] (fun wc => ∃ (kq : Nat), Aside0 (cartouchelaw01_LumpCut.j1 kq l1 a2 t234 t236 = some r) ∧ Aside0 (kq ≤ kj6) ∧ Aside0 (Below w.heap.size w wc))
        case first =>
          have H := HC13.out
          clear HC13
          by_cases c14 : a2 < (t235.size : Int)
          · rw [if_pos c14] at H
            have c14b0 : decide (a2 < (t235.size : Int)) = true := decide_eq_true c14
            clear c14
            (first | rw [c14b0] | (simp only [i64_w, i32_w]; rw [c14b0]) | skip)
            by_cases c15 : 0 ≤ a2
            · rw [if_pos c15] at H
              have c15b0 := eq_true c15
              have c15b1 : decide (0 ≤ a2) = true := decide_eq_true c15
              clear c15
              by_cases c16 : a2 ≤ (t235.size : Int)
              · rw [if_pos c16] at H
                have c16b0 := eq_true c16
                have c16b1 : decide (a2 ≤ (t235.size : Int)) = true := decide_eq_true c16
                clear c16
                replace H := Option.bind_eq_some_iff.mp H
                obtain ⟨⟨t238, t239, t240⟩, A170, H⟩ := H
                replace H : (if t240 = 2 then (cartouchelaw01_LumpCut.j1 kj6 l1 a2 t234 t236) else (some false)) = some r := H
                have A17 := Aside0.mk A170
                clear A170
                by_cases c18 : t240 = 2
                · rw [if_pos c18] at H
                  have c18b0 : (t240 == 2) = true := beq_iff_eq.mpr c18
                  have c18b1 : (t240 != 2) = false := bne_eq_false_iff_eq.mpr c18
                  clear c18
                  have H' := Aside0.mk H
                  clear H
                  go_wp2_with (first | ((with_reducible refine gate_callee (f := 14) rfl ?_); refine goesL_ (some 40) rfl rfl Try.func14 (by kernel_rfl) rfl #[.string (t235.extract 0 (a2 : Int).toNat)] rfl (by (try simp only [List.map_toArray, List.map_cons, List.map_nil]); first | done | rfl | (simp only [List.length_drop, List.length_take]; rfl)) ?_; (with_reducible refine (lump_TakeNum.calls kj6 (t235.extract 0 (a2 : Int).toNat) t238 t239 t240 _ A17.out).mono ?_); rintro e w' ⟨rfl, ⟨nd, rfl⟩⟩; refine ⟨_, rfl, ?_⟩))
                  go_meet
                  case rel => exact ⟨_, H', ⟨by have := HJ6.out; first | omega | exact Nat.le_refl _⟩, ⟨by repeat (first | (with_reducible first | exact HB.out | apply below_alloc | apply pw_below_drewN | apply below_drew1) | exact HB.out)⟩⟩
                · rw [if_neg c18] at H
                  have c18b0 : (t240 == 2) = false := beq_eq_false_iff_ne.mpr c18
                  have c18b1 : (t240 != 2) = true := bne_iff_ne.mpr c18
                  obtain rfl := Option.some.inj H
                  go_wp2_with (first | ((with_reducible refine gate_callee (f := 14) rfl ?_); refine goesL_ (some 40) rfl rfl Try.func14 (by kernel_rfl) rfl #[.string (t235.extract 0 (a2 : Int).toNat)] rfl (by (try simp only [List.map_toArray, List.map_cons, List.map_nil]); first | done | rfl | (simp only [List.length_drop, List.length_take]; rfl)) ?_; (with_reducible refine (lump_TakeNum.calls kj6 (t235.extract 0 (a2 : Int).toNat) t238 t239 t240 _ A17.out).mono ?_); rintro e w' ⟨rfl, ⟨nd, rfl⟩⟩; refine ⟨_, rfl, ?_⟩))
                  go_ret
                  exact ⟨by first | rfl | (simp only [bne_nil_]; rfl) | (simp [errW_none, errW_some] <;> rfl) | (simp [*, errW_none, errW_some] <;> rfl), by repeat (first | (with_reducible first | exact HB.out | apply below_alloc | apply pw_below_drewN | apply below_drew1) | exact HB.out)⟩
              · rw [if_neg c16] at H
                exact absurd H (by simp)
            · rw [if_neg c15] at H
              exact absurd H (by simp)
          · rw [if_neg c14] at H
            have c14b0 : decide (a2 < (t235.size : Int)) = false := decide_eq_false c14
            clear c14
            (first | rw [c14b0] | (simp only [i64_w, i32_w]; rw [c14b0]) | skip)
            have H' := Aside0.mk H
            clear H
            go_wp2
            go_meet
            case rel => exact ⟨_, H', ⟨by have := HJ6.out; first | omega | exact Nat.le_refl _⟩, ⟨by repeat (first | (with_reducible first | exact HB.out | apply below_alloc | apply pw_below_drewN | apply below_drew1) | exact HB.out)⟩⟩
        case rest =>
          clear HC13
          try clear c1
          try clear c2
          try clear p2
          try clear c11
          try clear c11b0
          try clear c12
          try clear c13
          try clear c14
          try clear c14b0
          try clear c15
          try clear c15b0
          try clear c15b1
          try clear c16
          try clear c16b0
          try clear c16b1
          try clear c18
          try clear c18b0
          try clear c18b1
          try clear p2
          obtain ⟨kq, HA, HJ12, HB⟩ := hcut
          cases kq with
          | zero => exact absurd HA.out (by simp [cartouchelaw01_LumpCut.j1])
          | succ kj12 =>
            have H := HA.out
            clear HA
            simp only [cartouchelaw01_LumpCut.j1] at H
            by_cases c19 : a2 < (t236.size : Int)
            · rw [if_pos c19] at H
              have c19b0 : decide (a2 < (t236.size : Int)) = true := decide_eq_true c19
              clear c19
              by_cases c20 : 0 ≤ a2
              · rw [if_pos c20] at H
                have c20b0 := eq_true c20
                have c20b1 : decide (0 ≤ a2) = true := decide_eq_true c20
                clear c20
                by_cases c21 : a2 ≤ (t236.size : Int)
                · rw [if_pos c21] at H
                  have c21b0 := eq_true c21
                  have c21b1 : decide (a2 ≤ (t236.size : Int)) = true := decide_eq_true c21
                  clear c21
                  replace H := Option.bind_eq_some_iff.mp H
                  obtain ⟨⟨t241, t242, t243⟩, A220, H⟩ := H
                  replace H : (if t243 = 2 then (some t234) else (some false)) = some r := H
                  have A22 := Aside0.mk A220
                  clear A220
                  by_cases c23 : t243 = 2
                  · rw [if_pos c23] at H
                    have c23b0 : (t243 == 2) = true := beq_iff_eq.mpr c23
                    have c23b1 : (t243 != 2) = false := bne_eq_false_iff_eq.mpr c23
                    clear c23
                    obtain rfl := Option.some.inj H
                    go_wp2_with (first | ((with_reducible refine gate_callee (f := 25) rfl ?_); refine goesL_ (some 56) rfl rfl Try.func25 (by kernel_rfl) rfl #[.string (t236.extract 0 (a2 : Int).toNat), .int .i64 (l1.length : Int), .int .i64 65535] rfl (by (try simp only [List.map_toArray, List.map_cons, List.map_nil]); first | done | rfl | (simp only [List.length_drop, List.length_take]; rfl)) ?_; (with_reducible refine (lump_TakeRow.calls kj12 (t236.extract 0 (a2 : Int).toNat) (l1.length : Int) 65535 t241 t242 t243 _ A22.out).mono ?_); rintro e w24 ⟨v244, rfl, ho0, hb⟩; refine ⟨_, rfl, ?_⟩; have n0_ := Aside0.mk (Kd.R_lower ho0 (below_size (by repeat (first | (with_reducible first | exact HB.out | apply below_alloc | apply pw_below_drewN | apply below_drew1) | exact HB.out)))); have n1_ := Aside0.mk (below_step (by repeat (first | (with_reducible first | exact HB.out | apply below_alloc | apply pw_below_drewN | apply below_drew1) | exact HB.out)) hb); clear HB; have HO245 := n0_; have HB := n1_; clear n0_ n1_; (try clear hb); (try clear hb2); (try clear hk); (try clear hi); (try clear ho0)))
                    go_ret
                    exact ⟨by first | rfl | (simp only [bne_nil_]; rfl) | (simp [errW_none, errW_some] <;> rfl) | (simp [*, errW_none, errW_some] <;> rfl), by repeat (first | (with_reducible first | exact HB.out | apply below_alloc | apply pw_below_drewN | apply below_drew1) | exact HB.out)⟩
                  · rw [if_neg c23] at H
                    have c23b0 : (t243 == 2) = false := beq_eq_false_iff_ne.mpr c23
                    have c23b1 : (t243 != 2) = true := bne_iff_ne.mpr c23
                    obtain rfl := Option.some.inj H
                    go_wp2_with (first | ((with_reducible refine gate_callee (f := 25) rfl ?_); refine goesL_ (some 56) rfl rfl Try.func25 (by kernel_rfl) rfl #[.string (t236.extract 0 (a2 : Int).toNat), .int .i64 (l1.length : Int), .int .i64 65535] rfl (by (try simp only [List.map_toArray, List.map_cons, List.map_nil]); first | done | rfl | (simp only [List.length_drop, List.length_take]; rfl)) ?_; (with_reducible refine (lump_TakeRow.calls kj12 (t236.extract 0 (a2 : Int).toNat) (l1.length : Int) 65535 t241 t242 t243 _ A22.out).mono ?_); rintro e w25 ⟨v244, rfl, ho0, hb⟩; refine ⟨_, rfl, ?_⟩; have n0_ := Aside0.mk (Kd.R_lower ho0 (below_size (by repeat (first | (with_reducible first | exact HB.out | apply below_alloc | apply pw_below_drewN | apply below_drew1) | exact HB.out)))); have n1_ := Aside0.mk (below_step (by repeat (first | (with_reducible first | exact HB.out | apply below_alloc | apply pw_below_drewN | apply below_drew1) | exact HB.out)) hb); clear HB; have HO245 := n0_; have HB := n1_; clear n0_ n1_; (try clear hb); (try clear hb2); (try clear hk); (try clear hi); (try clear ho0)))
                    go_ret
                    exact ⟨by first | rfl | (simp only [bne_nil_]; rfl) | (simp [errW_none, errW_some] <;> rfl) | (simp [*, errW_none, errW_some] <;> rfl), by repeat (first | (with_reducible first | exact HB.out | apply below_alloc | apply pw_below_drewN | apply below_drew1) | exact HB.out)⟩
                · rw [if_neg c21] at H
                  exact absurd H (by simp)
              · rw [if_neg c20] at H
                exact absurd H (by simp)
            · rw [if_neg c19] at H
              have c19b0 : decide (a2 < (t236.size : Int)) = false := decide_eq_false c19
              clear c19
              obtain rfl := Option.some.inj H
              go_wp2
              go_ret
              exact ⟨by first | rfl | (simp only [bne_nil_]; rfl) | (simp [errW_none, errW_some] <;> rfl) | (simp [*, errW_none, errW_some] <;> rfl), by repeat (first | (with_reducible first | exact HB.out | apply below_alloc | apply pw_below_drewN | apply below_drew1) | exact HB.out)⟩

end Go.Proofs.Ytkgonihoeghphaa.A
