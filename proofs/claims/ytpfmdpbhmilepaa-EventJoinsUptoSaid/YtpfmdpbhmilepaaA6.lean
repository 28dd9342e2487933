-- Written by wip/hand.py of this session's repository, out of the translation and of contracts typed by hand. Not trusted: Lean checks it.
import Derived.Test.YtpfmdpbhmilepaaA0
namespace Go.Proofs.Ytpfmdpbhmilepaa.A
open Go.RowKit Go.Proofs.YtpfmdpbhmilepaaW.PrintWords Go.Proofs.YtpfmdpbhmilepaaW.PrintLast Go.Proofs.YtpfmdpbhmilepaaW.PrintMore
attribute [local go_sem] max2_int min2_int max_two min_two max_three min_three max_four min_four   -- for this text's walks alone
set_option linter.unusedVariables false
set_option linter.unusedSimpArgs false

/-! ### cartoucheref06_May: function 17 -/
mutual
def cartoucheref06_May.j0 : Nat → Bool → Int → Int → ByteArray → ByteArray → Option (Bool)
  | 0, _, _, _, _, _ => none
  | k + 1, x20, x155000, x155001, x155002, x155003 => if x20 = true then (some false) else (if x155000 = 2 then (cartoucheref06_May.j1 k false x155000 x155001 x155002 x155003) else (cartoucheref06_May.j1 k (x155000 != 3) x155000 x155001 x155002 x155003))
def cartoucheref06_May.j1 : Nat → Bool → Int → Int → ByteArray → ByteArray → Option (Bool)
  | 0, _, _, _, _, _ => none
  | k + 1, x28, x155000, x155001, x155002, x155003 => if x28 = true then (if x155002.toList = ([] : List UInt8) then (some (x155003.toList == ([] : List UInt8))) else (some false)) else (if (x155002.size : Int) < 1 then (some false) else (if (x155002.size : Int) > 32 then (some false) else (if (x155003.size : Int) > 32 then (some false) else (if x155000 = 2 then (some true) else (some (decide ((x155003.size : Int) > 0)))))))
end
def cartoucheref06_May.f (k : Nat) (a0_0 : Int) (a0_1 : Int) (a0_2 : ByteArray) (a0_3 : ByteArray) : Option (Bool) := if a0_0 < 1 then (cartoucheref06_May.j0 k true a0_0 a0_1 a0_2 a0_3) else (if a0_0 > 5 then (cartoucheref06_May.j0 k true a0_0 a0_1 a0_2 a0_3) else (if a0_1 < 1 then (cartoucheref06_May.j0 k true a0_0 a0_1 a0_2 a0_3) else (cartoucheref06_May.j0 k (decide (a0_1 > 32)) a0_0 a0_1 a0_2 a0_3)))
theorem cartoucheref06_May.mono_l : ∀ k, (∀ y0 y1 y2 y3 y4, LeO (cartoucheref06_May.j0 k y0 y1 y2 y3 y4) (cartoucheref06_May.j0 (k + 1) y0 y1 y2 y3 y4)) ∧ (∀ y0 y1 y2 y3 y4, LeO (cartoucheref06_May.j1 k y0 y1 y2 y3 y4) (cartoucheref06_May.j1 (k + 1) y0 y1 y2 y3 y4))
  | 0 => ⟨fun _ _ _ _ _ r h => by simp [cartoucheref06_May.j0] at h, fun _ _ _ _ _ r h => by simp [cartoucheref06_May.j1] at h⟩
  | k + 1 => by
    obtain ⟨ih0, ih1⟩ := cartoucheref06_May.mono_l k
    refine ⟨?_, ?_⟩
    · intro y0 y1 y2 y3 y4
      unfold cartoucheref06_May.j0
      repeat' first
      | (with_reducible exact ih0 _ _ _ _ _)
      | (with_reducible exact ih1 _ _ _ _ _)
      | (with_reducible exact LeO.refl _)
      | (with_reducible exact LeO.none _)
      | (with_reducible refine LeO.ite ?_ ?_)
      | (with_reducible refine LeO.bind ?_ (fun _ => ?_))
      | exact ih0 _ _ _ _ _
      | exact ih1 _ _ _ _ _
      | exact LeO.none _
      | refine LeO.ite ?_ ?_
      | refine LeO.bind ?_ (fun _ => ?_)
    · intro y0 y1 y2 y3 y4
      unfold cartoucheref06_May.j1
      repeat' first
      | (with_reducible exact ih0 _ _ _ _ _)
      | (with_reducible exact ih1 _ _ _ _ _)
      | (with_reducible exact LeO.refl _)
      | (with_reducible exact LeO.none _)
      | (with_reducible refine LeO.ite ?_ ?_)
      | (with_reducible refine LeO.bind ?_ (fun _ => ?_))
      | exact ih0 _ _ _ _ _
      | exact ih1 _ _ _ _ _
      | exact LeO.none _
      | refine LeO.ite ?_ ?_
      | refine LeO.bind ?_ (fun _ => ?_)
theorem cartoucheref06_May.mono : ∀ a0 a1 a2 a3 k, LeO (cartoucheref06_May.f k a0 a1 a2 a3) (cartoucheref06_May.f (k + 1) a0 a1 a2 a3) := by
  intro a0 a1 a2 a3 k
  obtain ⟨ih0, ih1⟩ := cartoucheref06_May.mono_l k
  unfold cartoucheref06_May.f
  repeat' first
      | (with_reducible exact ih0 _ _ _ _ _)
      | (with_reducible exact ih1 _ _ _ _ _)
      | (with_reducible exact LeO.refl _)
      | (with_reducible exact LeO.none _)
      | (with_reducible refine LeO.ite ?_ ?_)
      | (with_reducible refine LeO.bind ?_ (fun _ => ?_))
      | exact ih0 _ _ _ _ _
      | exact ih1 _ _ _ _ _
      | exact LeO.none _
      | refine LeO.ite ?_ ?_
      | refine LeO.bind ?_ (fun _ => ?_)
set_option maxHeartbeats 8000000 in
set_option maxRecDepth 100000 in
theorem cartoucheref06_May.calls (k : Nat) (a0_0 : Int) (a0_1 : Int) (a0_2 : ByteArray) (a0_3 : ByteArray) (r : Bool) (w : World) (h : cartoucheref06_May.f k a0_0 a0_1 a0_2 a0_3 = some r) :
    Calls Try.prog 17 #[.agg #[.int .i64 a0_0, .int .i64 a0_1, .string a0_2, .string a0_3]] w fun e w' => e = .returned (.bool r) ∧ Below w.heap.size w w' := by
  have hu23 := Try.underlying23
  have HB := Aside0.mk (Below.refl w.heap.size w)
  have H : (if a0_0 < 1 then (cartoucheref06_May.j0 k true a0_0 a0_1 a0_2 a0_3) else (if a0_0 > 5 then (cartoucheref06_May.j0 k true a0_0 a0_1 a0_2 a0_3) else (if a0_1 < 1 then (cartoucheref06_May.j0 k true a0_0 a0_1 a0_2 a0_3) else (cartoucheref06_May.j0 k (decide (a0_1 > 32)) a0_0 a0_1 a0_2 a0_3)))) = some r := h
  clear h
  have HC2 := Aside0.mk H
  clear H
  go_enter Try.func17, Try.ntmps17
  go_upto_region 1 with (first | ((with_reducible refine gate_dst (N := 1) rfl ?_); (try (refine gate_guard (by rfl) ?_; dsimp only)); refine box_event ?hg (N := 1) ?hd (cs := #[.int .i64 a0_0, .int .i64 a0_1, .string a0_2, .string a0_3]) (t := 23) ?hr ?_; (case hd => rfl); (case hg => rfl); (case hr => first | (go_simp; done) | (go_simp; rfl)); intro gb154 hg w3 hbox hb; have n0_ := Aside0.mk (below_step (by repeat (first | (with_reducible first | exact HB.out | apply below_alloc | apply pw_below_drewN | apply below_drew1) | exact HB.out)) hb); have n1_ := Aside0.mk (hbox); have n2_ := Aside0.mk ((by rw [hg]; exact (below_size (by repeat (first | (with_reducible first | exact HB.out | apply below_alloc | apply pw_below_drewN | apply below_drew1) | exact HB.out))) : w.heap.size ≤ gb154)); have n3_ := Aside0.mk ((by rw [hg]; exact (below_size (by repeat (first | (with_reducible first | exact HB.out | apply below_alloc | apply pw_below_drewN | apply below_drew1) | exact HB.out))) : w.heap.size ≤ gb154)); clear HB; have HB := n0_; have BK154 := n1_; have GW154 := n2_; have GE154 := n3_; clear n0_ n1_ n2_ n3_; clear hb hbox hg))
  (try simp only [Act.put, List.setIfInBounds_toArray, List.set_cons_zero, List.set_cons_succ])
  go_cut [20] (fun v20 wc => ∃ (kq : Nat) (x20_1 : Bool), v20 = .bool x20_1 ∧ Aside0 (cartoucheref06_May.j0 kq x20_1 a0_0 a0_1 a0_2 a0_3 = some r) ∧ Aside0 (kq ≤ k) ∧ Aside0 (wc.heap[gb154]? = some (.cells #[.int .i64 a0_0, .int .i64 a0_1, .string a0_2, .string a0_3] 23 (0, 0))) ∧ Aside0 (Below w.heap.size w wc))
  case first =>
    have H := HC2.out
    clear HC2
    by_cases c4 : a0_0 < 1
    · rw [if_pos c4] at H
      have c4b0 : decide (a0_0 < 1) = true := decide_eq_true c4
      clear c4
      (first | rw [c4b0] | (simp only [i64_w, i32_w]; rw [c4b0]) | skip)
      have H' := Aside0.mk H
      clear H
      have hcz5_0 : w3.cell? ⟨gb154, 0, none⟩ = some (.int .i64 a0_0) := (blk_cell BK154.out 0).trans rfl
      have hcz5_1 : w3.cell? ⟨gb154, 1, none⟩ = some (.int .i64 a0_1) := (blk_cell BK154.out 1).trans rfl
      have hcz5_2 : w3.cell? ⟨gb154, 2, none⟩ = some (.string a0_2) := (blk_cell BK154.out 2).trans rfl
      have hcz5_3 : w3.cell? ⟨gb154, 3, none⟩ = some (.string a0_3) := (blk_cell BK154.out 3).trans rfl
      have hfz5_0 := blk_frozen BK154.out 0
      have hfz5_1 := blk_frozen BK154.out 1
      have hfz5_2 := blk_frozen BK154.out 2
      have hfz5_3 := blk_frozen BK154.out 3
      go_wp2
      go_meet
      case rel => exact ⟨_, (true), (by first | rfl | (simp; done) | (simp [*]; done)), H', ⟨by first | omega | exact Nat.le_refl _⟩, ⟨by (with_reducible repeat (first | refine blk_drewN ?_ _ | refine blk_drew ?_ | refine blk_alloc ?_ _)); exact BK154.out⟩, ⟨by repeat (first | (with_reducible first | exact HB.out | apply below_alloc | apply pw_below_drewN | apply below_drew1 | refine below_set ?_ GE154.out) | exact HB.out)⟩⟩
    · rw [if_neg c4] at H
      have c4b0 : decide (a0_0 < 1) = false := decide_eq_false c4
      clear c4
      (first | rw [c4b0] | (simp only [i64_w, i32_w]; rw [c4b0]) | skip)
      by_cases c6 : a0_0 > 5
      · rw [if_pos c6] at H
        have c6b0 : decide (5 < a0_0) = true := decide_eq_true c6
        clear c6
        have H' := Aside0.mk H
        clear H
        have hcz7_0 : w3.cell? ⟨gb154, 0, none⟩ = some (.int .i64 a0_0) := (blk_cell BK154.out 0).trans rfl
        have hcz7_1 : w3.cell? ⟨gb154, 1, none⟩ = some (.int .i64 a0_1) := (blk_cell BK154.out 1).trans rfl
        have hcz7_2 : w3.cell? ⟨gb154, 2, none⟩ = some (.string a0_2) := (blk_cell BK154.out 2).trans rfl
        have hcz7_3 : w3.cell? ⟨gb154, 3, none⟩ = some (.string a0_3) := (blk_cell BK154.out 3).trans rfl
        have hfz7_0 := blk_frozen BK154.out 0
        have hfz7_1 := blk_frozen BK154.out 1
        have hfz7_2 := blk_frozen BK154.out 2
        have hfz7_3 := blk_frozen BK154.out 3
        go_wp2
        go_meet
        case rel => exact ⟨_, (true), (by first | rfl | (simp; done) | (simp [*]; done)), H', ⟨by first | omega | exact Nat.le_refl _⟩, ⟨by (with_reducible repeat (first | refine blk_drewN ?_ _ | refine blk_drew ?_ | refine blk_alloc ?_ _)); exact BK154.out⟩, ⟨by repeat (first | (with_reducible first | exact HB.out | apply below_alloc | apply pw_below_drewN | apply below_drew1 | refine below_set ?_ GE154.out) | exact HB.out)⟩⟩
      · rw [if_neg c6] at H
        have c6b0 : decide (5 < a0_0) = false := decide_eq_false c6
        clear c6
        by_cases c8 : a0_1 < 1
        · rw [if_pos c8] at H
          have c8b0 : decide (a0_1 < 1) = true := decide_eq_true c8
          clear c8
          have H' := Aside0.mk H
          clear H
          have hcz9_0 : w3.cell? ⟨gb154, 0, none⟩ = some (.int .i64 a0_0) := (blk_cell BK154.out 0).trans rfl
          have hcz9_1 : w3.cell? ⟨gb154, 1, none⟩ = some (.int .i64 a0_1) := (blk_cell BK154.out 1).trans rfl
          have hcz9_2 : w3.cell? ⟨gb154, 2, none⟩ = some (.string a0_2) := (blk_cell BK154.out 2).trans rfl
          have hcz9_3 : w3.cell? ⟨gb154, 3, none⟩ = some (.string a0_3) := (blk_cell BK154.out 3).trans rfl
          have hfz9_0 := blk_frozen BK154.out 0
          have hfz9_1 := blk_frozen BK154.out 1
          have hfz9_2 := blk_frozen BK154.out 2
          have hfz9_3 := blk_frozen BK154.out 3
          go_wp2
          go_meet
          case rel => exact ⟨_, (true), (by first | rfl | (simp; done) | (simp [*]; done)), H', ⟨by first | omega | exact Nat.le_refl _⟩, ⟨by (with_reducible repeat (first | refine blk_drewN ?_ _ | refine blk_drew ?_ | refine blk_alloc ?_ _)); exact BK154.out⟩, ⟨by repeat (first | (with_reducible first | exact HB.out | apply below_alloc | apply pw_below_drewN | apply below_drew1 | refine below_set ?_ GE154.out) | exact HB.out)⟩⟩
        · rw [if_neg c8] at H
          have c8b0 : decide (a0_1 < 1) = false := decide_eq_false c8
          clear c8
          have H' := Aside0.mk H
          clear H
          have hcz10_0 : w3.cell? ⟨gb154, 0, none⟩ = some (.int .i64 a0_0) := (blk_cell BK154.out 0).trans rfl
          have hcz10_1 : w3.cell? ⟨gb154, 1, none⟩ = some (.int .i64 a0_1) := (blk_cell BK154.out 1).trans rfl
          have hcz10_2 : w3.cell? ⟨gb154, 2, none⟩ = some (.string a0_2) := (blk_cell BK154.out 2).trans rfl
          have hcz10_3 : w3.cell? ⟨gb154, 3, none⟩ = some (.string a0_3) := (blk_cell BK154.out 3).trans rfl
          have hfz10_0 := blk_frozen BK154.out 0
          have hfz10_1 := blk_frozen BK154.out 1
          have hfz10_2 := blk_frozen BK154.out 2
          have hfz10_3 := blk_frozen BK154.out 3
          go_wp2
          go_meet
          case rel => exact ⟨_, (decide (a0_1 > 32)), (by first | rfl | (simp; done) | (simp [*]; done)), H', ⟨by first | omega | exact Nat.le_refl _⟩, ⟨by (with_reducible repeat (first | refine blk_drewN ?_ _ | refine blk_drew ?_ | refine blk_alloc ?_ _)); exact BK154.out⟩, ⟨by repeat (first | (with_reducible first | exact HB.out | apply below_alloc | apply pw_below_drewN | apply below_drew1 | refine below_set ?_ GE154.out) | exact HB.out)⟩⟩
  case rest =>
    clear HC2
    try clear c1
    try clear p2
    try clear c4
    try clear c4b0
    try clear c6
    try clear c6b0
    try clear c8
    try clear c8b0
    try clear hcz10_0
    try clear hcz10_1
    try clear hcz10_2
    try clear hcz10_3
    try clear hcz5_0
    try clear hcz5_1
    try clear hcz5_2
    try clear hcz5_3
    try clear hcz7_0
    try clear hcz7_1
    try clear hcz7_2
    try clear hcz7_3
    try clear hcz9_0
    try clear hcz9_1
    try clear hcz9_2
    try clear hcz9_3
    try clear hfz10_0
    try clear hfz10_1
    try clear hfz10_2
    try clear hfz10_3
    try clear hfz5_0
    try clear hfz5_1
    try clear hfz5_2
    try clear hfz5_3
    try clear hfz7_0
    try clear hfz7_1
    try clear hfz7_2
    try clear hfz7_3
    try clear hfz9_0
    try clear hfz9_1
    try clear hfz9_2
    try clear hfz9_3
    obtain ⟨kq, x20_1, rfl, HA, HJ1, BK154, HB⟩ := hcut
    cases kq with
    | zero => exact absurd HA.out (by simp [cartoucheref06_May.j0])
    | succ kj1 =>
      have H := HA.out
      clear HA
      simp only [cartoucheref06_May.j0] at H
      by_cases c11 : x20_1 = true
      · subst c11
        have H1 : (some false) = some r := by rw [if_pos rfl] at H; exact H
        clear H
        have H := H1
        clear H1
        obtain rfl := Option.some.inj H
        go_wp2
        go_ret
        exact ⟨by first | rfl | (simp only [bne_nil_]; rfl) | (simp [errW_none, errW_some] <;> rfl) | (simp [*, errW_none, errW_some] <;> rfl), by repeat (first | (with_reducible first | exact HB.out | apply below_alloc | apply pw_below_drewN | apply below_drew1 | refine below_set ?_ GE154.out) | exact HB.out)⟩
      · replace c11 := Bool.eq_false_iff.mpr c11
        subst c11
        have H1 : (if a0_0 = 2 then (cartoucheref06_May.j1 kj1 false a0_0 a0_1 a0_2 a0_3) else (cartoucheref06_May.j1 kj1 (a0_0 != 3) a0_0 a0_1 a0_2 a0_3)) = some r := by rw [if_neg (show ¬ (false = true) by decide)] at H; exact H
        clear H
        have H := H1
        clear H1
        have HC12 := Aside0.mk H
        clear H
        go_upto_region 3 with (fail)
        go_cut [28] (fun v28 wc => ∃ (kq : Nat) (x28_11 : Bool), v28 = .bool x28_11 ∧ Aside0 (cartoucheref06_May.j1 kq x28_11 a0_0 a0_1 a0_2 a0_3 = some r) ∧ Aside0 (kq ≤ kj1) ∧ Aside0 (wc.heap[gb154]? = some (.cells #[.int .i64 a0_0, .int .i64 a0_1, .string a0_2, .string a0_3] 23 (0, 0))) ∧ Aside0 (Below w.heap.size w wc))
        case first =>
          have H := HC12.out
          clear HC12
          by_cases c13 : a0_0 = 2
          · rw [if_pos c13] at H
            have c13b0 : (a0_0 == 2) = true := beq_iff_eq.mpr c13
            have c13b1 : (a0_0 != 2) = false := bne_eq_false_iff_eq.mpr c13
            clear c13
            (first | rw [c13b0] | (simp only [i64_w, i32_w]; rw [c13b0]) | skip)
            have H' := Aside0.mk H
            clear H
            have hcz14_0 : wc.cell? ⟨gb154, 0, none⟩ = some (.int .i64 a0_0) := (blk_cell BK154.out 0).trans rfl
            have hcz14_1 : wc.cell? ⟨gb154, 1, none⟩ = some (.int .i64 a0_1) := (blk_cell BK154.out 1).trans rfl
            have hcz14_2 : wc.cell? ⟨gb154, 2, none⟩ = some (.string a0_2) := (blk_cell BK154.out 2).trans rfl
            have hcz14_3 : wc.cell? ⟨gb154, 3, none⟩ = some (.string a0_3) := (blk_cell BK154.out 3).trans rfl
            have hfz14_0 := blk_frozen BK154.out 0
            have hfz14_1 := blk_frozen BK154.out 1
            have hfz14_2 := blk_frozen BK154.out 2
            have hfz14_3 := blk_frozen BK154.out 3
            go_wp2
            go_meet
            case rel => exact ⟨_, (false), (by first | rfl | (simp; done) | (simp [*]; done)), H', ⟨by have := HJ1.out; first | omega | exact Nat.le_refl _⟩, ⟨by (with_reducible repeat (first | refine blk_drewN ?_ _ | refine blk_drew ?_ | refine blk_alloc ?_ _)); exact BK154.out⟩, ⟨by repeat (first | (with_reducible first | exact HB.out | apply below_alloc | apply pw_below_drewN | apply below_drew1 | refine below_set ?_ GE154.out) | exact HB.out)⟩⟩
          · rw [if_neg c13] at H
            have c13b0 : (a0_0 == 2) = false := beq_eq_false_iff_ne.mpr c13
            have c13b1 : (a0_0 != 2) = true := bne_iff_ne.mpr c13
            (first | rw [c13b0] | (simp only [i64_w, i32_w]; rw [c13b0]) | skip)
            have H' := Aside0.mk H
            clear H
            have hcz15_0 : wc.cell? ⟨gb154, 0, none⟩ = some (.int .i64 a0_0) := (blk_cell BK154.out 0).trans rfl
            have hcz15_1 : wc.cell? ⟨gb154, 1, none⟩ = some (.int .i64 a0_1) := (blk_cell BK154.out 1).trans rfl
            have hcz15_2 : wc.cell? ⟨gb154, 2, none⟩ = some (.string a0_2) := (blk_cell BK154.out 2).trans rfl
            have hcz15_3 : wc.cell? ⟨gb154, 3, none⟩ = some (.string a0_3) := (blk_cell BK154.out 3).trans rfl
            have hfz15_0 := blk_frozen BK154.out 0
            have hfz15_1 := blk_frozen BK154.out 1
            have hfz15_2 := blk_frozen BK154.out 2
            have hfz15_3 := blk_frozen BK154.out 3
            go_wp2
            go_meet
            case rel => exact ⟨_, ((a0_0 != 3)), (by first | rfl | (simp; done) | (simp [*]; done)), H', ⟨by have := HJ1.out; first | omega | exact Nat.le_refl _⟩, ⟨by (with_reducible repeat (first | refine blk_drewN ?_ _ | refine blk_drew ?_ | refine blk_alloc ?_ _)); exact BK154.out⟩, ⟨by repeat (first | (with_reducible first | exact HB.out | apply below_alloc | apply pw_below_drewN | apply below_drew1 | refine below_set ?_ GE154.out) | exact HB.out)⟩⟩
        case rest =>
          clear HC12
          try clear c1
          try clear p2
          try clear c4
          try clear c4b0
          try clear c6
          try clear c6b0
          try clear c8
          try clear c8b0
          try clear c11
          try clear c13
          try clear c13b0
          try clear c13b1
          try clear hcz10_0
          try clear hcz10_1
          try clear hcz10_2
          try clear hcz10_3
          try clear hcz14_0
          try clear hcz14_1
          try clear hcz14_2
          try clear hcz14_3
          try clear hcz15_0
          try clear hcz15_1
          try clear hcz15_2
          try clear hcz15_3
          try clear hcz5_0
          try clear hcz5_1
          try clear hcz5_2
          try clear hcz5_3
          try clear hcz7_0
          try clear hcz7_1
          try clear hcz7_2
          try clear hcz7_3
          try clear hcz9_0
          try clear hcz9_1
          try clear hcz9_2
          try clear hcz9_3
          try clear hfz10_0
          try clear hfz10_1
          try clear hfz10_2
          try clear hfz10_3
          try clear hfz14_0
          try clear hfz14_1
          try clear hfz14_2
          try clear hfz14_3
          try clear hfz15_0
          try clear hfz15_1
          try clear hfz15_2
          try clear hfz15_3
          try clear hfz5_0
          try clear hfz5_1
          try clear hfz5_2
          try clear hfz5_3
          try clear hfz7_0
          try clear hfz7_1
          try clear hfz7_2
          try clear hfz7_3
          try clear hfz9_0
          try clear hfz9_1
          try clear hfz9_2
          try clear hfz9_3
          try clear p2
          obtain ⟨kq, x28_11, rfl, HA, HJ11, BK154, HB⟩ := hcut
          cases kq with
          | zero => exact absurd HA.out (by simp [cartoucheref06_May.j1])
          | succ kj11 =>
            have H := HA.out
            clear HA
            simp only [cartoucheref06_May.j1] at H
            by_cases c16 : x28_11 = true
            · subst c16
              have H1 : (if a0_2.toList = ([] : List UInt8) then (some (a0_3.toList == ([] : List UInt8))) else (some false)) = some r := by rw [if_pos rfl] at H; exact H
              clear H
              have H := H1
              clear H1
              by_cases c17 : a0_2.toList = ([] : List UInt8)
              · rw [if_pos c17] at H
                have c17b0 : (a0_2.toList == ([] : List UInt8)) = true := beq_iff_eq.mpr c17
                have c17b1 : (a0_2.toList != ([] : List UInt8)) = false := bne_eq_false_iff_eq.mpr c17
                clear c17
                obtain rfl := Option.some.inj H
                have hcz18_0 : wc.cell? ⟨gb154, 0, none⟩ = some (.int .i64 a0_0) := (blk_cell BK154.out 0).trans rfl
                have hcz18_1 : wc.cell? ⟨gb154, 1, none⟩ = some (.int .i64 a0_1) := (blk_cell BK154.out 1).trans rfl
                have hcz18_2 : wc.cell? ⟨gb154, 2, none⟩ = some (.string a0_2) := (blk_cell BK154.out 2).trans rfl
                have hcz18_3 : wc.cell? ⟨gb154, 3, none⟩ = some (.string a0_3) := (blk_cell BK154.out 3).trans rfl
                have hfz18_0 := blk_frozen BK154.out 0
                have hfz18_1 := blk_frozen BK154.out 1
                have hfz18_2 := blk_frozen BK154.out 2
                have hfz18_3 := blk_frozen BK154.out 3
                go_wp2
                go_ret
                exact ⟨by first | rfl | (simp only [bne_nil_]; rfl) | (simp [errW_none, errW_some] <;> rfl) | (simp [*, errW_none, errW_some] <;> rfl), by repeat (first | (with_reducible first | exact HB.out | apply below_alloc | apply pw_below_drewN | apply below_drew1 | refine below_set ?_ GE154.out) | exact HB.out)⟩
              · rw [if_neg c17] at H
                have c17b0 : (a0_2.toList == ([] : List UInt8)) = false := beq_eq_false_iff_ne.mpr c17
                have c17b1 : (a0_2.toList != ([] : List UInt8)) = true := bne_iff_ne.mpr c17
                obtain rfl := Option.some.inj H
                have hcz19_0 : wc.cell? ⟨gb154, 0, none⟩ = some (.int .i64 a0_0) := (blk_cell BK154.out 0).trans rfl
                have hcz19_1 : wc.cell? ⟨gb154, 1, none⟩ = some (.int .i64 a0_1) := (blk_cell BK154.out 1).trans rfl
                have hcz19_2 : wc.cell? ⟨gb154, 2, none⟩ = some (.string a0_2) := (blk_cell BK154.out 2).trans rfl
                have hcz19_3 : wc.cell? ⟨gb154, 3, none⟩ = some (.string a0_3) := (blk_cell BK154.out 3).trans rfl
                have hfz19_0 := blk_frozen BK154.out 0
                have hfz19_1 := blk_frozen BK154.out 1
                have hfz19_2 := blk_frozen BK154.out 2
                have hfz19_3 := blk_frozen BK154.out 3
                go_wp2
                go_ret
                exact ⟨by first | rfl | (simp only [bne_nil_]; rfl) | (simp [errW_none, errW_some] <;> rfl) | (simp [*, errW_none, errW_some] <;> rfl), by repeat (first | (with_reducible first | exact HB.out | apply below_alloc | apply pw_below_drewN | apply below_drew1 | refine below_set ?_ GE154.out) | exact HB.out)⟩
            · replace c16 := Bool.eq_false_iff.mpr c16
              subst c16
              have H1 : (if (a0_2.size : Int) < 1 then (some false) else (if (a0_2.size : Int) > 32 then (some false) else (if (a0_3.size : Int) > 32 then (some false) else (if a0_0 = 2 then (some true) else (some (decide ((a0_3.size : Int) > 0))))))) = some r := by rw [if_neg (show ¬ (false = true) by decide)] at H; exact H
              clear H
              have H := H1
              clear H1
              by_cases c20 : (a0_2.size : Int) < 1
              · rw [if_pos c20] at H
                have c20b0 : decide ((a0_2.size : Int) < 1) = true := decide_eq_true c20
                have c20b1 : decide (a0_2.size < 1) = true := decide_eq_true (by omega)
                clear c20
                obtain rfl := Option.some.inj H
                have hcz21_0 : wc.cell? ⟨gb154, 0, none⟩ = some (.int .i64 a0_0) := (blk_cell BK154.out 0).trans rfl
                have hcz21_1 : wc.cell? ⟨gb154, 1, none⟩ = some (.int .i64 a0_1) := (blk_cell BK154.out 1).trans rfl
                have hcz21_2 : wc.cell? ⟨gb154, 2, none⟩ = some (.string a0_2) := (blk_cell BK154.out 2).trans rfl
                have hcz21_3 : wc.cell? ⟨gb154, 3, none⟩ = some (.string a0_3) := (blk_cell BK154.out 3).trans rfl
                have hfz21_0 := blk_frozen BK154.out 0
                have hfz21_1 := blk_frozen BK154.out 1
                have hfz21_2 := blk_frozen BK154.out 2
                have hfz21_3 := blk_frozen BK154.out 3
                go_wp2
                go_ret
                exact ⟨by first | rfl | (simp only [bne_nil_]; rfl) | (simp [errW_none, errW_some] <;> rfl) | (simp [*, errW_none, errW_some] <;> rfl), by repeat (first | (with_reducible first | exact HB.out | apply below_alloc | apply pw_below_drewN | apply below_drew1 | refine below_set ?_ GE154.out) | exact HB.out)⟩
              · rw [if_neg c20] at H
                have c20b0 : decide ((a0_2.size : Int) < 1) = false := decide_eq_false c20
                have c20b1 : decide (a0_2.size < 1) = false := decide_eq_false (by omega)
                clear c20
                by_cases c22 : (a0_2.size : Int) > 32
                · rw [if_pos c22] at H
                  have c22b0 : decide (32 < (a0_2.size : Int)) = true := decide_eq_true c22
                  have c22b1 : decide (32 < a0_2.size) = true := decide_eq_true (by omega)
                  clear c22
                  obtain rfl := Option.some.inj H
                  have hcz23_0 : wc.cell? ⟨gb154, 0, none⟩ = some (.int .i64 a0_0) := (blk_cell BK154.out 0).trans rfl
                  have hcz23_1 : wc.cell? ⟨gb154, 1, none⟩ = some (.int .i64 a0_1) := (blk_cell BK154.out 1).trans rfl
                  have hcz23_2 : wc.cell? ⟨gb154, 2, none⟩ = some (.string a0_2) := (blk_cell BK154.out 2).trans rfl
                  have hcz23_3 : wc.cell? ⟨gb154, 3, none⟩ = some (.string a0_3) := (blk_cell BK154.out 3).trans rfl
                  have hfz23_0 := blk_frozen BK154.out 0
                  have hfz23_1 := blk_frozen BK154.out 1
                  have hfz23_2 := blk_frozen BK154.out 2
                  have hfz23_3 := blk_frozen BK154.out 3
                  go_wp2
                  go_ret
                  exact ⟨by first | rfl | (simp only [bne_nil_]; rfl) | (simp [errW_none, errW_some] <;> rfl) | (simp [*, errW_none, errW_some] <;> rfl), by repeat (first | (with_reducible first | exact HB.out | apply below_alloc | apply pw_below_drewN | apply below_drew1 | refine below_set ?_ GE154.out) | exact HB.out)⟩
                · rw [if_neg c22] at H
                  have c22b0 : decide (32 < (a0_2.size : Int)) = false := decide_eq_false c22
                  have c22b1 : decide (32 < a0_2.size) = false := decide_eq_false (by omega)
                  clear c22
                  by_cases c24 : (a0_3.size : Int) > 32
                  · rw [if_pos c24] at H
                    have c24b0 : decide (32 < (a0_3.size : Int)) = true := decide_eq_true c24
                    have c24b1 : decide (32 < a0_3.size) = true := decide_eq_true (by omega)
                    clear c24
                    obtain rfl := Option.some.inj H
                    have hcz25_0 : wc.cell? ⟨gb154, 0, none⟩ = some (.int .i64 a0_0) := (blk_cell BK154.out 0).trans rfl
                    have hcz25_1 : wc.cell? ⟨gb154, 1, none⟩ = some (.int .i64 a0_1) := (blk_cell BK154.out 1).trans rfl
                    have hcz25_2 : wc.cell? ⟨gb154, 2, none⟩ = some (.string a0_2) := (blk_cell BK154.out 2).trans rfl
                    have hcz25_3 : wc.cell? ⟨gb154, 3, none⟩ = some (.string a0_3) := (blk_cell BK154.out 3).trans rfl
                    have hfz25_0 := blk_frozen BK154.out 0
                    have hfz25_1 := blk_frozen BK154.out 1
                    have hfz25_2 := blk_frozen BK154.out 2
                    have hfz25_3 := blk_frozen BK154.out 3
                    go_wp2
                    go_ret
                    exact ⟨by first | rfl | (simp only [bne_nil_]; rfl) | (simp [errW_none, errW_some] <;> rfl) | (simp [*, errW_none, errW_some] <;> rfl), by repeat (first | (with_reducible first | exact HB.out | apply below_alloc | apply pw_below_drewN | apply below_drew1 | refine below_set ?_ GE154.out) | exact HB.out)⟩
                  · rw [if_neg c24] at H
                    have c24b0 : decide (32 < (a0_3.size : Int)) = false := decide_eq_false c24
                    have c24b1 : decide (32 < a0_3.size) = false := decide_eq_false (by omega)
                    clear c24
                    by_cases c26 : a0_0 = 2
                    · rw [if_pos c26] at H
                      have c26b0 : (a0_0 == 2) = true := beq_iff_eq.mpr c26
                      have c26b1 : (a0_0 != 2) = false := bne_eq_false_iff_eq.mpr c26
                      clear c26
                      obtain rfl := Option.some.inj H
                      have hcz27_0 : wc.cell? ⟨gb154, 0, none⟩ = some (.int .i64 a0_0) := (blk_cell BK154.out 0).trans rfl
                      have hcz27_1 : wc.cell? ⟨gb154, 1, none⟩ = some (.int .i64 a0_1) := (blk_cell BK154.out 1).trans rfl
                      have hcz27_2 : wc.cell? ⟨gb154, 2, none⟩ = some (.string a0_2) := (blk_cell BK154.out 2).trans rfl
                      have hcz27_3 : wc.cell? ⟨gb154, 3, none⟩ = some (.string a0_3) := (blk_cell BK154.out 3).trans rfl
                      have hfz27_0 := blk_frozen BK154.out 0
                      have hfz27_1 := blk_frozen BK154.out 1
                      have hfz27_2 := blk_frozen BK154.out 2
                      have hfz27_3 := blk_frozen BK154.out 3
                      go_wp2
                      go_ret
                      exact ⟨by first | rfl | (simp only [bne_nil_]; rfl) | (simp [errW_none, errW_some] <;> rfl) | (simp [*, errW_none, errW_some] <;> rfl), by repeat (first | (with_reducible first | exact HB.out | apply below_alloc | apply pw_below_drewN | apply below_drew1 | refine below_set ?_ GE154.out) | exact HB.out)⟩
                    · rw [if_neg c26] at H
                      have c26b0 : (a0_0 == 2) = false := beq_eq_false_iff_ne.mpr c26
                      have c26b1 : (a0_0 != 2) = true := bne_iff_ne.mpr c26
                      obtain rfl := Option.some.inj H
                      have hcz28_0 : wc.cell? ⟨gb154, 0, none⟩ = some (.int .i64 a0_0) := (blk_cell BK154.out 0).trans rfl
                      have hcz28_1 : wc.cell? ⟨gb154, 1, none⟩ = some (.int .i64 a0_1) := (blk_cell BK154.out 1).trans rfl
                      have hcz28_2 : wc.cell? ⟨gb154, 2, none⟩ = some (.string a0_2) := (blk_cell BK154.out 2).trans rfl
                      have hcz28_3 : wc.cell? ⟨gb154, 3, none⟩ = some (.string a0_3) := (blk_cell BK154.out 3).trans rfl
                      have hfz28_0 := blk_frozen BK154.out 0
                      have hfz28_1 := blk_frozen BK154.out 1
                      have hfz28_2 := blk_frozen BK154.out 2
                      have hfz28_3 := blk_frozen BK154.out 3
                      go_wp2
                      go_ret
                      exact ⟨by first | rfl | (simp only [bne_nil_]; rfl) | (simp [errW_none, errW_some] <;> rfl) | (simp [*, errW_none, errW_some] <;> rfl), by repeat (first | (with_reducible first | exact HB.out | apply below_alloc | apply pw_below_drewN | apply below_drew1 | refine below_set ?_ GE154.out) | exact HB.out)⟩

end Go.Proofs.Ytpfmdpbhmilepaa.A
