-- Written by wip/hand.py of this session's repository, out of the translation and of contracts typed by hand. Not trusted: Lean checks it.
import Derived.Test.YtndbgdcjhhjaiaaB0
namespace Go.Proofs.Ytndbgdcjhhjaiaa.B
open Go.RowKit Go.Proofs.YtndbgdcjhhjaiaaW.PrintWords Go.Proofs.YtndbgdcjhhjaiaaW.PrintLast Go.Proofs.YtndbgdcjhhjaiaaW.PrintMore
attribute [local go_sem] max2_int min2_int max_two min_two max_three min_three max_four min_four   -- for this text's walks alone
set_option linter.unusedVariables false
set_option linter.unusedSimpArgs false

/-! ### cartoucheref20_Most: function 26 -/
mutual
def cartoucheref20_Most.l0 : Nat → List (S46) → Int → Int → Int → Option (Int × Int)
  | 0, _, _, _, _ => none
  | k + 1, x0, x4, x5, x6 => if x6 < (x0.length : Int) then (cartoucheref20_Most.l1 k x0 x4 x5 x6 0 0) else (some (x4, x5))
def cartoucheref20_Most.l1 : Nat → List (S46) → Int → Int → Int → Int → Int → Option (Int × Int)
  | 0, _, _, _, _, _, _ => none
  | k + 1, x0, x4, x5, x6, x7, x8 => if x8 < (x0.length : Int) then (if 0 ≤ x8 then (if 0 ≤ x6 then (if x6 < (x0.length : Int) then (if ((rd_T46 x0 x8).f1) = ((rd_T46 x0 x6).f1) then (cartoucheref20_Most.l1 k x0 x4 x5 x6 (wrap64 (x7 + 1)) (wrap64 (x8 + 1))) else (cartoucheref20_Most.l1 k x0 x4 x5 x6 x7 (wrap64 (x8 + 1)))) else (none)) else (none)) else (none)) else (if x7 > x5 then (if 0 ≤ x6 then (if x6 < (x0.length : Int) then (cartoucheref20_Most.l0 k x0 ((rd_T46 x0 x6).f1) x7 (wrap64 (x6 + 1))) else (none)) else (none)) else (if x7 = x5 then (if 0 ≤ x6 then (if x6 < (x0.length : Int) then (if ((rd_T46 x0 x6).f1) < x4 then (cartoucheref20_Most.l0 k x0 ((rd_T46 x0 x6).f1) x7 (wrap64 (x6 + 1))) else (cartoucheref20_Most.l0 k x0 x4 x5 (wrap64 (x6 + 1)))) else (none)) else (none)) else (cartoucheref20_Most.l0 k x0 x4 x5 (wrap64 (x6 + 1)))))
end
def cartoucheref20_Most.f (k : Nat) (l0 : List (S46)) : Option (Int × Int) := cartoucheref20_Most.l0 k l0 0 0 0
theorem cartoucheref20_Most.mono_l : ∀ k, (∀ y0 y1 y2 y3, LeO (cartoucheref20_Most.l0 k y0 y1 y2 y3) (cartoucheref20_Most.l0 (k + 1) y0 y1 y2 y3)) ∧ (∀ y0 y1 y2 y3 y4 y5, LeO (cartoucheref20_Most.l1 k y0 y1 y2 y3 y4 y5) (cartoucheref20_Most.l1 (k + 1) y0 y1 y2 y3 y4 y5))
  | 0 => ⟨fun _ _ _ _ r h => by simp [cartoucheref20_Most.l0] at h, fun _ _ _ _ _ _ r h => by simp [cartoucheref20_Most.l1] at h⟩
  | k + 1 => by
    obtain ⟨ih0, ih1⟩ := cartoucheref20_Most.mono_l k
    refine ⟨?_, ?_⟩
    · intro y0 y1 y2 y3
      unfold cartoucheref20_Most.l0
      repeat' first
      | (with_reducible exact ih0 _ _ _ _)
      | (with_reducible exact ih1 _ _ _ _ _ _)
      | (with_reducible exact LeO.refl _)
      | (with_reducible exact LeO.none _)
      | (with_reducible refine LeO.ite ?_ ?_)
      | (with_reducible refine LeO.bind ?_ (fun _ => ?_))
      | exact ih0 _ _ _ _
      | exact ih1 _ _ _ _ _ _
      | exact LeO.none _
      | refine LeO.ite ?_ ?_
      | refine LeO.bind ?_ (fun _ => ?_)
    · intro y0 y1 y2 y3 y4 y5
      unfold cartoucheref20_Most.l1
      repeat' first
      | (with_reducible exact ih0 _ _ _ _)
      | (with_reducible exact ih1 _ _ _ _ _ _)
      | (with_reducible exact LeO.refl _)
      | (with_reducible exact LeO.none _)
      | (with_reducible refine LeO.ite ?_ ?_)
      | (with_reducible refine LeO.bind ?_ (fun _ => ?_))
      | exact ih0 _ _ _ _
      | exact ih1 _ _ _ _ _ _
      | exact LeO.none _
      | refine LeO.ite ?_ ?_
      | refine LeO.bind ?_ (fun _ => ?_)
theorem cartoucheref20_Most.mono : ∀ a0 k, LeO (cartoucheref20_Most.f k a0) (cartoucheref20_Most.f (k + 1) a0) := by
  intro a0 k
  obtain ⟨ih0, ih1⟩ := cartoucheref20_Most.mono_l k
  unfold cartoucheref20_Most.f
  repeat' first
      | (with_reducible exact ih0 _ _ _ _)
      | (with_reducible exact ih1 _ _ _ _ _ _)
      | (with_reducible exact LeO.refl _)
      | (with_reducible exact LeO.none _)
      | (with_reducible refine LeO.ite ?_ ?_)
      | (with_reducible refine LeO.bind ?_ (fun _ => ?_))
      | exact ih0 _ _ _ _
      | exact ih1 _ _ _ _ _ _
      | exact LeO.none _
      | refine LeO.ite ?_ ?_
      | refine LeO.bind ?_ (fun _ => ?_)
set_option maxHeartbeats 8000000 in
set_option maxRecDepth 100000 in
theorem cartoucheref20_Most.calls (k : Nat) (A0 : Option Addr) (c0 : Nat) (l0 : List (S46)) (r1 : Int) (r2 : Int) (w : World) (hr0 : Kd.C k46 w A0 l0.length l0) (hc0 : l0.length ≤ c0) (h : cartoucheref20_Most.f k l0 = some (r1, r2)) :
    Calls Try.prog 26 #[.slice A0 l0.length c0] w fun e w' => e = .returned (.tuple #[.int .i64 r1, .int .i64 r2]) ∧ Drawn0 w w' := by
  have HR0 := Aside0.mk hr0
  have HC0 := Aside0.mk hc0
  clear hr0 hc0
  have H : (cartoucheref20_Most.l0 k l0 0 0 0) = some (r1, r2) := h
  clear h
  have H' := Aside0.mk H
  clear H
  go_enter Try.func26, Try.ntmps26
  go_wp2
  repeat (go_quiet (fail); try go_wp2)
  go_loopg [4, 5, 6] k (fun kq v4 v5 v6 w' => ∃ (x4_1 : Int) (x5_1 : Int) (x6_1 : Int), v4 = .int .i64 x4_1 ∧ v5 = .int .i64 x5_1 ∧ v6 = .int .i64 x6_1 ∧ Aside0 (cartoucheref20_Most.l0 kq l0 x4_1 x5_1 x6_1 = some (r1, r2)) ∧ Aside0 (kq ≤ k) ∧ Drawn0 w w')
  case atStart => exact ⟨(0), (0), (0), (by first | rfl | (simp; done) | (simp [*]; done)), (by first | rfl | (simp; done) | (simp [*]; done)), (by first | rfl | (simp; done) | (simp [*]; done)), H', ⟨Nat.le_refl _⟩, by repeat (first | exact Drawn0.refl _ | apply Drawn0.step)⟩
  case round =>
    clear H'
    obtain ⟨x4_1, x5_1, x6_1, rfl, rfl, rfl, HA, HK1, ⟨m1, rfl⟩⟩ := hrel
    cases gk with
    | zero => exact absurd HA.out (by simp [cartoucheref20_Most.l0])
    | succ k1 =>
      have H := HA.out
      clear HA
      simp only [cartoucheref20_Most.l0] at H
      by_cases c2 : x6_1 < (l0.length : Int)
      · rw [if_pos c2] at H
        have c2b0 : decide (x6_1 < (l0.length : Int)) = true := decide_eq_true c2
        clear c2
        have H' := Aside0.mk H
        clear H
        go_wp2
        repeat (go_quiet (fail); try go_wp2)
        go_loopg [7, 8] k1 (fun kq v7 v8 w' => ∃ (x7_2 : Int) (x8_2 : Int), v7 = .int .i64 x7_2 ∧ v8 = .int .i64 x8_2 ∧ Aside0 (cartoucheref20_Most.l1 kq l0 x4_1 x5_1 x6_1 x7_2 x8_2 = some (r1, r2)) ∧ Aside0 (kq ≤ k1) ∧ Drawn0 w w')
        case atStart => exact ⟨(0), (0), (by first | rfl | (simp; done) | (simp [*]; done)), (by first | rfl | (simp; done) | (simp [*]; done)), H', ⟨Nat.le_refl _⟩, by repeat (first | exact Drawn0.refl _ | apply Drawn0.step)⟩
        case round =>
          clear H'
          try clear c2
          try clear c2b0
          try clear p2
          obtain ⟨x7_2, x8_2, rfl, rfl, HA, HK2, ⟨m2, rfl⟩⟩ := hrel
          cases gk with
          | zero => exact absurd HA.out (by simp [cartoucheref20_Most.l1])
          | succ k2 =>
            have H := HA.out
            clear HA
            simp only [cartoucheref20_Most.l1] at H
            by_cases c3 : x8_2 < (l0.length : Int)
            · rw [if_pos c3] at H
              have c3b0 : decide (x8_2 < (l0.length : Int)) = true := decide_eq_true c3
              clear c3
              by_cases c4 : 0 ≤ x8_2
              · rw [if_pos c4] at H
                have c4b0 : decide (0 ≤ x8_2) = true := decide_eq_true c4
                clear c4
                by_cases c5 : 0 ≤ x6_1
                · rw [if_pos c5] at H
                  have c5b0 : decide (0 ≤ x6_1) = true := decide_eq_true c5
                  clear c5
                  by_cases c6 : x6_1 < (l0.length : Int)
                  · rw [if_pos c6] at H
                    have c6b0 : decide (x6_1 < (l0.length : Int)) = true := decide_eq_true c6
                    clear c6
                    by_cases c7 : ((rd_T46 l0 x8_2).f1) = ((rd_T46 l0 x6_1).f1)
                    · rw [if_pos c7] at H
                      have c7b0 : (((rd_T46 l0 x8_2).f1) == ((rd_T46 l0 x6_1).f1)) = true := beq_iff_eq.mpr c7
                      have c7b1 : (((rd_T46 l0 x8_2).f1) != ((rd_T46 l0 x6_1).f1)) = false := bne_eq_false_iff_eq.mpr c7
                      clear c7
                      have H' := Aside0.mk H
                      clear H
                      have p122 : 0 ≤ (x8_2 : Int) := of_decide_eq_true (by first | (with_reducible assumption) | assumption)
                      have q122 : x8_2 < (l0.length : Int) := of_decide_eq_true (by first | (with_reducible assumption) | assumption)
                      obtain ⟨ad122, e122, hx122_0, hx122_1, hx122_2, hx122_3⟩ := at_T46 HR0.out x8_2 p122 q122
                      cases e122
                      replace p122 := eq_true p122
                      replace q122 := eq_true q122
                      have p123 : 0 ≤ (x6_1 : Int) := of_decide_eq_true (by first | (with_reducible assumption) | assumption)
                      have q123 : x6_1 < (l0.length : Int) := of_decide_eq_true (by first | (with_reducible assumption) | assumption)
                      obtain ⟨ad123, e123, hx123_0, hx123_1, hx123_2, hx123_3⟩ := at_T46 HR0.out x6_1 p123 q123
                      obtain rfl : ad122 = ad123 := (by injection e123)
                      replace p123 := eq_true p123
                      replace q123 := eq_true q123
                      go_wp2
                      repeat (go_quiet (fail); try go_wp2)
                      go_roundg k2
                      case measure => have := HK1.out; have := HK2.out; omega
                      case rel => exact ⟨(wrap64 (x7_2 + 1)), (wrap64 (x8_2 + 1)), (by first | rfl | (simp; done) | (simp [*]; done)), (by first | rfl | (simp; done) | (simp [*]; done)), H', ⟨by have := HK1.out; have := HK2.out; omega⟩, by repeat (first | exact Drawn0.refl _ | apply Drawn0.step)⟩
                    · rw [if_neg c7] at H
                      have c7b0 : (((rd_T46 l0 x8_2).f1) == ((rd_T46 l0 x6_1).f1)) = false := beq_eq_false_iff_ne.mpr c7
                      have c7b1 : (((rd_T46 l0 x8_2).f1) != ((rd_T46 l0 x6_1).f1)) = true := bne_iff_ne.mpr c7
                      have H' := Aside0.mk H
                      clear H
                      have p122 : 0 ≤ (x8_2 : Int) := of_decide_eq_true (by first | (with_reducible assumption) | assumption)
                      have q122 : x8_2 < (l0.length : Int) := of_decide_eq_true (by first | (with_reducible assumption) | assumption)
                      obtain ⟨ad122, e122, hx122_0, hx122_1, hx122_2, hx122_3⟩ := at_T46 HR0.out x8_2 p122 q122
                      cases e122
                      replace p122 := eq_true p122
                      replace q122 := eq_true q122
                      have p123 : 0 ≤ (x6_1 : Int) := of_decide_eq_true (by first | (with_reducible assumption) | assumption)
                      have q123 : x6_1 < (l0.length : Int) := of_decide_eq_true (by first | (with_reducible assumption) | assumption)
                      obtain ⟨ad123, e123, hx123_0, hx123_1, hx123_2, hx123_3⟩ := at_T46 HR0.out x6_1 p123 q123
                      obtain rfl : ad122 = ad123 := (by injection e123)
                      replace p123 := eq_true p123
                      replace q123 := eq_true q123
                      go_wp2
                      repeat (go_quiet (fail); try go_wp2)
                      go_roundg k2
                      case measure => have := HK1.out; have := HK2.out; omega
                      case rel => exact ⟨(x7_2), (wrap64 (x8_2 + 1)), (by first | rfl | (simp; done) | (simp [*]; done)), (by first | rfl | (simp; done) | (simp [*]; done)), H', ⟨by have := HK1.out; have := HK2.out; omega⟩, by repeat (first | exact Drawn0.refl _ | apply Drawn0.step)⟩
                  · rw [if_neg c6] at H
                    exact absurd H (by simp)
                · rw [if_neg c5] at H
                  exact absurd H (by simp)
              · rw [if_neg c4] at H
                exact absurd H (by simp)
            · rw [if_neg c3] at H
              have c3b0 : decide (x8_2 < (l0.length : Int)) = false := decide_eq_false c3
              clear c3
              by_cases c8 : x7_2 > x5_1
              · rw [if_pos c8] at H
                have c8b0 : decide (x5_1 < x7_2) = true := decide_eq_true c8
                clear c8
                by_cases c9 : 0 ≤ x6_1
                · rw [if_pos c9] at H
                  have c9b0 : decide (0 ≤ x6_1) = true := decide_eq_true c9
                  clear c9
                  by_cases c10 : x6_1 < (l0.length : Int)
                  · rw [if_pos c10] at H
                    have c10b0 : decide (x6_1 < (l0.length : Int)) = true := decide_eq_true c10
                    clear c10
                    have H' := Aside0.mk H
                    clear H
                    have p124 : 0 ≤ (x6_1 : Int) := of_decide_eq_true (by first | (with_reducible assumption) | assumption)
                    have q124 : x6_1 < (l0.length : Int) := of_decide_eq_true (by first | (with_reducible assumption) | assumption)
                    obtain ⟨ad124, e124, hx124_0, hx124_1, hx124_2, hx124_3⟩ := at_T46 HR0.out x6_1 p124 q124
                    cases e124
                    replace p124 := eq_true p124
                    replace q124 := eq_true q124
                    go_wp2
                    repeat (go_quiet (fail); try go_wp2)
                    go_roundg k2
                    case measure => have := HK1.out; have := HK2.out; omega
                    case rel => exact ⟨((rd_T46 l0 x6_1).f1), (x7_2), (wrap64 (x6_1 + 1)), (by first | rfl | (simp; done) | (simp [*]; done)), (by first | rfl | (simp; done) | (simp [*]; done)), (by first | rfl | (simp; done) | (simp [*]; done)), H', ⟨by have := HK1.out; have := HK2.out; omega⟩, by repeat (first | exact Drawn0.refl _ | apply Drawn0.step)⟩
                  · rw [if_neg c10] at H
                    exact absurd H (by simp)
                · rw [if_neg c9] at H
                  exact absurd H (by simp)
              · rw [if_neg c8] at H
                have c8b0 : decide (x5_1 < x7_2) = false := decide_eq_false c8
                clear c8
                by_cases c11 : x7_2 = x5_1
                · rw [if_pos c11] at H
                  have c11b0 : (x7_2 == x5_1) = true := beq_iff_eq.mpr c11
                  have c11b1 : (x7_2 != x5_1) = false := bne_eq_false_iff_eq.mpr c11
                  clear c11
                  by_cases c12 : 0 ≤ x6_1
                  · rw [if_pos c12] at H
                    have c12b0 : decide (0 ≤ x6_1) = true := decide_eq_true c12
                    clear c12
                    by_cases c13 : x6_1 < (l0.length : Int)
                    · rw [if_pos c13] at H
                      have c13b0 : decide (x6_1 < (l0.length : Int)) = true := decide_eq_true c13
                      clear c13
                      by_cases c14 : ((rd_T46 l0 x6_1).f1) < x4_1
                      · rw [if_pos c14] at H
                        have c14b0 : decide (((rd_T46 l0 x6_1).f1) < x4_1) = true := decide_eq_true c14
                        clear c14
                        have H' := Aside0.mk H
                        clear H
                        have p125 : 0 ≤ (x6_1 : Int) := of_decide_eq_true (by first | (with_reducible assumption) | assumption)
                        have q125 : x6_1 < (l0.length : Int) := of_decide_eq_true (by first | (with_reducible assumption) | assumption)
                        obtain ⟨ad125, e125, hx125_0, hx125_1, hx125_2, hx125_3⟩ := at_T46 HR0.out x6_1 p125 q125
                        cases e125
                        replace p125 := eq_true p125
                        replace q125 := eq_true q125
                        have p126 : 0 ≤ (x6_1 : Int) := of_decide_eq_true (by first | (with_reducible assumption) | assumption)
                        have q126 : x6_1 < (l0.length : Int) := of_decide_eq_true (by first | (with_reducible assumption) | assumption)
                        obtain ⟨ad126, e126, hx126_0, hx126_1, hx126_2, hx126_3⟩ := at_T46 HR0.out x6_1 p126 q126
                        obtain rfl : ad125 = ad126 := (by injection e126)
                        replace p126 := eq_true p126
                        replace q126 := eq_true q126
                        go_wp2
                        repeat (go_quiet (fail); try go_wp2)
                        go_roundg k2
                        case measure => have := HK1.out; have := HK2.out; omega
                        case rel => exact ⟨((rd_T46 l0 x6_1).f1), (x7_2), (wrap64 (x6_1 + 1)), (by first | rfl | (simp; done) | (simp [*]; done)), (by first | rfl | (simp; done) | (simp [*]; done)), (by first | rfl | (simp; done) | (simp [*]; done)), H', ⟨by have := HK1.out; have := HK2.out; omega⟩, by repeat (first | exact Drawn0.refl _ | apply Drawn0.step)⟩
                      · rw [if_neg c14] at H
                        have c14b0 : decide (((rd_T46 l0 x6_1).f1) < x4_1) = false := decide_eq_false c14
                        clear c14
                        have H' := Aside0.mk H
                        clear H
                        have p125 : 0 ≤ (x6_1 : Int) := of_decide_eq_true (by first | (with_reducible assumption) | assumption)
                        have q125 : x6_1 < (l0.length : Int) := of_decide_eq_true (by first | (with_reducible assumption) | assumption)
                        obtain ⟨ad125, e125, hx125_0, hx125_1, hx125_2, hx125_3⟩ := at_T46 HR0.out x6_1 p125 q125
                        cases e125
                        replace p125 := eq_true p125
                        replace q125 := eq_true q125
                        go_wp2
                        repeat (go_quiet (fail); try go_wp2)
                        go_roundg k2
                        case measure => have := HK1.out; have := HK2.out; omega
                        case rel => exact ⟨(x4_1), (x5_1), (wrap64 (x6_1 + 1)), (by first | rfl | (simp; done) | (simp [*]; done)), (by first | rfl | (simp; done) | (simp [*]; done)), (by first | rfl | (simp; done) | (simp [*]; done)), H', ⟨by have := HK1.out; have := HK2.out; omega⟩, by repeat (first | exact Drawn0.refl _ | apply Drawn0.step)⟩
                    · rw [if_neg c13] at H
                      exact absurd H (by simp)
                  · rw [if_neg c12] at H
                    exact absurd H (by simp)
                · rw [if_neg c11] at H
                  have c11b0 : (x7_2 == x5_1) = false := beq_eq_false_iff_ne.mpr c11
                  have c11b1 : (x7_2 != x5_1) = true := bne_iff_ne.mpr c11
                  have H' := Aside0.mk H
                  clear H
                  go_wp2
                  repeat (go_quiet (fail); try go_wp2)
                  go_roundg k2
                  case measure => have := HK1.out; have := HK2.out; omega
                  case rel => exact ⟨(x4_1), (x5_1), (wrap64 (x6_1 + 1)), (by first | rfl | (simp; done) | (simp [*]; done)), (by first | rfl | (simp; done) | (simp [*]; done)), (by first | rfl | (simp; done) | (simp [*]; done)), H', ⟨by have := HK1.out; have := HK2.out; omega⟩, by repeat (first | exact Drawn0.refl _ | apply Drawn0.step)⟩
      · rw [if_neg c2] at H
        have c2b0 : decide (x6_1 < (l0.length : Int)) = false := decide_eq_false c2
        clear c2
        simp only [Option.some.injEq, Prod.mk.injEq] at H
        obtain ⟨rfl, rfl⟩ := H
        go_wp2
        repeat (go_quiet (fail); try go_wp2)
        go_ret2
        exact ⟨by first | rfl | (simp; done) | (simp [*]; done), by repeat (first | exact Drawn0.refl _ | apply Drawn0.step)⟩

-- NOT PRINTED: function 27 (cartoucheref20_Kinds)

end Go.Proofs.Ytndbgdcjhhjaiaa.B
