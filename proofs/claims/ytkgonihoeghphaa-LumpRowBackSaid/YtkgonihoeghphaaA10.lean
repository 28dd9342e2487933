-- Written by wip/hand.py of this session's repository, out of the translation and of contracts typed by hand. Not trusted: Lean checks it.
import Derived.Test.YtkgonihoeghphaaA0
import Derived.Test.YtkgonihoeghphaaA5
import Derived.Test.YtkgonihoeghphaaA6
namespace Go.Proofs.Ytkgonihoeghphaa.A
open Go.RowKit Go.Proofs.YtkgonihoeghphaaW.PrintWords Go.Proofs.YtkgonihoeghphaaW.PrintLast Go.Proofs.YtkgonihoeghphaaW.PrintMore
attribute [local go_sem] max2_int min2_int max_two min_two max_three min_three max_four min_four   -- for this text's walks alone
set_option linter.unusedVariables false
set_option linter.unusedSimpArgs false

/-! ### lump_TakeRow: function 25 -/
def lump_TakeRow.l0 : Nat → Int → ByteArray → List ByteArray → Int → Int → Option (List ByteArray × ByteArray × Int)
  | 0, _, _, _, _, _ => none
  | k + 1, x2, x10, x12, x34, x35 => if x35 < x34 then ((lump_TakeText.f x10 x2).bind fun bt193 => (if bt193.2.2 = 0 then (if x12.length < 8796093022208 then (lump_TakeRow.l0 k x2 bt193.2.1 (x12 ++ [bt193.1]) x34 (wrap64 (x35 + 1))) else (none)) else (some (([] : List ByteArray), (⟨#[]⟩ : ByteArray), bt193.2.2)))) else (some (x12, x10, 0))
def lump_TakeRow.f (k : Nat) (a0 : ByteArray) (a1 : Int) (a2 : Int) : Option (List ByteArray × ByteArray × Int) := (lump_takeLength.f a0).bind fun bt190 => (if bt190.2.2 = 0 then (if a1 < 0 then (some (([] : List ByteArray), (⟨#[]⟩ : ByteArray), 4)) else (if bt190.1 > a1 then (some (([] : List ByteArray), (⟨#[]⟩ : ByteArray), 4)) else (lump_TakeRow.l0 k a2 bt190.2.1 ([] : List ByteArray) bt190.1 0))) else (some (([] : List ByteArray), (⟨#[]⟩ : ByteArray), bt190.2.2)))
theorem lump_TakeRow.mono_l : ∀ k, (∀ y0 y1 y2 y3 y4, LeO (lump_TakeRow.l0 k y0 y1 y2 y3 y4) (lump_TakeRow.l0 (k + 1) y0 y1 y2 y3 y4))
  | 0 => fun _ _ _ _ _ r h => by simp [lump_TakeRow.l0] at h
  | k + 1 => by
    have ih0 := lump_TakeRow.mono_l k
    · intro y0 y1 y2 y3 y4
      unfold lump_TakeRow.l0
      repeat' first
      | (with_reducible exact ih0 _ _ _ _ _)
      | (with_reducible exact LeO.refl _)
      | (with_reducible exact LeO.none _)
      | (with_reducible refine LeO.ite ?_ ?_)
      | (with_reducible refine LeO.bind ?_ (fun _ => ?_))
      | exact ih0 _ _ _ _ _
      | exact LeO.none _
      | refine LeO.ite ?_ ?_
      | refine LeO.bind ?_ (fun _ => ?_)
theorem lump_TakeRow.mono : ∀ a0 a1 a2 k, LeO (lump_TakeRow.f k a0 a1 a2) (lump_TakeRow.f (k + 1) a0 a1 a2) := by
  intro a0 a1 a2 k
  have ih0 := lump_TakeRow.mono_l k
  unfold lump_TakeRow.f
  repeat' first
      | (with_reducible exact ih0 _ _ _ _ _)
      | (with_reducible exact LeO.refl _)
      | (with_reducible exact LeO.none _)
      | (with_reducible refine LeO.ite ?_ ?_)
      | (with_reducible refine LeO.bind ?_ (fun _ => ?_))
      | exact ih0 _ _ _ _ _
      | exact LeO.none _
      | refine LeO.ite ?_ ?_
      | refine LeO.bind ?_ (fun _ => ?_)
set_option maxHeartbeats 8000000 in
set_option maxRecDepth 100000 in
theorem lump_TakeRow.calls (k : Nat) (a0 : ByteArray) (a1 : Int) (a2 : Int) (r1 : List ByteArray) (r2 : ByteArray) (r3 : Int) (w : World) (h : lump_TakeRow.f k a0 a1 a2 = some (r1, r2, r3)) :
    Calls Try.prog 25 #[.string a0, .int .i64 a1, .int .i64 a2] w fun e w' => ∃ v0_ : Value, e = .returned (.tuple #[v0_, .string r2, .int .i64 r3]) ∧ Kd.R Kd.string 9 w' w.heap.size (fun _ => True) v0_ r1 ∧ Below w.heap.size w w' := by
  have HB := Aside0.mk (Below.refl w.heap.size w)
  have H : ((lump_takeLength.f a0).bind fun bt190 => (if bt190.2.2 = 0 then (if a1 < 0 then (some (([] : List ByteArray), (⟨#[]⟩ : ByteArray), 4)) else (if bt190.1 > a1 then (some (([] : List ByteArray), (⟨#[]⟩ : ByteArray), 4)) else (lump_TakeRow.l0 k a2 bt190.2.1 ([] : List ByteArray) bt190.1 0))) else (some (([] : List ByteArray), (⟨#[]⟩ : ByteArray), bt190.2.2)))) = some (r1, r2, r3) := h
  clear h
  replace H := Option.bind_eq_some_iff.mp H
  obtain ⟨⟨t190, t191, t192⟩, A40, H⟩ := H
  replace H : (if t192 = 0 then (if a1 < 0 then (some (([] : List ByteArray), (⟨#[]⟩ : ByteArray), 4)) else (if t190 > a1 then (some (([] : List ByteArray), (⟨#[]⟩ : ByteArray), 4)) else (lump_TakeRow.l0 k a2 t191 ([] : List ByteArray) t190 0))) else (some (([] : List ByteArray), (⟨#[]⟩ : ByteArray), t192))) = some (r1, r2, r3) := H
  have A4 := Aside0.mk A40
  clear A40
  by_cases c5 : t192 = 0
  · rw [if_pos c5] at H
    have c5b0 : (t192 == 0) = true := beq_iff_eq.mpr c5
    have c5b1 : (t192 != 0) = false := bne_eq_false_iff_eq.mpr c5
    clear c5
    by_cases c6 : a1 < 0
    · rw [if_pos c6] at H
      have c6b0 : decide (a1 < 0) = true := decide_eq_true c6
      clear c6
      simp only [Option.some.injEq, Prod.mk.injEq] at H
      obtain ⟨rfl, rfl, rfl⟩ := H
      go_enter Try.func25, Try.ntmps25
      go_wp2_with (first | ((with_reducible refine gate_callee (f := 29) rfl ?_); refine goesL_ (some 18) rfl rfl Try.func29 (by kernel_rfl) rfl #[.string a0] rfl (by (try simp only [List.map_toArray, List.map_cons, List.map_nil]); first | done | rfl | (simp only [List.length_drop, List.length_take]; rfl)) ?_; (with_reducible refine (lump_takeLength.calls a0 t190 t191 t192 _ A4.out).mono ?_); rintro e w' ⟨rfl, ⟨nd, rfl⟩⟩; refine ⟨_, rfl, ?_⟩))
      go_ret3
      exact ⟨_, by first | rfl | (simp only [bne_nil_]; rfl) | (simp [errW_none, errW_some] <;> rfl) | (simp [*, errW_none, errW_some] <;> rfl), by first | exact Kd.R_nil _ _ _ _ _ | exact Kd.N_nil _ _ _ _ _ | exact Kd.V_nil _ _ _ _ _ | exact Kd.Q_nil _ _ _ _ _ | exact Kd.S_nil _ _ _ _ _, by repeat (first | (with_reducible first | exact HB.out | apply below_alloc | apply pw_below_drewN | apply below_drew1) | exact HB.out)⟩
    · rw [if_neg c6] at H
      have c6b0 : decide (a1 < 0) = false := decide_eq_false c6
      clear c6
      by_cases c7 : t190 > a1
      · rw [if_pos c7] at H
        have c7b0 : decide (a1 < t190) = true := decide_eq_true c7
        clear c7
        simp only [Option.some.injEq, Prod.mk.injEq] at H
        obtain ⟨rfl, rfl, rfl⟩ := H
        go_enter Try.func25, Try.ntmps25
        go_wp2_with (first | ((with_reducible refine gate_callee (f := 29) rfl ?_); refine goesL_ (some 18) rfl rfl Try.func29 (by kernel_rfl) rfl #[.string a0] rfl (by (try simp only [List.map_toArray, List.map_cons, List.map_nil]); first | done | rfl | (simp only [List.length_drop, List.length_take]; rfl)) ?_; (with_reducible refine (lump_takeLength.calls a0 t190 t191 t192 _ A4.out).mono ?_); rintro e w' ⟨rfl, ⟨nd, rfl⟩⟩; refine ⟨_, rfl, ?_⟩))
        go_ret3
        exact ⟨_, by first | rfl | (simp only [bne_nil_]; rfl) | (simp [errW_none, errW_some] <;> rfl) | (simp [*, errW_none, errW_some] <;> rfl), by first | exact Kd.R_nil _ _ _ _ _ | exact Kd.N_nil _ _ _ _ _ | exact Kd.V_nil _ _ _ _ _ | exact Kd.Q_nil _ _ _ _ _ | exact Kd.S_nil _ _ _ _ _, by repeat (first | (with_reducible first | exact HB.out | apply below_alloc | apply pw_below_drewN | apply below_drew1) | exact HB.out)⟩
      · rw [if_neg c7] at H
        have c7b0 : decide (a1 < t190) = false := decide_eq_false c7
        clear c7
        have H' := Aside0.mk H
        clear H
        go_enter Try.func25, Try.ntmps25
        go_wp2_with (first | ((with_reducible refine gate_callee (f := 29) rfl ?_); refine goesL_ (some 18) rfl rfl Try.func29 (by kernel_rfl) rfl #[.string a0] rfl (by (try simp only [List.map_toArray, List.map_cons, List.map_nil]); first | done | rfl | (simp only [List.length_drop, List.length_take]; rfl)) ?_; (with_reducible refine (lump_takeLength.calls a0 t190 t191 t192 _ A4.out).mono ?_); rintro e w' ⟨rfl, ⟨nd, rfl⟩⟩; refine ⟨_, rfl, ?_⟩))
        go_loopg [10, 12, 35] k (fun kq v10 v12 v35 w' => ∃ (x10_1 : ByteArray) (x12_1 : List ByteArray) (x35_1 : Int), v10 = .string x10_1 ∧ v35 = .int .i64 x35_1 ∧ Aside0 (lump_TakeRow.l0 kq a2 x10_1 x12_1 t190 x35_1 = some (r1, r2, r3)) ∧ Aside0 (kq ≤ k) ∧ Aside0 (Kd.R Kd.string 9 w' w.heap.size (fun _ => True) v12 x12_1) ∧ Aside0 (Below w.heap.size w w'))
        case atStart => exact ⟨(t191), (([] : List ByteArray)), (0), (by first | rfl | (simp; done) | (simp [*]; done)), (by first | rfl | (simp; done) | (simp [*]; done)), H', ⟨Nat.le_refl _⟩, ⟨by first | exact Kd.R_nil _ _ _ _ _ | exact Kd.N_nil _ _ _ _ _ | exact Kd.V_nil _ _ _ _ _ | exact Kd.Q_nil _ _ _ _ _ | exact Kd.S_nil _ _ _ _ _⟩, ⟨by repeat (first | (with_reducible first | exact HB.out | apply below_alloc | apply pw_below_drewN | apply below_drew1) | exact HB.out)⟩⟩
        case round =>
          clear H'
          try clear c2
          try clear p2
          try clear c5
          try clear c5b0
          try clear c5b1
          try clear c6
          try clear c6b0
          try clear c7
          try clear c7b0
          obtain ⟨x10_1, x12_1, x35_1, rfl, rfl, HA, HK1, HO_12, HB⟩ := hrel
          cases gk with
          | zero => exact absurd HA.out (by simp [lump_TakeRow.l0])
          | succ k1 =>
            have H := HA.out
            clear HA
            simp only [lump_TakeRow.l0] at H
            by_cases c8 : x35_1 < t190
            · rw [if_pos c8] at H
              have c8b0 : decide (x35_1 < t190) = true := decide_eq_true c8
              clear c8
              replace H := Option.bind_eq_some_iff.mp H
              obtain ⟨⟨t193, t194, t195⟩, A90, H⟩ := H
              replace H : (if t195 = 0 then (if x12_1.length < 8796093022208 then (lump_TakeRow.l0 k1 a2 t194 (x12_1 ++ [t193]) t190 (wrap64 (x35_1 + 1))) else (none)) else (some (([] : List ByteArray), (⟨#[]⟩ : ByteArray), t195))) = some (r1, r2, r3) := H
              have A9 := Aside0.mk A90
              clear A90
              by_cases c10 : t195 = 0
              · rw [if_pos c10] at H
                have c10b0 : (t195 == 0) = true := beq_iff_eq.mpr c10
                have c10b1 : (t195 != 0) = false := bne_eq_false_iff_eq.mpr c10
                clear c10
                by_cases c11 : x12_1.length < 8796093022208
                · rw [if_pos c11] at H
                  have LMc11 := Aside0.mk c11
                  clear c11
                  obtain ⟨y196, hy196⟩ : ∃ y_ : List ByteArray, y_ = (x12_1 ++ [t193]) := ⟨_, rfl⟩
                  replace H : (lump_TakeRow.l0 k1 a2 t194 y196 t190 (wrap64 (x35_1 + 1))) = some (r1, r2, r3) := by first | (rw [hy196]; with_reducible exact H) | (have H2_ := (Option.bind_some _ _).symm.trans H; rw [hy196]; with_reducible exact H2_) | (have H2_ := (Option.bind_some _ _).symm.trans H; with_reducible exact H2_) | with_reducible exact H | (rw [hy196]; exact H) | exact H
                  have Ny196 := Aside0.mk hy196
                  clear hy196
                  have H' := Aside0.mk H
                  clear H
                  go_wp2_with (first | ((with_reducible refine gate_callee (f := 20) rfl ?_); refine goesL_ (some 40) rfl rfl Try.func20 (by kernel_rfl) rfl #[.string x10_1, .int .i64 a2] rfl (by (try simp only [List.map_toArray, List.map_cons, List.map_nil]); first | done | rfl | (simp only [List.length_drop, List.length_take]; rfl)) ?_; (with_reducible refine (lump_TakeText.calls x10_1 a2 t193 t194 t195 _ A9.out).mono ?_); rintro e w' ⟨rfl, ⟨nd, rfl⟩⟩; refine ⟨_, rfl, ?_⟩) | ((with_reducible refine gate_builtin (b := .append) (xs := #[.tmp 47, .tmp 49]) rfl ?_); at_builtin; refine Kd.R_append Kd.string (w0 := w) w.heap.size rfl (.tmp 47) (.tmp 49) 46 9 (.string ⟨#[]⟩) 16 rfl Try.underlying46 info9 rfl (by decide) (by omega) u12 x12_1 t193 [.string t193] (fun _ => True) (fun _ => False) rfl rfl ?aP (fun _ hk => hk.elim) ?aF ?aO ?aB ?aS ?aL ?_; (case aP => exact rfl); (case aB => exact (by repeat (first | (with_reducible first | exact HB.out | apply below_alloc | apply pw_below_drewN | apply below_drew1) | exact HB.out))); (case aF => exact (fun _ _ => trivial)); (case aO => exact (by (with_reducible repeat (first | apply Kd.R_alloc | apply Kd.R_drewN | apply Kd.R_drew)); exact HO_12.out)); (case aS => exact (below_size (by repeat (first | (with_reducible first | exact HB.out | apply below_alloc | apply pw_below_drewN | apply below_drew1) | exact HB.out)))); (case aL => have := LMc11.out; omega); intro v197 w12 ho hb hg hat; rw [← Ny196.out] at ho; have n0_ := Aside0.mk (hb); have n1_ := Aside0.mk (ho); clear HB; clear HO_12; have HB := n0_; have HO198 := n1_; clear n0_ n1_; clear ho hb hg hat))
                  go_roundg k1
                  case measure => have := HK1.out; omega
                  case rel => exact ⟨(t194), (y196), (wrap64 (x35_1 + 1)), (by first | rfl | (simp; done) | (simp [*]; done)), (by first | rfl | (simp; done) | (simp [*]; done)), H', ⟨by have := HK1.out; omega⟩, ⟨by (with_reducible repeat (first | apply Kd.R_alloc | apply Kd.R_drewN | apply Kd.R_drew)); exact HO198.out⟩, ⟨by repeat (first | (with_reducible first | exact HB.out | apply below_alloc | apply pw_below_drewN | apply below_drew1) | exact HB.out)⟩⟩
                · rw [if_neg c11] at H
                  exact absurd H (by simp)
              · rw [if_neg c10] at H
                have c10b0 : (t195 == 0) = false := beq_eq_false_iff_ne.mpr c10
                have c10b1 : (t195 != 0) = true := bne_iff_ne.mpr c10
                simp only [Option.some.injEq, Prod.mk.injEq] at H
                obtain ⟨rfl, rfl, rfl⟩ := H
                go_wp2_with (first | ((with_reducible refine gate_callee (f := 20) rfl ?_); refine goesL_ (some 40) rfl rfl Try.func20 (by kernel_rfl) rfl #[.string x10_1, .int .i64 a2] rfl (by (try simp only [List.map_toArray, List.map_cons, List.map_nil]); first | done | rfl | (simp only [List.length_drop, List.length_take]; rfl)) ?_; (with_reducible refine (lump_TakeText.calls x10_1 a2 t193 t194 t195 _ A9.out).mono ?_); rintro e w' ⟨rfl, ⟨nd, rfl⟩⟩; refine ⟨_, rfl, ?_⟩))
                go_ret3
                exact ⟨_, by first | rfl | (simp only [bne_nil_]; rfl) | (simp [errW_none, errW_some] <;> rfl) | (simp [*, errW_none, errW_some] <;> rfl), by first | exact Kd.R_nil _ _ _ _ _ | exact Kd.N_nil _ _ _ _ _ | exact Kd.V_nil _ _ _ _ _ | exact Kd.Q_nil _ _ _ _ _ | exact Kd.S_nil _ _ _ _ _, by repeat (first | (with_reducible first | exact HB.out | apply below_alloc | apply pw_below_drewN | apply below_drew1) | exact HB.out)⟩
            · rw [if_neg c8] at H
              have c8b0 : decide (x35_1 < t190) = false := decide_eq_false c8
              clear c8
              simp only [Option.some.injEq, Prod.mk.injEq] at H
              obtain ⟨rfl, rfl, rfl⟩ := H
              go_wp2
              go_ret3
              exact ⟨_, by first | rfl | (simp only [bne_nil_]; rfl) | (simp [errW_none, errW_some] <;> rfl) | (simp [*, errW_none, errW_some] <;> rfl), by (with_reducible repeat (first | apply Kd.R_alloc | apply Kd.R_drewN | apply Kd.R_drew)); exact HO_12.out, by repeat (first | (with_reducible first | exact HB.out | apply below_alloc | apply pw_below_drewN | apply below_drew1) | exact HB.out)⟩
  · rw [if_neg c5] at H
    have c5b0 : (t192 == 0) = false := beq_eq_false_iff_ne.mpr c5
    have c5b1 : (t192 != 0) = true := bne_iff_ne.mpr c5
    simp only [Option.some.injEq, Prod.mk.injEq] at H
    obtain ⟨rfl, rfl, rfl⟩ := H
    go_enter Try.func25, Try.ntmps25
    go_wp2_with (first | ((with_reducible refine gate_callee (f := 29) rfl ?_); refine goesL_ (some 18) rfl rfl Try.func29 (by kernel_rfl) rfl #[.string a0] rfl (by (try simp only [List.map_toArray, List.map_cons, List.map_nil]); first | done | rfl | (simp only [List.length_drop, List.length_take]; rfl)) ?_; (with_reducible refine (lump_takeLength.calls a0 t190 t191 t192 _ A4.out).mono ?_); rintro e w' ⟨rfl, ⟨nd, rfl⟩⟩; refine ⟨_, rfl, ?_⟩))
    go_ret3
    exact ⟨_, by first | rfl | (simp only [bne_nil_]; rfl) | (simp [errW_none, errW_some] <;> rfl) | (simp [*, errW_none, errW_some] <;> rfl), by first | exact Kd.R_nil _ _ _ _ _ | exact Kd.N_nil _ _ _ _ _ | exact Kd.V_nil _ _ _ _ _ | exact Kd.Q_nil _ _ _ _ _ | exact Kd.S_nil _ _ _ _ _, by repeat (first | (with_reducible first | exact HB.out | apply below_alloc | apply pw_below_drewN | apply below_drew1) | exact HB.out)⟩

/-! ### cartoucheref01_TakeRow: function 26 -/
mutual
def cartoucheref01_TakeRow.j0 : Nat → Int → Int → ByteArray → Bool → Option (List ByteArray × ByteArray × Int)
  | 0, _, _, _, _ => none
  | k + 1, x2, x9, x10, x32 => if x32 = true then (some (([] : List ByteArray), (⟨#[]⟩ : ByteArray), 4)) else (cartoucheref01_TakeRow.l0 k x2 x9 x10 ([] : List ByteArray) 0)
def cartoucheref01_TakeRow.l0 : Nat → Int → Int → ByteArray → List ByteArray → Int → Option (List ByteArray × ByteArray × Int)
  | 0, _, _, _, _, _ => none
  | k + 1, x2, x9, x10, x12, x13 => if x13 < x9 then ((cartoucheref01_TakeText.f k x10 x2).bind fun bt202 => (if bt202.2.2 = 0 then (if x12.length < 8796093022208 then (cartoucheref01_TakeRow.l0 k x2 x9 bt202.2.1 (x12 ++ [bt202.1]) (wrap64 (x13 + 1))) else (none)) else (some (([] : List ByteArray), (⟨#[]⟩ : ByteArray), bt202.2.2)))) else (some (x12, x10, 0))
end
def cartoucheref01_TakeRow.f (k : Nat) (a0 : ByteArray) (a1 : Int) (a2 : Int) : Option (List ByteArray × ByteArray × Int) := (cartoucheref01_takeSize.f a0).bind fun bt199 => (if bt199.2.2 = 0 then (if a1 < 0 then (cartoucheref01_TakeRow.j0 k a2 bt199.1 bt199.2.1 true) else (cartoucheref01_TakeRow.j0 k a2 bt199.1 bt199.2.1 (decide (bt199.1 > a1)))) else (some (([] : List ByteArray), (⟨#[]⟩ : ByteArray), bt199.2.2)))
theorem cartoucheref01_TakeRow.mono_l : ∀ k, (∀ y0 y1 y2 y3, LeO (cartoucheref01_TakeRow.j0 k y0 y1 y2 y3) (cartoucheref01_TakeRow.j0 (k + 1) y0 y1 y2 y3)) ∧ (∀ y0 y1 y2 y3 y4, LeO (cartoucheref01_TakeRow.l0 k y0 y1 y2 y3 y4) (cartoucheref01_TakeRow.l0 (k + 1) y0 y1 y2 y3 y4))
  | 0 => ⟨fun _ _ _ _ r h => by simp [cartoucheref01_TakeRow.j0] at h, fun _ _ _ _ _ r h => by simp [cartoucheref01_TakeRow.l0] at h⟩
  | k + 1 => by
    obtain ⟨ih0, ih1⟩ := cartoucheref01_TakeRow.mono_l k
    refine ⟨?_, ?_⟩
    · intro y0 y1 y2 y3
      unfold cartoucheref01_TakeRow.j0
      repeat' first
      | (with_reducible exact ih0 _ _ _ _)
      | (with_reducible exact ih1 _ _ _ _ _)
      | (with_reducible exact cartoucheref01_TakeText.mono _ _ _)
      | (with_reducible exact LeO.refl _)
      | (with_reducible exact LeO.none _)
      | (with_reducible refine LeO.ite ?_ ?_)
      | (with_reducible refine LeO.bind ?_ (fun _ => ?_))
      | exact ih0 _ _ _ _
      | exact ih1 _ _ _ _ _
      | exact cartoucheref01_TakeText.mono _ _ _
      | exact LeO.none _
      | refine LeO.ite ?_ ?_
      | refine LeO.bind ?_ (fun _ => ?_)
    · intro y0 y1 y2 y3 y4
      unfold cartoucheref01_TakeRow.l0
      repeat' first
      | (with_reducible exact ih0 _ _ _ _)
      | (with_reducible exact ih1 _ _ _ _ _)
      | (with_reducible exact cartoucheref01_TakeText.mono _ _ _)
      | (with_reducible exact LeO.refl _)
      | (with_reducible exact LeO.none _)
      | (with_reducible refine LeO.ite ?_ ?_)
      | (with_reducible refine LeO.bind ?_ (fun _ => ?_))
      | exact ih0 _ _ _ _
      | exact ih1 _ _ _ _ _
      | exact cartoucheref01_TakeText.mono _ _ _
      | exact LeO.none _
      | refine LeO.ite ?_ ?_
      | refine LeO.bind ?_ (fun _ => ?_)
theorem cartoucheref01_TakeRow.mono : ∀ a0 a1 a2 k, LeO (cartoucheref01_TakeRow.f k a0 a1 a2) (cartoucheref01_TakeRow.f (k + 1) a0 a1 a2) := by
  intro a0 a1 a2 k
  obtain ⟨ih0, ih1⟩ := cartoucheref01_TakeRow.mono_l k
  unfold cartoucheref01_TakeRow.f
  repeat' first
      | (with_reducible exact ih0 _ _ _ _)
      | (with_reducible exact ih1 _ _ _ _ _)
      | (with_reducible exact cartoucheref01_TakeText.mono _ _ _)
      | (with_reducible exact LeO.refl _)
      | (with_reducible exact LeO.none _)
      | (with_reducible refine LeO.ite ?_ ?_)
      | (with_reducible refine LeO.bind ?_ (fun _ => ?_))
      | exact ih0 _ _ _ _
      | exact ih1 _ _ _ _ _
      | exact cartoucheref01_TakeText.mono _ _ _
      | exact LeO.none _
      | refine LeO.ite ?_ ?_
      | refine LeO.bind ?_ (fun _ => ?_)
set_option maxHeartbeats 8000000 in
set_option maxRecDepth 100000 in
theorem cartoucheref01_TakeRow.calls (k : Nat) (a0 : ByteArray) (a1 : Int) (a2 : Int) (r1 : List ByteArray) (r2 : ByteArray) (r3 : Int) (w : World) (h : cartoucheref01_TakeRow.f k a0 a1 a2 = some (r1, r2, r3)) :
    Calls Try.prog 26 #[.string a0, .int .i64 a1, .int .i64 a2] w fun e w' => ∃ v0_ : Value, e = .returned (.tuple #[v0_, .string r2, .int .i64 r3]) ∧ Kd.R Kd.string 9 w' w.heap.size (fun _ => True) v0_ r1 ∧ Below w.heap.size w w' := by
  have HB := Aside0.mk (Below.refl w.heap.size w)
  have H : ((cartoucheref01_takeSize.f a0).bind fun bt199 => (if bt199.2.2 = 0 then (if a1 < 0 then (cartoucheref01_TakeRow.j0 k a2 bt199.1 bt199.2.1 true) else (cartoucheref01_TakeRow.j0 k a2 bt199.1 bt199.2.1 (decide (bt199.1 > a1)))) else (some (([] : List ByteArray), (⟨#[]⟩ : ByteArray), bt199.2.2)))) = some (r1, r2, r3) := h
  clear h
  replace H := Option.bind_eq_some_iff.mp H
  obtain ⟨⟨t199, t200, t201⟩, A40, H⟩ := H
  replace H : (if t201 = 0 then (if a1 < 0 then (cartoucheref01_TakeRow.j0 k a2 t199 t200 true) else (cartoucheref01_TakeRow.j0 k a2 t199 t200 (decide (t199 > a1)))) else (some (([] : List ByteArray), (⟨#[]⟩ : ByteArray), t201))) = some (r1, r2, r3) := H
  have A4 := Aside0.mk A40
  clear A40
  by_cases c5 : t201 = 0
  · rw [if_pos c5] at H
    have c5b0 : (t201 == 0) = true := beq_iff_eq.mpr c5
    have c5b1 : (t201 != 0) = false := bne_eq_false_iff_eq.mpr c5
    clear c5
    have HC6 := Aside0.mk H
    clear H
    go_enter Try.func26, Try.ntmps26
    go_upto_region 4 with (first | ((with_reducible refine gate_callee (f := 30) rfl ?_); refine goesL_ (some 19) rfl rfl Try.func30 (by kernel_rfl) rfl #[.string a0] rfl (by (try simp only [List.map_toArray, List.map_cons, List.map_nil]); first | done | rfl | (simp only [List.length_drop, List.length_take]; rfl)) ?_; (with_reducible refine (cartoucheref01_takeSize.calls a0 t199 t200 t201 _ A4.out).mono ?_); rintro e w' ⟨rfl, ⟨nd, rfl⟩⟩; refine ⟨_, rfl, ?_⟩))
    (try simp only [Act.put, List.setIfInBounds_toArray, List.set_cons_zero, List.set_cons_succ])
    go_cut [32] (fun v32 wc => ∃ (kq : Nat) (x32_5 : Bool), v32 = .bool x32_5 ∧ Aside0 (cartoucheref01_TakeRow.j0 kq a2 t199 t200 x32_5 = some (r1, r2, r3)) ∧ Aside0 (kq ≤ k) ∧ Aside0 (Below w.heap.size w wc))
    case first =>
      have H := HC6.out
      clear HC6
      by_cases c7 : a1 < 0
      · rw [if_pos c7] at H
        have c7b0 : decide (a1 < 0) = true := decide_eq_true c7
        clear c7
        (first | rw [c7b0] | (simp only [i64_w, i32_w]; rw [c7b0]) | skip)
        have H' := Aside0.mk H
        clear H
        go_wp2
        go_meet
        case rel => exact ⟨_, (true), (by first | rfl | (simp; done) | (simp [*]; done)), H', ⟨by first | omega | exact Nat.le_refl _⟩, ⟨by repeat (first | (with_reducible first | exact HB.out | apply below_alloc | apply pw_below_drewN | apply below_drew1) | exact HB.out)⟩⟩
      · rw [if_neg c7] at H
        have c7b0 : decide (a1 < 0) = false := decide_eq_false c7
        clear c7
        (first | rw [c7b0] | (simp only [i64_w, i32_w]; rw [c7b0]) | skip)
        have H' := Aside0.mk H
        clear H
        go_wp2
        go_meet
        case rel => exact ⟨_, (decide (t199 > a1)), (by first | rfl | (simp; done) | (simp [*]; done)), H', ⟨by first | omega | exact Nat.le_refl _⟩, ⟨by repeat (first | (with_reducible first | exact HB.out | apply below_alloc | apply pw_below_drewN | apply below_drew1) | exact HB.out)⟩⟩
    case rest =>
      clear HC6
      try clear c2
      try clear p2
      try clear c3
      try clear c5
      try clear c5b0
      try clear c5b1
      try clear c7
      try clear c7b0
      obtain ⟨kq, x32_5, rfl, HA, HJ5, HB⟩ := hcut
      cases kq with
      | zero => exact absurd HA.out (by simp [cartoucheref01_TakeRow.j0])
      | succ kj5 =>
        have H := HA.out
        clear HA
        simp only [cartoucheref01_TakeRow.j0] at H
        by_cases c8 : x32_5 = true
        · subst c8
          have H1 : (some (([] : List ByteArray), (⟨#[]⟩ : ByteArray), 4)) = some (r1, r2, r3) := by rw [if_pos rfl] at H; exact H
          clear H
          have H := H1
          clear H1
          simp only [Option.some.injEq, Prod.mk.injEq] at H
          obtain ⟨rfl, rfl, rfl⟩ := H
          go_wp2
          go_ret3
          exact ⟨_, by first | rfl | (simp only [bne_nil_]; rfl) | (simp [errW_none, errW_some] <;> rfl) | (simp [*, errW_none, errW_some] <;> rfl), by first | exact Kd.R_nil _ _ _ _ _ | exact Kd.N_nil _ _ _ _ _ | exact Kd.V_nil _ _ _ _ _ | exact Kd.Q_nil _ _ _ _ _ | exact Kd.S_nil _ _ _ _ _, by repeat (first | (with_reducible first | exact HB.out | apply below_alloc | apply pw_below_drewN | apply below_drew1) | exact HB.out)⟩
        · replace c8 := Bool.eq_false_iff.mpr c8
          subst c8
          have H1 : (cartoucheref01_TakeRow.l0 kj5 a2 t199 t200 ([] : List ByteArray) 0) = some (r1, r2, r3) := by rw [if_neg (show ¬ (false = true) by decide)] at H; exact H
          clear H
          have H := H1
          clear H1
          have H' := Aside0.mk H
          clear H
          go_wp2
          go_loopg [10, 12, 13] kj5 (fun kq v10 v12 v13 w' => ∃ (x10_2 : ByteArray) (x12_2 : List ByteArray) (x13_2 : Int), v10 = .string x10_2 ∧ v13 = .int .i64 x13_2 ∧ Aside0 (cartoucheref01_TakeRow.l0 kq a2 t199 x10_2 x12_2 x13_2 = some (r1, r2, r3)) ∧ Aside0 (kq ≤ kj5) ∧ Aside0 (Kd.R Kd.string 9 w' w.heap.size (fun _ => True) v12 x12_2) ∧ Aside0 (Below w.heap.size w w'))
          case atStart => exact ⟨(t200), (([] : List ByteArray)), (0), (by first | rfl | (simp; done) | (simp [*]; done)), (by first | rfl | (simp; done) | (simp [*]; done)), H', ⟨Nat.le_refl _⟩, ⟨by first | exact Kd.R_nil _ _ _ _ _ | exact Kd.N_nil _ _ _ _ _ | exact Kd.V_nil _ _ _ _ _ | exact Kd.Q_nil _ _ _ _ _ | exact Kd.S_nil _ _ _ _ _⟩, ⟨by repeat (first | (with_reducible first | exact HB.out | apply below_alloc | apply pw_below_drewN | apply below_drew1) | exact HB.out)⟩⟩
          case round =>
            clear H'
            try clear c2
            try clear p2
            try clear c3
            try clear c5
            try clear c5b0
            try clear c5b1
            try clear c7
            try clear c7b0
            try clear c8
            try clear p2
            obtain ⟨x10_2, x12_2, x13_2, rfl, rfl, HA, HK2, HO_12, HB⟩ := hrel
            cases gk with
            | zero => exact absurd HA.out (by simp [cartoucheref01_TakeRow.l0])
            | succ k2 =>
              have H := HA.out
              clear HA
              simp only [cartoucheref01_TakeRow.l0] at H
              by_cases c9 : x13_2 < t199
              · rw [if_pos c9] at H
                have c9b0 : decide (x13_2 < t199) = true := decide_eq_true c9
                clear c9
                replace H := Option.bind_eq_some_iff.mp H
                obtain ⟨⟨t202, t203, t204⟩, A100, H⟩ := H
                replace H : (if t204 = 0 then (if x12_2.length < 8796093022208 then (cartoucheref01_TakeRow.l0 k2 a2 t199 t203 (x12_2 ++ [t202]) (wrap64 (x13_2 + 1))) else (none)) else (some (([] : List ByteArray), (⟨#[]⟩ : ByteArray), t204))) = some (r1, r2, r3) := H
                have A10 := Aside0.mk A100
                clear A100
                by_cases c11 : t204 = 0
                · rw [if_pos c11] at H
                  have c11b0 : (t204 == 0) = true := beq_iff_eq.mpr c11
                  have c11b1 : (t204 != 0) = false := bne_eq_false_iff_eq.mpr c11
                  clear c11
                  by_cases c12 : x12_2.length < 8796093022208
                  · rw [if_pos c12] at H
                    have LMc12 := Aside0.mk c12
                    clear c12
                    obtain ⟨y205, hy205⟩ : ∃ y_ : List ByteArray, y_ = (x12_2 ++ [t202]) := ⟨_, rfl⟩
                    replace H : (cartoucheref01_TakeRow.l0 k2 a2 t199 t203 y205 (wrap64 (x13_2 + 1))) = some (r1, r2, r3) := by first | (rw [hy205]; with_reducible exact H) | (have H2_ := (Option.bind_some _ _).symm.trans H; rw [hy205]; with_reducible exact H2_) | (have H2_ := (Option.bind_some _ _).symm.trans H; with_reducible exact H2_) | with_reducible exact H | (rw [hy205]; exact H) | exact H
                    have Ny205 := Aside0.mk hy205
                    clear hy205
                    have H' := Aside0.mk H
                    clear H
                    go_wp2_with (first | ((with_reducible refine gate_callee (f := 21) rfl ?_); refine goesL_ (some 41) rfl rfl Try.func21 (by kernel_rfl) rfl #[.string x10_2, .int .i64 a2] rfl (by (try simp only [List.map_toArray, List.map_cons, List.map_nil]); first | done | rfl | (simp only [List.length_drop, List.length_take]; rfl)) ?_; (with_reducible refine (cartoucheref01_TakeText.calls k2 x10_2 a2 t202 t203 t204 _ A10.out).mono ?_); rintro e w' ⟨rfl, ⟨nd, rfl⟩⟩; refine ⟨_, rfl, ?_⟩) | ((with_reducible refine gate_builtin (b := .append) (xs := #[.tmp 48, .tmp 50]) rfl ?_); at_builtin; refine Kd.R_append Kd.string (w0 := w) w.heap.size rfl (.tmp 48) (.tmp 50) 46 9 (.string ⟨#[]⟩) 16 rfl Try.underlying46 info9 rfl (by decide) (by omega) u12 x12_2 t202 [.string t202] (fun _ => True) (fun _ => False) rfl rfl ?aP (fun _ hk => hk.elim) ?aF ?aO ?aB ?aS ?aL ?_; (case aP => exact rfl); (case aB => exact (by repeat (first | (with_reducible first | exact HB.out | apply below_alloc | apply pw_below_drewN | apply below_drew1) | exact HB.out))); (case aF => exact (fun _ _ => trivial)); (case aO => exact (by (with_reducible repeat (first | apply Kd.R_alloc | apply Kd.R_drewN | apply Kd.R_drew)); exact HO_12.out)); (case aS => exact (below_size (by repeat (first | (with_reducible first | exact HB.out | apply below_alloc | apply pw_below_drewN | apply below_drew1) | exact HB.out)))); (case aL => have := LMc12.out; omega); intro v206 w13 ho hb hg hat; rw [← Ny205.out] at ho; have n0_ := Aside0.mk (hb); have n1_ := Aside0.mk (ho); clear HB; clear HO_12; have HB := n0_; have HO207 := n1_; clear n0_ n1_; clear ho hb hg hat))
                    go_roundg k2
                    case measure => have := HJ5.out; have := HK2.out; omega
                    case rel => exact ⟨(t203), (y205), (wrap64 (x13_2 + 1)), (by first | rfl | (simp; done) | (simp [*]; done)), (by first | rfl | (simp; done) | (simp [*]; done)), H', ⟨by have := HJ5.out; have := HK2.out; omega⟩, ⟨by (with_reducible repeat (first | apply Kd.R_alloc | apply Kd.R_drewN | apply Kd.R_drew)); exact HO207.out⟩, ⟨by repeat (first | (with_reducible first | exact HB.out | apply below_alloc | apply pw_below_drewN | apply below_drew1) | exact HB.out)⟩⟩
                  · rw [if_neg c12] at H
                    exact absurd H (by simp)
                · rw [if_neg c11] at H
                  have c11b0 : (t204 == 0) = false := beq_eq_false_iff_ne.mpr c11
                  have c11b1 : (t204 != 0) = true := bne_iff_ne.mpr c11
                  simp only [Option.some.injEq, Prod.mk.injEq] at H
                  obtain ⟨rfl, rfl, rfl⟩ := H
                  go_wp2_with (first | ((with_reducible refine gate_callee (f := 21) rfl ?_); refine goesL_ (some 41) rfl rfl Try.func21 (by kernel_rfl) rfl #[.string x10_2, .int .i64 a2] rfl (by (try simp only [List.map_toArray, List.map_cons, List.map_nil]); first | done | rfl | (simp only [List.length_drop, List.length_take]; rfl)) ?_; (with_reducible refine (cartoucheref01_TakeText.calls k2 x10_2 a2 t202 t203 t204 _ A10.out).mono ?_); rintro e w' ⟨rfl, ⟨nd, rfl⟩⟩; refine ⟨_, rfl, ?_⟩))
                  go_ret3
                  exact ⟨_, by first | rfl | (simp only [bne_nil_]; rfl) | (simp [errW_none, errW_some] <;> rfl) | (simp [*, errW_none, errW_some] <;> rfl), by first | exact Kd.R_nil _ _ _ _ _ | exact Kd.N_nil _ _ _ _ _ | exact Kd.V_nil _ _ _ _ _ | exact Kd.Q_nil _ _ _ _ _ | exact Kd.S_nil _ _ _ _ _, by repeat (first | (with_reducible first | exact HB.out | apply below_alloc | apply pw_below_drewN | apply below_drew1) | exact HB.out)⟩
              · rw [if_neg c9] at H
                have c9b0 : decide (x13_2 < t199) = false := decide_eq_false c9
                clear c9
                simp only [Option.some.injEq, Prod.mk.injEq] at H
                obtain ⟨rfl, rfl, rfl⟩ := H
                go_wp2
                go_ret3
                exact ⟨_, by first | rfl | (simp only [bne_nil_]; rfl) | (simp [errW_none, errW_some] <;> rfl) | (simp [*, errW_none, errW_some] <;> rfl), by (with_reducible repeat (first | apply Kd.R_alloc | apply Kd.R_drewN | apply Kd.R_drew)); exact HO_12.out, by repeat (first | (with_reducible first | exact HB.out | apply below_alloc | apply pw_below_drewN | apply below_drew1) | exact HB.out)⟩
  · rw [if_neg c5] at H
    have c5b0 : (t201 == 0) = false := beq_eq_false_iff_ne.mpr c5
    have c5b1 : (t201 != 0) = true := bne_iff_ne.mpr c5
    simp only [Option.some.injEq, Prod.mk.injEq] at H
    obtain ⟨rfl, rfl, rfl⟩ := H
    go_enter Try.func26, Try.ntmps26
    go_wp2_with (first | ((with_reducible refine gate_callee (f := 30) rfl ?_); refine goesL_ (some 19) rfl rfl Try.func30 (by kernel_rfl) rfl #[.string a0] rfl (by (try simp only [List.map_toArray, List.map_cons, List.map_nil]); first | done | rfl | (simp only [List.length_drop, List.length_take]; rfl)) ?_; (with_reducible refine (cartoucheref01_takeSize.calls a0 t199 t200 t201 _ A4.out).mono ?_); rintro e w' ⟨rfl, ⟨nd, rfl⟩⟩; refine ⟨_, rfl, ?_⟩))
    go_ret3
    exact ⟨_, by first | rfl | (simp only [bne_nil_]; rfl) | (simp [errW_none, errW_some] <;> rfl) | (simp [*, errW_none, errW_some] <;> rfl), by first | exact Kd.R_nil _ _ _ _ _ | exact Kd.N_nil _ _ _ _ _ | exact Kd.V_nil _ _ _ _ _ | exact Kd.Q_nil _ _ _ _ _ | exact Kd.S_nil _ _ _ _ _, by repeat (first | (with_reducible first | exact HB.out | apply below_alloc | apply pw_below_drewN | apply below_drew1) | exact HB.out)⟩

end Go.Proofs.Ytkgonihoeghphaa.A
