-- Written by wip/hand.py of this session's repository, out of the translation and of contracts typed by hand. Not trusted: Lean checks it.
import Derived.Test.YtkgonihoeghphaaA0
import Derived.Test.YtkgonihoeghphaaA2
import Derived.Test.YtkgonihoeghphaaA4
import Derived.Test.YtkgonihoeghphaaA5
namespace Go.Proofs.Ytkgonihoeghphaa.A
open Go.RowKit Go.Proofs.YtkgonihoeghphaaW.PrintWords Go.Proofs.YtkgonihoeghphaaW.PrintLast Go.Proofs.YtkgonihoeghphaaW.PrintMore
attribute [local go_sem] max2_int min2_int max_two min_two max_three min_three max_four min_four   -- for this text's walks alone
set_option linter.unusedVariables false
set_option linter.unusedSimpArgs false

/-! ### cartouchelaw01_LumpJoin: function 8 -/
def cartouchelaw01_LumpJoin.j0 : Nat → ByteArray → ByteArray → Bool → ByteArray → ByteArray → Bool → Option (Bool)
  | 0, _, _, _, _, _, _ => none
  | k + 1, x0, x1, x5, x6, x8, x32 => if x32 = true then (some x5) else (if x6.size + x8.size ≤ 9223372036854775807 then ((lump_TakeText.f (x6 ++ x8) 65535).bind fun bt176 => ((lump_TakeText.f bt176.2.1 65535).bind fun bt179 => (if x5 = true then (if bt176.1.toList = x0.toList then (if bt179.1.toList = x1.toList then (if bt179.2.1.toList = ([] : List UInt8) then (if bt176.2.2 = 0 then (some (bt179.2.2 == 0)) else (some false)) else (some false)) else (some false)) else (some false)) else (some false)))) else (none))
def cartouchelaw01_LumpJoin.f (k : Nat) (a0 : ByteArray) (a1 : ByteArray) : Option (Bool) := (cartouchelaw01_shown.f k).bind fun t171 => ((lump_Text.f a0).bind fun bt172 => ((lump_Text.f a1).bind fun bt174 => (if bt172.2 = 0 then (cartouchelaw01_LumpJoin.j0 k a0 a1 t171 bt172.1 bt174.1 (bt174.2 != 0)) else (cartouchelaw01_LumpJoin.j0 k a0 a1 t171 bt172.1 bt174.1 true))))
theorem cartouchelaw01_LumpJoin.mono_l : ∀ k, (∀ y0 y1 y2 y3 y4 y5, LeO (cartouchelaw01_LumpJoin.j0 k y0 y1 y2 y3 y4 y5) (cartouchelaw01_LumpJoin.j0 (k + 1) y0 y1 y2 y3 y4 y5))
  | 0 => fun _ _ _ _ _ _ r h => by simp [cartouchelaw01_LumpJoin.j0] at h
  | k + 1 => by
    have ih0 := cartouchelaw01_LumpJoin.mono_l k
    · intro y0 y1 y2 y3 y4 y5
      unfold cartouchelaw01_LumpJoin.j0
      repeat' first
      | (with_reducible exact ih0 _ _ _ _ _ _)
      | (with_reducible exact cartouchelaw01_shown.mono _)
      | (with_reducible exact LeO.refl _)
      | (with_reducible exact LeO.none _)
      | (with_reducible refine LeO.ite ?_ ?_)
      | (with_reducible refine LeO.bind ?_ (fun _ => ?_))
      | exact ih0 _ _ _ _ _ _
      | exact cartouchelaw01_shown.mono _
      | exact LeO.none _
      | refine LeO.ite ?_ ?_
      | refine LeO.bind ?_ (fun _ => ?_)
theorem cartouchelaw01_LumpJoin.mono : ∀ a0 a1 k, LeO (cartouchelaw01_LumpJoin.f k a0 a1) (cartouchelaw01_LumpJoin.f (k + 1) a0 a1) := by
  intro a0 a1 k
  have ih0 := cartouchelaw01_LumpJoin.mono_l k
  unfold cartouchelaw01_LumpJoin.f
  repeat' first
      | (with_reducible exact ih0 _ _ _ _ _ _)
      | (with_reducible exact cartouchelaw01_shown.mono _)
      | (with_reducible exact LeO.refl _)
      | (with_reducible exact LeO.none _)
      | (with_reducible refine LeO.ite ?_ ?_)
      | (with_reducible refine LeO.bind ?_ (fun _ => ?_))
      | exact ih0 _ _ _ _ _ _
      | exact cartouchelaw01_shown.mono _
      | exact LeO.none _
      | refine LeO.ite ?_ ?_
      | refine LeO.bind ?_ (fun _ => ?_)
set_option maxHeartbeats 8000000 in
set_option maxRecDepth 100000 in
theorem cartouchelaw01_LumpJoin.calls (k : Nat) (a0 : ByteArray) (a1 : ByteArray) (r : Bool) (w : World) (h : cartouchelaw01_LumpJoin.f k a0 a1 = some r) :
    Calls Try.prog 8 #[.string a0, .string a1] w fun e w' => e = .returned (.bool r) ∧ Below w.heap.size w w' := by
  have HB := Aside0.mk (Below.refl w.heap.size w)
  have H : ((cartouchelaw01_shown.f k).bind fun t171 => ((lump_Text.f a0).bind fun bt172 => ((lump_Text.f a1).bind fun bt174 => (if bt172.2 = 0 then (cartouchelaw01_LumpJoin.j0 k a0 a1 t171 bt172.1 bt174.1 (bt174.2 != 0)) else (cartouchelaw01_LumpJoin.j0 k a0 a1 t171 bt172.1 bt174.1 true))))) = some r := h
  clear h
  replace H := Option.bind_eq_some_iff.mp H
  obtain ⟨t171, A30, H⟩ := H
  replace H : ((lump_Text.f a0).bind fun bt172 => ((lump_Text.f a1).bind fun bt174 => (if bt172.2 = 0 then (cartouchelaw01_LumpJoin.j0 k a0 a1 t171 bt172.1 bt174.1 (bt174.2 != 0)) else (cartouchelaw01_LumpJoin.j0 k a0 a1 t171 bt172.1 bt174.1 true)))) = some r := H
  have A3 := Aside0.mk A30
  clear A30
  replace H := Option.bind_eq_some_iff.mp H
  obtain ⟨⟨t172, t173⟩, A40, H⟩ := H
  replace H : ((lump_Text.f a1).bind fun bt174 => (if t173 = 0 then (cartouchelaw01_LumpJoin.j0 k a0 a1 t171 t172 bt174.1 (bt174.2 != 0)) else (cartouchelaw01_LumpJoin.j0 k a0 a1 t171 t172 bt174.1 true))) = some r := H
  have A4 := Aside0.mk A40
  clear A40
  replace H := Option.bind_eq_some_iff.mp H
  obtain ⟨⟨t174, t175⟩, A50, H⟩ := H
  replace H : (if t173 = 0 then (cartouchelaw01_LumpJoin.j0 k a0 a1 t171 t172 t174 (t175 != 0)) else (cartouchelaw01_LumpJoin.j0 k a0 a1 t171 t172 t174 true)) = some r := H
  have A5 := Aside0.mk A50
  clear A50
  have HC6 := Aside0.mk H
  clear H
  go_enter Try.func8, Try.ntmps8
  go_upto_region 4 with (first | ((with_reducible refine gate_callee (f := 13) rfl ?_); refine goesL_ (some 16) rfl rfl Try.func13 (by kernel_rfl) rfl #[] rfl (by (try simp only [List.map_toArray, List.map_cons, List.map_nil]); first | done | rfl | (simp only [List.length_drop, List.length_take]; rfl)) ?_; (with_reducible refine (cartouchelaw01_shown.calls k  t171 _ A3.out).mono ?_); rintro e w7 ⟨rfl, hb⟩; refine ⟨_, rfl, ?_⟩; have n0_ := Aside0.mk (below_step (by repeat (first | (with_reducible first | exact HB.out | apply below_alloc | apply pw_below_drewN | apply below_drew1) | exact HB.out)) hb); clear HB; have HB := n0_; clear n0_; (try clear hb); (try clear hb2); (try clear hk); (try clear hi)) | ((with_reducible refine gate_callee (f := 17) rfl ?_); refine goesL_ (some 19) rfl rfl Try.func17 (by kernel_rfl) rfl #[.string a0] rfl (by (try simp only [List.map_toArray, List.map_cons, List.map_nil]); first | done | rfl | (simp only [List.length_drop, List.length_take]; rfl)) ?_; (with_reducible refine (lump_Text.calls a0 t172 t173 _ A4.out).mono ?_); rintro e w8 ⟨rfl, hb⟩; refine ⟨_, rfl, ?_⟩; have n0_ := Aside0.mk (below_step (by repeat (first | (with_reducible first | exact HB.out | apply below_alloc | apply pw_below_drewN | apply below_drew1) | exact HB.out)) hb); clear HB; have HB := n0_; clear n0_; (try clear hb); (try clear hb2); (try clear hk); (try clear hi)) | ((with_reducible refine gate_callee (f := 17) rfl ?_); refine goesL_ (some 24) rfl rfl Try.func17 (by kernel_rfl) rfl #[.string a1] rfl (by (try simp only [List.map_toArray, List.map_cons, List.map_nil]); first | done | rfl | (simp only [List.length_drop, List.length_take]; rfl)) ?_; (with_reducible refine (lump_Text.calls a1 t174 t175 _ A5.out).mono ?_); rintro e w9 ⟨rfl, hb⟩; refine ⟨_, rfl, ?_⟩; have n0_ := Aside0.mk (below_step (by repeat (first | (with_reducible first | exact HB.out | apply below_alloc | apply pw_below_drewN | apply below_drew1) | exact HB.out)) hb); clear HB; have HB := n0_; clear n0_; (try clear hb); (try clear hb2); (try clear hk); (try clear hi)))
  (try simp only [Act.put, List.setIfInBounds_toArray, List.set_cons_zero, List.set_cons_succ])
  go_cut [32] (fun v32 wc => ∃ (kq : Nat) (x32_5 : Bool), v32 = .bool x32_5 ∧ Aside0 (cartouchelaw01_LumpJoin.j0 kq a0 a1 t171 t172 t174 x32_5 = some r) ∧ Aside0 (kq ≤ k) ∧ Aside0 (Below w.heap.size w wc))
  case first =>
    have H := HC6.out
    clear HC6
    by_cases c10 : t173 = 0
    · rw [if_pos c10] at H
      have c10b0 : (t173 == 0) = true := beq_iff_eq.mpr c10
      have c10b1 : (t173 != 0) = false := bne_eq_false_iff_eq.mpr c10
      clear c10
      (first | rw [c10b0] | (simp only [i64_w, i32_w]; rw [c10b0]) | skip)
      have H' := Aside0.mk H
      clear H
      go_wp2
      go_meet
      case rel => exact ⟨_, ((t175 != 0)), (by first | rfl | (simp; done) | (simp [*]; done)), H', ⟨by first | omega | exact Nat.le_refl _⟩, ⟨by repeat (first | (with_reducible first | exact HB.out | apply below_alloc | apply pw_below_drewN | apply below_drew1) | exact HB.out)⟩⟩
    · rw [if_neg c10] at H
      have c10b0 : (t173 == 0) = false := beq_eq_false_iff_ne.mpr c10
      have c10b1 : (t173 != 0) = true := bne_iff_ne.mpr c10
      (first | rw [c10b0] | (simp only [i64_w, i32_w]; rw [c10b0]) | skip)
      have H' := Aside0.mk H
      clear H
      go_wp2
      go_meet
      case rel => exact ⟨_, (true), (by first | rfl | (simp; done) | (simp [*]; done)), H', ⟨by first | omega | exact Nat.le_refl _⟩, ⟨by repeat (first | (with_reducible first | exact HB.out | apply below_alloc | apply pw_below_drewN | apply below_drew1) | exact HB.out)⟩⟩
  case rest =>
    clear HC6
    try clear c1
    try clear p2
    try clear c8
    try clear c10
    try clear c10b0
    try clear c10b1
    obtain ⟨kq, x32_5, rfl, HA, HJ5, HB⟩ := hcut
    cases kq with
    | zero => exact absurd HA.out (by simp [cartouchelaw01_LumpJoin.j0])
    | succ kj5 =>
      have H := HA.out
      clear HA
      simp only [cartouchelaw01_LumpJoin.j0] at H
      by_cases c11 : x32_5 = true
      · subst c11
        have H1 : (some t171) = some r := by rw [if_pos rfl] at H; exact H
        clear H
        have H := H1
        clear H1
        obtain rfl := Option.some.inj H
        go_wp2
        go_ret
        exact ⟨by first | rfl | (simp only [bne_nil_]; rfl) | (simp [errW_none, errW_some] <;> rfl) | (simp [*, errW_none, errW_some] <;> rfl), by repeat (first | (with_reducible first | exact HB.out | apply below_alloc | apply pw_below_drewN | apply below_drew1) | exact HB.out)⟩
      · replace c11 := Bool.eq_false_iff.mpr c11
        subst c11
        have H1 : (if t172.size + t174.size ≤ 9223372036854775807 then ((lump_TakeText.f (t172 ++ t174) 65535).bind fun bt176 => ((lump_TakeText.f bt176.2.1 65535).bind fun bt179 => (if t171 = true then (if bt176.1.toList = a0.toList then (if bt179.1.toList = a1.toList then (if bt179.2.1.toList = ([] : List UInt8) then (if bt176.2.2 = 0 then (some (bt179.2.2 == 0)) else (some false)) else (some false)) else (some false)) else (some false)) else (some false)))) else (none)) = some r := by rw [if_neg (show ¬ (false = true) by decide)] at H; exact H
        clear H
        have H := H1
        clear H1
        by_cases c12 : t172.size + t174.size ≤ 9223372036854775807
        · rw [if_pos c12] at H
          have c12b0 := eq_true c12
          have c12b1 : decide (t172.size + t174.size ≤ 9223372036854775807) = true := decide_eq_true c12
          try have c12b2 : (9223372036854775807 < t172.size + t174.size) = False := eq_false (Nat.not_lt.2 c12)
          replace H := Option.bind_eq_some_iff.mp H
          obtain ⟨⟨t176, t177, t178⟩, A130, H⟩ := H
          replace H : ((lump_TakeText.f t177 65535).bind fun bt179 => (if t171 = true then (if t176.toList = a0.toList then (if bt179.1.toList = a1.toList then (if bt179.2.1.toList = ([] : List UInt8) then (if t178 = 0 then (some (bt179.2.2 == 0)) else (some false)) else (some false)) else (some false)) else (some false)) else (some false))) = some r := H
          have A13 := Aside0.mk A130
          clear A130
          replace H := Option.bind_eq_some_iff.mp H
          obtain ⟨⟨t179, t180, t181⟩, A140, H⟩ := H
          replace H : (if t171 = true then (if t176.toList = a0.toList then (if t179.toList = a1.toList then (if t180.toList = ([] : List UInt8) then (if t178 = 0 then (some (t181 == 0)) else (some false)) else (some false)) else (some false)) else (some false)) else (some false)) = some r := H
          have A14 := Aside0.mk A140
          clear A140
          by_cases c15 : t171 = true
          · subst c15
            have H1 : (if t176.toList = a0.toList then (if t179.toList = a1.toList then (if t180.toList = ([] : List UInt8) then (if t178 = 0 then (some (t181 == 0)) else (some false)) else (some false)) else (some false)) else (some false)) = some r := by rw [if_pos rfl] at H; exact H
            clear H
            have H := H1
            clear H1
            by_cases c16 : t176.toList = a0.toList
            · rw [if_pos c16] at H
              have c16b0 : (t176.toList == a0.toList) = true := beq_iff_eq.mpr c16
              have c16b1 : (t176.toList != a0.toList) = false := bne_eq_false_iff_eq.mpr c16
              clear c16
              by_cases c17 : t179.toList = a1.toList
              · rw [if_pos c17] at H
                have c17b0 : (t179.toList == a1.toList) = true := beq_iff_eq.mpr c17
                have c17b1 : (t179.toList != a1.toList) = false := bne_eq_false_iff_eq.mpr c17
                clear c17
                by_cases c18 : t180.toList = ([] : List UInt8)
                · rw [if_pos c18] at H
                  have c18b0 : (t180.toList == ([] : List UInt8)) = true := beq_iff_eq.mpr c18
                  have c18b1 : (t180.toList != ([] : List UInt8)) = false := bne_eq_false_iff_eq.mpr c18
                  clear c18
                  by_cases c19 : t178 = 0
                  · rw [if_pos c19] at H
                    have c19b0 : (t178 == 0) = true := beq_iff_eq.mpr c19
                    have c19b1 : (t178 != 0) = false := bne_eq_false_iff_eq.mpr c19
                    clear c19
                    obtain rfl := Option.some.inj H
                    go_wp2_with (first | ((with_reducible refine gate_callee (f := 20) rfl ?_); refine goesL_ (some 38) rfl rfl Try.func20 (by kernel_rfl) rfl #[.string (t172 ++ t174), .int .i64 65535] rfl (by (try simp only [List.map_toArray, List.map_cons, List.map_nil]); first | done | rfl | (simp only [List.length_drop, List.length_take]; rfl)) ?_; (with_reducible refine (lump_TakeText.calls (t172 ++ t174) 65535 t176 t177 t178 _ A13.out).mono ?_); rintro e w' ⟨rfl, ⟨nd, rfl⟩⟩; refine ⟨_, rfl, ?_⟩) | ((with_reducible refine gate_callee (f := 20) rfl ?_); refine goesL_ (some 44) rfl rfl Try.func20 (by kernel_rfl) rfl #[.string t177, .int .i64 65535] rfl (by (try simp only [List.map_toArray, List.map_cons, List.map_nil]); first | done | rfl | (simp only [List.length_drop, List.length_take]; rfl)) ?_; (with_reducible refine (lump_TakeText.calls t177 65535 t179 t180 t181 _ A14.out).mono ?_); rintro e w' ⟨rfl, ⟨nd, rfl⟩⟩; refine ⟨_, rfl, ?_⟩))
                    go_ret
                    exact ⟨by first | rfl | (simp only [bne_nil_]; rfl) | (simp [errW_none, errW_some] <;> rfl) | (simp [*, errW_none, errW_some] <;> rfl), by repeat (first | (with_reducible first | exact HB.out | apply below_alloc | apply pw_below_drewN | apply below_drew1) | exact HB.out)⟩
                  · rw [if_neg c19] at H
                    have c19b0 : (t178 == 0) = false := beq_eq_false_iff_ne.mpr c19
                    have c19b1 : (t178 != 0) = true := bne_iff_ne.mpr c19
                    obtain rfl := Option.some.inj H
                    go_wp2_with (first | ((with_reducible refine gate_callee (f := 20) rfl ?_); refine goesL_ (some 38) rfl rfl Try.func20 (by kernel_rfl) rfl #[.string (t172 ++ t174), .int .i64 65535] rfl (by (try simp only [List.map_toArray, List.map_cons, List.map_nil]); first | done | rfl | (simp only [List.length_drop, List.length_take]; rfl)) ?_; (with_reducible refine (lump_TakeText.calls (t172 ++ t174) 65535 t176 t177 t178 _ A13.out).mono ?_); rintro e w' ⟨rfl, ⟨nd, rfl⟩⟩; refine ⟨_, rfl, ?_⟩) | ((with_reducible refine gate_callee (f := 20) rfl ?_); refine goesL_ (some 44) rfl rfl Try.func20 (by kernel_rfl) rfl #[.string t177, .int .i64 65535] rfl (by (try simp only [List.map_toArray, List.map_cons, List.map_nil]); first | done | rfl | (simp only [List.length_drop, List.length_take]; rfl)) ?_; (with_reducible refine (lump_TakeText.calls t177 65535 t179 t180 t181 _ A14.out).mono ?_); rintro e w' ⟨rfl, ⟨nd, rfl⟩⟩; refine ⟨_, rfl, ?_⟩))
                    go_ret
                    exact ⟨by first | rfl | (simp only [bne_nil_]; rfl) | (simp [errW_none, errW_some] <;> rfl) | (simp [*, errW_none, errW_some] <;> rfl), by repeat (first | (with_reducible first | exact HB.out | apply below_alloc | apply pw_below_drewN | apply below_drew1) | exact HB.out)⟩
                · rw [if_neg c18] at H
                  have c18b0 : (t180.toList == ([] : List UInt8)) = false := beq_eq_false_iff_ne.mpr c18
                  have c18b1 : (t180.toList != ([] : List UInt8)) = true := bne_iff_ne.mpr c18
                  obtain rfl := Option.some.inj H
                  go_wp2_with (first | ((with_reducible refine gate_callee (f := 20) rfl ?_); refine goesL_ (some 38) rfl rfl Try.func20 (by kernel_rfl) rfl #[.string (t172 ++ t174), .int .i64 65535] rfl (by (try simp only [List.map_toArray, List.map_cons, List.map_nil]); first | done | rfl | (simp only [List.length_drop, List.length_take]; rfl)) ?_; (with_reducible refine (lump_TakeText.calls (t172 ++ t174) 65535 t176 t177 t178 _ A13.out).mono ?_); rintro e w' ⟨rfl, ⟨nd, rfl⟩⟩; refine ⟨_, rfl, ?_⟩) | ((with_reducible refine gate_callee (f := 20) rfl ?_); refine goesL_ (some 44) rfl rfl Try.func20 (by kernel_rfl) rfl #[.string t177, .int .i64 65535] rfl (by (try simp only [List.map_toArray, List.map_cons, List.map_nil]); first | done | rfl | (simp only [List.length_drop, List.length_take]; rfl)) ?_; (with_reducible refine (lump_TakeText.calls t177 65535 t179 t180 t181 _ A14.out).mono ?_); rintro e w' ⟨rfl, ⟨nd, rfl⟩⟩; refine ⟨_, rfl, ?_⟩))
                  go_ret
                  exact ⟨by first | rfl | (simp only [bne_nil_]; rfl) | (simp [errW_none, errW_some] <;> rfl) | (simp [*, errW_none, errW_some] <;> rfl), by repeat (first | (with_reducible first | exact HB.out | apply below_alloc | apply pw_below_drewN | apply below_drew1) | exact HB.out)⟩
              · rw [if_neg c17] at H
                have c17b0 : (t179.toList == a1.toList) = false := beq_eq_false_iff_ne.mpr c17
                have c17b1 : (t179.toList != a1.toList) = true := bne_iff_ne.mpr c17
                obtain rfl := Option.some.inj H
                go_wp2_with (first | ((with_reducible refine gate_callee (f := 20) rfl ?_); refine goesL_ (some 38) rfl rfl Try.func20 (by kernel_rfl) rfl #[.string (t172 ++ t174), .int .i64 65535] rfl (by (try simp only [List.map_toArray, List.map_cons, List.map_nil]); first | done | rfl | (simp only [List.length_drop, List.length_take]; rfl)) ?_; (with_reducible refine (lump_TakeText.calls (t172 ++ t174) 65535 t176 t177 t178 _ A13.out).mono ?_); rintro e w' ⟨rfl, ⟨nd, rfl⟩⟩; refine ⟨_, rfl, ?_⟩) | ((with_reducible refine gate_callee (f := 20) rfl ?_); refine goesL_ (some 44) rfl rfl Try.func20 (by kernel_rfl) rfl #[.string t177, .int .i64 65535] rfl (by (try simp only [List.map_toArray, List.map_cons, List.map_nil]); first | done | rfl | (simp only [List.length_drop, List.length_take]; rfl)) ?_; (with_reducible refine (lump_TakeText.calls t177 65535 t179 t180 t181 _ A14.out).mono ?_); rintro e w' ⟨rfl, ⟨nd, rfl⟩⟩; refine ⟨_, rfl, ?_⟩))
                go_ret
                exact ⟨by first | rfl | (simp only [bne_nil_]; rfl) | (simp [errW_none, errW_some] <;> rfl) | (simp [*, errW_none, errW_some] <;> rfl), by repeat (first | (with_reducible first | exact HB.out | apply below_alloc | apply pw_below_drewN | apply below_drew1) | exact HB.out)⟩
            · rw [if_neg c16] at H
              have c16b0 : (t176.toList == a0.toList) = false := beq_eq_false_iff_ne.mpr c16
              have c16b1 : (t176.toList != a0.toList) = true := bne_iff_ne.mpr c16
              obtain rfl := Option.some.inj H
              go_wp2_with (first | ((with_reducible refine gate_callee (f := 20) rfl ?_); refine goesL_ (some 38) rfl rfl Try.func20 (by kernel_rfl) rfl #[.string (t172 ++ t174), .int .i64 65535] rfl (by (try simp only [List.map_toArray, List.map_cons, List.map_nil]); first | done | rfl | (simp only [List.length_drop, List.length_take]; rfl)) ?_; (with_reducible refine (lump_TakeText.calls (t172 ++ t174) 65535 t176 t177 t178 _ A13.out).mono ?_); rintro e w' ⟨rfl, ⟨nd, rfl⟩⟩; refine ⟨_, rfl, ?_⟩) | ((with_reducible refine gate_callee (f := 20) rfl ?_); refine goesL_ (some 44) rfl rfl Try.func20 (by kernel_rfl) rfl #[.string t177, .int .i64 65535] rfl (by (try simp only [List.map_toArray, List.map_cons, List.map_nil]); first | done | rfl | (simp only [List.length_drop, List.length_take]; rfl)) ?_; (with_reducible refine (lump_TakeText.calls t177 65535 t179 t180 t181 _ A14.out).mono ?_); rintro e w' ⟨rfl, ⟨nd, rfl⟩⟩; refine ⟨_, rfl, ?_⟩))
              go_ret
              exact ⟨by first | rfl | (simp only [bne_nil_]; rfl) | (simp [errW_none, errW_some] <;> rfl) | (simp [*, errW_none, errW_some] <;> rfl), by repeat (first | (with_reducible first | exact HB.out | apply below_alloc | apply pw_below_drewN | apply below_drew1) | exact HB.out)⟩
          · replace c15 := Bool.eq_false_iff.mpr c15
            subst c15
            have H1 : (some false) = some r := by rw [if_neg (show ¬ (false = true) by decide)] at H; exact H
            clear H
            have H := H1
            clear H1
            obtain rfl := Option.some.inj H
            go_wp2_with (first | ((with_reducible refine gate_callee (f := 20) rfl ?_); refine goesL_ (some 38) rfl rfl Try.func20 (by kernel_rfl) rfl #[.string (t172 ++ t174), .int .i64 65535] rfl (by (try simp only [List.map_toArray, List.map_cons, List.map_nil]); first | done | rfl | (simp only [List.length_drop, List.length_take]; rfl)) ?_; (with_reducible refine (lump_TakeText.calls (t172 ++ t174) 65535 t176 t177 t178 _ A13.out).mono ?_); rintro e w' ⟨rfl, ⟨nd, rfl⟩⟩; refine ⟨_, rfl, ?_⟩) | ((with_reducible refine gate_callee (f := 20) rfl ?_); refine goesL_ (some 44) rfl rfl Try.func20 (by kernel_rfl) rfl #[.string t177, .int .i64 65535] rfl (by (try simp only [List.map_toArray, List.map_cons, List.map_nil]); first | done | rfl | (simp only [List.length_drop, List.length_take]; rfl)) ?_; (with_reducible refine (lump_TakeText.calls t177 65535 t179 t180 t181 _ A14.out).mono ?_); rintro e w' ⟨rfl, ⟨nd, rfl⟩⟩; refine ⟨_, rfl, ?_⟩))
            go_ret
            exact ⟨by first | rfl | (simp only [bne_nil_]; rfl) | (simp [errW_none, errW_some] <;> rfl) | (simp [*, errW_none, errW_some] <;> rfl), by repeat (first | (with_reducible first | exact HB.out | apply below_alloc | apply pw_below_drewN | apply below_drew1) | exact HB.out)⟩
        · rw [if_neg c12] at H
          exact absurd H (by simp)

/-- THE ONE PURE STATEMENT of cartouchelaw01_LumpJoin: yours. -/
def cartouchelaw01_LumpJoin.Pure : Prop := ∀ (a0 : ByteArray) (a1 : ByteArray), a0.size ≤ 140737488351232 → a1.size ≤ 140737488351232 → ∃ k, cartouchelaw01_LumpJoin.f k a0 a1 = some true
theorem cartouchelaw01_LumpJoin.walk (P : cartouchelaw01_LumpJoin.Pure) (a0 : ByteArray) (a1 : ByteArray) (w : World) (w0 : a0.size ≤ 140737488351232) (w1 : a1.size ≤ 140737488351232) :
    Calls Try.prog 8 #[.string a0, .string a1] w fun e w' => e = .returned (.bool true) ∧ Below w.heap.size w w' := by
  obtain ⟨k, h⟩ := P a0 a1 w0 w1
  refine (cartouchelaw01_LumpJoin.calls k a0 a1 true w h).mono ?_
  rintro e w' ⟨rfl, hd⟩
  exact ⟨rfl, hd⟩

-- NOT PRINTED: function 34 (abi_NoEscape)

-- NOT PRINTED: function 33 (strings_Builder_copyCheck)

-- NOT PRINTED: function 31 (strings_Builder_WriteString)

-- NOT PRINTED: function 32 (strings_Builder_String)

/-! ### lump_Row: function 22 -/
def lump_Row.go : List ByteArray → ByteArray → Option (ByteArray × Int)
  | [], acc => some (acc, 0)
  | t :: ts, acc => (lump_Text.f t).bind fun r => if r.2 = 0 then (if acc.size + r.1.size ≤ 140737488355328 then lump_Row.go ts (acc ++ r.1) else none) else some ((⟨#[]⟩ : ByteArray), r.2)
def lump_Row.f (l0 : List ByteArray) : Option (ByteArray × Int) := if (l0.length : Int) > 65535 then some ((⟨#[]⟩ : ByteArray), 4) else (lump_length.f (l0.length : Int)).bind fun h => if h.size ≤ 140737488355328 then lump_Row.go l0 h else none
/-- The builder holds acc. -/
def lump_Row.Bd (b : Nat) (acc : ByteArray) (w : World) : Prop := Lib.BuilderAt 69 5 b b (.pointer (some ⟨b, 0, none⟩)) (Lib.strCells acc) w
theorem lump_Row.cells_append (s x : ByteArray) : Lib.strCells s ++ Lib.strCells x = Lib.strCells (s ++ x) := by
  simp [Lib.strCells, ByteArray.data_append]
theorem lump_Row.bd_below {b : Nat} {acc : ByteArray} {w w' : World} (h : lump_Row.Bd b acc w) (hb : Below w.heap.size w w') : lump_Row.Bd b acc w' := by
  obtain ⟨h1, v, h2, h3, h4⟩ := h
  exact ⟨h1, v, blk_below h2 hb, own_move h3 (fun k hk => hb.block k (h3.lt k hk).2), h4⟩
theorem lump_Row.write (b : Nat) (acc s : ByteArray) (w : World) (h : lump_Row.Bd b acc w) (hl : acc.size + s.size ≤ 140737488355328) :
    Calls Try.prog 31 #[.pointer (some ⟨b, 0, none⟩), .string s] w fun e w' => e = .returned (.tuple #[.int .i64 s.size, .nilIface]) ∧ lump_Row.Bd b (acc ++ s) w' ∧ Below b w w' := by
  have hs : b ≤ w.heap.size := Nat.le_of_lt h.lt
  refine (Go.Proofs.Ytkgonihoeghphaa.Bld.writeString b b _ s w (.inr h) (by rw [Lib.strCells_length]; exact hl) hs).mono ?_
  rintro e w' ⟨rfl, h1, h2⟩
  exact ⟨rfl, by rw [lump_Row.cells_append] at h1; exact h1, h2⟩
theorem lump_Row.first (b : Nat) (s : ByteArray) (w : World) (h : w.heap[b]? = some (.cells #[.pointer none, .slice none 0 0] 69 (0, 0))) (hl : s.size ≤ 140737488355328) :
    Calls Try.prog 31 #[.pointer (some ⟨b, 0, none⟩), .string s] w fun e w' => e = .returned (.tuple #[.int .i64 s.size, .nilIface]) ∧ lump_Row.Bd b s w' ∧ Below b w w' := by
  refine (Go.Proofs.Ytkgonihoeghphaa.Bld.writeString b b [] s _ (.inl ⟨Nat.le_refl _, .slice none 0 0, h, World.ownsRow_nil _ _ _ _, by simp [Value.ownBlock]⟩) (by simpa using hl) (Nat.le_of_lt (blk_lt h))).mono ?_
  rintro e w' ⟨rfl, h1, h2⟩
  exact ⟨rfl, h1, h2⟩
theorem lump_Row.text (b : Nat) (acc : ByteArray) (w : World) (h : lump_Row.Bd b acc w) :
    Calls Try.prog 32 #[.pointer (some ⟨b, 0, none⟩)] w fun e w' => e = .returned (.string acc) ∧ Below b w w' := by
  refine (Try.Builder_String_any b b acc.data.toList w (.inr h) (Nat.le_of_lt h.lt)).mono ?_
  rintro e w' ⟨rfl, h2⟩
  exact ⟨rfl, h2⟩
theorem lump_Row.go_step {t : ByteArray} {ts : List ByteArray} {acc : ByteArray} {r1 : ByteArray} {r2 : Int} (h : lump_Row.go (t :: ts) acc = some (r1, r2)) :
    ∃ x z, lump_Text.f t = some (x, z) ∧ ((z ≠ 0 ∧ r1 = (⟨#[]⟩ : ByteArray) ∧ r2 = z) ∨ (z = 0 ∧ acc.size + x.size ≤ 140737488355328 ∧ lump_Row.go ts (acc ++ x) = some (r1, r2))) := by
  rw [lump_Row.go] at h
  rcases hx : lump_Text.f t with _ | ⟨x, z⟩
  · rw [hx] at h; simp at h
  · rw [hx] at h
    simp only [Option.bind_some] at h
    refine ⟨x, z, rfl, ?_⟩
    split at h
    · rename_i hz
      split at h
      · rename_i hs; exact .inr ⟨hz, hs, h⟩
      · cases h
    · rename_i hz
      simp only [Option.some.injEq, Prod.mk.injEq] at h
      exact .inl ⟨hz, h.1.symm, h.2.symm⟩
theorem lump_Row.read {A : Option Addr} {l : List ByteArray} {w wr : World} (h : Kd.C Kd.string w A l.length l) {i : Nat} (hi : i < l.length) (hb : Below w.heap.size w wr) : ∃ ad, A = some ad ∧ wr.cell? (ad.add i) = some (.string (l[i]'hi)) := by
  obtain ⟨ad, e, hc⟩ := Kd.at_string h (i : Int) (by omega) (by omega)
  refine ⟨ad, e, pw_cell_below hb ?_⟩
  rw [show (i : Int).toNat = i by omega] at hc
  rw [hc]
  simp [rdOf, List.getD_eq_getElem?_getD, List.getElem?_eq_getElem hi]
/-- At the head of round i. -/
def lump_Row.At (l0 : List ByteArray) (r1 : ByteArray) (r2 : Int) (b : Nat) (w : World) (v18 : Value) (wr : World) : Prop :=
  ∃ (i : Nat) (acc : ByteArray), i ≤ l0.length ∧ v18 = .int .i64 i ∧ lump_Row.go (l0.drop i) acc = some (r1, r2) ∧ lump_Row.Bd b acc wr ∧ Below b w wr
set_option maxHeartbeats 1000000 in
theorem lump_Row.calls (A0 : Option Addr) (c0 : Nat) (l0 : List ByteArray) (r1 : ByteArray) (r2 : Int) (w : World) (hr0 : Kd.C Kd.string w A0 l0.length l0) (hc0 : l0.length ≤ c0) (h : lump_Row.f l0 = some (r1, r2)) :
    Calls Try.prog 22 #[.slice A0 l0.length c0] w fun e w' => e = .returned (.tuple #[.string r1, .int .i64 r2]) ∧ Below w.heap.size w w' := by
  have HR := Aside0.mk hr0
  have HB0 := Aside0.mk (Below.refl w.heap.size w)
  unfold lump_Row.f at h
  by_cases hbig : (l0.length : Int) > 65535
  · rw [if_pos hbig] at h
    simp only [Option.some.injEq, Prod.mk.injEq] at h
    obtain ⟨rfl, rfl⟩ := h
    clear hr0
    go_enter Try.func22, Try.ntmps22
    go_wp2_with fail
    go_ret2
    exact ⟨rfl, HB0.out⟩
  rw [if_neg hbig] at h
  rcases hx : lump_length.f (l0.length : Int) with _ | hh
  · rw [hx] at h; simp at h
  rw [hx] at h
  simp only [Option.bind_some] at h
  split at h
  case isFalse => cases h
  rename_i hhs
  have HX := Aside0.mk hx
  have HG := Aside0.mk h
  have HS := Aside0.mk hhs
  clear hr0 hx h hhs
  go_enter Try.func22, Try.ntmps22
  go_wp2_with fail
  refine (lump_length.calls (l0.length : Int) hh _ HX.out).mono ?_
  rintro e w1 ⟨rfl, hb⟩
  have HB1 := Aside0.mk (below_step (below_alloc (Below.refl _ _) _) hb)
  have HK1 := Aside0.mk (blk_below (blk_new w _) hb)
  clear hb
  go_wp2_with fail
  refine (lump_Row.first w.heap.size hh w1 HK1.out HS.out).mono ?_
  rintro e w2 ⟨rfl, hd, hb⟩
  have HB2 := Aside0.mk (HB1.out.trans hb)
  have HD2 := Aside0.mk hd
  clear hd hb HB1 HK1
  go_wp2_with fail
  go_loopw [18] (fun v18 wr => lump_Row.At l0 r1 r2 w.heap.size w v18 wr) (fun v18 _ => l0.length - (intOf v18).toNat)
  case atStart => exact ⟨0, hh, by omega, rfl, HG.out, HD2.out, HB2.out⟩
  case round =>
    obtain ⟨i, acc, hi, rfl, hgo, hD, hB⟩ := hrel
    have HD := Aside0.mk hD
    have HBr := Aside0.mk hB
    clear hD hB HD2 HB2 HG HX HS
    by_cases hlt2 : i < l0.length
    · rw [List.drop_eq_getElem_cons hlt2] at hgo
      obtain ⟨x, z, hx, hc⟩ := lump_Row.go_step hgo
      have HX := Aside0.mk hx
      have HC := Aside0.mk hc
      clear hgo hx hc
      obtain ⟨ad, hA0, hcell⟩ := lump_Row.read HR.out hlt2 HBr.out
      cases hA0
      go_wp2_with fail
      refine (lump_Text.calls (l0[i]'hlt2) x z _ HX.out).mono ?_
      rintro e w3 ⟨rfl, hb⟩
      have HB3 := Aside0.mk (HBr.out.trans (hb.mono HBr.out.size))
      have HD3 := Aside0.mk (lump_Row.bd_below HD.out hb)
      clear hb hcell HD HBr HX
      by_cases hz : z = 0
      · obtain ⟨hs, hg⟩ : acc.size + x.size ≤ 140737488355328 ∧ lump_Row.go (l0.drop (i + 1)) (acc ++ x) = some (r1, r2) := by
          rcases HC.out with h | h
          · exact absurd hz h.1
          · exact h.2
        subst hz
        have HS := Aside0.mk hs
        have HG := Aside0.mk hg
        clear hs hg HC
        go_wp2_with fail
        refine (lump_Row.write w.heap.size acc x w3 HD3.out HS.out).mono ?_
        rintro e w4 ⟨rfl, hd, hb⟩
        have HB4 := Aside0.mk (HB3.out.trans hb)
        have HD4 := Aside0.mk hd
        clear hd hb HB3 HD3
        go_wp2_with fail
        go_roundw
        case rel => exact ⟨i + 1, acc ++ x, by omega, by go_num, HG.out, HD4.out, HB4.out⟩
        case measure => simp [intOf]; omega
      · obtain ⟨rfl, rfl⟩ : r1 = (⟨#[]⟩ : ByteArray) ∧ r2 = z := by
          rcases HC.out with h | h
          · exact h.2
          · exact absurd h.1 hz
        clear HC
        go_wp2_with fail
        go_ret2
        exact ⟨rfl, HB3.out⟩
    · have hr : r1 = acc ∧ r2 = 0 := by
        rw [List.drop_of_length_le (by omega), lump_Row.go] at hgo
        simp only [Option.some.injEq, Prod.mk.injEq] at hgo
        exact ⟨hgo.1.symm, hgo.2.symm⟩
      obtain ⟨rfl, rfl⟩ := hr
      clear hgo
      go_wp2_with fail
      refine (lump_Row.text w.heap.size r1 wr HD.out).mono ?_
      rintro e w3 ⟨rfl, hb⟩
      have HB3 := Aside0.mk (HBr.out.trans hb)
      clear hb
      go_wp2_with fail
      go_ret2
      exact ⟨rfl, HB3.out⟩

end Go.Proofs.Ytkgonihoeghphaa.A
