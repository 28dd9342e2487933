-- Written by wip/hand.py of this session's repository, out of the translation and of contracts typed by hand. Not trusted: Lean checks it.
import Derived.Test.YtpfmdpbhmilepaaA0
import Derived.Test.YtpfmdpbhmilepaaA2
namespace Go.Proofs.Ytpfmdpbhmilepaa.A
open Go.RowKit Go.Proofs.YtpfmdpbhmilepaaW.PrintWords Go.Proofs.YtpfmdpbhmilepaaW.PrintLast Go.Proofs.YtpfmdpbhmilepaaW.PrintMore
attribute [local go_sem] max2_int min2_int max_two min_two max_three min_three max_four min_four   -- for this text's walks alone
set_option linter.unusedVariables false
set_option linter.unusedSimpArgs false

/-! ### lump_length: function 31 -/
def lump_length.f (a0 : Int) : Option (ByteArray) := if a0 ≤ 250 then (some (strOfNums (([(a0) % 256] : List Int)))) else (some (strOfNums (([251, (a0 / 256) % 256, (a0) % 256] : List Int))))
set_option maxHeartbeats 8000000 in
set_option maxRecDepth 100000 in
theorem lump_length.calls (a0 : Int) (r : ByteArray) (w : World) (h : lump_length.f a0 = some r) :
    Calls Try.prog 31 #[.int .i64 a0] w fun e w' => e = .returned (.string r) ∧ Below w.heap.size w w' := by
  have HB := Aside0.mk (Below.refl w.heap.size w)
  have H : (if a0 ≤ 250 then (some (strOfNums (([(a0) % 256] : List Int)))) else (some (strOfNums (([251, (a0 / 256) % 256, (a0) % 256] : List Int))))) = some r := h
  clear h
  by_cases c2 : a0 ≤ 250
  · rw [if_pos c2] at H
    have c2b0 : decide (a0 ≤ 250) = true := decide_eq_true c2
    clear c2
    obtain ⟨y104, hy104⟩ : ∃ y_ : List Int, y_ = (([(a0) % 256] : List Int)) := ⟨_, rfl⟩
    replace H : (some (strOfNums y104)) = some r := by first | (rw [hy104]; with_reducible exact H) | (have H2_ := (Option.bind_some _ _).symm.trans H; rw [hy104]; with_reducible exact H2_) | (have H2_ := (Option.bind_some _ _).symm.trans H; with_reducible exact H2_) | with_reducible exact H | (rw [hy104]; exact H) | exact H
    have Ny104 := Aside0.mk hy104
    clear hy104
    obtain rfl := Option.some.inj H
    go_enter Try.func31, Try.ntmps31
    go_wp2_with (first | ((with_reducible refine gate_dst (N := 7) rfl ?_); refine Kd.R_lit (Kd.int .u8) _ 5 ?hg (N := 7) ?hd (xs := ([(a0) % 256] : List Int)) (inner := [.int .u8 ((a0) % 256)]) (ok := fun _ => True) (okp := fun _ => True) ?hr ?hp (fun _ hk => hk) trivial (Below.refl _ _) (Nat.le_refl _) (by simp) ?_; (case hd => rfl); (case hg => rfl); (case hr => first | (go_simp; done) | (go_simp; rfl)); (case hp => exact (Reps.one (show Kd.M (Kd.int .u8) _ _ _ ((a0) % 256) [.int .u8 ((a0) % 256)] from rfl) (Reps.none _ _))); intro v105 w3 ho4 hb hg_ hnew_; clear hg_ hnew_; (first | rw [← Ny104.out] at ho4 | (simp only [Int.reduceToNat] at ho4; rw [← Ny104.out] at ho4)); have n0_ := Aside0.mk (Kd.R_lower ho4 (below_size (by repeat (first | (with_reducible first | exact HB.out | apply below_alloc | apply pw_below_drewN | apply below_drew1) | exact HB.out)))); have n1_ := Aside0.mk (below_step (by repeat (first | (with_reducible first | exact HB.out | apply below_alloc | apply pw_below_drewN | apply below_drew1) | exact HB.out)) hb); clear HB; have HO106 := n0_; have HB := n1_; clear n0_ n1_; clear hb ho4; have hcv5 := own_string (P := Try.prog) Try.underlying52 Try.underlying5 Try.underlying9 (Kd.own_of_R HO106.out)))
    go_ret
    exact ⟨by first | rfl | (simp only [bne_nil_]; rfl) | (simp [errW_none, errW_some] <;> rfl) | (simp [*, errW_none, errW_some] <;> rfl), by repeat (first | (with_reducible first | exact HB.out | apply below_alloc | apply pw_below_drewN | apply below_drew1) | exact HB.out)⟩
  · rw [if_neg c2] at H
    have c2b0 : decide (a0 ≤ 250) = false := decide_eq_false c2
    clear c2
    obtain ⟨y107, hy107⟩ : ∃ y_ : List Int, y_ = (([251, (a0 / 256) % 256, (a0) % 256] : List Int)) := ⟨_, rfl⟩
    replace H : (some (strOfNums y107)) = some r := by first | (rw [hy107]; with_reducible exact H) | (have H2_ := (Option.bind_some _ _).symm.trans H; rw [hy107]; with_reducible exact H2_) | (have H2_ := (Option.bind_some _ _).symm.trans H; with_reducible exact H2_) | with_reducible exact H | (rw [hy107]; exact H) | exact H
    have Ny107 := Aside0.mk hy107
    clear hy107
    obtain rfl := Option.some.inj H
    go_enter Try.func31, Try.ntmps31
    go_wp2_with (first | ((with_reducible refine gate_dst (N := 14) rfl ?_); refine Kd.R_lit (Kd.int .u8) _ 5 ?hg (N := 14) ?hd (xs := ([251, (a0 / 256) % 256, (a0) % 256] : List Int)) (inner := [.int .u8 251, .int .u8 ((a0 / 256) % 256), .int .u8 ((a0) % 256)]) (ok := fun _ => True) (okp := fun _ => True) ?hr ?hp (fun _ hk => hk) trivial (Below.refl _ _) (Nat.le_refl _) (by simp) ?_; (case hd => rfl); (case hg => rfl); (case hr => first | (go_simp; done) | (go_simp; rfl)); (case hp => exact (Reps.one (show Kd.M (Kd.int .u8) _ _ _ 251 [.int .u8 251] from rfl) (Reps.one (show Kd.M (Kd.int .u8) _ _ _ ((a0 / 256) % 256) [.int .u8 ((a0 / 256) % 256)] from rfl) (Reps.one (show Kd.M (Kd.int .u8) _ _ _ ((a0) % 256) [.int .u8 ((a0) % 256)] from rfl) (Reps.none _ _))))); intro v108 w6 ho7 hb hg_ hnew_; clear hg_ hnew_; (first | rw [← Ny107.out] at ho7 | (simp only [Int.reduceToNat] at ho7; rw [← Ny107.out] at ho7)); have n0_ := Aside0.mk (Kd.R_lower ho7 (below_size (by repeat (first | (with_reducible first | exact HB.out | apply below_alloc | apply pw_below_drewN | apply below_drew1) | exact HB.out)))); have n1_ := Aside0.mk (below_step (by repeat (first | (with_reducible first | exact HB.out | apply below_alloc | apply pw_below_drewN | apply below_drew1) | exact HB.out)) hb); clear HB; have HO109 := n0_; have HB := n1_; clear n0_ n1_; clear hb ho7; have hcv8 := own_string (P := Try.prog) Try.underlying52 Try.underlying5 Try.underlying9 (Kd.own_of_R HO109.out)))
    go_ret
    exact ⟨by first | rfl | (simp only [bne_nil_]; rfl) | (simp [errW_none, errW_some] <;> rfl) | (simp [*, errW_none, errW_some] <;> rfl), by repeat (first | (with_reducible first | exact HB.out | apply below_alloc | apply pw_below_drewN | apply below_drew1) | exact HB.out)⟩

/-! ### lump_Text: function 25 -/
def lump_Text.f (a0 : ByteArray) : Option (ByteArray × Int) := if (a0.size : Int) > 65535 then (some ((⟨#[]⟩ : ByteArray), 4)) else ((lump_length.f (a0.size : Int)).bind fun t110 => (if t110.size + a0.size ≤ 9223372036854775807 then (some (t110 ++ a0, 0)) else (none)))
set_option maxHeartbeats 8000000 in
set_option maxRecDepth 100000 in
theorem lump_Text.calls (a0 : ByteArray) (r1 : ByteArray) (r2 : Int) (w : World) (h : lump_Text.f a0 = some (r1, r2)) :
    Calls Try.prog 25 #[.string a0] w fun e w' => e = .returned (.tuple #[.string r1, .int .i64 r2]) ∧ Below w.heap.size w w' := by
  have HB := Aside0.mk (Below.refl w.heap.size w)
  have H : (if (a0.size : Int) > 65535 then (some ((⟨#[]⟩ : ByteArray), 4)) else ((lump_length.f (a0.size : Int)).bind fun t110 => (if t110.size + a0.size ≤ 9223372036854775807 then (some (t110 ++ a0, 0)) else (none)))) = some (r1, r2) := h
  clear h
  by_cases c2 : (a0.size : Int) > 65535
  · rw [if_pos c2] at H
    have c2b0 : decide (65535 < (a0.size : Int)) = true := decide_eq_true c2
    have c2b1 : decide (65535 < a0.size) = true := decide_eq_true (by omega)
    clear c2
    simp only [Option.some.injEq, Prod.mk.injEq] at H
    obtain ⟨rfl, rfl⟩ := H
    go_enter Try.func25, Try.ntmps25
    go_wp2
    go_ret2
    exact ⟨by first | rfl | (simp only [bne_nil_]; rfl) | (simp [errW_none, errW_some] <;> rfl) | (simp [*, errW_none, errW_some] <;> rfl), by repeat (first | (with_reducible first | exact HB.out | apply below_alloc | apply pw_below_drewN | apply below_drew1) | exact HB.out)⟩
  · rw [if_neg c2] at H
    have c2b0 : decide (65535 < (a0.size : Int)) = false := decide_eq_false c2
    have c2b1 : decide (65535 < a0.size) = false := decide_eq_false (by omega)
    clear c2
    replace H := Option.bind_eq_some_iff.mp H
    obtain ⟨t110, A30, H⟩ := H
    replace H : (if t110.size + a0.size ≤ 9223372036854775807 then (some (t110 ++ a0, 0)) else (none)) = some (r1, r2) := H
    have A3 := Aside0.mk A30
    clear A30
    by_cases c4 : t110.size + a0.size ≤ 9223372036854775807
    · rw [if_pos c4] at H
      have c4b0 := eq_true c4
      have c4b1 : decide (t110.size + a0.size ≤ 9223372036854775807) = true := decide_eq_true c4
      try have c4b2 : (9223372036854775807 < t110.size + a0.size) = False := eq_false (Nat.not_lt.2 c4)
      simp only [Option.some.injEq, Prod.mk.injEq] at H
      obtain ⟨rfl, rfl⟩ := H
      go_enter Try.func25, Try.ntmps25
      go_wp2_with (first | ((with_reducible refine gate_callee (f := 31) rfl ?_); refine goesL_ (some 9) rfl rfl Try.func31 (by kernel_rfl) rfl #[.int .i64 (a0.size : Int)] rfl (by (try simp only [List.map_toArray, List.map_cons, List.map_nil]); first | done | rfl | (simp only [List.length_drop, List.length_take]; rfl)) ?_; (with_reducible refine (lump_length.calls (a0.size : Int) t110 _ A3.out).mono ?_); rintro e w5 ⟨rfl, hb⟩; refine ⟨_, rfl, ?_⟩; have n0_ := Aside0.mk (below_step (by repeat (first | (with_reducible first | exact HB.out | apply below_alloc | apply pw_below_drewN | apply below_drew1) | exact HB.out)) hb); clear HB; have HB := n0_; clear n0_; (try clear hb); (try clear hb2); (try clear hk); (try clear hi)))
      go_ret2
      exact ⟨by first | rfl | (simp only [bne_nil_]; rfl) | (simp [errW_none, errW_some] <;> rfl) | (simp [*, errW_none, errW_some] <;> rfl), by repeat (first | (with_reducible first | exact HB.out | apply below_alloc | apply pw_below_drewN | apply below_drew1) | exact HB.out)⟩
    · rw [if_neg c4] at H
      exact absurd H (by simp)

/-! ### event_Bytes: function 11 -/
def event_Bytes.f (a0_0 : Int) (a0_1 : Int) (a0_2 : ByteArray) (a0_3 : ByteArray) : Option (ByteArray × Int) :=
  (event_May.f 9 a0_0 a0_1 a0_2 a0_3).bind fun m => if m = true then
    (event_keyed.f a0_0).bind fun q => if q = true then
      (lump_Text.f a0_2).bind fun x => (lump_Text.f a0_3).bind fun y =>
        if 2 + x.1.size ≤ 9223372036854775807 ∧ 2 + x.1.size + y.1.size ≤ 9223372036854775807 then some (strOfNums [a0_0 % 256, a0_1 % 256] ++ x.1 ++ y.1, 0) else none
    else some (strOfNums [a0_0 % 256, a0_1 % 256], 0)
  else some ((⟨#[]⟩ : ByteArray), 1)
set_option maxHeartbeats 400000 in
theorem event_Bytes.put (s x : ByteArray) (r : ByteArray) (z : Int) (g : Nat) (w : World) (hg : w.heap[g]? = some (.cells #[.string s] 9 (0, 0))) (h : lump_Text.f x = some (r, z)) (hs : s.size + r.size ≤ 9223372036854775807) :
    Calls Try.prog 24 #[.string x, .pointer (some ⟨g, 0, none⟩)] w fun e w' => e = .returned (.tuple #[]) ∧ w'.heap[g]? = some (.cells #[.string (s ++ r)] 9 (0, 0)) ∧ ∀ B, B ≤ g → B ≤ w.heap.size → Below B w w' := by
  have HG := Aside0.mk hg
  have HH := Aside0.mk h
  clear hg h
  go_enter Try.func24, Try.ntmps24
  go_wp2_with fail
  refine (lump_Text.calls x r z _ HH.out).mono ?_
  rintro e w1 ⟨rfl, hb⟩
  have HB := Aside0.mk hb
  have H1 := Aside0.mk (blk_below HG.out hb)
  clear hb
  have hc : w1.cell? ⟨g, 0, none⟩ = some (.string s) := (blk_cell H1.out 0).trans rfl
  have hf := blk_frozen H1.out 0
  have hs0 := eq_true hs
  have hs1 : (9223372036854775807 < s.size + r.size) = False := eq_false (Nat.not_lt.2 hs)
  go_wp2_with fail
  go_end0
  refine ⟨rfl, by simpa using blk_set H1.out 0 (.string (s ++ r)), fun B h1 h2 => ?_⟩
  exact (HB.out.mono h2).setCell h1 _
theorem event_Bytes.parts {a0_0 a0_1 : Int} {a0_2 a0_3 : ByteArray} {r1 : ByteArray} {r2 : Int} (h : event_Bytes.f a0_0 a0_1 a0_2 a0_3 = some (r1, r2)) :
    (event_May.f 9 a0_0 a0_1 a0_2 a0_3 = some false ∧ r1 = (⟨#[]⟩ : ByteArray) ∧ r2 = 1) ∨
    (event_May.f 9 a0_0 a0_1 a0_2 a0_3 = some true ∧ event_keyed.f a0_0 = some false ∧ r1 = strOfNums [a0_0 % 256, a0_1 % 256] ∧ r2 = 0) ∨
    (∃ x zx y zy, event_May.f 9 a0_0 a0_1 a0_2 a0_3 = some true ∧ event_keyed.f a0_0 = some true ∧ lump_Text.f a0_2 = some (x, zx) ∧ lump_Text.f a0_3 = some (y, zy) ∧ 2 + x.size ≤ 9223372036854775807 ∧ 2 + x.size + y.size ≤ 9223372036854775807 ∧
      r1 = strOfNums [a0_0 % 256, a0_1 % 256] ++ x ++ y ∧ r2 = 0) := by
  unfold event_Bytes.f at h
  rcases hm : event_May.f 9 a0_0 a0_1 a0_2 a0_3 with _ | _ | _
  · rw [hm] at h; simp at h
  · rw [hm] at h; simp at h; exact .inl ⟨rfl, h.1.symm, h.2.symm⟩
  · rw [hm] at h
    simp only [Option.bind_some, if_true] at h
    rcases hk : event_keyed.f a0_0 with _ | _ | _
    · rw [hk] at h; simp at h
    · rw [hk] at h; simp at h; exact .inr (.inl ⟨rfl, rfl, h.1.symm, h.2.symm⟩)
    · rw [hk] at h
      simp only [Option.bind_some, if_true] at h
      rcases hx : lump_Text.f a0_2 with _ | ⟨x, zx⟩
      · rw [hx] at h; simp at h
      · rcases hy : lump_Text.f a0_3 with _ | ⟨y, zy⟩
        · rw [hx, hy] at h; simp at h
        · rw [hx, hy] at h
          simp only [Option.bind_some] at h
          split at h
          · rename_i hc
            simp only [Option.some.injEq, Prod.mk.injEq] at h
            exact .inr (.inr ⟨x, zx, y, zy, rfl, rfl, rfl, rfl, hc.1, hc.2, h.1.symm, h.2.symm⟩)
          · cases h
theorem event_Bytes.two (w : World) (x y : Int) : ReadsInt (w.alloc (.cells #[.int .u8 x, .int .u8 y] 5)) .u8 (some ⟨w.heap.size, 0, none⟩) 2 [x, y] := by
  refine ⟨rfl, by omega, fun _ => ⟨_, rfl, fun j hj => ?_⟩⟩
  have e0 : (⟨w.heap.size, 0, none⟩ : Addr).add j = ⟨w.heap.size, 0 + j, none⟩ := by unfold Addr.add; split <;> simp_all
  rw [e0, blk_cell (blk_new w _)]
  have : j = 0 ∨ j = 1 := by omega
  rcases this with rfl | rfl <;> rfl
set_option maxHeartbeats 400000 in
theorem event_Bytes.calls (a0_0 : Int) (a0_1 : Int) (a0_2 : ByteArray) (a0_3 : ByteArray) (r1 : ByteArray) (r2 : Int) (w : World) (h : event_Bytes.f a0_0 a0_1 a0_2 a0_3 = some (r1, r2)) :
    Calls Try.prog 11 #[.agg #[.int .i64 a0_0, .int .i64 a0_1, .string a0_2, .string a0_3]] w fun e w' => e = .returned (.tuple #[.string r1, .int .i64 r2]) ∧ Below w.heap.size w w' := by
  have HB0 := Aside0.mk (Below.refl w.heap.size w)
  rcases event_Bytes.parts h with ⟨hm, rfl, rfl⟩ | ⟨hm, hk, rfl, rfl⟩ | ⟨x, zx, y, zy, hm, hk, hx, hy, hs1, hs2, rfl, rfl⟩
  · have HM := Aside0.mk hm
    clear h hm
    go_enter Try.func11, Try.ntmps11
    go_wp2_with fail
    refine (event_May.calls 9 a0_0 a0_1 a0_2 a0_3 false _ HM.out).mono ?_
    rintro e w1 ⟨rfl, hb⟩
    have HB := Aside0.mk (below_step (below_alloc (Below.refl _ _) _) hb)
    clear hb
    go_wp2_with fail
    go_ret2
    exact ⟨rfl, HB.out⟩
  · have HM := Aside0.mk hm
    have HK := Aside0.mk hk
    clear h hm hk
    go_enter Try.func11, Try.ntmps11
    go_wp2_with fail
    refine (event_May.calls 9 a0_0 a0_1 a0_2 a0_3 true _ HM.out).mono ?_
    rintro e w1 ⟨rfl, hb⟩
    have HB := Aside0.mk (below_step (below_alloc (Below.refl _ _) _) hb)
    have BK := Aside0.mk (blk_below (blk_new w _) hb)
    clear hb
    have hlt := blk_lt BK.out
    have hc0 : w1.cell? ⟨w.heap.size, 0, none⟩ = some (.int .i64 a0_0) := (blk_cell BK.out 0).trans rfl
    have hc1 : w1.cell? ⟨w.heap.size, 1, none⟩ = some (.int .i64 a0_1) := (blk_cell BK.out 1).trans rfl
    have hcv := string_of_reads (P := Try.prog) (src := 52) (dst := 9) (e := 5) (c := 2) Try.underlying52 Try.underlying5 Try.underlying9 (event_Bytes.two w1 (a0_0 % 256) (a0_1 % 256))
    go_wp2_with fail
    clear hcv
    refine (event_keyed.calls a0_0 false _ HK.out).mono ?_
    rintro e w2 ⟨rfl, ⟨nq, rfl⟩⟩
    clear hc0 hc1
    go_wp2_with fail
    go_ret2
    exact ⟨rfl, by repeat (first | exact HB.out | apply below_alloc | apply pw_below_drewN)⟩
  · have HM := Aside0.mk hm
    have HK := Aside0.mk hk
    have HX := Aside0.mk hx
    have HY := Aside0.mk hy
    have S1 := Aside0.mk hs1
    have S2 := Aside0.mk hs2
    clear h hm hk hx hy hs1 hs2
    go_enter Try.func11, Try.ntmps11
    go_wp2_with fail
    refine (event_May.calls 9 a0_0 a0_1 a0_2 a0_3 true _ HM.out).mono ?_
    rintro e w1 ⟨rfl, hb⟩
    have HB := Aside0.mk (below_step (below_alloc (Below.refl _ _) _) hb)
    have BK := Aside0.mk (blk_below (blk_new w _) hb)
    clear hb
    have hlt := blk_lt BK.out
    have hc0 : w1.cell? ⟨w.heap.size, 0, none⟩ = some (.int .i64 a0_0) := (blk_cell BK.out 0).trans rfl
    have hc1 : w1.cell? ⟨w.heap.size, 1, none⟩ = some (.int .i64 a0_1) := (blk_cell BK.out 1).trans rfl
    have hc2 : w1.cell? ⟨w.heap.size, 2, none⟩ = some (.string a0_2) := (blk_cell BK.out 2).trans rfl
    have hcv := string_of_reads (P := Try.prog) (src := 52) (dst := 9) (e := 5) (c := 2) Try.underlying52 Try.underlying5 Try.underlying9 (event_Bytes.two w1 (a0_0 % 256) (a0_1 % 256))
    go_wp2_with fail
    clear hcv
    refine (event_keyed.calls a0_0 true _ HK.out).mono ?_
    rintro e w2 ⟨rfl, ⟨nq, rfl⟩⟩
    clear hc0 hc1
    go_wp2_with fail
    have hz : (strOfNums [a0_0 % 256, a0_1 % 256]).size = 2 := rfl
    obtain ⟨W, hW⟩ : ∃ W, W = (((w1.alloc (.cells #[.int .u8 (a0_0 % 256), .int .u8 (a0_1 % 256)] 5)).alloc (.cells #[.string (strOfNums [a0_0 % 256, a0_1 % 256])] 9)).drewN nq) := ⟨_, rfl⟩
    have HBW : Below w.heap.size w W := by rw [hW]; repeat (first | exact HB.out | apply below_alloc | apply pw_below_drewN)
    have BKW := blk_drewN (blk_alloc (blk_alloc BK.out (.cells #[.int .u8 (a0_0 % 256), .int .u8 (a0_1 % 256)] 5)) (.cells #[.string (strOfNums [a0_0 % 256, a0_1 % 256])] 9)) nq
    have BGW := blk_drewN (blk_new (w1.alloc (.cells #[.int .u8 (a0_0 % 256), .int .u8 (a0_1 % 256)] 5)) (.cells #[.string (strOfNums [a0_0 % 256, a0_1 % 256])] 9)) nq
    have hs1 : (w1.alloc (.cells #[.int .u8 (a0_0 % 256), .int .u8 (a0_1 % 256)] 5)).heap.size = w1.heap.size + 1 := by simp
    rw [← hW] at BKW BGW
    rw [hs1] at BGW
    rw [← hW]
    clear hc2 hW
    have hWs := blk_lt BGW
    have BKW := Aside0.mk BKW
    have HBW := Aside0.mk HBW
    have hlt2 : w.heap.size ≠ w1.heap.size + 1 := by omega
    refine (event_Bytes.put _ a0_2 x zx (w1.heap.size + 1) W BGW HX.out (by rw [hz]; exact S1.out)).mono ?_
    rintro e w2 ⟨rfl, hg2, hB2⟩
    have HG2 := Aside0.mk hg2
    have HB2 := Aside0.mk (HBW.out.trans (hB2 w.heap.size (by omega) (by omega)))
    have BK2 := Aside0.mk (((hB2 (w1.heap.size + 1) (Nat.le_refl _) (by omega)).block w.heap.size (by omega)).trans BKW.out)
    clear hg2 hB2 BGW BKW
    have hc3 : w2.cell? ⟨w.heap.size, 3, none⟩ = some (.string a0_3) := (blk_cell BK2.out 3).trans rfl
    go_wp2_with fail
    refine (event_Bytes.put _ a0_3 y zy (w1.heap.size + 1) w2 HG2.out HY.out (by rw [ByteArray.size_append, hz]; exact S2.out)).mono ?_
    rintro e w3 ⟨rfl, hg3, hB3⟩
    have HB3 := Aside0.mk (HB2.out.trans (hB3 w.heap.size (by omega) HB2.out.size))
    have hc4 := (blk_cell hg3 0).trans rfl
    clear hg3 hB3 hc3
    go_wp2_with fail
    go_ret2
    exact ⟨rfl, HB3.out⟩

/-! ### cartouchelaw06_shown: function 10 -/
def cartouchelaw06_shown.f  : Option (Bool) := (event_Bytes.f 1 3 (⟨#[]⟩ : ByteArray) (⟨#[]⟩ : ByteArray)).bind fun bt111 => ((event_Bytes.f 3 3 (⟨#[97]⟩ : ByteArray) (⟨#[98]⟩ : ByteArray)).bind fun bt113 => (if bt111.1.toList = ([1, 3] : List UInt8) then (if bt113.1.toList = ([3, 3, 1, 97, 1, 98] : List UInt8) then (if bt111.2 = 0 then (some (bt113.2 == 0)) else (some false)) else (some false)) else (some false)))
set_option maxHeartbeats 8000000 in
set_option maxRecDepth 100000 in
theorem cartouchelaw06_shown.calls  (r : Bool) (w : World) (h : cartouchelaw06_shown.f  = some r) :
    Calls Try.prog 10 #[] w fun e w' => e = .returned (.bool r) ∧ Below w.heap.size w w' := by
  have hu23 := Try.underlying23
  have HB := Aside0.mk (Below.refl w.heap.size w)
  have H : ((event_Bytes.f 1 3 (⟨#[]⟩ : ByteArray) (⟨#[]⟩ : ByteArray)).bind fun bt111 => ((event_Bytes.f 3 3 (⟨#[97]⟩ : ByteArray) (⟨#[98]⟩ : ByteArray)).bind fun bt113 => (if bt111.1.toList = ([1, 3] : List UInt8) then (if bt113.1.toList = ([3, 3, 1, 97, 1, 98] : List UInt8) then (if bt111.2 = 0 then (some (bt113.2 == 0)) else (some false)) else (some false)) else (some false)))) = some r := h
  clear h
  replace H := Option.bind_eq_some_iff.mp H
  obtain ⟨⟨t111, t112⟩, A10, H⟩ := H
  replace H : ((event_Bytes.f 3 3 (⟨#[97]⟩ : ByteArray) (⟨#[98]⟩ : ByteArray)).bind fun bt113 => (if t111.toList = ([1, 3] : List UInt8) then (if bt113.1.toList = ([3, 3, 1, 97, 1, 98] : List UInt8) then (if t112 = 0 then (some (bt113.2 == 0)) else (some false)) else (some false)) else (some false))) = some r := H
  have A1 := Aside0.mk A10
  clear A10
  replace H := Option.bind_eq_some_iff.mp H
  obtain ⟨⟨t113, t114⟩, A20, H⟩ := H
  replace H : (if t111.toList = ([1, 3] : List UInt8) then (if t113.toList = ([3, 3, 1, 97, 1, 98] : List UInt8) then (if t112 = 0 then (some (t114 == 0)) else (some false)) else (some false)) else (some false)) = some r := H
  have A2 := Aside0.mk A20
  clear A20
  by_cases c3 : t111.toList = ([1, 3] : List UInt8)
  · rw [if_pos c3] at H
    have c3b0 : (t111.toList == ([1, 3] : List UInt8)) = true := beq_iff_eq.mpr c3
    have c3b1 : (t111.toList != ([1, 3] : List UInt8)) = false := bne_eq_false_iff_eq.mpr c3
    clear c3
    by_cases c4 : t113.toList = ([3, 3, 1, 97, 1, 98] : List UInt8)
    · rw [if_pos c4] at H
      have c4b0 : (t113.toList == ([3, 3, 1, 97, 1, 98] : List UInt8)) = true := beq_iff_eq.mpr c4
      have c4b1 : (t113.toList != ([3, 3, 1, 97, 1, 98] : List UInt8)) = false := bne_eq_false_iff_eq.mpr c4
      clear c4
      by_cases c5 : t112 = 0
      · rw [if_pos c5] at H
        have c5b0 : (t112 == 0) = true := beq_iff_eq.mpr c5
        have c5b1 : (t112 != 0) = false := bne_eq_false_iff_eq.mpr c5
        clear c5
        obtain rfl := Option.some.inj H
        go_enter Try.func10, Try.ntmps10
        go_wp2_with (first | ((with_reducible refine gate_callee (f := 11) rfl ?_); refine goesL_ (some 7) rfl rfl Try.func11 (by kernel_rfl) rfl #[.agg #[.int .i64 1, .int .i64 3, .string (⟨#[]⟩ : ByteArray), .string (⟨#[]⟩ : ByteArray)]] rfl (by (try simp only [List.map_toArray, List.map_cons, List.map_nil]); first | done | rfl | (simp only [List.length_drop, List.length_take]; rfl)) ?_; (with_reducible refine (event_Bytes.calls 1 3 (⟨#[]⟩ : ByteArray) (⟨#[]⟩ : ByteArray) t111 t112 _ A1.out).mono ?_); rintro e w6 ⟨rfl, hb⟩; refine ⟨_, rfl, ?_⟩; have n0_ := Aside0.mk (below_step (by repeat (first | (with_reducible first | exact HB.out | apply below_alloc | apply pw_below_drewN | apply below_drew1) | exact HB.out)) hb); clear HB; have HB := n0_; clear n0_; (try clear hb); (try clear hb2); (try clear hk); (try clear hi)) | ((with_reducible refine gate_callee (f := 11) rfl ?_); refine goesL_ (some 12) rfl rfl Try.func11 (by kernel_rfl) rfl #[.agg #[.int .i64 3, .int .i64 3, .string (⟨#[97]⟩ : ByteArray), .string (⟨#[98]⟩ : ByteArray)]] rfl (by (try simp only [List.map_toArray, List.map_cons, List.map_nil]); first | done | rfl | (simp only [List.length_drop, List.length_take]; rfl)) ?_; (with_reducible refine (event_Bytes.calls 3 3 (⟨#[97]⟩ : ByteArray) (⟨#[98]⟩ : ByteArray) t113 t114 _ A2.out).mono ?_); rintro e w7 ⟨rfl, hb⟩; refine ⟨_, rfl, ?_⟩; have n0_ := Aside0.mk (below_step (by repeat (first | (with_reducible first | exact HB.out | apply below_alloc | apply pw_below_drewN | apply below_drew1) | exact HB.out)) hb); clear HB; have HB := n0_; clear n0_; (try clear hb); (try clear hb2); (try clear hk); (try clear hi)))
        go_ret
        exact ⟨by first | rfl | (simp only [bne_nil_]; rfl) | (simp [errW_none, errW_some] <;> rfl) | (simp [*, errW_none, errW_some] <;> rfl), by repeat (first | (with_reducible first | exact HB.out | apply below_alloc | apply pw_below_drewN | apply below_drew1) | exact HB.out)⟩
      · rw [if_neg c5] at H
        have c5b0 : (t112 == 0) = false := beq_eq_false_iff_ne.mpr c5
        have c5b1 : (t112 != 0) = true := bne_iff_ne.mpr c5
        obtain rfl := Option.some.inj H
        go_enter Try.func10, Try.ntmps10
        go_wp2_with (first | ((with_reducible refine gate_callee (f := 11) rfl ?_); refine goesL_ (some 7) rfl rfl Try.func11 (by kernel_rfl) rfl #[.agg #[.int .i64 1, .int .i64 3, .string (⟨#[]⟩ : ByteArray), .string (⟨#[]⟩ : ByteArray)]] rfl (by (try simp only [List.map_toArray, List.map_cons, List.map_nil]); first | done | rfl | (simp only [List.length_drop, List.length_take]; rfl)) ?_; (with_reducible refine (event_Bytes.calls 1 3 (⟨#[]⟩ : ByteArray) (⟨#[]⟩ : ByteArray) t111 t112 _ A1.out).mono ?_); rintro e w8 ⟨rfl, hb⟩; refine ⟨_, rfl, ?_⟩; have n0_ := Aside0.mk (below_step (by repeat (first | (with_reducible first | exact HB.out | apply below_alloc | apply pw_below_drewN | apply below_drew1) | exact HB.out)) hb); clear HB; have HB := n0_; clear n0_; (try clear hb); (try clear hb2); (try clear hk); (try clear hi)) | ((with_reducible refine gate_callee (f := 11) rfl ?_); refine goesL_ (some 12) rfl rfl Try.func11 (by kernel_rfl) rfl #[.agg #[.int .i64 3, .int .i64 3, .string (⟨#[97]⟩ : ByteArray), .string (⟨#[98]⟩ : ByteArray)]] rfl (by (try simp only [List.map_toArray, List.map_cons, List.map_nil]); first | done | rfl | (simp only [List.length_drop, List.length_take]; rfl)) ?_; (with_reducible refine (event_Bytes.calls 3 3 (⟨#[97]⟩ : ByteArray) (⟨#[98]⟩ : ByteArray) t113 t114 _ A2.out).mono ?_); rintro e w9 ⟨rfl, hb⟩; refine ⟨_, rfl, ?_⟩; have n0_ := Aside0.mk (below_step (by repeat (first | (with_reducible first | exact HB.out | apply below_alloc | apply pw_below_drewN | apply below_drew1) | exact HB.out)) hb); clear HB; have HB := n0_; clear n0_; (try clear hb); (try clear hb2); (try clear hk); (try clear hi)))
        go_ret
        exact ⟨by first | rfl | (simp only [bne_nil_]; rfl) | (simp [errW_none, errW_some] <;> rfl) | (simp [*, errW_none, errW_some] <;> rfl), by repeat (first | (with_reducible first | exact HB.out | apply below_alloc | apply pw_below_drewN | apply below_drew1) | exact HB.out)⟩
    · rw [if_neg c4] at H
      have c4b0 : (t113.toList == ([3, 3, 1, 97, 1, 98] : List UInt8)) = false := beq_eq_false_iff_ne.mpr c4
      have c4b1 : (t113.toList != ([3, 3, 1, 97, 1, 98] : List UInt8)) = true := bne_iff_ne.mpr c4
      obtain rfl := Option.some.inj H
      go_enter Try.func10, Try.ntmps10
      go_wp2_with (first | ((with_reducible refine gate_callee (f := 11) rfl ?_); refine goesL_ (some 7) rfl rfl Try.func11 (by kernel_rfl) rfl #[.agg #[.int .i64 1, .int .i64 3, .string (⟨#[]⟩ : ByteArray), .string (⟨#[]⟩ : ByteArray)]] rfl (by (try simp only [List.map_toArray, List.map_cons, List.map_nil]); first | done | rfl | (simp only [List.length_drop, List.length_take]; rfl)) ?_; (with_reducible refine (event_Bytes.calls 1 3 (⟨#[]⟩ : ByteArray) (⟨#[]⟩ : ByteArray) t111 t112 _ A1.out).mono ?_); rintro e w10 ⟨rfl, hb⟩; refine ⟨_, rfl, ?_⟩; have n0_ := Aside0.mk (below_step (by repeat (first | (with_reducible first | exact HB.out | apply below_alloc | apply pw_below_drewN | apply below_drew1) | exact HB.out)) hb); clear HB; have HB := n0_; clear n0_; (try clear hb); (try clear hb2); (try clear hk); (try clear hi)) | ((with_reducible refine gate_callee (f := 11) rfl ?_); refine goesL_ (some 12) rfl rfl Try.func11 (by kernel_rfl) rfl #[.agg #[.int .i64 3, .int .i64 3, .string (⟨#[97]⟩ : ByteArray), .string (⟨#[98]⟩ : ByteArray)]] rfl (by (try simp only [List.map_toArray, List.map_cons, List.map_nil]); first | done | rfl | (simp only [List.length_drop, List.length_take]; rfl)) ?_; (with_reducible refine (event_Bytes.calls 3 3 (⟨#[97]⟩ : ByteArray) (⟨#[98]⟩ : ByteArray) t113 t114 _ A2.out).mono ?_); rintro e w11 ⟨rfl, hb⟩; refine ⟨_, rfl, ?_⟩; have n0_ := Aside0.mk (below_step (by repeat (first | (with_reducible first | exact HB.out | apply below_alloc | apply pw_below_drewN | apply below_drew1) | exact HB.out)) hb); clear HB; have HB := n0_; clear n0_; (try clear hb); (try clear hb2); (try clear hk); (try clear hi)))
      go_ret
      exact ⟨by first | rfl | (simp only [bne_nil_]; rfl) | (simp [errW_none, errW_some] <;> rfl) | (simp [*, errW_none, errW_some] <;> rfl), by repeat (first | (with_reducible first | exact HB.out | apply below_alloc | apply pw_below_drewN | apply below_drew1) | exact HB.out)⟩
  · rw [if_neg c3] at H
    have c3b0 : (t111.toList == ([1, 3] : List UInt8)) = false := beq_eq_false_iff_ne.mpr c3
    have c3b1 : (t111.toList != ([1, 3] : List UInt8)) = true := bne_iff_ne.mpr c3
    obtain rfl := Option.some.inj H
    go_enter Try.func10, Try.ntmps10
    go_wp2_with (first | ((with_reducible refine gate_callee (f := 11) rfl ?_); refine goesL_ (some 7) rfl rfl Try.func11 (by kernel_rfl) rfl #[.agg #[.int .i64 1, .int .i64 3, .string (⟨#[]⟩ : ByteArray), .string (⟨#[]⟩ : ByteArray)]] rfl (by (try simp only [List.map_toArray, List.map_cons, List.map_nil]); first | done | rfl | (simp only [List.length_drop, List.length_take]; rfl)) ?_; (with_reducible refine (event_Bytes.calls 1 3 (⟨#[]⟩ : ByteArray) (⟨#[]⟩ : ByteArray) t111 t112 _ A1.out).mono ?_); rintro e w12 ⟨rfl, hb⟩; refine ⟨_, rfl, ?_⟩; have n0_ := Aside0.mk (below_step (by repeat (first | (with_reducible first | exact HB.out | apply below_alloc | apply pw_below_drewN | apply below_drew1) | exact HB.out)) hb); clear HB; have HB := n0_; clear n0_; (try clear hb); (try clear hb2); (try clear hk); (try clear hi)) | ((with_reducible refine gate_callee (f := 11) rfl ?_); refine goesL_ (some 12) rfl rfl Try.func11 (by kernel_rfl) rfl #[.agg #[.int .i64 3, .int .i64 3, .string (⟨#[97]⟩ : ByteArray), .string (⟨#[98]⟩ : ByteArray)]] rfl (by (try simp only [List.map_toArray, List.map_cons, List.map_nil]); first | done | rfl | (simp only [List.length_drop, List.length_take]; rfl)) ?_; (with_reducible refine (event_Bytes.calls 3 3 (⟨#[97]⟩ : ByteArray) (⟨#[98]⟩ : ByteArray) t113 t114 _ A2.out).mono ?_); rintro e w13 ⟨rfl, hb⟩; refine ⟨_, rfl, ?_⟩; have n0_ := Aside0.mk (below_step (by repeat (first | (with_reducible first | exact HB.out | apply below_alloc | apply pw_below_drewN | apply below_drew1) | exact HB.out)) hb); clear HB; have HB := n0_; clear n0_; (try clear hb); (try clear hb2); (try clear hk); (try clear hi)))
    go_ret
    exact ⟨by first | rfl | (simp only [bne_nil_]; rfl) | (simp [errW_none, errW_some] <;> rfl) | (simp [*, errW_none, errW_some] <;> rfl), by repeat (first | (with_reducible first | exact HB.out | apply below_alloc | apply pw_below_drewN | apply below_drew1) | exact HB.out)⟩

end Go.Proofs.Ytpfmdpbhmilepaa.A
