-- Written by wip/hand.py of this session's repository, out of the translation and of contracts typed by hand. Not trusted: Lean checks it.
import Derived.Test.YtndbgdcjhhjaiaaB0
import Derived.Test.YtndbgdcjhhjaiaaB1
import Derived.Test.YtndbgdcjhhjaiaaB2
namespace Go.Proofs.Ytndbgdcjhhjaiaa.B
open Go.RowKit Go.Proofs.YtndbgdcjhhjaiaaW.PrintWords Go.Proofs.YtndbgdcjhhjaiaaW.PrintLast Go.Proofs.YtndbgdcjhhjaiaaW.PrintMore
attribute [local go_sem] max2_int min2_int max_two min_two max_three min_three max_four min_four   -- for this text's walks alone
set_option linter.unusedVariables false
set_option linter.unusedSimpArgs false

/-! ### cartouchelaw20_TallyFirst: function 8 -/
def cartouchelaw20_TallyFirst.f (k : Nat) (l0 : List ByteArray) : Option (Bool) := (cartouchelaw20_shown.f).bind fun t103 => ((tally_First.f l0).bind fun bt104 => ((cartoucheref20_First.f k l0).bind fun bt106 => (if t103 = true then (if bt104.1.toList = bt106.1.toList then (some (bt104.2 == bt106.2)) else (some false)) else (some false))))
theorem cartouchelaw20_TallyFirst.mono : ∀ a0 k, LeO (cartouchelaw20_TallyFirst.f k a0) (cartouchelaw20_TallyFirst.f (k + 1) a0) := by
  intro a0 k
  unfold cartouchelaw20_TallyFirst.f
  repeat' first
      | (with_reducible exact cartoucheref20_First.mono _ _)
      | (with_reducible exact LeO.refl _)
      | (with_reducible exact LeO.none _)
      | (with_reducible refine LeO.ite ?_ ?_)
      | (with_reducible refine LeO.bind ?_ (fun _ => ?_))
      | exact cartoucheref20_First.mono _ _
      | exact LeO.none _
      | refine LeO.ite ?_ ?_
      | refine LeO.bind ?_ (fun _ => ?_)
set_option maxHeartbeats 8000000 in
set_option maxRecDepth 100000 in
theorem cartouchelaw20_TallyFirst.calls (k : Nat) (A0 : Option Addr) (c0 : Nat) (l0 : List ByteArray) (r : Bool) (w : World) (hr0 : Kd.C Kd.string w A0 l0.length l0) (hc0 : l0.length ≤ c0) (h : cartouchelaw20_TallyFirst.f k l0 = some r) :
    Calls Try.prog 8 #[.slice A0 l0.length c0] w fun e w' => e = .returned (.bool r) ∧ Below w.heap.size w w' := by
  have HR0 := Aside0.mk hr0
  have HC0 := Aside0.mk hc0
  clear hr0 hc0
  have HB := Aside0.mk (Below.refl w.heap.size w)
  have H : ((cartouchelaw20_shown.f).bind fun t103 => ((tally_First.f l0).bind fun bt104 => ((cartoucheref20_First.f k l0).bind fun bt106 => (if t103 = true then (if bt104.1.toList = bt106.1.toList then (some (bt104.2 == bt106.2)) else (some false)) else (some false))))) = some r := h
  clear h
  replace H := Option.bind_eq_some_iff.mp H
  obtain ⟨t103, A20, H⟩ := H
  replace H : ((tally_First.f l0).bind fun bt104 => ((cartoucheref20_First.f k l0).bind fun bt106 => (if t103 = true then (if bt104.1.toList = bt106.1.toList then (some (bt104.2 == bt106.2)) else (some false)) else (some false)))) = some r := H
  have A2 := Aside0.mk A20
  clear A20
  replace H := Option.bind_eq_some_iff.mp H
  obtain ⟨⟨t104, t105⟩, A30, H⟩ := H
  replace H : ((cartoucheref20_First.f k l0).bind fun bt106 => (if t103 = true then (if t104.toList = bt106.1.toList then (some (t105 == bt106.2)) else (some false)) else (some false))) = some r := H
  have A3 := Aside0.mk A30
  clear A30
  replace H := Option.bind_eq_some_iff.mp H
  obtain ⟨⟨t106, t107⟩, A40, H⟩ := H
  replace H : (if t103 = true then (if t104.toList = t106.toList then (some (t105 == t107)) else (some false)) else (some false)) = some r := H
  have A4 := Aside0.mk A40
  clear A40
  by_cases c5 : t103 = true
  · subst c5
    have H1 : (if t104.toList = t106.toList then (some (t105 == t107)) else (some false)) = some r := by rw [if_pos rfl] at H; exact H
    clear H
    have H := H1
    clear H1
    by_cases c6 : t104.toList = t106.toList
    · rw [if_pos c6] at H
      have c6b0 : (t104.toList == t106.toList) = true := beq_iff_eq.mpr c6
      have c6b1 : (t104.toList != t106.toList) = false := bne_eq_false_iff_eq.mpr c6
      clear c6
      obtain rfl := Option.some.inj H
      go_enter Try.func8, Try.ntmps8
      go_wp2_with (first | ((with_reducible refine gate_callee (f := 18) rfl ?_); refine goesL_ (some 8) rfl rfl Try.func18 (by kernel_rfl) rfl #[] rfl (by (try simp only [List.map_toArray, List.map_cons, List.map_nil]); first | done | rfl | (simp only [List.length_drop, List.length_take]; rfl)) ?_; (with_reducible refine (cartouchelaw20_shown.calls  true _ A2.out).mono ?_); rintro e w7 ⟨rfl, hb⟩; refine ⟨_, rfl, ?_⟩; have n0_ := Aside0.mk (below_step (by repeat (first | (with_reducible first | exact HB.out | apply below_alloc | apply pw_below_drewN | apply below_drew1) | exact HB.out)) hb); clear HB; have HB := n0_; clear n0_; (try clear hb); (try clear hb2); (try clear hk); (try clear hi)) | ((with_reducible refine gate_callee (f := 19) rfl ?_); refine goesL_ (some 11) rfl rfl Try.func19 (by kernel_rfl) rfl #[.slice A0 l0.length c0] rfl (by (try simp only [List.map_toArray, List.map_cons, List.map_nil]); first | done | rfl | (simp only [List.length_drop, List.length_take]; rfl)) ?_; (with_reducible refine (tally_First.calls _ _ l0 t104 t105 _ ?side1 ?side2 A3.out).mono ?_); (case side1 => repeat (first | exact (Kd.C_below HR0.out HB.out) | (with_reducible refine Kd.C_alloc ?_ _) | (with_reducible refine Kd.C_drewN ?_ _) | (with_reducible refine Kd.C_drew ?_))); (case side2 => exact HC0.out); rintro e w8 ⟨rfl, hb⟩; refine ⟨_, rfl, ?_⟩; have n0_ := Aside0.mk (below_step (by repeat (first | (with_reducible first | exact HB.out | apply below_alloc | apply pw_below_drewN | apply below_drew1) | exact HB.out)) hb); clear HB; have HB := n0_; clear n0_; (try clear hb); (try clear hb2); (try clear hk); (try clear hi)) | ((with_reducible refine gate_callee (f := 20) rfl ?_); refine goesL_ (some 16) rfl rfl Try.func20 (by kernel_rfl) rfl #[.slice A0 l0.length c0] rfl (by (try simp only [List.map_toArray, List.map_cons, List.map_nil]); first | done | rfl | (simp only [List.length_drop, List.length_take]; rfl)) ?_; (with_reducible refine (cartoucheref20_First.calls k _ _ l0 t106 t107 _ ?side1 ?side2 A4.out).mono ?_); (case side1 => repeat (first | exact (Kd.C_below HR0.out HB.out) | (with_reducible refine Kd.C_alloc ?_ _) | (with_reducible refine Kd.C_drewN ?_ _) | (with_reducible refine Kd.C_drew ?_))); (case side2 => exact HC0.out); rintro e w' ⟨rfl, ⟨nd, rfl⟩⟩; refine ⟨_, rfl, ?_⟩))
      go_ret
      exact ⟨by first | rfl | (simp only [bne_nil_]; rfl) | (simp [errW_none, errW_some] <;> rfl) | (simp [*, errW_none, errW_some] <;> rfl), by repeat (first | (with_reducible first | exact HB.out | apply below_alloc | apply pw_below_drewN | apply below_drew1) | exact HB.out)⟩
    · rw [if_neg c6] at H
      have c6b0 : (t104.toList == t106.toList) = false := beq_eq_false_iff_ne.mpr c6
      have c6b1 : (t104.toList != t106.toList) = true := bne_iff_ne.mpr c6
      obtain rfl := Option.some.inj H
      go_enter Try.func8, Try.ntmps8
      go_wp2_with (first | ((with_reducible refine gate_callee (f := 18) rfl ?_); refine goesL_ (some 8) rfl rfl Try.func18 (by kernel_rfl) rfl #[] rfl (by (try simp only [List.map_toArray, List.map_cons, List.map_nil]); first | done | rfl | (simp only [List.length_drop, List.length_take]; rfl)) ?_; (with_reducible refine (cartouchelaw20_shown.calls  true _ A2.out).mono ?_); rintro e w9 ⟨rfl, hb⟩; refine ⟨_, rfl, ?_⟩; have n0_ := Aside0.mk (below_step (by repeat (first | (with_reducible first | exact HB.out | apply below_alloc | apply pw_below_drewN | apply below_drew1) | exact HB.out)) hb); clear HB; have HB := n0_; clear n0_; (try clear hb); (try clear hb2); (try clear hk); (try clear hi)) | ((with_reducible refine gate_callee (f := 19) rfl ?_); refine goesL_ (some 11) rfl rfl Try.func19 (by kernel_rfl) rfl #[.slice A0 l0.length c0] rfl (by (try simp only [List.map_toArray, List.map_cons, List.map_nil]); first | done | rfl | (simp only [List.length_drop, List.length_take]; rfl)) ?_; (with_reducible refine (tally_First.calls _ _ l0 t104 t105 _ ?side1 ?side2 A3.out).mono ?_); (case side1 => repeat (first | exact (Kd.C_below HR0.out HB.out) | (with_reducible refine Kd.C_alloc ?_ _) | (with_reducible refine Kd.C_drewN ?_ _) | (with_reducible refine Kd.C_drew ?_))); (case side2 => exact HC0.out); rintro e w10 ⟨rfl, hb⟩; refine ⟨_, rfl, ?_⟩; have n0_ := Aside0.mk (below_step (by repeat (first | (with_reducible first | exact HB.out | apply below_alloc | apply pw_below_drewN | apply below_drew1) | exact HB.out)) hb); clear HB; have HB := n0_; clear n0_; (try clear hb); (try clear hb2); (try clear hk); (try clear hi)) | ((with_reducible refine gate_callee (f := 20) rfl ?_); refine goesL_ (some 16) rfl rfl Try.func20 (by kernel_rfl) rfl #[.slice A0 l0.length c0] rfl (by (try simp only [List.map_toArray, List.map_cons, List.map_nil]); first | done | rfl | (simp only [List.length_drop, List.length_take]; rfl)) ?_; (with_reducible refine (cartoucheref20_First.calls k _ _ l0 t106 t107 _ ?side1 ?side2 A4.out).mono ?_); (case side1 => repeat (first | exact (Kd.C_below HR0.out HB.out) | (with_reducible refine Kd.C_alloc ?_ _) | (with_reducible refine Kd.C_drewN ?_ _) | (with_reducible refine Kd.C_drew ?_))); (case side2 => exact HC0.out); rintro e w' ⟨rfl, ⟨nd, rfl⟩⟩; refine ⟨_, rfl, ?_⟩))
      go_ret
      exact ⟨by first | rfl | (simp only [bne_nil_]; rfl) | (simp [errW_none, errW_some] <;> rfl) | (simp [*, errW_none, errW_some] <;> rfl), by repeat (first | (with_reducible first | exact HB.out | apply below_alloc | apply pw_below_drewN | apply below_drew1) | exact HB.out)⟩
  · replace c5 := Bool.eq_false_iff.mpr c5
    subst c5
    have H1 : (some false) = some r := by rw [if_neg (show ¬ (false = true) by decide)] at H; exact H
    clear H
    have H := H1
    clear H1
    obtain rfl := Option.some.inj H
    go_enter Try.func8, Try.ntmps8
    go_wp2_with (first | ((with_reducible refine gate_callee (f := 18) rfl ?_); refine goesL_ (some 8) rfl rfl Try.func18 (by kernel_rfl) rfl #[] rfl (by (try simp only [List.map_toArray, List.map_cons, List.map_nil]); first | done | rfl | (simp only [List.length_drop, List.length_take]; rfl)) ?_; (with_reducible refine (cartouchelaw20_shown.calls  false _ A2.out).mono ?_); rintro e w11 ⟨rfl, hb⟩; refine ⟨_, rfl, ?_⟩; have n0_ := Aside0.mk (below_step (by repeat (first | (with_reducible first | exact HB.out | apply below_alloc | apply pw_below_drewN | apply below_drew1) | exact HB.out)) hb); clear HB; have HB := n0_; clear n0_; (try clear hb); (try clear hb2); (try clear hk); (try clear hi)) | ((with_reducible refine gate_callee (f := 19) rfl ?_); refine goesL_ (some 11) rfl rfl Try.func19 (by kernel_rfl) rfl #[.slice A0 l0.length c0] rfl (by (try simp only [List.map_toArray, List.map_cons, List.map_nil]); first | done | rfl | (simp only [List.length_drop, List.length_take]; rfl)) ?_; (with_reducible refine (tally_First.calls _ _ l0 t104 t105 _ ?side1 ?side2 A3.out).mono ?_); (case side1 => repeat (first | exact (Kd.C_below HR0.out HB.out) | (with_reducible refine Kd.C_alloc ?_ _) | (with_reducible refine Kd.C_drewN ?_ _) | (with_reducible refine Kd.C_drew ?_))); (case side2 => exact HC0.out); rintro e w12 ⟨rfl, hb⟩; refine ⟨_, rfl, ?_⟩; have n0_ := Aside0.mk (below_step (by repeat (first | (with_reducible first | exact HB.out | apply below_alloc | apply pw_below_drewN | apply below_drew1) | exact HB.out)) hb); clear HB; have HB := n0_; clear n0_; (try clear hb); (try clear hb2); (try clear hk); (try clear hi)) | ((with_reducible refine gate_callee (f := 20) rfl ?_); refine goesL_ (some 16) rfl rfl Try.func20 (by kernel_rfl) rfl #[.slice A0 l0.length c0] rfl (by (try simp only [List.map_toArray, List.map_cons, List.map_nil]); first | done | rfl | (simp only [List.length_drop, List.length_take]; rfl)) ?_; (with_reducible refine (cartoucheref20_First.calls k _ _ l0 t106 t107 _ ?side1 ?side2 A4.out).mono ?_); (case side1 => repeat (first | exact (Kd.C_below HR0.out HB.out) | (with_reducible refine Kd.C_alloc ?_ _) | (with_reducible refine Kd.C_drewN ?_ _) | (with_reducible refine Kd.C_drew ?_))); (case side2 => exact HC0.out); rintro e w' ⟨rfl, ⟨nd, rfl⟩⟩; refine ⟨_, rfl, ?_⟩))
    go_ret
    exact ⟨by first | rfl | (simp only [bne_nil_]; rfl) | (simp [errW_none, errW_some] <;> rfl) | (simp [*, errW_none, errW_some] <;> rfl), by repeat (first | (with_reducible first | exact HB.out | apply below_alloc | apply pw_below_drewN | apply below_drew1) | exact HB.out)⟩

/-! ### tally_Most: function 21 -/
def tally_Most.cnt (l : List S46) (t : Int) : Int := ((l.filter fun x => x.f1 == t).length : Int)
def tally_Most.one (l : List S46) (p : Int × Int) (x : S46) : Int × Int :=
  if tally_Most.cnt l x.f1 > p.2 ∨ (tally_Most.cnt l x.f1 = p.2 ∧ x.f1 < p.1) then (x.f1, tally_Most.cnt l x.f1) else p
def tally_Most.all (l : List S46) (m : List S46) : Int × Int := m.foldl (tally_Most.one l) (0, 0)
def tally_Most.f (l0 : List S46) : Option (Int × Int) := if (l0.all fun x => (Lit.int .i64 x.f1).wf) = true then some (tally_Most.all l0 l0) else none
theorem tally_Most.all_take (l0 l : List S46) (i : Nat) (hi : i < l.length) : tally_Most.all l0 (l.take (i + 1)) = tally_Most.one l0 (tally_Most.all l0 (l.take i)) (l[i]'hi) := by
  rw [tally_Most.all, tally_Most.all, ← List.take_append_getElem hi, List.foldl_append]
  rfl
theorem tally_Most.cnt_take (l : List S46) (i : Nat) (hi : i < l.length) (t : Int) : tally_Most.cnt (l.take (i + 1)) t = if (l[i]'hi).f1 = t then tally_Most.cnt (l.take i) t + 1 else tally_Most.cnt (l.take i) t := by
  rw [tally_Most.cnt, tally_Most.cnt, ← List.take_append_getElem hi, List.filter_append]
  by_cases h : (l[i]'hi).f1 = t
  · rw [if_pos h]; simp [h]
  · rw [if_neg h]; simp [h]
theorem tally_Most.cnt_le (l : List S46) (t : Int) : 0 ≤ tally_Most.cnt l t ∧ tally_Most.cnt l t ≤ l.length := by
  have := List.length_filter_le (fun x : S46 => x.f1 == t) l
  unfold tally_Most.cnt; omega
theorem tally_Most.law3 : Maps.Keyed Try.prog 3 := Maps.int_keyed Try.underlying3
theorem tally_Most.zero3 (w : World) : (zeroValue 3).run Try.prog w = .ok (.int .i64 0) w := by kernel_rfl
abbrev tally_Most.i64 (n : Int) : DataW Unit := .lit (.int .i64 n)
/-- The map at b counts the list. -/
def tally_Most.Cn (b : Nat) (l : List S46) (w : World) : Prop :=
  ∃ (n : Nat) (D : DataW Unit), w.ownsMap Try.prog 3 (plainElem Try.prog 3) b n D ∧ n ≤ l.length ∧ ∀ t, D.atKey (.int .i64 t) (tally_Most.i64 0) = tally_Most.i64 (tally_Most.cnt l t)
theorem tally_Most.key (t : Int) (h : (Lit.int .i64 t).wf = true) : keyOf Try.prog 3 (.int .i64 t) = some (.int .i64 t) := Maps.keyOf_int_mk Try.underlying3 h
set_option maxHeartbeats 1000000 in
theorem tally_Most.step1 (l : List S46) (i : Nat) (hi : i < l.length) (hl : l.length ≤ 9223372036854775807) (b gm : Nat) (w : World) (hw : (Lit.int .i64 (l[i]'hi).f1).wf = true)
    (hm : w.heap[gm]? = some (.cells #[.map (some b)] 70 (0, 0))) (hc : tally_Most.Cn b (l.take i) w) :
    Calls Try.prog 34 #[.agg #[.int .i64 (l[i]'hi).f0, .int .i64 (l[i]'hi).f1, .string (l[i]'hi).f2, .string (l[i]'hi).f3], .pointer (some ⟨gm, 0, none⟩)] w fun e w' => e = .returned (.tuple #[]) ∧
      tally_Most.Cn b (l.take (i + 1)) w' ∧ w.grownBy w' (some b) := by
  obtain ⟨n, D, hown, hn, hD⟩ := hc
  have hcm : w.cell? ⟨gm, 0, none⟩ = some (.map (some b)) := (blk_cell hm 0).trans rfl
  have lm := blk_lt hm
  have hkey := tally_Most.key _ hw
  have HO := Aside0.mk (hown.alloc (.cells #[.int .i64 (l[i]'hi).f0, .int .i64 (l[i]'hi).f1, .string (l[i]'hi).f2, .string (l[i]'hi).f3] 46))
  have HD := Aside0.mk hD
  have hlen : (l.take i).length ≤ i := List.length_take_le _ _
  clear hown hD
  go_enter Try.func34, Try.ntmps34
  go_wp2_with (first
      | (at_lookup; refine wpList_lookup_own_int _ rfl _ _ 70 rfl 3 3 .i64 tally_Most.law3 Try.underlying70 Try.underlying3 (tally_Most.zero3 _) b n _ rfl HO.out _ _ rfl hkey ?_; intro c hat hwc; have HAT := Aside0.mk hat; clear hat hwc)
      | (at_mapUpdate; refine wpList_mapUpdate_own _ rfl _ _ _ 70 rfl 3 3 tally_Most.law3 Try.underlying70 _ b n _ rfl HO.out (by unfold maxLen; omega) _ _ _ rfl rfl hkey _ [] (plainElem_int Try.underlying3 (wrap64_wf _)) ?_; intro w1 hown1 hgrow1))
  have HW := Aside0.mk hown1
  have HG := Aside0.mk hgrow1
  clear hown1 hgrow1
  go_end0
  have hcle := tally_Most.cnt_le (l.take i) (l[i]'hi).f1
  have hcc : c = tally_Most.cnt (l.take i) (l[i]'hi).f1 := by
    have := (HAT.out.symm.trans (HD.out (l[i]'hi).f1))
    injection this with this
    injection this
  have hwr : wrap64 (c + 1) = c + 1 := by unfold wrap64; omega
  refine ⟨rfl, ⟨n + 1, _, HW.out, by rw [List.length_take] at hn ⊢; omega, fun t => ?_⟩, ⟨HG.out.os, HG.out.tape, HG.out.output, by have := HG.out.size; simp at this; omega, fun k hk hne => (HG.out.block k (by simp; omega) hne).trans (Below.heap_alloc w _ k hk)⟩⟩
  rw [tally_Most.cnt_take l i hi t]
  by_cases ht : (l[i]'hi).f1 = t
  · subst ht
    rw [if_pos rfl, Maps.atKey_put_same HO.out.isMap (show WideAt.IsKeyLit (.int .i64 (l[i]'hi).f1) from trivial), hwr, hcc]
  · rw [if_neg ht, Maps.atKey_put_other (by intro e; injection e with _ e; exact ht e.symm)]
    exact HD.out t
set_option maxHeartbeats 1000000 in
theorem tally_Most.step2 (l : List S46) (x : S46) (p : Int × Int) (b gm gt gq B : Nat) (w : World) (hw : (Lit.int .i64 x.f1).wf = true) (n1 : gt ≠ gq) (n2 : gm ≠ gt) (n3 : gm ≠ gq) (n4 : b ≠ gt) (n5 : b ≠ gq) (b1 : B ≤ gt) (b2 : B ≤ gq) (b3 : B ≤ w.heap.size)
    (hm : w.heap[gm]? = some (.cells #[.map (some b)] 70 (0, 0))) (ht : w.heap[gt]? = some (.cells #[.int .i64 p.1] 3 (0, 0))) (hq : w.heap[gq]? = some (.cells #[.int .i64 p.2] 3 (0, 0))) (hc : tally_Most.Cn b l w) :
    Calls Try.prog 35 #[.agg #[.int .i64 x.f0, .int .i64 x.f1, .string x.f2, .string x.f3], .pointer (some ⟨gm, 0, none⟩), .pointer (some ⟨gq, 0, none⟩), .pointer (some ⟨gt, 0, none⟩)] w fun e w' => e = .returned (.tuple #[]) ∧
      w'.heap[gm]? = some (.cells #[.map (some b)] 70 (0, 0)) ∧ w'.heap[gt]? = some (.cells #[.int .i64 (tally_Most.one l p x).1] 3 (0, 0)) ∧ w'.heap[gq]? = some (.cells #[.int .i64 (tally_Most.one l p x).2] 3 (0, 0)) ∧ tally_Most.Cn b l w' ∧ Below B w w' := by
  obtain ⟨x0, x1, x2, x3⟩ := x
  obtain ⟨p1, p2⟩ := p
  simp only at hw ht hq ⊢
  obtain ⟨n, D, hown, hn, hD⟩ := hc
  obtain ⟨c, hc⟩ : ∃ c, c = tally_Most.cnt l x1 := ⟨_, rfl⟩
  have lm := blk_lt hm
  have lt := blk_lt ht
  have lq := blk_lt hq
  have hcm : w.cell? ⟨gm, 0, none⟩ = some (.map (some b)) := (blk_cell hm 0).trans rfl
  have hct : w.cell? ⟨gt, 0, none⟩ = some (.int .i64 p1) := (blk_cell ht 0).trans rfl
  have hcq : w.cell? ⟨gq, 0, none⟩ = some (.int .i64 p2) := (blk_cell hq 0).trans rfl
  have hft := blk_frozen ht 0
  have hfq := blk_frozen hq 0
  have hkey := tally_Most.key _ hw
  have HO := Aside0.mk (hown.alloc (.cells #[.int .i64 x0, .int .i64 x1, .string x2, .string x3] 46))
  have HD := Aside0.mk hD
  have HN := Aside0.mk hn
  have H1 := Aside0.mk hown
  have H0 := Aside0.mk (And.intro hm (And.intro ht hq))
  have HC := Aside0.mk hc
  have HL : ∀ {c'}, D.atKey (.int .i64 x1) (tally_Most.i64 0) = tally_Most.i64 c' → c' = c := fun h => by
    have := h.symm.trans (hD x1)
    injection this with this
    injection this with _ this
    rw [this, hc]
  have HLL := Aside0.mk @HL
  clear hown hD hm ht hq HL hn hc
  by_cases c1 : p2 < c
  · have e : tally_Most.one l (p1, p2) ⟨x0, x1, x2, x3⟩ = (x1, c) := by unfold tally_Most.one; rw [if_pos (.inl (by rw [← HC.out]; exact c1)), HC.out]
    rw [e]
    clear e
    go_enter Try.func35, Try.ntmps35
    go_wp2_with (first
      | (at_lookup; refine wpList_lookup_own_int _ rfl _ _ 70 rfl 3 3 .i64 tally_Most.law3 Try.underlying70 Try.underlying3 (tally_Most.zero3 _) b n _ rfl HO.out _ _ rfl hkey ?_; intro c' hat hwc; have hcc := HLL.out hat; subst hcc; clear hat hwc))
    go_end0
    exact ⟨rfl, blk_alloc ((Once.set_other n3 _ _).trans ((Once.set_other n2 _ _).trans H0.out.1)) _, blk_alloc ((Once.set_other n1 _ _).trans ((Once.set_at H0.out.2.1 0 _).trans rfl)) _, blk_alloc ((Once.set_at ((Once.set_other (Ne.symm n1) _ _).trans H0.out.2.2) 0 _).trans rfl) _,
      ⟨n, D, ((H1.out.setCell (a := ⟨gt, 0, none⟩) n4 _).setCell (a := ⟨gq, 0, none⟩) n5 _).alloc _, HN.out, HD.out⟩, (((Below.refl B w).setCell (p := ⟨gt, 0, none⟩) b1 _).setCell (p := ⟨gq, 0, none⟩) b2 _).alloc (by simpa using b3) _⟩
  · by_cases c2 : c = p2
    · have c2b : (c == p2) = true := beq_iff_eq.2 c2
      by_cases c3 : x1 < p1
      · have e : tally_Most.one l (p1, p2) ⟨x0, x1, x2, x3⟩ = (x1, c) := by unfold tally_Most.one; rw [if_pos (.inr ⟨by rw [← HC.out]; exact c2, c3⟩), HC.out]
        rw [e]
        clear e
        subst c2
        go_enter Try.func35, Try.ntmps35
        go_wp2_with (first
          | (at_lookup; refine wpList_lookup_own_int _ rfl _ _ 70 rfl 3 3 .i64 tally_Most.law3 Try.underlying70 Try.underlying3 (tally_Most.zero3 _) b n _ rfl HO.out _ _ rfl hkey ?_; intro c' hat hwc; have hcc := HLL.out hat; subst hcc; clear hat hwc))
        go_end0
        exact ⟨rfl, blk_alloc ((Once.set_other n3 _ _).trans ((Once.set_other n2 _ _).trans H0.out.1)) _, blk_alloc ((Once.set_other n1 _ _).trans ((Once.set_at H0.out.2.1 0 _).trans rfl)) _, blk_alloc ((Once.set_at ((Once.set_other (Ne.symm n1) _ _).trans H0.out.2.2) 0 _).trans rfl) _,
          ⟨n, D, ((H1.out.setCell (a := ⟨gt, 0, none⟩) n4 _).setCell (a := ⟨gq, 0, none⟩) n5 _).alloc _, HN.out, HD.out⟩, (((Below.refl B w).setCell (p := ⟨gt, 0, none⟩) b1 _).setCell (p := ⟨gq, 0, none⟩) b2 _).alloc (by simpa using b3) _⟩
      · have e : tally_Most.one l (p1, p2) ⟨x0, x1, x2, x3⟩ = (p1, p2) := by unfold tally_Most.one; rw [if_neg (by rw [← HC.out]; exact fun h => h.elim (fun h => c1 h) (fun h => c3 h.2))]
        rw [e]
        clear e
        subst c2
        go_enter Try.func35, Try.ntmps35
        go_wp2_with (first
          | (at_lookup; refine wpList_lookup_own_int _ rfl _ _ 70 rfl 3 3 .i64 tally_Most.law3 Try.underlying70 Try.underlying3 (tally_Most.zero3 _) b n _ rfl HO.out _ _ rfl hkey ?_; intro c' hat hwc; have hcc := HLL.out hat; subst hcc; clear hat hwc))
        go_end0
        exact ⟨rfl, blk_alloc H0.out.1 _, blk_alloc H0.out.2.1 _, blk_alloc H0.out.2.2 _, ⟨n, D, H1.out.alloc _, HN.out, HD.out⟩, (Below.refl B w).alloc b3 _⟩
    · have c2b : (c == p2) = false := beq_eq_false_iff_ne.2 c2
      have e : tally_Most.one l (p1, p2) ⟨x0, x1, x2, x3⟩ = (p1, p2) := by unfold tally_Most.one; rw [if_neg (by rw [← HC.out]; exact fun h => h.elim (fun h => c1 h) (fun h => c2 h.1))]
      rw [e]
      clear e
      go_enter Try.func35, Try.ntmps35
      go_wp2_with (first
        | (at_lookup; refine wpList_lookup_own_int _ rfl _ _ 70 rfl 3 3 .i64 tally_Most.law3 Try.underlying70 Try.underlying3 (tally_Most.zero3 _) b n _ rfl HO.out _ _ rfl hkey ?_; intro c' hat hwc; have hcc := HLL.out hat; subst hcc; clear hat hwc))
      go_end0
      exact ⟨rfl, blk_alloc H0.out.1 _, blk_alloc H0.out.2.1 _, blk_alloc H0.out.2.2 _, ⟨n, D, H1.out.alloc _, HN.out, HD.out⟩, (Below.refl B w).alloc b3 _⟩
theorem tally_Most.enter1 : ∀ args w, (callFunc 34 args).run Try.prog w = .ok (.enter 34 args) w := tally_each.enters Try.func34 (by kernel_rfl) rfl
theorem tally_Most.enter2 : ∀ args w, (callFunc 35 args).run Try.prog w = .ok (.enter 35 args) w := tally_each.enters Try.func35 (by kernel_rfl) rfl
/-- Behind i rounds of the first loop. -/
def tally_Most.Inv1 (l : List S46) (w : World) (i : Nat) (wr : World) : Prop :=
  Below w.heap.size w wr ∧ tally_Most.Cn w.heap.size (l.take i) wr ∧ wr.heap[w.heap.size + 1]? = some (.cells #[.map (some w.heap.size)] 70 (0, 0)) ∧ wr.heap[w.heap.size + 1 + 1]? = some (.cells #[.int .i64 0] 3 (0, 0)) ∧ wr.heap[w.heap.size + 1 + 1 + 1]? = some (.cells #[.int .i64 0] 3 (0, 0))
/-- .. of the second. -/
def tally_Most.Inv2 (l : List S46) (w : World) (i : Nat) (wr : World) : Prop :=
  Below w.heap.size w wr ∧ tally_Most.Cn w.heap.size l wr ∧ wr.heap[w.heap.size + 1]? = some (.cells #[.map (some w.heap.size)] 70 (0, 0)) ∧ wr.heap[w.heap.size + 1 + 1]? = some (.cells #[.int .i64 (tally_Most.all l (l.take i)).1] 3 (0, 0)) ∧ wr.heap[w.heap.size + 1 + 1 + 1]? = some (.cells #[.int .i64 (tally_Most.all l (l.take i)).2] 3 (0, 0))
theorem tally_Most.cn_alloc {b : Nat} {l : List S46} {w : World} (h : tally_Most.Cn b l w) (o : Obj) : tally_Most.Cn b l (w.alloc o) := by
  obtain ⟨n, D, h1, h2, h3⟩ := h
  exact ⟨n, D, h1.alloc o, h2, h3⟩
theorem tally_Most.cn_new (w : World) : tally_Most.Cn w.heap.size [] (w.alloc (.map #[] 0)) :=
  ⟨0, .map [], World.ownsMap_made _ _ _ _, Nat.le_refl _, fun t => rfl⟩
set_option maxHeartbeats 1000000 in
theorem tally_Most.calls (A0 : Option Addr) (c0 : Nat) (l0 : List S46) (r1 r2 : Int) (w : World) (hr0 : Kd.C k46 w A0 l0.length l0) (hc0 : l0.length ≤ c0) (h : tally_Most.f l0 = some (r1, r2)) :
    Calls Try.prog 21 #[.slice A0 l0.length c0] w fun e w' => e = .returned (.tuple #[.int .i64 r1, .int .i64 r2]) ∧ Below w.heap.size w w' := by
  have hlen : l0.length ≤ 9223372036854775807 := hr0.2.1
  unfold tally_Most.f at h
  split at h
  case isFalse => cases h
  rename_i hwf
  have HW := Aside0.mk (show ∀ i (hi : i < l0.length), (Lit.int .i64 (l0[i]'hi).f1).wf = true from fun i hi => List.all_eq_true.1 hwf _ (List.getElem_mem hi))
  have HF := Aside0.mk (show tally_Most.all l0 l0 = (r1, r2) from Option.some.inj h)
  have HR := Aside0.mk hr0
  clear hr0 h hwf
  have hmf : ∀ (fn : Fn) (first cap : Array Value) (w : World), (Instr.makeFunc fn first cap).run Try.prog w = .ok (.func fn first cap) w := fun _ _ _ _ => rfl
  have hmm := @run_makeMap Try.prog
  have e1 : (w.alloc (.map #[] 0)).heap.size = w.heap.size + 1 := by simp
  have e2 : ((w.alloc (.map #[] 0)).alloc (.cells #[.map (some w.heap.size)] 70)).heap.size = w.heap.size + 1 + 1 := by simp
  have e3 : (((w.alloc (.map #[] 0)).alloc (.cells #[.map (some w.heap.size)] 70)).alloc (.cells #[.int .i64 0] 3)).heap.size = w.heap.size + 1 + 1 + 1 := by simp
  have b1 := blk_new (w.alloc (.map #[] 0)) (.cells #[.map (some w.heap.size)] 70)
  have b2 := blk_new ((w.alloc (.map #[] 0)).alloc (.cells #[.map (some w.heap.size)] 70)) (.cells #[.int .i64 0] 3)
  have b3 := blk_new (((w.alloc (.map #[] 0)).alloc (.cells #[.map (some w.heap.size)] 70)).alloc (.cells #[.int .i64 0] 3)) (.cells #[.int .i64 0] 3)
  rw [e1] at b1
  rw [e2] at b2
  rw [e3] at b3
  have HI := Aside0.mk (show tally_Most.Inv1 l0 w 0 _ from ⟨below_alloc (below_alloc (below_alloc (below_alloc (Below.refl _ _) _) _) _) _, tally_Most.cn_alloc (tally_Most.cn_alloc (tally_Most.cn_alloc (tally_Most.cn_new w) _) _) _, blk_alloc (blk_alloc b1 _) _, blk_alloc b2 _, b3⟩)
  clear b1 b2 b3 e1 e2 e3
  go_enter Try.func21, Try.ntmps21
  go_wp2_with fail
  refine (tally_each.calls 34 #[.pointer (some ⟨w.heap.size + 1, 0, none⟩)] tally_Most.enter1 A0 c0 l0 w _ HR.out hc0 (tally_Most.Inv1 l0 w) HI.out
    (fun _ _ h => h.1) (fun i W' o h => ⟨below_alloc h.1 o, tally_Most.cn_alloc h.2.1 o, blk_alloc h.2.2.1 o, blk_alloc h.2.2.2.1 o, blk_alloc h.2.2.2.2 o⟩) ?_).mono ?_
  · intro i hi W' h
    refine (tally_Most.step1 l0 i hi hlen w.heap.size (w.heap.size + 1) W' (HW.out i hi) h.2.2.1 h.2.1).mono ?_
    rintro e w2 ⟨rfl, h1, h2⟩
    have hgt : w.heap.size + 1 + 1 + 1 < W'.heap.size := blk_lt h.2.2.2.2
    exact ⟨rfl, pw_below_grown h.1 (some w.heap.size) h.1.size h2 (fun k_ e_ => by injection e_ with e_; omega), h1, (h2.block _ (by omega) (fun e_ => by injection e_ with e_; omega)).trans h.2.2.1, (h2.block _ (by omega) (fun e_ => by injection e_ with e_; omega)).trans h.2.2.2.1, (h2.block _ (by omega) (fun e_ => by injection e_ with e_; omega)).trans h.2.2.2.2⟩
  rintro e w1 ⟨rfl, h1, h2, h3, h4, h5⟩
  rw [List.take_length] at h2
  have HJ := Aside0.mk (show tally_Most.Inv2 l0 w 0 w1 from ⟨h1, h2, h3, h4, h5⟩)
  clear h1 h2 h3 h4 h5 HI
  go_wp2_with fail
  refine (tally_each.calls 35 #[.pointer (some ⟨w.heap.size + 1, 0, none⟩), .pointer (some ⟨w.heap.size + 1 + 1 + 1, 0, none⟩), .pointer (some ⟨w.heap.size + 1 + 1, 0, none⟩)] tally_Most.enter2 A0 c0 l0 w _ HR.out hc0 (tally_Most.Inv2 l0 w) HJ.out
    (fun _ _ h => h.1) (fun i W' o h => ⟨below_alloc h.1 o, tally_Most.cn_alloc h.2.1 o, blk_alloc h.2.2.1 o, blk_alloc h.2.2.2.1 o, blk_alloc h.2.2.2.2 o⟩) ?_).mono ?_
  · intro i hi W' h
    refine (tally_Most.step2 l0 (l0[i]'hi) (tally_Most.all l0 (l0.take i)) w.heap.size (w.heap.size + 1) (w.heap.size + 1 + 1) (w.heap.size + 1 + 1 + 1) w.heap.size W' (HW.out i hi) (by omega) (by omega) (by omega) (by omega) (by omega) (by omega) (by omega) h.1.size h.2.2.1 h.2.2.2.1 h.2.2.2.2 h.2.1).mono ?_
    rintro e w2 ⟨rfl, h1, h2, h3, h4, h5⟩
    refine ⟨rfl, h.1.trans h5, h4, h1, ?_, ?_⟩
    · rw [tally_Most.all_take l0 l0 i hi]; exact h2
    · rw [tally_Most.all_take l0 l0 i hi]; exact h3
  rintro e w2 ⟨rfl, h1, _, _, h2, h3⟩
  rw [List.take_length, HF.out] at h2 h3
  have HB := Aside0.mk h1
  have hc1 : w2.cell? ⟨w.heap.size + 1 + 1, 0, none⟩ = some (.int .i64 r1) := (blk_cell h2 0).trans rfl
  have hc2 : w2.cell? ⟨w.heap.size + 1 + 1 + 1, 0, none⟩ = some (.int .i64 r2) := (blk_cell h3 0).trans rfl
  clear h1 h2 h3 HJ
  go_wp2_with fail
  repeat (go_quiet (fail); try go_wp2)
  go_ret2
  exact ⟨rfl, by repeat (first | exact HB.out | apply below_alloc | apply pw_below_drewN | apply below_drew1)⟩

end Go.Proofs.Ytndbgdcjhhjaiaa.B
