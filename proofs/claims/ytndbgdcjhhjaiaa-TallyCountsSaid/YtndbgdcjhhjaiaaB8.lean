-- Written by wip/hand.py of this session's repository, out of the translation and of contracts typed by hand. Not trusted: Lean checks it.
import Derived.Test.YtndbgdcjhhjaiaaB0
import Derived.Test.YtndbgdcjhhjaiaaB2
import Derived.Test.YtndbgdcjhhjaiaaB3
import Derived.Test.YtndbgdcjhhjaiaaB4
import Derived.Test.YtndbgdcjhhjaiaaB5
import Derived.Test.YtndbgdcjhhjaiaaB6
import Derived.Test.YtndbgdcjhhjaiaaB7
namespace Go.Proofs.Ytndbgdcjhhjaiaa.B
open Go.RowKit Go.Proofs.YtndbgdcjhhjaiaaW.PrintWords Go.Proofs.YtndbgdcjhhjaiaaW.PrintLast Go.Proofs.YtndbgdcjhhjaiaaW.PrintMore
attribute [local go_sem] max2_int min2_int max_two min_two max_three min_three max_four min_four   -- for this text's walks alone
set_option linter.unusedVariables false
set_option linter.unusedSimpArgs false

/-! ### cartouchelaw20_TallyCounts: function 11 -/
/-! cartoucheref20.Kinds. -/
def cartoucheref20_Kinds.At (l : List S46) (w : World) (v4 : Value) (wr : World) : Prop :=
  ∃ i : Nat, i ≤ l.length ∧ v4 = .int .i64 i ∧ Below w.heap.size w wr ∧ wr.heap[w.heap.size]? = some (.cells #[.int .i64 0, .int .i64 0, .int .i64 0, .int .i64 0, .int .i64 0, .int .i64 0] 48 (0, 0)) ∧ wr.heap[w.heap.size + 1]? = some (.cells ((tally_Kinds.all (l.take i)).map (Value.int .i64)).toArray 48 (0, 0))
theorem cartoucheref20_Kinds.set (xs : List Int) (g k : Nat) (v : Int) (w : World) (h : w.heap[g]? = some (.cells (xs.map (Value.int .i64)).toArray 48 (0, 0))) : (w.setCell ⟨g, k, none⟩ (.int .i64 v)).heap[g]? = some (.cells ((xs.set k v).map (Value.int .i64)).toArray 48 (0, 0)) := by
  rw [Once.set_at h, tally_Kinds.set_one]
set_option maxHeartbeats 1000000 in
theorem cartoucheref20_Kinds.calls (A : Option Addr) (c : Nat) (l : List S46) (w : World) (hr : Kd.C k46 w A l.length l) (hc : l.length ≤ c) :
    Calls Try.prog 27 #[.slice A l.length c] w fun e w' => e = .returned (.agg ((tally_Kinds.all l).map (Value.int .i64)).toArray) ∧ Below w.heap.size w w' := by
  have hlen : l.length ≤ 9223372036854775807 := hr.2.1
  obtain ⟨y0, y1, y2, y3, y4, y5, hy⟩ := tally_Kinds.six (tally_Kinds.all_len l)
  have HY := Aside0.mk hy
  rw [hy]
  have HR := Aside0.mk hr
  clear hr hy
  have e1 : (w.alloc (.cells #[.int .i64 0, .int .i64 0, .int .i64 0, .int .i64 0, .int .i64 0, .int .i64 0] 48)).heap.size = w.heap.size + 1 := by simp
  have k0 := blk_alloc (blk_new w (.cells #[.int .i64 0, .int .i64 0, .int .i64 0, .int .i64 0, .int .i64 0, .int .i64 0] 48)) (.cells #[.int .i64 0, .int .i64 0, .int .i64 0, .int .i64 0, .int .i64 0, .int .i64 0] 48)
  have k1 := blk_new (w.alloc (.cells #[.int .i64 0, .int .i64 0, .int .i64 0, .int .i64 0, .int .i64 0, .int .i64 0] 48)) (.cells #[.int .i64 0, .int .i64 0, .int .i64 0, .int .i64 0, .int .i64 0, .int .i64 0] 48)
  rw [e1] at k1
  have HK := Aside0.mk (And.intro k0 k1)
  clear k0 k1 e1
  go_enter Try.func27, Try.ntmps27
  go_wp2_with fail
  go_loopw [4] (fun v4 wr => cartoucheref20_Kinds.At l w v4 wr) (fun v4 _ => l.length - (intOf v4).toNat)
  case atStart => exact ⟨0, by omega, rfl, below_alloc (below_alloc (Below.refl _ _) _) _, HK.out.1, HK.out.2⟩
  case round =>
    obtain ⟨i, hi, rfl, hB, hZ, hG⟩ := hrel
    have HB := Aside0.mk hB
    have HZ := Aside0.mk hZ
    have HG := Aside0.mk hG
    have hltz := blk_lt hG
    clear hB hZ hG HK
    by_cases hlt : i < l.length
    · obtain ⟨ad, hA, hc0, hc1, hc2, hc3⟩ := tally_each.read HR.out hlt HB.out
      cases hA
      have hkl := tally_Kinds.kd_lt (l[i]'hlt).f0
      have h6 := tally_Kinds.all_len (l.take i)
      have HT := Aside0.mk (tally_Kinds.all_take l i hlt)
      obtain ⟨y, hy⟩ : ∃ y, y = (tally_Kinds.all (l.take i)).getD (tally_Kinds.kd (l[i]'hlt).f0) 0 := ⟨_, rfl⟩
      have hcc : wr.cell? ⟨w.heap.size + 1, tally_Kinds.kd (l[i]'hlt).f0, none⟩ = some (.int .i64 y) := by
        rw [blk_cell HG.out, hy]
        simp [List.getD_eq_getElem?_getD, List.getElem?_eq_getElem (show tally_Kinds.kd (l[i]'hlt).f0 < (tally_Kinds.all (l.take i)).length by omega)]
      have hff := blk_frozen HG.out (tally_Kinds.kd (l[i]'hlt).f0)
      have HE := Aside0.mk (show (wr.setCell ⟨w.heap.size + 1, tally_Kinds.kd (l[i]'hlt).f0, none⟩ (.int .i64 (wrap64 (y + 1)))).heap[w.heap.size + 1]? = some (.cells ((tally_Kinds.all (l.take (i + 1))).map (Value.int .i64)).toArray 48 (0, 0)) by
        rw [HT.out, tally_Kinds.one, ← hy]
        exact cartoucheref20_Kinds.set _ _ _ _ _ HG.out)
      obtain ⟨x0, hx0⟩ : ∃ x0, x0 = (l[i]'hlt).f0 := ⟨_, rfl⟩
      rw [← hx0] at hc0 hcc hff HE hkl
      have HX := Aside0.mk hy
      clear hc1 hc2 hc3 hy hx0 HT
      by_cases h1 : x0 < 1
      · have e : tally_Kinds.kd x0 = 0 := by unfold tally_Kinds.kd; rw [if_pos (.inl h1)]
        rw [e] at hcc hff HE
        go_wp2_with fail
        go_roundw
        case rel => exact ⟨i + 1, by omega, by go_num, HB.out.setCell (p := ⟨w.heap.size + 1, 0, none⟩) (by show w.heap.size ≤ w.heap.size + 1; omega) _, (Once.set_other (by omega) _ _).trans HZ.out, HE.out⟩
        case measure => simp [intOf]; omega
      · by_cases h2 : 5 < x0
        · have e : tally_Kinds.kd x0 = 0 := by unfold tally_Kinds.kd; rw [if_pos (.inr h2)]
          rw [e] at hcc hff HE
          go_wp2_with fail
          go_roundw
          case rel => exact ⟨i + 1, by omega, by go_num, HB.out.setCell (p := ⟨w.heap.size + 1, 0, none⟩) (by show w.heap.size ≤ w.heap.size + 1; omega) _, (Once.set_other (by omega) _ _).trans HZ.out, HE.out⟩
          case measure => simp [intOf]; omega
        · have e : tally_Kinds.kd x0 = x0.toNat := by unfold tally_Kinds.kd; rw [if_neg (by omega)]
          rw [e] at hcc hff HE hkl
          go_wp2_with fail
          go_roundw
          case rel => exact ⟨i + 1, by omega, by go_num, HB.out.setCell (p := ⟨w.heap.size + 1, x0.toNat, none⟩) (by show w.heap.size ≤ w.heap.size + 1; omega) _, (Once.set_other (by omega) _ _).trans HZ.out, HE.out⟩
          case measure => simp [intOf]; omega
    · have e : i = l.length := by omega
      subst e
      have hN0 : wr.heap[w.heap.size + 1]? = some (.cells #[.int .i64 y0, .int .i64 y1, .int .i64 y2, .int .i64 y3, .int .i64 y4, .int .i64 y5] 48 (0, 0)) := by
        have := HG.out
        rw [List.take_length, HY.out] at this
        exact this
      have hc0 : wr.cell? ⟨w.heap.size + 1, 0, none⟩ = some (.int .i64 y0) := (blk_cell hN0 0).trans rfl
      have hc1 : wr.cell? ⟨w.heap.size + 1, 1, none⟩ = some (.int .i64 y1) := (blk_cell hN0 1).trans rfl
      have hc2 : wr.cell? ⟨w.heap.size + 1, 2, none⟩ = some (.int .i64 y2) := (blk_cell hN0 2).trans rfl
      have hc3 : wr.cell? ⟨w.heap.size + 1, 3, none⟩ = some (.int .i64 y3) := (blk_cell hN0 3).trans rfl
      have hc4 : wr.cell? ⟨w.heap.size + 1, 4, none⟩ = some (.int .i64 y4) := (blk_cell hN0 4).trans rfl
      have hc5 : wr.cell? ⟨w.heap.size + 1, 5, none⟩ = some (.int .i64 y5) := (blk_cell hN0 5).trans rfl
      have hz0 : wr.cell? ⟨w.heap.size, 0, none⟩ = some (.int .i64 0) := (blk_cell HZ.out 0).trans rfl
      have hf0 := blk_frozen HZ.out 0
      have hz1 : wr.cell? ⟨w.heap.size, 1, none⟩ = some (.int .i64 0) := (blk_cell HZ.out 1).trans rfl
      have hf1 := blk_frozen HZ.out 1
      have hz2 : wr.cell? ⟨w.heap.size, 2, none⟩ = some (.int .i64 0) := (blk_cell HZ.out 2).trans rfl
      have hf2 := blk_frozen HZ.out 2
      have hz3 : wr.cell? ⟨w.heap.size, 3, none⟩ = some (.int .i64 0) := (blk_cell HZ.out 3).trans rfl
      have hf3 := blk_frozen HZ.out 3
      have hz4 : wr.cell? ⟨w.heap.size, 4, none⟩ = some (.int .i64 0) := (blk_cell HZ.out 4).trans rfl
      have hf4 := blk_frozen HZ.out 4
      have hz5 : wr.cell? ⟨w.heap.size, 5, none⟩ = some (.int .i64 0) := (blk_cell HZ.out 5).trans rfl
      have hf5 := blk_frozen HZ.out 5
      clear hN0
      go_wp2_with fail
      have hE := Once.set_at (Once.set_at (Once.set_at (Once.set_at (Once.set_at (Once.set_at HZ.out 0 (.int .i64 y0)) 1 (.int .i64 y1)) 2 (.int .i64 y2)) 3 (.int .i64 y3)) 4 (.int .i64 y4)) 5 (.int .i64 y5)
      have hB := (((((HB.out.setCell (p := ⟨w.heap.size, 0, none⟩) (Nat.le_refl _) (.int .i64 y0)).setCell (p := ⟨w.heap.size, 1, none⟩) (Nat.le_refl _) (.int .i64 y1)).setCell (p := ⟨w.heap.size, 2, none⟩) (Nat.le_refl _) (.int .i64 y2)).setCell (p := ⟨w.heap.size, 3, none⟩) (Nat.le_refl _) (.int .i64 y3)).setCell (p := ⟨w.heap.size, 4, none⟩) (Nat.le_refl _) (.int .i64 y4)).setCell (p := ⟨w.heap.size, 5, none⟩) (Nat.le_refl _) (.int .i64 y5)
      clear hc0 hc1 hc2 hc3 hc4 hc5 hz0 hz1 hz2 hz3 hz4 hz5 hf0 hf1 hf2 hf3 hf4 hf5
      revert hE hB
      generalize ((((((wr.setCell ⟨w.heap.size, 0, none⟩ (.int .i64 y0)).setCell ⟨w.heap.size, 1, none⟩ (.int .i64 y1)).setCell ⟨w.heap.size, 2, none⟩ (.int .i64 y2)).setCell ⟨w.heap.size, 3, none⟩ (.int .i64 y3)).setCell ⟨w.heap.size, 4, none⟩ (.int .i64 y4)).setCell ⟨w.heap.size, 5, none⟩ (.int .i64 y5)) = WE
      intro hE hB
      have d0 : WE.cell? ⟨w.heap.size, 0, none⟩ = some (.int .i64 y0) := (blk_cell hE 0).trans rfl
      have d1 : WE.cell? ⟨w.heap.size, 1, none⟩ = some (.int .i64 y1) := (blk_cell hE 1).trans rfl
      have d2 : WE.cell? ⟨w.heap.size, 2, none⟩ = some (.int .i64 y2) := (blk_cell hE 2).trans rfl
      have d3 : WE.cell? ⟨w.heap.size, 3, none⟩ = some (.int .i64 y3) := (blk_cell hE 3).trans rfl
      have d4 : WE.cell? ⟨w.heap.size, 4, none⟩ = some (.int .i64 y4) := (blk_cell hE 4).trans rfl
      have d5 : WE.cell? ⟨w.heap.size, 5, none⟩ = some (.int .i64 y5) := (blk_cell hE 5).trans rfl
      refine bodyPost_ret (v := .agg #[.int .i64 y0, .int .i64 y1, .int .i64 y2, .int .i64 y3, .int .i64 y4, .int .i64 y5]) (by simp [results, Try.results27, go_sem, d0, d1, d2, d3, d4, d5]) rfl ⟨rfl, hB⟩
/-! the law. -/
theorem cartouchelaw20_TallyCounts.same6 (y0 y1 y2 y3 y4 y5 : Int) (d : Nat) (w : World) : (Op.equalIn (d + 1 + 1) 48 (.agg #[.int .i64 y0, .int .i64 y1, .int .i64 y2, .int .i64 y3, .int .i64 y4, .int .i64 y5]) (.agg #[.int .i64 y0, .int .i64 y1, .int .i64 y2, .int .i64 y3, .int .i64 y4, .int .i64 y5])).run Try.prog w = .ok true w := by
  obtain ⟨i, hi, -⟩ := Option.map_eq_some_iff.1 (show (Try.prog.info? 3).map (fun i => i.size) = some 1 by kernel_rfl)
  have hc : Try.prog.cellsOf 3 = 1 := by kernel_rfl
  have hr : List.range 6 = [0, 1, 2, 3, 4, 5] := rfl
  rw [run_equalIn_array w (d + 1) _ _ Try.underlying48 hi, hc, hr]
  simp [Op.eqItems, part, run_underlying Try.underlying3, Op.equalIn, Try.isAgg3]
def cartouchelaw20_TallyCounts.f (l0 : List S46) (a1 : ByteArray) : Option Bool :=
  if l0.length ≤ 2000 then (if (tally_Keys.f l0 a1).isSome = true ∧ cartoucheref20_Keys.f (3 * l0.length + 10) l0 a1 = tally_Keys.f l0 a1 ∧ (tally_Most.f l0).isSome = true ∧ cartoucheref20_Most.f ((l0.length + 2) * (l0.length + 2) + 10) l0 = tally_Most.f l0 then some true else none) else some true
set_option maxRecDepth 100000 in
set_option maxHeartbeats 1000000 in
theorem cartouchelaw20_TallyCounts.calls (A0 : Option Addr) (c0 : Nat) (l0 : List S46) (a1 : ByteArray) (r : Bool) (w : World) (hr0 : Kd.C k46 w A0 l0.length l0) (hc0 : l0.length ≤ c0) (h : cartouchelaw20_TallyCounts.f l0 a1 = some r) :
    Calls Try.prog 11 #[.slice A0 l0.length c0, .string a1] w fun e w' => e = .returned (.bool r) ∧ Below w.heap.size w w' := by
  have HB0 := Aside0.mk (Below.refl w.heap.size w)
  have HR := Aside0.mk hr0
  unfold cartouchelaw20_TallyCounts.f at h
  by_cases hf : l0.length ≤ 2000
  · rw [if_pos hf] at h
    split at h
    case isFalse => cases h
    rename_i hh
    obtain rfl : true = r := Option.some.inj h
    obtain ⟨h1, h2, h3, h4⟩ := hh
    obtain ⟨⟨a, b⟩, hab⟩ := Option.isSome_iff_exists.1 h1
    obtain ⟨⟨p, q⟩, hpq⟩ := Option.isSome_iff_exists.1 h3
    rw [hab] at h2
    rw [hpq] at h4
    have hw : cartouchelaw20_few.f l0 = some true := by unfold cartouchelaw20_few.f; rw [decide_eq_true (by omega)]
    have HKa := Aside0.mk hab
    have HKb := Aside0.mk h2
    have HMa := Aside0.mk hpq
    have HMb := Aside0.mk h4
    have HW := Aside0.mk hw
    obtain ⟨y0, y1, y2, y3, y4, y5, hy⟩ := tally_Kinds.six (tally_Kinds.all_len l0)
    have HY := Aside0.mk hy
    clear h h1 h2 h3 h4 hab hpq hw hr0 hy
    have hnot : ∀ (x : Bool) (w : World), (Op.unary .not (.bool x)).run Try.prog w = .ok (.bool (!x)) w := fun _ _ => rfl
    go_enter Try.func11, Try.ntmps11
    go_wp2_with fail
    refine (cartouchelaw20_shown.calls true _ rfl).mono ?_
    rintro e w1 ⟨rfl, hb⟩
    have HB1 := Aside0.mk hb
    clear hb
    go_wp2_with fail
    refine (cartouchelaw20_few.calls _ _ _ true w1 (Kd.C_below HR.out HB1.out) hc0 HW.out).mono ?_
    rintro e w2 ⟨rfl, hb⟩
    obtain ⟨n2, rfl⟩ := hb.out
    have HB2 := Aside0.mk (pw_below_drewN HB1.out n2)
    clear hb HB1
    go_wp2_with fail
    refine (tally_Keys.calls _ _ l0 a1 a b _ (Kd.C_below HR.out HB2.out) hc0 HKa.out).mono ?_
    rintro e w3 ⟨rfl, hb⟩
    have HB3 := Aside0.mk (below_step HB2.out hb)
    clear hb HB2
    go_wp2_with fail
    refine (cartoucheref20_Keys.calls _ _ _ l0 a1 a b _ (Kd.C_below HR.out HB3.out) hc0 HKb.out).mono ?_
    rintro e w4 ⟨rfl, hb⟩
    obtain ⟨n4, rfl⟩ := hb.out
    have HB4 := Aside0.mk (pw_below_drewN HB3.out n4)
    clear hb HB3
    go_wp2_with fail
    refine (tally_Most.calls _ _ l0 p q _ (Kd.C_below HR.out HB4.out) hc0 HMa.out).mono ?_
    rintro e w5 ⟨rfl, hb⟩
    have HB5 := Aside0.mk (below_step HB4.out hb)
    clear hb HB4
    go_wp2_with fail
    refine (cartoucheref20_Most.calls _ _ _ l0 p q _ (Kd.C_below HR.out HB5.out) hc0 HMb.out).mono ?_
    rintro e w6 ⟨rfl, hb⟩
    obtain ⟨n6, rfl⟩ := hb.out
    have HB6 := Aside0.mk (pw_below_drewN HB5.out n6)
    clear hb HB5
    go_wp2_with fail
    refine (tally_Kinds.calls _ _ l0 _ (Kd.C_below HR.out HB6.out) hc0).mono ?_
    rintro e w7 ⟨rfl, hb⟩
    have HB7 := Aside0.mk (below_step HB6.out hb)
    clear hb HB6
    rw [HY.out]
    simp only [List.map_cons, List.map_nil]
    go_wp2_with fail
    refine (cartoucheref20_Kinds.calls _ _ l0 _ (Kd.C_below HR.out HB7.out) hc0).mono ?_
    rintro e w8 ⟨rfl, hb⟩
    have HB8 := Aside0.mk (below_step HB7.out hb)
    clear hb HB7
    rw [HY.out]
    simp only [List.map_cons, List.map_nil]
    have heq : ∀ w, (Op.equalIn 10000 48 (.agg #[.int .i64 y0, .int .i64 y1, .int .i64 y2, .int .i64 y3, .int .i64 y4, .int .i64 y5]) (.agg #[.int .i64 y0, .int .i64 y1, .int .i64 y2, .int .i64 y3, .int .i64 y4, .int .i64 y5])).run Try.prog w = .ok true w := fun w => cartouchelaw20_TallyCounts.same6 y0 y1 y2 y3 y4 y5 9998 w
    go_wp2_with fail
    go_ret
    exact ⟨rfl, HB8.out⟩
  · rw [if_neg hf] at h
    obtain rfl : true = r := Option.some.inj h
    have hw : cartouchelaw20_few.f l0 = some false := by unfold cartouchelaw20_few.f; rw [decide_eq_false (by omega)]
    have HW := Aside0.mk hw
    clear h hw hr0
    have hnot : ∀ (x : Bool) (w : World), (Op.unary .not (.bool x)).run Try.prog w = .ok (.bool (!x)) w := fun _ _ => rfl
    go_enter Try.func11, Try.ntmps11
    go_wp2_with fail
    refine (cartouchelaw20_shown.calls true _ rfl).mono ?_
    rintro e w1 ⟨rfl, hb⟩
    have HB1 := Aside0.mk hb
    clear hb
    go_wp2_with fail
    refine (cartouchelaw20_few.calls _ _ _ false w1 (Kd.C_below HR.out HB1.out) hc0 HW.out).mono ?_
    rintro e w2 ⟨rfl, hb⟩
    obtain ⟨n2, rfl⟩ := hb.out
    have HB2 := Aside0.mk (pw_below_drewN HB1.out n2)
    clear hb HB1
    go_wp2_with fail
    go_ret
    exact ⟨rfl, HB2.out⟩

end Go.Proofs.Ytndbgdcjhhjaiaa.B
