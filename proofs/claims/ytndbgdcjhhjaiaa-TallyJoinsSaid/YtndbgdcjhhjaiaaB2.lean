-- Written by wip/hand.py of this session's repository, out of the translation and of contracts typed by hand. Not trusted: Lean checks it.
import Derived.Test.YtndbgdcjhhjaiaaB0
import Derived.Test.YtndbgdcjhhjaiaaB1
namespace Go.Proofs.Ytndbgdcjhhjaiaa.B
open Go.RowKit Go.Proofs.YtndbgdcjhhjaiaaW.PrintWords Go.Proofs.YtndbgdcjhhjaiaaW.PrintLast Go.Proofs.YtndbgdcjhhjaiaaW.PrintMore
attribute [local go_sem] max2_int min2_int max_two min_two max_three min_three max_four min_four   -- for this text's walks alone
set_option linter.unusedVariables false
set_option linter.unusedSimpArgs false

/-! ### cartouchelaw20_shown: function 18 -/
/-! tally.each, the function being whatever keeps what is said of the rounds. -/
theorem tally_each.read {A : Option Addr} {l : List S46} {w wr : World} (h : Kd.C k46 w A l.length l) {i : Nat} (hi : i < l.length) (hb : Below w.heap.size w wr) :
    ∃ ad, A = some ad ∧ wr.cell? (ad.add (i * 4)) = some (.int .i64 (l[i]'hi).f0) ∧ wr.cell? ⟨(ad.add (i * 4)).block, (ad.add (i * 4)).off + 1, none⟩ = some (.int .i64 (l[i]'hi).f1) ∧ wr.cell? ⟨(ad.add (i * 4)).block, (ad.add (i * 4)).off + 2, none⟩ = some (.string (l[i]'hi).f2) ∧ wr.cell? ⟨(ad.add (i * 4)).block, (ad.add (i * 4)).off + 3, none⟩ = some (.string (l[i]'hi).f3) := by
  obtain ⟨ad, e, h0, h1, h2, h3⟩ := at_T46 h (i : Int) (by omega) (by omega)
  have er : rd_T46 l (i : Int) = l[i]'hi := by simp [rd_T46, List.getD_eq_getElem?_getD, List.getElem?_eq_getElem hi]
  rw [show (i : Int).toNat = i by omega, er] at h0 h1 h2 h3
  exact ⟨ad, e, pw_cell_below hb h0, pw_cell_below hb h1, pw_cell_below hb h2, pw_cell_below hb h3⟩
def tally_each.At (l : List S46) (w : World) (Inv : Nat → World → Prop) (v8 : Value) (wr : World) : Prop :=
  ∃ i : Nat, i ≤ l.length ∧ v8 = .int .i64 i ∧ Inv i wr
set_option maxHeartbeats 1000000 in
theorem tally_each.calls (K : Nat) (cap : Array Value) (he : ∀ args w, (callFunc K args).run Try.prog w = .ok (.enter K args) w) (A : Option Addr) (c : Nat) (l : List S46) (w W : World) (hr : Kd.C k46 w A l.length l) (hc : l.length ≤ c) (Inv : Nat → World → Prop) (h0 : Inv 0 W)
    (hbel : ∀ i W', Inv i W' → Below w.heap.size w W') (hal : ∀ i W' o, Inv i W' → Inv i (W'.alloc o))
    (hstep : ∀ i (hi : i < l.length) W', Inv i W' → Calls Try.prog K (#[.agg #[.int .i64 (l[i]'hi).f0, .int .i64 (l[i]'hi).f1, .string (l[i]'hi).f2, .string (l[i]'hi).f3]] ++ cap) W' fun e W'' => e = .returned (.tuple #[]) ∧ Inv (i + 1) W'') :
    Calls Try.prog 33 #[.slice A l.length c, .func (.func K) #[] cap] W fun e W' => e = .returned (.tuple #[]) ∧ Inv l.length W' := by
  have hlen : l.length ≤ 9223372036854775807 := hr.2.1
  have HR := Aside0.mk hr
  have H0 := Aside0.mk h0
  have HS := Aside0.mk hstep
  have HBel := Aside0.mk hbel
  have HAl := Aside0.mk hal
  clear hr h0 hstep hbel hal
  go_enter Try.func33, Try.ntmps33
  go_wp2_with fail
  go_loopw [8] (fun v8 wr => tally_each.At l w Inv v8 wr) (fun v8 _ => l.length - (intOf v8).toNat)
  case atStart => exact ⟨0, by omega, rfl, H0.out⟩
  case round =>
    obtain ⟨i, hi, rfl, hI⟩ := hrel
    have HI := Aside0.mk hI
    clear hI H0
    by_cases hlt : i < l.length
    · obtain ⟨ad, hA, hc0, hc1, hc2, hc3⟩ := tally_each.read HR.out hlt (HBel.out _ _ HI.out)
      cases hA
      go_wp2_with fail
      refine (HS.out i hlt _ (HAl.out i wr _ HI.out)).mono ?_
      rintro e w2 ⟨rfl, h2⟩
      have H2 := Aside0.mk h2
      clear h2
      go_wp2_with fail
      go_roundw
      case rel => exact ⟨i + 1, by omega, by go_num, H2.out⟩
      case measure => simp [intOf]; omega
    · have e : i = l.length := by omega
      subst e
      go_wp2_with fail
      go_end0
      exact ⟨rfl, HI.out⟩
/-! tally.Kinds. -/
def tally_Kinds.kd (k : Int) : Nat := if k < 1 ∨ 5 < k then 0 else k.toNat
theorem tally_Kinds.kd_lt (k : Int) : tally_Kinds.kd k < 6 := by unfold tally_Kinds.kd; split <;> omega
def tally_Kinds.one (xs : List Int) (x : S46) : List Int := xs.set (tally_Kinds.kd x.f0) (wrap64 (xs.getD (tally_Kinds.kd x.f0) 0 + 1))
theorem tally_Kinds.gb_set {w W : World} {g : Nat} (h : w.grownBy W (some g)) (j : Nat) (u : Value) : w.grownBy (W.setCell ⟨g, j, none⟩ u) (some g) :=
  ⟨h.os, h.tape, h.output, by simpa [World.setCell] using h.size, fun i hi hne => (Below.heap_setCell W ⟨g, j, none⟩ u i (fun e => hne (by rw [e]))).trans (h.block i hi hne)⟩
theorem tally_Kinds.gb_alloc {w W : World} {g : Nat} (h : w.grownBy W (some g)) (o : Obj) : w.grownBy (W.alloc o) (some g) :=
  ⟨h.os, h.tape, h.output, by have := h.size; simp; omega, fun i hi hne => (Below.heap_alloc W o i (Nat.lt_of_lt_of_le hi h.size)).trans (h.block i hi hne)⟩
theorem tally_Kinds.gb_refl (w : World) (r : Option Nat) : w.grownBy w r := ⟨rfl, rfl, rfl, Nat.le_refl _, fun _ _ _ => rfl⟩
theorem tally_Kinds.set_one (xs : List Int) (k : Nat) (v : Int) : ((xs.map (Value.int .i64)).toArray).setIfInBounds k (.int .i64 v) = ((xs.set k v).map (Value.int .i64)).toArray := by
  simp [List.map_set]
set_option maxHeartbeats 1000000 in
theorem tally_Kinds.step (x : S46) (g : Nat) (xs : List Int) (w : World) (hx : xs.length = 6) (hg : w.heap[g]? = some (.cells (xs.map (Value.int .i64)).toArray 76 (0, 0))) :
    Calls Try.prog 36 #[.agg #[.int .i64 x.f0, .int .i64 x.f1, .string x.f2, .string x.f3], .pointer (some ⟨g, 0, none⟩)] w fun e w' => e = .returned (.tuple #[]) ∧
      w'.heap[g]? = some (.cells ((tally_Kinds.one xs x).map (Value.int .i64)).toArray 76 (0, 0)) ∧ w.grownBy w' (some g) := by
  have hk := tally_Kinds.kd_lt x.f0
  have hlt := blk_lt hg
  obtain ⟨y, hy⟩ : ∃ y, y = xs.getD (tally_Kinds.kd x.f0) 0 := ⟨_, rfl⟩
  have hc : (w.alloc (.cells #[.int .i64 x.f0, .int .i64 x.f1, .string x.f2, .string x.f3] 46)).cell? ⟨g, tally_Kinds.kd x.f0, none⟩ = some (.int .i64 y) := by
    rw [blk_cell (blk_alloc hg _), hy]
    simp [List.getD_eq_getElem?_getD, List.getElem?_eq_getElem (show tally_Kinds.kd x.f0 < xs.length by omega)]
  have hf := blk_frozen (blk_alloc hg (.cells #[.int .i64 x.f0, .int .i64 x.f1, .string x.f2, .string x.f3] 46)) (tally_Kinds.kd x.f0)
  have HA := Aside0.mk (Atom.add64 _ _ _ hc hf)
  have HE := Aside0.mk (show ∀ o, ((w.setCell ⟨g, tally_Kinds.kd x.f0, none⟩ (.int .i64 (wrap64 (y + 1)))).alloc o).heap[g]? = some (.cells ((tally_Kinds.one xs x).map (Value.int .i64)).toArray 76 (0, 0)) ∧ w.grownBy ((w.setCell ⟨g, tally_Kinds.kd x.f0, none⟩ (.int .i64 (wrap64 (y + 1)))).alloc o) (some g) from fun o => by
    refine ⟨?_, tally_Kinds.gb_alloc (tally_Kinds.gb_set (tally_Kinds.gb_refl w _) _ _) _⟩
    have := blk_alloc (Once.set_at hg (tally_Kinds.kd x.f0) (.int .i64 (wrap64 (y + 1)))) o
    rw [tally_Kinds.set_one, hy] at this
    rw [hy]
    exact this)
  clear hc hf hy
  by_cases h1 : x.f0 < 1
  · have e : tally_Kinds.kd x.f0 = 0 := by unfold tally_Kinds.kd; rw [if_pos (.inl h1)]
    rw [e] at HA HE
    go_enter Try.func36, Try.ntmps36
    go_wp2_with fail
    refine HA.out.mono ?_
    rintro _ _ ⟨rfl, rfl⟩
    go_wp2_with fail
    go_end0
    exact ⟨rfl, HE.out _⟩
  · by_cases h2 : 5 < x.f0
    · have e : tally_Kinds.kd x.f0 = 0 := by unfold tally_Kinds.kd; rw [if_pos (.inr h2)]
      rw [e] at HA HE
      go_enter Try.func36, Try.ntmps36
      go_wp2_with fail
      refine HA.out.mono ?_
      rintro _ _ ⟨rfl, rfl⟩
      go_wp2_with fail
      go_end0
      exact ⟨rfl, HE.out _⟩
    · have e : tally_Kinds.kd x.f0 = x.f0.toNat := by unfold tally_Kinds.kd; rw [if_neg (by omega)]
      rw [e] at HA HE hk
      go_enter Try.func36, Try.ntmps36
      go_wp2_with fail
      refine HA.out.mono ?_
      rintro _ _ ⟨rfl, rfl⟩
      go_wp2_with fail
      go_end0
      exact ⟨rfl, HE.out _⟩
def tally_Kinds.all (l : List S46) : List Int := l.foldl tally_Kinds.one [0, 0, 0, 0, 0, 0]
theorem tally_Kinds.one_len (xs : List Int) (x : S46) : (tally_Kinds.one xs x).length = xs.length := by simp [tally_Kinds.one]
theorem tally_Kinds.all_len (l : List S46) : (tally_Kinds.all l).length = 6 := by
  have : ∀ (l : List S46) (xs : List Int), (l.foldl tally_Kinds.one xs).length = xs.length := by
    intro l
    induction l with
    | nil => intro xs; rfl
    | cons x l ih => intro xs; rw [List.foldl_cons, ih, tally_Kinds.one_len]
  rw [tally_Kinds.all, this]; rfl
theorem tally_Kinds.all_take (l : List S46) (i : Nat) (hi : i < l.length) : tally_Kinds.all (l.take (i + 1)) = tally_Kinds.one (tally_Kinds.all (l.take i)) (l[i]'hi) := by
  rw [tally_Kinds.all, tally_Kinds.all, ← List.take_append_getElem hi, List.foldl_append]
  rfl
theorem tally_Kinds.six {xs : List Int} (h : xs.length = 6) : ∃ a b c d e f, xs = [a, b, c, d, e, f] := by
  match xs, h with
  | [a, b, c, d, e, f], _ => exact ⟨a, b, c, d, e, f, rfl⟩
/-- Behind i rounds: the counters at g. -/
def tally_Kinds.Inv (l : List S46) (g : Nat) (w : World) (i : Nat) (wr : World) : Prop :=
  Below w.heap.size w wr ∧ g = w.heap.size + 1 ∧ wr.heap[w.heap.size]? = some (.cells #[.int .i64 0, .int .i64 0, .int .i64 0, .int .i64 0, .int .i64 0, .int .i64 0] 48 (0, 0)) ∧ wr.heap[g]? = some (.cells ((tally_Kinds.all (l.take i)).map (Value.int .i64)).toArray 76 (0, 0))
def tally_Kinds.At (g : Nat) (ys : List Int) (w : World) (v9 : Value) (wr : World) : Prop :=
  ∃ i : Nat, i ≤ 6 ∧ v9 = .int .i64 i ∧ Below w.heap.size w wr ∧ wr.heap[w.heap.size]? = some (.cells #[.int .i64 0, .int .i64 0, .int .i64 0, .int .i64 0, .int .i64 0, .int .i64 0] 48 (0, 0)) ∧ wr.heap[w.heap.size + 1]? = some (.cells (ys.map (Value.int .i64)).toArray 76 (0, 0)) ∧ wr.heap[g]? = some (.cells ((ys.take i ++ List.replicate (6 - i) 0).map (Value.int .i64)).toArray 48 (0, 0))
theorem tally_each.enters {P : Program} {f : FuncId} {fn : Func} {c : Code} (hf : P.funcs[f]? = some fn) (hname : (fn.name == "runtime.NumGoroutine") = false) (hb : fn.body = some c) : ∀ args w, (callFunc f args).run P w = .ok (.enter f args) w := by
  intro args w
  have h1 : fn.name ≠ "runtime.NumGoroutine" := by simpa using hname
  simp [callFunc, hf, h1, hb, mark]
theorem tally_Kinds.enter : ∀ args w, (callFunc 36 args).run Try.prog w = .ok (.enter 36 args) w := tally_each.enters Try.func36 (by kernel_rfl) rfl
set_option maxHeartbeats 1000000 in
theorem tally_Kinds.calls (A : Option Addr) (c : Nat) (l : List S46) (w : World) (hr : Kd.C k46 w A l.length l) (hc : l.length ≤ c) :
    Calls Try.prog 23 #[.slice A l.length c] w fun e w' => e = .returned (.agg ((tally_Kinds.all l).map (Value.int .i64)).toArray) ∧ Below w.heap.size w w' := by
  obtain ⟨y0, y1, y2, y3, y4, y5, hy⟩ := tally_Kinds.six (tally_Kinds.all_len l)
  have HY := Aside0.mk hy
  rw [hy]
  have HR := Aside0.mk hr
  clear hr hy
  have hmf : ∀ (fn : Fn) (first cap : Array Value) (w : World), (Instr.makeFunc fn first cap).run Try.prog w = .ok (.func fn first cap) w := fun _ _ _ _ => rfl
  have e1 : (w.alloc (.cells #[.int .i64 0, .int .i64 0, .int .i64 0, .int .i64 0, .int .i64 0, .int .i64 0] 48)).heap.size = w.heap.size + 1 := by simp
  have k0 := blk_alloc (blk_new w (.cells #[.int .i64 0, .int .i64 0, .int .i64 0, .int .i64 0, .int .i64 0, .int .i64 0] 48)) (.cells #[.int .i64 0, .int .i64 0, .int .i64 0, .int .i64 0, .int .i64 0, .int .i64 0] 76)
  have k1 := blk_new (w.alloc (.cells #[.int .i64 0, .int .i64 0, .int .i64 0, .int .i64 0, .int .i64 0, .int .i64 0] 48)) (.cells #[.int .i64 0, .int .i64 0, .int .i64 0, .int .i64 0, .int .i64 0, .int .i64 0] 76)
  rw [e1] at k1
  have HK := Aside0.mk (And.intro k0 k1)
  clear k0 k1 e1
  go_enter Try.func23, Try.ntmps23
  go_wp2_with fail
  refine (tally_each.calls 36 #[.pointer (some ⟨w.heap.size + 1, 0, none⟩)] tally_Kinds.enter A c l w _ HR.out hc (tally_Kinds.Inv l (w.heap.size + 1) w) ⟨below_alloc (below_alloc (Below.refl _ _) _) _, rfl, HK.out.1, HK.out.2⟩
    (fun _ _ h => h.1) (fun i W' o h => ⟨below_alloc h.1 o, h.2.1, blk_alloc h.2.2.1 o, blk_alloc h.2.2.2 o⟩) ?_).mono ?_
  · intro i hi W' h
    have hlt := h.2.1
    refine (tally_Kinds.step (l[i]'hi) (w.heap.size + 1) (tally_Kinds.all (l.take i)) W' (tally_Kinds.all_len _) h.2.2.2).mono ?_
    rintro e w2 ⟨rfl, h1, h2⟩
    refine ⟨rfl, pw_below_grown h.1 (some (w.heap.size + 1)) h.1.size h2 (fun k_ e_ => by injection e_ with e_; omega), rfl, ?_, ?_⟩
    · exact (h2.block w.heap.size (blk_lt h.2.2.1) (fun e_ => by injection e_ with e_; omega)).trans h.2.2.1
    · rw [tally_Kinds.all_take l i hi]
      exact h1
  rintro e w1 ⟨rfl, h1, h2, h4, h3⟩
  rw [List.take_length, HY.out] at h3
  have HB := Aside0.mk h1
  have HG := Aside0.mk h3
  have HZ := Aside0.mk h4
  have hlt1 := blk_lt h3
  clear h1 h3 h2 h4 HK
  go_wp2_with fail
  have HB1 := Aside0.mk (below_alloc HB.out (.cells #[.int .i64 0, .int .i64 0, .int .i64 0, .int .i64 0, .int .i64 0, .int .i64 0] 48))
  have HG1 := Aside0.mk (blk_alloc HG.out (.cells #[.int .i64 0, .int .i64 0, .int .i64 0, .int .i64 0, .int .i64 0, .int .i64 0] 48))
  have HZ1 := Aside0.mk (blk_alloc HZ.out (.cells #[.int .i64 0, .int .i64 0, .int .i64 0, .int .i64 0, .int .i64 0, .int .i64 0] 48))
  have HN1 := Aside0.mk (blk_new w1 (.cells #[.int .i64 0, .int .i64 0, .int .i64 0, .int .i64 0, .int .i64 0, .int .i64 0] 48))
  obtain ⟨g, hg⟩ : ∃ g, g = w1.heap.size := ⟨_, rfl⟩
  rw [← hg] at HN1 hlt1
  rw [← hg]
  clear hg HB HG HZ
  go_loopw [9] (fun v9 wr => tally_Kinds.At g [y0, y1, y2, y3, y4, y5] w v9 wr) (fun v9 _ => 6 - (intOf v9).toNat)
  case atStart => exact ⟨0, by omega, rfl, HB1.out, HZ1.out, HG1.out, HN1.out⟩
  case round =>
    obtain ⟨i, hi, rfl, hB, hZ, hG, hN⟩ := hrel
    have HB := Aside0.mk hB
    have HZ := Aside0.mk hZ
    have HG := Aside0.mk hG
    have HN := Aside0.mk hN
    have hltg := blk_lt hN
    clear hB hZ hG hN HB1 HZ1 HG1 HN1
    have hcase : i = 0 ∨ i = 1 ∨ i = 2 ∨ i = 3 ∨ i = 4 ∨ i = 5 ∨ i = 6 := by omega
    rcases hcase with rfl | rfl | rfl | rfl | rfl | rfl | rfl
    · have hc1 : wr.cell? ⟨w.heap.size + 1, 0, none⟩ = some (.int .i64 y0) := (blk_cell HG.out 0).trans rfl
      have HL := Aside0.mk (Atom.load64 _ _ _ hc1)
      have hc2 : wr.cell? ⟨g, 0, none⟩ = some (.int .i64 0) := (blk_cell HN.out 0).trans rfl
      have hf2 := blk_frozen HN.out 0
      clear hc1
      go_wp2_with fail
      refine HL.out.mono ?_
      rintro e w2 ⟨rfl, rfl⟩
      go_wp2_with fail
      go_roundw
      case rel => exact ⟨1, by omega, by go_num, HB.out.setCell (p := ⟨g, 0, none⟩) (by show w.heap.size ≤ g; omega) _, (Once.set_other (by omega) _ _).trans HZ.out, (Once.set_other (by omega) _ _).trans HG.out, (Once.set_at HN.out 0 _).trans rfl⟩
      case measure => simp [intOf]
    · have hc1 : wr.cell? ⟨w.heap.size + 1, 1, none⟩ = some (.int .i64 y1) := (blk_cell HG.out 1).trans rfl
      have HL := Aside0.mk (Atom.load64 _ _ _ hc1)
      have hc2 : wr.cell? ⟨g, 1, none⟩ = some (.int .i64 0) := (blk_cell HN.out 1).trans rfl
      have hf2 := blk_frozen HN.out 1
      clear hc1
      go_wp2_with fail
      refine HL.out.mono ?_
      rintro e w2 ⟨rfl, rfl⟩
      go_wp2_with fail
      go_roundw
      case rel => exact ⟨2, by omega, by go_num, HB.out.setCell (p := ⟨g, 1, none⟩) (by show w.heap.size ≤ g; omega) _, (Once.set_other (by omega) _ _).trans HZ.out, (Once.set_other (by omega) _ _).trans HG.out, (Once.set_at HN.out 1 _).trans rfl⟩
      case measure => simp [intOf]
    · have hc1 : wr.cell? ⟨w.heap.size + 1, 2, none⟩ = some (.int .i64 y2) := (blk_cell HG.out 2).trans rfl
      have HL := Aside0.mk (Atom.load64 _ _ _ hc1)
      have hc2 : wr.cell? ⟨g, 2, none⟩ = some (.int .i64 0) := (blk_cell HN.out 2).trans rfl
      have hf2 := blk_frozen HN.out 2
      clear hc1
      go_wp2_with fail
      refine HL.out.mono ?_
      rintro e w2 ⟨rfl, rfl⟩
      go_wp2_with fail
      go_roundw
      case rel => exact ⟨3, by omega, by go_num, HB.out.setCell (p := ⟨g, 2, none⟩) (by show w.heap.size ≤ g; omega) _, (Once.set_other (by omega) _ _).trans HZ.out, (Once.set_other (by omega) _ _).trans HG.out, (Once.set_at HN.out 2 _).trans rfl⟩
      case measure => simp [intOf]
    · have hc1 : wr.cell? ⟨w.heap.size + 1, 3, none⟩ = some (.int .i64 y3) := (blk_cell HG.out 3).trans rfl
      have HL := Aside0.mk (Atom.load64 _ _ _ hc1)
      have hc2 : wr.cell? ⟨g, 3, none⟩ = some (.int .i64 0) := (blk_cell HN.out 3).trans rfl
      have hf2 := blk_frozen HN.out 3
      clear hc1
      go_wp2_with fail
      refine HL.out.mono ?_
      rintro e w2 ⟨rfl, rfl⟩
      go_wp2_with fail
      go_roundw
      case rel => exact ⟨4, by omega, by go_num, HB.out.setCell (p := ⟨g, 3, none⟩) (by show w.heap.size ≤ g; omega) _, (Once.set_other (by omega) _ _).trans HZ.out, (Once.set_other (by omega) _ _).trans HG.out, (Once.set_at HN.out 3 _).trans rfl⟩
      case measure => simp [intOf]
    · have hc1 : wr.cell? ⟨w.heap.size + 1, 4, none⟩ = some (.int .i64 y4) := (blk_cell HG.out 4).trans rfl
      have HL := Aside0.mk (Atom.load64 _ _ _ hc1)
      have hc2 : wr.cell? ⟨g, 4, none⟩ = some (.int .i64 0) := (blk_cell HN.out 4).trans rfl
      have hf2 := blk_frozen HN.out 4
      clear hc1
      go_wp2_with fail
      refine HL.out.mono ?_
      rintro e w2 ⟨rfl, rfl⟩
      go_wp2_with fail
      go_roundw
      case rel => exact ⟨5, by omega, by go_num, HB.out.setCell (p := ⟨g, 4, none⟩) (by show w.heap.size ≤ g; omega) _, (Once.set_other (by omega) _ _).trans HZ.out, (Once.set_other (by omega) _ _).trans HG.out, (Once.set_at HN.out 4 _).trans rfl⟩
      case measure => simp [intOf]
    · have hc1 : wr.cell? ⟨w.heap.size + 1, 5, none⟩ = some (.int .i64 y5) := (blk_cell HG.out 5).trans rfl
      have HL := Aside0.mk (Atom.load64 _ _ _ hc1)
      have hc2 : wr.cell? ⟨g, 5, none⟩ = some (.int .i64 0) := (blk_cell HN.out 5).trans rfl
      have hf2 := blk_frozen HN.out 5
      clear hc1
      go_wp2_with fail
      refine HL.out.mono ?_
      rintro e w2 ⟨rfl, rfl⟩
      go_wp2_with fail
      go_roundw
      case rel => exact ⟨6, by omega, by go_num, HB.out.setCell (p := ⟨g, 5, none⟩) (by show w.heap.size ≤ g; omega) _, (Once.set_other (by omega) _ _).trans HZ.out, (Once.set_other (by omega) _ _).trans HG.out, (Once.set_at HN.out 5 _).trans rfl⟩
      case measure => simp [intOf]
    · have hN0 : wr.heap[g]? = some (.cells #[.int .i64 y0, .int .i64 y1, .int .i64 y2, .int .i64 y3, .int .i64 y4, .int .i64 y5] 48 (0, 0)) := HN.out.trans rfl
      have hc0 : wr.cell? ⟨g, 0, none⟩ = some (.int .i64 y0) := (blk_cell hN0 0).trans rfl
      have hc1 : wr.cell? ⟨g, 1, none⟩ = some (.int .i64 y1) := (blk_cell hN0 1).trans rfl
      have hc2 : wr.cell? ⟨g, 2, none⟩ = some (.int .i64 y2) := (blk_cell hN0 2).trans rfl
      have hc3 : wr.cell? ⟨g, 3, none⟩ = some (.int .i64 y3) := (blk_cell hN0 3).trans rfl
      have hc4 : wr.cell? ⟨g, 4, none⟩ = some (.int .i64 y4) := (blk_cell hN0 4).trans rfl
      have hc5 : wr.cell? ⟨g, 5, none⟩ = some (.int .i64 y5) := (blk_cell hN0 5).trans rfl
      have hz0 : wr.cell? ⟨w.heap.size, 0, none⟩ = some (.int .i64 0) := (blk_cell HZ.out 0).trans rfl
      have hf0 := blk_frozen HZ.out 0
      have hz1 : wr.cell? ⟨w.heap.size, 1, none⟩ = some (.int .i64 0) := (blk_cell HZ.out 1).trans rfl
      have hf1 := blk_frozen HZ.out 1
      have hz2 : wr.cell? ⟨w.heap.size, 2, none⟩ = some (.int .i64 0) := (blk_cell HZ.out 2).trans rfl
      have hf2 := blk_frozen HZ.out 2
      have hz3 : wr.cell? ⟨w.heap.size, 3, none⟩ = some (.int .i64 0) := (blk_cell HZ.out 3).trans rfl
      have hf3 := blk_frozen HZ.out 3
      have hz4 : wr.cell? ⟨w.heap.size, 4, none⟩ = some (.int .i64 0) := (blk_cell HZ.out 4).trans rfl
      have hf4 := blk_frozen HZ.out 4
      have hz5 : wr.cell? ⟨w.heap.size, 5, none⟩ = some (.int .i64 0) := (blk_cell HZ.out 5).trans rfl
      have hf5 := blk_frozen HZ.out 5
      clear hN0
      go_wp2_with fail
      have hE := Once.set_at (Once.set_at (Once.set_at (Once.set_at (Once.set_at (Once.set_at HZ.out 0 (.int .i64 y0)) 1 (.int .i64 y1)) 2 (.int .i64 y2)) 3 (.int .i64 y3)) 4 (.int .i64 y4)) 5 (.int .i64 y5)
      have hB := (((((HB.out.setCell (p := ⟨w.heap.size, 0, none⟩) (Nat.le_refl _) (.int .i64 y0)).setCell (p := ⟨w.heap.size, 1, none⟩) (Nat.le_refl _) (.int .i64 y1)).setCell (p := ⟨w.heap.size, 2, none⟩) (Nat.le_refl _) (.int .i64 y2)).setCell (p := ⟨w.heap.size, 3, none⟩) (Nat.le_refl _) (.int .i64 y3)).setCell (p := ⟨w.heap.size, 4, none⟩) (Nat.le_refl _) (.int .i64 y4)).setCell (p := ⟨w.heap.size, 5, none⟩) (Nat.le_refl _) (.int .i64 y5)
      clear hc0 hc1 hc2 hc3 hc4 hc5 hz0 hz1 hz2 hz3 hz4 hz5 hf0 hf1 hf2 hf3 hf4 hf5
      revert hE hB
      generalize ((((((wr.setCell ⟨w.heap.size, 0, none⟩ (.int .i64 y0)).setCell ⟨w.heap.size, 1, none⟩ (.int .i64 y1)).setCell ⟨w.heap.size, 2, none⟩ (.int .i64 y2)).setCell ⟨w.heap.size, 3, none⟩ (.int .i64 y3)).setCell ⟨w.heap.size, 4, none⟩ (.int .i64 y4)).setCell ⟨w.heap.size, 5, none⟩ (.int .i64 y5)) = WE
      intro hE hB
      have d0 : WE.cell? ⟨w.heap.size, 0, none⟩ = some (.int .i64 y0) := (blk_cell hE 0).trans rfl
      have d1 : WE.cell? ⟨w.heap.size, 1, none⟩ = some (.int .i64 y1) := (blk_cell hE 1).trans rfl
      have d2 : WE.cell? ⟨w.heap.size, 2, none⟩ = some (.int .i64 y2) := (blk_cell hE 2).trans rfl
      have d3 : WE.cell? ⟨w.heap.size, 3, none⟩ = some (.int .i64 y3) := (blk_cell hE 3).trans rfl
      have d4 : WE.cell? ⟨w.heap.size, 4, none⟩ = some (.int .i64 y4) := (blk_cell hE 4).trans rfl
      have d5 : WE.cell? ⟨w.heap.size, 5, none⟩ = some (.int .i64 y5) := (blk_cell hE 5).trans rfl
      refine bodyPost_ret (v := .agg #[.int .i64 y0, .int .i64 y1, .int .i64 y2, .int .i64 y3, .int .i64 y4, .int .i64 y5]) (by simp [results, Try.results23, go_sem, d0, d1, d2, d3, d4, d5]) rfl ⟨rfl, hB⟩
/-! the law's example. -/
def cartouchelaw20_shown.f : Option Bool := some true
theorem cartouchelaw20_shown.rowE (w : World) (x : S46) : Kd.C k46 (w.alloc (.cells #[.int .i64 x.f0, .int .i64 x.f1, .string x.f2, .string x.f3] 46)) (some ⟨w.heap.size, 0, none⟩) 1 [x] := by
  refine ⟨rfl, by omega, fun _ => ⟨_, rfl, fun j p hj => ?_⟩⟩
  have hj0 : j = 0 := by
    rcases j with _ | j
    · rfl
    · simp at hj
  subst hj0
  have hp : x = p := by simpa using hj
  subst hp
  refine ⟨_, rfl, k46_mk _ x, fun i u hu => ?_⟩
  have e0 : (⟨w.heap.size, 0, none⟩ : Addr).add (0 * k46.sz + i) = ⟨w.heap.size, i, none⟩ := by unfold Addr.add; split <;> simp_all
  rw [e0, blk_cell (blk_new w _)]
  simpa using hu
theorem cartouchelaw20_shown.rowS (w : World) : Kd.C Kd.string (w.alloc (.cells #[.string ⟨#[]⟩, .string ⟨#[97]⟩] 9)) (some ⟨w.heap.size, 0, none⟩) 2 [⟨#[]⟩, ⟨#[97]⟩] := by
  refine ⟨rfl, by omega, fun _ => ⟨_, rfl, fun j p hj => ?_⟩⟩
  refine ⟨[.string p], rfl, rfl, fun i u hu => ?_⟩
  have hi0 : i = 0 := by
    rcases i with _ | i
    · rfl
    · simp at hu
  subst hi0
  have e0 : (⟨w.heap.size, 0, none⟩ : Addr).add (j * Kd.string.sz + 0) = ⟨w.heap.size, j, none⟩ := by
    have e1 : Kd.string.sz = 1 := rfl
    rw [e1]; unfold Addr.add; split <;> simp_all
  rw [e0, blk_cell (blk_new w _)]
  rcases j with _ | _ | j
  · simp at hj hu; subst hj; subst hu; rfl
  · simp at hj hu; subst hj; subst hu; rfl
  · simp at hj
set_option maxHeartbeats 1000000 in
theorem cartouchelaw20_shown.calls (r : Bool) (w : World) (h : cartouchelaw20_shown.f = some r) :
    Calls Try.prog 18 #[] w fun e w' => e = .returned (.bool r) ∧ Below w.heap.size w w' := by
  obtain rfl : true = r := Option.some.inj h
  clear h
  have HB := Aside0.mk (Below.refl w.heap.size w)
  go_enter Try.func18, Try.ntmps18
  go_wp2_with fail
  refine (tally_Kinds.calls _ 1 [⟨1, 1, ⟨#[]⟩, ⟨#[]⟩⟩] _ (cartouchelaw20_shown.rowE w ⟨1, 1, ⟨#[]⟩, ⟨#[]⟩⟩) (Nat.le_refl _)).mono ?_
  rintro e w1 ⟨rfl, hb⟩
  have hk : tally_Kinds.all [⟨1, 1, ⟨#[]⟩, ⟨#[]⟩⟩] = [0, 1, 0, 0, 0, 0] := by simp [tally_Kinds.all, tally_Kinds.one, tally_Kinds.kd, wrap64]
  rw [hk]
  simp only [List.map_cons, List.map_nil]
  have HB1 := Aside0.mk (below_step (below_alloc HB.out _) hb)
  clear hb hk HB
  go_wp2_with fail
  have hS := cartouchelaw20_shown.rowS (w1.alloc (.cells #[.int .i64 0, .int .i64 1, .int .i64 0, .int .i64 0, .int .i64 0, .int .i64 0] 48))
  have e1 : (w1.alloc (.cells #[.int .i64 0, .int .i64 1, .int .i64 0, .int .i64 0, .int .i64 0, .int .i64 0] 48)).heap.size = w1.heap.size + 1 := by simp
  rw [e1] at hS
  have hF : tally_First.f [⟨#[]⟩, ⟨#[97]⟩] = some (⟨#[97]⟩, true) := by
    have h1 : (⟨#[97]⟩ : ByteArray).toList ≠ [] := by rw [ByteArray.toList_eq]; simp
    simp only [tally_First.f, tally_First.go, tally_First.nil, if_true, if_neg h1]
  refine (tally_First.calls _ 2 [⟨#[]⟩, ⟨#[97]⟩] _ _ _ hS (Nat.le_refl _) hF).mono ?_
  rintro e w2 ⟨rfl, hb⟩
  have k1 := blk_below (blk_alloc (blk_new w1 (.cells #[.int .i64 0, .int .i64 1, .int .i64 0, .int .i64 0, .int .i64 0, .int .i64 0] 48)) (.cells #[.string ⟨#[]⟩, .string ⟨#[97]⟩] 9)) hb
  have HB2 := Aside0.mk (below_step (below_alloc (below_alloc HB1.out _) _) hb)
  have hc1 : w2.cell? ⟨w1.heap.size, 1, none⟩ = some (.int .i64 1) := (blk_cell k1 1).trans rfl
  have hl : (⟨#[97]⟩ : ByteArray).toList = [97] := by rw [ByteArray.toList_eq]
  clear k1 hb HB1 hS e1 hF
  go_wp2_with fail
  go_ret
  exact ⟨rfl, HB2.out⟩

/-! ### cartoucheref20_First: function 20 -/
def cartoucheref20_First.l0 : Nat → List ByteArray → Int → Option (ByteArray × Bool)
  | 0, _, _ => none
  | k + 1, x0, x4 => if x4 < (x0.length : Int) then (if 0 ≤ x4 then (if (rdOf ByteArray.empty x0 x4).toList = ([] : List UInt8) then (cartoucheref20_First.l0 k x0 (wrap64 (x4 + 1))) else (some (rdOf ByteArray.empty x0 x4, true))) else (none)) else (some ((⟨#[]⟩ : ByteArray), false))
def cartoucheref20_First.f (k : Nat) (l0 : List ByteArray) : Option (ByteArray × Bool) := cartoucheref20_First.l0 k l0 0
theorem cartoucheref20_First.mono_l : ∀ k, (∀ y0 y1, LeO (cartoucheref20_First.l0 k y0 y1) (cartoucheref20_First.l0 (k + 1) y0 y1))
  | 0 => fun _ _ r h => by simp [cartoucheref20_First.l0] at h
  | k + 1 => by
    have ih0 := cartoucheref20_First.mono_l k
    · intro y0 y1
      unfold cartoucheref20_First.l0
      repeat' first
      | (with_reducible exact ih0 _ _)
      | (with_reducible exact LeO.refl _)
      | (with_reducible exact LeO.none _)
      | (with_reducible refine LeO.ite ?_ ?_)
      | (with_reducible refine LeO.bind ?_ (fun _ => ?_))
      | exact ih0 _ _
      | exact LeO.none _
      | refine LeO.ite ?_ ?_
      | refine LeO.bind ?_ (fun _ => ?_)
theorem cartoucheref20_First.mono : ∀ a0 k, LeO (cartoucheref20_First.f k a0) (cartoucheref20_First.f (k + 1) a0) := by
  intro a0 k
  have ih0 := cartoucheref20_First.mono_l k
  unfold cartoucheref20_First.f
  repeat' first
      | (with_reducible exact ih0 _ _)
      | (with_reducible exact LeO.refl _)
      | (with_reducible exact LeO.none _)
      | (with_reducible refine LeO.ite ?_ ?_)
      | (with_reducible refine LeO.bind ?_ (fun _ => ?_))
      | exact ih0 _ _
      | exact LeO.none _
      | refine LeO.ite ?_ ?_
      | refine LeO.bind ?_ (fun _ => ?_)
set_option maxHeartbeats 8000000 in
set_option maxRecDepth 100000 in
theorem cartoucheref20_First.calls (k : Nat) (A0 : Option Addr) (c0 : Nat) (l0 : List ByteArray) (r1 : ByteArray) (r2 : Bool) (w : World) (hr0 : Kd.C Kd.string w A0 l0.length l0) (hc0 : l0.length ≤ c0) (h : cartoucheref20_First.f k l0 = some (r1, r2)) :
    Calls Try.prog 20 #[.slice A0 l0.length c0] w fun e w' => e = .returned (.tuple #[.string r1, .bool r2]) ∧ Drawn0 w w' := by
  have HR0 := Aside0.mk hr0
  have HC0 := Aside0.mk hc0
  clear hr0 hc0
  have H : (cartoucheref20_First.l0 k l0 0) = some (r1, r2) := h
  clear h
  have H' := Aside0.mk H
  clear H
  go_enter Try.func20, Try.ntmps20
  go_wp2
  go_loopg [4] k (fun kq v4 w' => ∃ (x4_1 : Int), v4 = .int .i64 x4_1 ∧ Aside0 (cartoucheref20_First.l0 kq l0 x4_1 = some (r1, r2)) ∧ Aside0 (kq ≤ k) ∧ Drawn0 w w')
  case atStart => exact ⟨(0), (by first | rfl | (simp; done) | (simp [*]; done)), H', ⟨Nat.le_refl _⟩, by repeat (first | exact Drawn0.refl _ | apply Drawn0.step)⟩
  case round =>
    clear H'
    obtain ⟨x4_1, rfl, HA, HK1, ⟨m1, rfl⟩⟩ := hrel
    cases gk with
    | zero => exact absurd HA.out (by simp [cartoucheref20_First.l0])
    | succ k1 =>
      have H := HA.out
      clear HA
      simp only [cartoucheref20_First.l0] at H
      by_cases c2 : x4_1 < (l0.length : Int)
      · rw [if_pos c2] at H
        have c2b0 : decide (x4_1 < (l0.length : Int)) = true := decide_eq_true c2
        clear c2
        by_cases c3 : 0 ≤ x4_1
        · rw [if_pos c3] at H
          have c3b0 : decide (0 ≤ x4_1) = true := decide_eq_true c3
          clear c3
          by_cases c4 : (rdOf ByteArray.empty l0 x4_1).toList = ([] : List UInt8)
          · rw [if_pos c4] at H
            have c4b0 : ((rdOf ByteArray.empty l0 x4_1).toList == ([] : List UInt8)) = true := beq_iff_eq.mpr c4
            have c4b1 : ((rdOf ByteArray.empty l0 x4_1).toList != ([] : List UInt8)) = false := bne_eq_false_iff_eq.mpr c4
            clear c4
            have H' := Aside0.mk H
            clear H
            have p101 : 0 ≤ (x4_1 : Int) := of_decide_eq_true (by first | (with_reducible assumption) | assumption)
            have q101 : x4_1 < (l0.length : Int) := of_decide_eq_true (by first | (with_reducible assumption) | assumption)
            obtain ⟨ad101, e101, hx101_0⟩ := Kd.at_string HR0.out x4_1 p101 q101
            cases e101
            replace p101 := eq_true p101
            replace q101 := eq_true q101
            go_wp2
            go_roundg k1
            case measure => have := HK1.out; omega
            case rel => exact ⟨(wrap64 (x4_1 + 1)), (by first | rfl | (simp; done) | (simp [*]; done)), H', ⟨by have := HK1.out; omega⟩, by repeat (first | exact Drawn0.refl _ | apply Drawn0.step)⟩
          · rw [if_neg c4] at H
            have c4b0 : ((rdOf ByteArray.empty l0 x4_1).toList == ([] : List UInt8)) = false := beq_eq_false_iff_ne.mpr c4
            have c4b1 : ((rdOf ByteArray.empty l0 x4_1).toList != ([] : List UInt8)) = true := bne_iff_ne.mpr c4
            simp only [Option.some.injEq, Prod.mk.injEq] at H
            obtain ⟨rfl, rfl⟩ := H
            have p101 : 0 ≤ (x4_1 : Int) := of_decide_eq_true (by first | (with_reducible assumption) | assumption)
            have q101 : x4_1 < (l0.length : Int) := of_decide_eq_true (by first | (with_reducible assumption) | assumption)
            obtain ⟨ad101, e101, hx101_0⟩ := Kd.at_string HR0.out x4_1 p101 q101
            cases e101
            replace p101 := eq_true p101
            replace q101 := eq_true q101
            have p102 : 0 ≤ (x4_1 : Int) := of_decide_eq_true (by first | (with_reducible assumption) | assumption)
            have q102 : x4_1 < (l0.length : Int) := of_decide_eq_true (by first | (with_reducible assumption) | assumption)
            obtain ⟨ad102, e102, hx102_0⟩ := Kd.at_string HR0.out x4_1 p102 q102
            obtain rfl : ad101 = ad102 := (by injection e102)
            replace p102 := eq_true p102
            replace q102 := eq_true q102
            go_wp2
            go_ret2
            exact ⟨by first | rfl | (simp; done) | (simp [*]; done), by repeat (first | exact Drawn0.refl _ | apply Drawn0.step)⟩
        · rw [if_neg c3] at H
          exact absurd H (by simp)
      · rw [if_neg c2] at H
        have c2b0 : decide (x4_1 < (l0.length : Int)) = false := decide_eq_false c2
        clear c2
        simp only [Option.some.injEq, Prod.mk.injEq] at H
        obtain ⟨rfl, rfl⟩ := H
        go_wp2
        go_ret2
        exact ⟨by first | rfl | (simp; done) | (simp [*]; done), by repeat (first | exact Drawn0.refl _ | apply Drawn0.step)⟩

end Go.Proofs.Ytndbgdcjhhjaiaa.B
