-- Written by wip/hand.py of this session's repository, out of the translation and of contracts typed by hand. Not trusted: Lean checks it.
import Derived.Test.YtndbgdcjhhjaiaaB0
import Derived.Test.YtndbgdcjhhjaiaaB2
import Derived.Test.YtndbgdcjhhjaiaaB4
namespace Go.Proofs.Ytndbgdcjhhjaiaa.B
open Go.RowKit Go.Proofs.YtndbgdcjhhjaiaaW.PrintWords Go.Proofs.YtndbgdcjhhjaiaaW.PrintLast Go.Proofs.YtndbgdcjhhjaiaaW.PrintMore
attribute [local go_sem] max2_int min2_int max_two min_two max_three min_three max_four min_four   -- for this text's walks alone
set_option linter.unusedVariables false
set_option linter.unusedSimpArgs false

/-! ### tally_Keys: function 24 -/
def tally_Keys.one (key : ByteArray) (p : Int × Int) (x : S46) : Int × Int :=
  if x.f2.toList = key.toList then (if x.f0 = 2 then (wrap64 (p.1 + 1), p.2) else if x.f0 = 3 then (p.1, wrap64 (p.2 + 1)) else p) else p
def tally_Keys.all (key : ByteArray) (l : List S46) : Int × Int := l.foldl (tally_Keys.one key) (0, 0)
def tally_Keys.f (l0 : List S46) (a1 : ByteArray) : Option (Int × Int) := some (tally_Keys.all a1 l0)
theorem tally_Keys.all_take (key : ByteArray) (l : List S46) (i : Nat) (hi : i < l.length) : tally_Keys.all key (l.take (i + 1)) = tally_Keys.one key (tally_Keys.all key (l.take i)) (l[i]'hi) := by
  rw [tally_Keys.all, tally_Keys.all, ← List.take_append_getElem hi, List.foldl_append]
  rfl
set_option maxHeartbeats 1000000 in
theorem tally_Keys.step (x : S46) (key : ByteArray) (p : Int × Int) (gk gr gw B : Nat) (w : World) (n1 : gk ≠ gr) (n2 : gk ≠ gw) (n3 : gr ≠ gw) (b1 : B ≤ gr) (b2 : B ≤ gw) (b3 : B ≤ w.heap.size)
    (hk : w.heap[gk]? = some (.cells #[.string key] 9 (0, 0))) (hr : w.heap[gr]? = some (.cells #[.int .i64 p.1] 75 (0, 0))) (hw : w.heap[gw]? = some (.cells #[.int .i64 p.2] 75 (0, 0))) :
    Calls Try.prog 39 #[.agg #[.int .i64 x.f0, .int .i64 x.f1, .string x.f2, .string x.f3], .pointer (some ⟨gk, 0, none⟩), .pointer (some ⟨gr, 0, none⟩), .pointer (some ⟨gw, 0, none⟩)] w fun e w' => e = .returned (.tuple #[]) ∧
      w'.heap[gk]? = some (.cells #[.string key] 9 (0, 0)) ∧ w'.heap[gr]? = some (.cells #[.int .i64 (tally_Keys.one key p x).1] 75 (0, 0)) ∧ w'.heap[gw]? = some (.cells #[.int .i64 (tally_Keys.one key p x).2] 75 (0, 0)) ∧ Below B w w' := by
  obtain ⟨x0, x1, x2, x3⟩ := x
  simp only
  have lk := blk_lt hk
  have lr := blk_lt hr
  have lw := blk_lt hw
  have hck : w.cell? ⟨gk, 0, none⟩ = some (.string key) := (blk_cell hk 0).trans rfl
  have kr := blk_alloc hr (.cells #[.int .i64 x0, .int .i64 x1, .string x2, .string x3] 46)
  have kw := blk_alloc hw (.cells #[.int .i64 x0, .int .i64 x1, .string x2, .string x3] 46)
  have HAr := Aside0.mk (Atom.add64 _ _ _ ((blk_cell kr 0).trans rfl) (blk_frozen kr 0))
  have HAw := Aside0.mk (Atom.add64 _ _ _ ((blk_cell kw 0).trans rfl) (blk_frozen kw 0))
  have H0 := Aside0.mk (And.intro hk (And.intro hr hw))
  clear hk hr hw kr kw
  by_cases c1 : x2.toList = key.toList
  · have q1 : (x2.toList == key.toList) = true := beq_iff_eq.2 c1
    have q2 : (x2.toList != key.toList) = false := bne_eq_false_iff_eq.2 c1
    by_cases c2 : x0 = 2
    · have e : tally_Keys.one key p ⟨x0, x1, x2, x3⟩ = (wrap64 (p.1 + 1), p.2) := by unfold tally_Keys.one; rw [if_pos c1, if_pos c2]
      rw [e]
      clear e
      subst c2
      go_enter Try.func39, Try.ntmps39
      go_wp2_with fail
      refine HAr.out.mono ?_
      rintro _ _ ⟨rfl, rfl⟩
      go_wp2_with fail
      go_end0
      exact ⟨rfl, blk_alloc ((Once.set_other n1 _ _).trans H0.out.1) _, blk_alloc ((Once.set_at H0.out.2.1 0 _).trans rfl) _, blk_alloc ((Once.set_other (Ne.symm n3) _ _).trans H0.out.2.2) _, ((Below.refl B w).setCell (p := ⟨gr, 0, none⟩) b1 _).alloc (by simpa using b3) _⟩
    · by_cases c3 : x0 = 3
      · have e : tally_Keys.one key p ⟨x0, x1, x2, x3⟩ = (p.1, wrap64 (p.2 + 1)) := by unfold tally_Keys.one; rw [if_pos c1, if_neg c2, if_pos c3]
        rw [e]
        clear e
        subst c3
        go_enter Try.func39, Try.ntmps39
        go_wp2_with fail
        refine HAw.out.mono ?_
        rintro _ _ ⟨rfl, rfl⟩
        go_wp2_with fail
        go_end0
        exact ⟨rfl, blk_alloc ((Once.set_other n2 _ _).trans H0.out.1) _, blk_alloc ((Once.set_other n3 _ _).trans H0.out.2.1) _, blk_alloc ((Once.set_at H0.out.2.2 0 _).trans rfl) _, ((Below.refl B w).setCell (p := ⟨gw, 0, none⟩) b2 _).alloc (by simpa using b3) _⟩
      · have e : tally_Keys.one key p ⟨x0, x1, x2, x3⟩ = p := by unfold tally_Keys.one; rw [if_pos c1, if_neg c2, if_neg c3]
        rw [e]
        clear e
        have q3 : (x0 == 2) = false := beq_eq_false_iff_ne.2 c2
        have q4 : (x0 == 3) = false := beq_eq_false_iff_ne.2 c3
        go_enter Try.func39, Try.ntmps39
        go_wp2_with fail
        go_end0
        exact ⟨rfl, blk_alloc H0.out.1 _, blk_alloc H0.out.2.1 _, blk_alloc H0.out.2.2 _, (Below.refl B w).alloc b3 _⟩
  · have e : tally_Keys.one key p ⟨x0, x1, x2, x3⟩ = p := by unfold tally_Keys.one; rw [if_neg c1]
    rw [e]
    clear e
    have q1 : (x2.toList == key.toList) = false := beq_eq_false_iff_ne.2 c1
    have q2 : (x2.toList != key.toList) = true := bne_iff_ne.2 c1
    go_enter Try.func39, Try.ntmps39
    go_wp2_with fail
    go_end0
    exact ⟨rfl, blk_alloc H0.out.1 _, blk_alloc H0.out.2.1 _, blk_alloc H0.out.2.2 _, (Below.refl B w).alloc b3 _⟩
theorem tally_Keys.enter : ∀ args w, (callFunc 39 args).run Try.prog w = .ok (.enter 39 args) w := tally_each.enters Try.func39 (by kernel_rfl) rfl
/-- Behind i rounds: the key at n, the counters at n + 1, n + 1 + 1. -/
def tally_Keys.Inv (l : List S46) (key : ByteArray) (w : World) (i : Nat) (wr : World) : Prop :=
  Below w.heap.size w wr ∧ wr.heap[w.heap.size]? = some (.cells #[.string key] 9 (0, 0)) ∧ wr.heap[w.heap.size + 1]? = some (.cells #[.int .i64 (tally_Keys.all key (l.take i)).1] 75 (0, 0)) ∧ wr.heap[w.heap.size + 1 + 1]? = some (.cells #[.int .i64 (tally_Keys.all key (l.take i)).2] 75 (0, 0))
set_option maxHeartbeats 1000000 in
theorem tally_Keys.calls (A0 : Option Addr) (c0 : Nat) (l0 : List S46) (a1 : ByteArray) (r1 r2 : Int) (w : World) (hr0 : Kd.C k46 w A0 l0.length l0) (hc0 : l0.length ≤ c0) (h : tally_Keys.f l0 a1 = some (r1, r2)) :
    Calls Try.prog 24 #[.slice A0 l0.length c0, .string a1] w fun e w' => e = .returned (.tuple #[.int .i64 r1, .int .i64 r2]) ∧ Below w.heap.size w w' := by
  have HR := Aside0.mk hr0
  have HF := Aside0.mk (show tally_Keys.all a1 l0 = (r1, r2) from Option.some.inj h)
  clear hr0 h
  have hmf : ∀ (fn : Fn) (first cap : Array Value) (w : World), (Instr.makeFunc fn first cap).run Try.prog w = .ok (.func fn first cap) w := fun _ _ _ _ => rfl
  have b0 := blk_new w (.cells #[.string a1] 9)
  have b1 := blk_new (w.alloc (.cells #[.string a1] 9)) (.cells #[.int .i64 0] 75)
  have b2 := blk_new ((w.alloc (.cells #[.string a1] 9)).alloc (.cells #[.int .i64 0] 75)) (.cells #[.int .i64 0] 75)
  have e1 : (w.alloc (.cells #[.string a1] 9)).heap.size = w.heap.size + 1 := by simp
  have e2 : ((w.alloc (.cells #[.string a1] 9)).alloc (.cells #[.int .i64 0] 75)).heap.size = w.heap.size + 1 + 1 := by simp
  rw [e1] at b1
  rw [e2] at b2
  have HS := Aside0.mk (And.intro (blk_alloc (blk_alloc b0 (.cells #[.int .i64 0] 75)) (.cells #[.int .i64 0] 75)) (And.intro (blk_alloc b1 (.cells #[.int .i64 0] 75)) b2))
  clear b0 b1 b2 e1 e2
  go_enter Try.func24, Try.ntmps24
  go_wp2_with fail
  refine (tally_each.calls 39 #[.pointer (some ⟨w.heap.size, 0, none⟩), .pointer (some ⟨w.heap.size + 1, 0, none⟩), .pointer (some ⟨w.heap.size + 1 + 1, 0, none⟩)] tally_Keys.enter A0 c0 l0 w _ HR.out hc0 (tally_Keys.Inv l0 a1 w) ⟨below_alloc (below_alloc (below_alloc (Below.refl _ _) _) _) _, HS.out⟩
    (fun _ _ h => h.1) (fun i W' o h => ⟨below_alloc h.1 o, blk_alloc h.2.1 o, blk_alloc h.2.2.1 o, blk_alloc h.2.2.2 o⟩) ?_).mono ?_
  · intro i hi W' h
    refine (tally_Keys.step (l0[i]'hi) a1 (tally_Keys.all a1 (l0.take i)) w.heap.size (w.heap.size + 1) (w.heap.size + 1 + 1) w.heap.size W' (by omega) (by omega) (by omega) (by omega) (by omega) h.1.size h.2.1 h.2.2.1 h.2.2.2).mono ?_
    rintro e w2 ⟨rfl, h1, h2, h3, h4⟩
    refine ⟨rfl, h.1.trans h4, h1, ?_, ?_⟩
    · rw [tally_Keys.all_take a1 l0 i hi]; exact h2
    · rw [tally_Keys.all_take a1 l0 i hi]; exact h3
  rintro e w1 ⟨rfl, h1, _, h2, h3⟩
  rw [List.take_length, HF.out] at h2 h3
  have HB := Aside0.mk h1
  have HL1 := Aside0.mk (Atom.load64 _ _ _ ((blk_cell h2 0).trans rfl))
  have HL2 := Aside0.mk (Atom.load64 _ _ _ ((blk_cell h3 0).trans rfl))
  clear h1 h2 h3 HS
  go_wp2_with fail
  refine HL1.out.mono ?_
  rintro _ _ ⟨rfl, rfl⟩
  go_wp2_with fail
  refine HL2.out.mono ?_
  rintro _ _ ⟨rfl, rfl⟩
  go_wp2_with fail
  go_ret2
  exact ⟨rfl, HB.out⟩

/-! ### cartouchelaw20_TallyJoins: function 10 -/
def cartouchelaw20_TallyJoins.sum (l : List Int) : Int := l.foldl (fun s c => wrap64 (s + c)) 0
def cartouchelaw20_TallyJoins.f (l0 : List S46) (l1 : List S46) (a2 : ByteArray) : Option Bool :=
  if l0.length ≤ 2000 ∧ l1.length ≤ 2000 then
    (if tally_Kinds.all (l0 ++ l1) = List.zipWith (fun a b => wrap64 (a + b)) (tally_Kinds.all l0) (tally_Kinds.all l1) ∧ cartouchelaw20_TallyJoins.sum (tally_Kinds.all (l0 ++ l1)) = ((l0 ++ l1).length : Int) ∧
      tally_Keys.all a2 (l0 ++ l1) = (wrap64 ((tally_Keys.all a2 l0).1 + (tally_Keys.all a2 l1).1), wrap64 ((tally_Keys.all a2 l0).2 + (tally_Keys.all a2 l1).2)) then some true else none)
  else some true
theorem cartouchelaw20_TallyJoins.infoE : (Try.prog.info? 46).map (fun i => (i.zero, i.size, i.bytes)) = some (some (.agg #[.int .i64 0, .int .i64 0, .string ⟨#[]⟩, .string ⟨#[]⟩]), 4, 48) := by kernel_rfl
def cartouchelaw20_TallyJoins.At (zs : List Int) (W : World) (v13 v14 : Value) (wr : World) : Prop :=
  ∃ i n : Nat, i ≤ 6 ∧ v14 = .int .i64 i ∧ v13 = .int .i64 (cartouchelaw20_TallyJoins.sum (zs.take i)) ∧ wr = W.drewN n
set_option maxRecDepth 100000 in
set_option maxHeartbeats 2000000 in
theorem cartouchelaw20_TallyJoins.calls (A0 : Option Addr) (c0 : Nat) (l0 : List S46) (A1 : Option Addr) (c1 : Nat) (l1 : List S46) (a2 : ByteArray) (r : Bool) (w : World) (hr0 : Kd.C k46 w A0 l0.length l0) (hc0 : l0.length ≤ c0) (hr1 : Kd.C k46 w A1 l1.length l1) (hc1 : l1.length ≤ c1) (h : cartouchelaw20_TallyJoins.f l0 l1 a2 = some r) :
    Calls Try.prog 10 #[.slice A0 l0.length c0, .slice A1 l1.length c1, .string a2] w fun e w' => e = .returned (.bool r) ∧ Below w.heap.size w w' := by
  have HB0 := Aside0.mk (Below.refl w.heap.size w)
  have HR0 := Aside0.mk hr0
  have HR1 := Aside0.mk hr1
  unfold cartouchelaw20_TallyJoins.f at h
  have hnot : ∀ (x : Bool) (w : World), (Op.unary .not (.bool x)).run Try.prog w = .ok (.bool (!x)) w := fun _ _ => rfl
  by_cases hf : l0.length ≤ 2000 ∧ l1.length ≤ 2000
  · rw [if_pos hf] at h
    split at h
    case isFalse => cases h
    rename_i hh
    obtain rfl : true = r := Option.some.inj h
    obtain ⟨h1, h2, h3⟩ := hh
    obtain ⟨x0, x1, x2, x3, x4, x5, hx⟩ := tally_Kinds.six (tally_Kinds.all_len l0)
    obtain ⟨y0, y1, y2, y3, y4, y5, hy⟩ := tally_Kinds.six (tally_Kinds.all_len l1)
    obtain ⟨⟨p1, p2⟩, hp⟩ : ∃ p, p = tally_Keys.all a2 l0 := ⟨_, rfl⟩
    obtain ⟨⟨q1, q2⟩, hq⟩ : ∃ p, p = tally_Keys.all a2 l1 := ⟨_, rfl⟩
    rw [hx, hy] at h1
    rw [← hp, ← hq] at h3
    simp only [List.zipWith_cons_cons, List.zipWith_nil_left] at h1 h3
    rw [h1] at h2
    have hw0 : cartouchelaw20_few.f l0 = some true := by unfold cartouchelaw20_few.f; rw [decide_eq_true (by omega)]
    have hw1 : cartouchelaw20_few.f l1 = some true := by unfold cartouchelaw20_few.f; rw [decide_eq_true (by omega)]
    have HX := Aside0.mk hx
    have HY := Aside0.mk hy
    have HZ := Aside0.mk h1
    have HS := Aside0.mk h2
    have HP := Aside0.mk hp
    have HQ := Aside0.mk hq
    have HPQ := Aside0.mk h3
    have HW0 := Aside0.mk hw0
    have HW1 := Aside0.mk hw1
    have HL := Aside0.mk hf
    clear h h1 h2 h3 hx hy hp hq hw0 hw1 hr0 hr1 hf
    obtain ⟨L, hL⟩ : ∃ L, L = l0 ++ l1 := ⟨_, rfl⟩
    have HLL := Aside0.mk hL
    rw [← hL] at HZ HS HPQ
    clear hL
    go_enter Try.func10, Try.ntmps10
    go_wp2_with fail
    refine (cartouchelaw20_shown.calls true _ rfl).mono ?_
    rintro e w1 ⟨rfl, hb⟩
    have HB1 := Aside0.mk hb
    clear hb
    go_wp2_with fail
    refine (cartouchelaw20_few.calls _ _ _ true w1 (Kd.C_below HR0.out HB1.out) hc0 HW0.out).mono ?_
    rintro e w2 ⟨rfl, hb⟩
    obtain ⟨n2, rfl⟩ := hb.out
    have HB2 := Aside0.mk (pw_below_drewN HB1.out n2)
    clear hb HB1
    go_wp2_with fail
    refine (cartouchelaw20_few.calls _ _ _ true _ (Kd.C_below HR1.out HB2.out) hc1 HW1.out).mono ?_
    rintro e w3 ⟨rfl, hb⟩
    obtain ⟨n3, rfl⟩ := hb.out
    have HB3 := Aside0.mk (pw_below_drewN HB2.out n3)
    clear hb HB2
    obtain ⟨W3, hW3⟩ : ∃ W3, W3 = (w1.drewN n2).drewN n3 := ⟨_, rfl⟩
    rw [← hW3] at HB3
    rw [← hW3]
    clear hW3
    have HL1 := Aside0.mk (show (([] : List S46).length + l0.length) * 48 ≤ 140737488355328 by have := HL.out; simp; omega)
    have HL2 := Aside0.mk (show (([] ++ l0 : List S46).length + l1.length) * 48 ≤ 140737488355328 by have := HL.out; simp; omega)
    go_wp2_with (first
      | ((with_reducible refine gate_dst (N := 31) rfl ?_); (try (refine gate_guard (by rfl) ?_; dsimp only)); refine Kd.R_lit k46 w.heap.size 46 ?hg (N := 31) ?hd (w0 := w) (xs := ([] : List S46)) (inner := []) (ok := fun _ => True) (okp := fun _ => True) ?hr ?hp (fun _ hk => hk) trivial HB3.out HB3.out.size (by simp) ?_; (case hd => rfl); (case hg => rfl); (case hr => first | (go_simp; done) | (go_simp; rfl)); (case hp => exact (Reps.none _ _)); intro v31 w4 ho hb hg_ hnew_; have HO4 := Aside0.mk ho; have HB4 := Aside0.mk hb; clear ho hb hg_ hnew_ HB3)
      | ((with_reducible refine gate_builtin (b := .append) (xs := #[.tmp 31, .tmp 32]) rfl ?_); (try (refine gate_guard (by rfl) ?_; dsimp only)); at_builtin; refine Kd.R_append_rows k46 (w0 := w) w.heap.size rfl (.tmp 31) (.tmp 32) 42 46 (.agg #[(.int .i64 0), (.int .i64 0), (.string ⟨#[]⟩), (.string ⟨#[]⟩)]) 48 rfl Try.underlying42 cartouchelaw20_TallyJoins.infoE rfl (by decide) (by omega) v31 [] l0 _ _ _ (fun _ => True) (fun _ => False) rfl rfl HO4.out (Kd.C_below HR0.out HB4.out) (fun _ _ h => h) (fun _ h => h.elim) (fun _ _ => trivial) HB4.out HB4.out.size HL1.out ?_; intro v33 w5 ho hb hg_ hat_; have HO5 := Aside0.mk ho; have HB5 := Aside0.mk hb; clear ho hb hg_ hat_ HO4 HB4)
      | ((with_reducible refine gate_builtin (b := .append) (xs := #[.tmp 33, .tmp 34]) rfl ?_); (try (refine gate_guard (by rfl) ?_; dsimp only)); at_builtin; refine Kd.R_append_rows k46 (w0 := w) w.heap.size rfl (.tmp 33) (.tmp 34) 42 46 (.agg #[(.int .i64 0), (.int .i64 0), (.string ⟨#[]⟩), (.string ⟨#[]⟩)]) 48 rfl Try.underlying42 cartouchelaw20_TallyJoins.infoE rfl (by decide) (by omega) v33 ([] ++ l0) l1 _ _ _ (fun _ => True) (fun _ => False) rfl rfl HO5.out (Kd.C_below HR1.out HB5.out) (fun _ _ h => h) (fun _ h => h.elim) (fun _ _ => trivial) HB5.out HB5.out.size HL2.out ?_; intro v35 w6 ho hb hg_ hat_; have HO6 := Aside0.mk ho; have HB6 := Aside0.mk hb; clear ho hb hg_ hat_ HO5 HB5))
    obtain ⟨A6, c6, e6⟩ := Kd.R_slice HO6.out
    subst e6
    have HC6 := Aside0.mk (show Kd.C k46 w6 A6 L.length L ∧ L.length ≤ c6 by
      have := Kd.R_reads' HO6.out
      rw [List.nil_append, ← HLL.out] at this
      exact ⟨this.2.2, this.2.1⟩)
    have eL : ([] ++ l0 ++ l1 : List S46).length = L.length := by rw [List.nil_append, ← HLL.out]
    rw [eL]
    clear HO6 eL
    refine (tally_Kinds.calls _ _ l0 _ (Kd.C_below HR0.out HB6.out) hc0).mono ?_
    rintro e w7 ⟨rfl, hb⟩
    have HB7 := Aside0.mk (below_step HB6.out hb)
    have HC7 := Aside0.mk (Kd.C_below HC6.out.1 hb)
    clear hb HB6
    rw [HX.out]
    simp only [List.map_cons, List.map_nil]
    go_wp2_with fail
    have HB7' := Aside0.mk (below_alloc HB7.out (.cells #[.int .i64 x0, .int .i64 x1, .int .i64 x2, .int .i64 x3, .int .i64 x4, .int .i64 x5] 48))
    have HC7' := Aside0.mk (Kd.C_alloc HC7.out (.cells #[.int .i64 x0, .int .i64 x1, .int .i64 x2, .int .i64 x3, .int .i64 x4, .int .i64 x5] 48))
    have HG1 := Aside0.mk (blk_new w7 (.cells #[.int .i64 x0, .int .i64 x1, .int .i64 x2, .int .i64 x3, .int .i64 x4, .int .i64 x5] 48))
    clear HB7 HC7
    obtain ⟨g1, hg1⟩ : ∃ g1, g1 = w7.heap.size := ⟨_, rfl⟩
    rw [← hg1] at HG1
    rw [← hg1]
    clear hg1
    refine (tally_Kinds.calls _ _ l1 _ (Kd.C_below HR1.out HB7'.out) hc1).mono ?_
    rintro e w8 ⟨rfl, hb⟩
    have HB8 := Aside0.mk (below_step HB7'.out hb)
    have HC8 := Aside0.mk (Kd.C_below HC7'.out hb)
    have HG18 := Aside0.mk (blk_below HG1.out hb)
    clear hb HB7' HC7' HG1
    rw [HY.out]
    simp only [List.map_cons, List.map_nil]
    go_wp2_with fail
    have HB8' := Aside0.mk (below_alloc HB8.out (.cells #[.int .i64 y0, .int .i64 y1, .int .i64 y2, .int .i64 y3, .int .i64 y4, .int .i64 y5] 48))
    have HC8' := Aside0.mk (Kd.C_alloc HC8.out (.cells #[.int .i64 y0, .int .i64 y1, .int .i64 y2, .int .i64 y3, .int .i64 y4, .int .i64 y5] 48))
    have HG18' := Aside0.mk (blk_alloc HG18.out (.cells #[.int .i64 y0, .int .i64 y1, .int .i64 y2, .int .i64 y3, .int .i64 y4, .int .i64 y5] 48))
    have HG2 := Aside0.mk (blk_new w8 (.cells #[.int .i64 y0, .int .i64 y1, .int .i64 y2, .int .i64 y3, .int .i64 y4, .int .i64 y5] 48))
    clear HB8 HC8 HG18
    obtain ⟨g2, hg2⟩ : ∃ g2, g2 = w8.heap.size := ⟨_, rfl⟩
    rw [← hg2] at HG2
    rw [← hg2]
    clear hg2
    refine (tally_Kinds.calls _ _ L _ HC8'.out HC6.out.2).mono ?_
    rintro e w9 ⟨rfl, hb⟩
    have HB9 := Aside0.mk (below_step HB8'.out hb)
    have HC9 := Aside0.mk (Kd.C_below HC8'.out hb)
    have HG19 := Aside0.mk (blk_below HG18'.out hb)
    have HG29 := Aside0.mk (blk_below HG2.out hb)
    clear hb HB8' HC8' HG18' HG2
    rw [HZ.out]
    obtain ⟨z0, hz0⟩ : ∃ z, z = wrap64 (x0 + y0) := ⟨_, rfl⟩
    obtain ⟨z1, hz1⟩ : ∃ z, z = wrap64 (x1 + y1) := ⟨_, rfl⟩
    obtain ⟨z2, hz2⟩ : ∃ z, z = wrap64 (x2 + y2) := ⟨_, rfl⟩
    obtain ⟨z3, hz3⟩ : ∃ z, z = wrap64 (x3 + y3) := ⟨_, rfl⟩
    obtain ⟨z4, hz4⟩ : ∃ z, z = wrap64 (x4 + y4) := ⟨_, rfl⟩
    obtain ⟨z5, hz5⟩ : ∃ z, z = wrap64 (x5 + y5) := ⟨_, rfl⟩
    rw [← hz0, ← hz1, ← hz2, ← hz3, ← hz4, ← hz5] at HS
    rw [← hz0, ← hz1, ← hz2, ← hz3, ← hz4, ← hz5]
    simp only [List.map_cons, List.map_nil]
    have HZ0 := Aside0.mk hz0
    have HZ1 := Aside0.mk hz1
    have HZ2 := Aside0.mk hz2
    have HZ3 := Aside0.mk hz3
    have HZ4 := Aside0.mk hz4
    have HZ5 := Aside0.mk hz5
    clear hz0 hz1 hz2 hz3 hz4 hz5
    go_wp2_with fail
    obtain ⟨WL, hWL⟩ : ∃ WL, WL = w9.alloc (.cells #[.int .i64 z0, .int .i64 z1, .int .i64 z2, .int .i64 z3, .int .i64 z4, .int .i64 z5] 48) := ⟨_, rfl⟩
    have HBL := Aside0.mk (below_alloc HB9.out (.cells #[.int .i64 z0, .int .i64 z1, .int .i64 z2, .int .i64 z3, .int .i64 z4, .int .i64 z5] 48))
    have HCL := Aside0.mk (Kd.C_alloc HC9.out (.cells #[.int .i64 z0, .int .i64 z1, .int .i64 z2, .int .i64 z3, .int .i64 z4, .int .i64 z5] 48))
    have HG1L := Aside0.mk (blk_alloc HG19.out (.cells #[.int .i64 z0, .int .i64 z1, .int .i64 z2, .int .i64 z3, .int .i64 z4, .int .i64 z5] 48))
    have HG2L := Aside0.mk (blk_alloc HG29.out (.cells #[.int .i64 z0, .int .i64 z1, .int .i64 z2, .int .i64 z3, .int .i64 z4, .int .i64 z5] 48))
    have HG3L := Aside0.mk (blk_new w9 (.cells #[.int .i64 z0, .int .i64 z1, .int .i64 z2, .int .i64 z3, .int .i64 z4, .int .i64 z5] 48))
    obtain ⟨g3, hg3⟩ : ∃ g3, g3 = w9.heap.size := ⟨_, rfl⟩
    rw [← hg3] at HG3L
    rw [← hg3]
    clear hg3 HB9 HC9 HG19 HG29
    rw [← hWL] at HBL HCL HG1L HG2L HG3L
    rw [← hWL]
    clear hWL
    go_loopw [13, 14] (fun v13 v14 wr => cartouchelaw20_TallyJoins.At [z0, z1, z2, z3, z4, z5] WL v13 v14 wr) (fun _ v14 _ => 6 - (intOf v14).toNat)
    case atStart => exact ⟨0, 0, by omega, rfl, rfl, rfl⟩
    case round =>
      obtain ⟨i, n, hi, rfl, rfl, rfl⟩ := hrel
      have hcase : i = 0 ∨ i = 1 ∨ i = 2 ∨ i = 3 ∨ i = 4 ∨ i = 5 ∨ i = 6 := by omega
      rcases hcase with rfl | rfl | rfl | rfl | rfl | rfl | rfl
      · have hc1 : WL.cell? ⟨g1, 0, none⟩ = some (.int .i64 x0) := (blk_cell HG1L.out 0).trans rfl
        have hc2 : WL.cell? ⟨g2, 0, none⟩ = some (.int .i64 y0) := (blk_cell HG2L.out 0).trans rfl
        have hc3 : WL.cell? ⟨g3, 0, none⟩ = some (.int .i64 z0) := (blk_cell HG3L.out 0).trans rfl
        have hzb : (z0 != wrap64 (x0 + y0)) = false := by rw [HZ0.out]; exact bne_self_eq_false _
        go_wp2_with fail
        repeat (go_quiet (fail); try go_wp2_with fail)
        go_roundw
        case rel => exact ⟨1, _, by omega, by go_num, rfl, rfl⟩
        case measure => simp [intOf]
      · have hc1 : WL.cell? ⟨g1, 1, none⟩ = some (.int .i64 x1) := (blk_cell HG1L.out 1).trans rfl
        have hc2 : WL.cell? ⟨g2, 1, none⟩ = some (.int .i64 y1) := (blk_cell HG2L.out 1).trans rfl
        have hc3 : WL.cell? ⟨g3, 1, none⟩ = some (.int .i64 z1) := (blk_cell HG3L.out 1).trans rfl
        have hzb : (z1 != wrap64 (x1 + y1)) = false := by rw [HZ1.out]; exact bne_self_eq_false _
        go_wp2_with fail
        repeat (go_quiet (fail); try go_wp2_with fail)
        go_roundw
        case rel => exact ⟨2, _, by omega, by go_num, rfl, rfl⟩
        case measure => simp [intOf]
      · have hc1 : WL.cell? ⟨g1, 2, none⟩ = some (.int .i64 x2) := (blk_cell HG1L.out 2).trans rfl
        have hc2 : WL.cell? ⟨g2, 2, none⟩ = some (.int .i64 y2) := (blk_cell HG2L.out 2).trans rfl
        have hc3 : WL.cell? ⟨g3, 2, none⟩ = some (.int .i64 z2) := (blk_cell HG3L.out 2).trans rfl
        have hzb : (z2 != wrap64 (x2 + y2)) = false := by rw [HZ2.out]; exact bne_self_eq_false _
        go_wp2_with fail
        repeat (go_quiet (fail); try go_wp2_with fail)
        go_roundw
        case rel => exact ⟨3, _, by omega, by go_num, rfl, rfl⟩
        case measure => simp [intOf]
      · have hc1 : WL.cell? ⟨g1, 3, none⟩ = some (.int .i64 x3) := (blk_cell HG1L.out 3).trans rfl
        have hc2 : WL.cell? ⟨g2, 3, none⟩ = some (.int .i64 y3) := (blk_cell HG2L.out 3).trans rfl
        have hc3 : WL.cell? ⟨g3, 3, none⟩ = some (.int .i64 z3) := (blk_cell HG3L.out 3).trans rfl
        have hzb : (z3 != wrap64 (x3 + y3)) = false := by rw [HZ3.out]; exact bne_self_eq_false _
        go_wp2_with fail
        repeat (go_quiet (fail); try go_wp2_with fail)
        go_roundw
        case rel => exact ⟨4, _, by omega, by go_num, rfl, rfl⟩
        case measure => simp [intOf]
      · have hc1 : WL.cell? ⟨g1, 4, none⟩ = some (.int .i64 x4) := (blk_cell HG1L.out 4).trans rfl
        have hc2 : WL.cell? ⟨g2, 4, none⟩ = some (.int .i64 y4) := (blk_cell HG2L.out 4).trans rfl
        have hc3 : WL.cell? ⟨g3, 4, none⟩ = some (.int .i64 z4) := (blk_cell HG3L.out 4).trans rfl
        have hzb : (z4 != wrap64 (x4 + y4)) = false := by rw [HZ4.out]; exact bne_self_eq_false _
        go_wp2_with fail
        repeat (go_quiet (fail); try go_wp2_with fail)
        go_roundw
        case rel => exact ⟨5, _, by omega, by go_num, rfl, rfl⟩
        case measure => simp [intOf]
      · have hc1 : WL.cell? ⟨g1, 5, none⟩ = some (.int .i64 x5) := (blk_cell HG1L.out 5).trans rfl
        have hc2 : WL.cell? ⟨g2, 5, none⟩ = some (.int .i64 y5) := (blk_cell HG2L.out 5).trans rfl
        have hc3 : WL.cell? ⟨g3, 5, none⟩ = some (.int .i64 z5) := (blk_cell HG3L.out 5).trans rfl
        have hzb : (z5 != wrap64 (x5 + y5)) = false := by rw [HZ5.out]; exact bne_self_eq_false _
        go_wp2_with fail
        repeat (go_quiet (fail); try go_wp2_with fail)
        go_roundw
        case rel => exact ⟨6, _, by omega, by go_num, rfl, rfl⟩
        case measure => simp [intOf]
      · have hs : cartouchelaw20_TallyJoins.sum (List.take 6 [z0, z1, z2, z3, z4, z5]) = (L.length : Int) := HS.out
        rw [hs]
        clear hs
        have HBN := Aside0.mk (pw_below_drewN HBL.out n)
        have HCN := Aside0.mk (Kd.C_drewN HCL.out n)
        clear HBL HCL HG1L HG2L HG3L
        go_wp2_with fail
        refine (tally_Keys.calls _ _ l0 a2 p1 p2 _ (Kd.C_below HR0.out HBN.out) hc0 (by unfold tally_Keys.f; rw [← HP.out])).mono ?_
        rintro e w10 ⟨rfl, hb⟩
        have HB10 := Aside0.mk (below_step HBN.out hb)
        have HC10 := Aside0.mk (Kd.C_below HCN.out hb)
        clear hb HBN HCN
        go_wp2_with fail
        refine (tally_Keys.calls _ _ l1 a2 q1 q2 _ (Kd.C_below HR1.out HB10.out) hc1 (by unfold tally_Keys.f; rw [← HQ.out])).mono ?_
        rintro e w11 ⟨rfl, hb⟩
        have HB11 := Aside0.mk (below_step HB10.out hb)
        have HC11 := Aside0.mk (Kd.C_below HC10.out hb)
        clear hb HB10 HC10
        go_wp2_with fail
        refine (tally_Keys.calls _ _ L a2 (wrap64 (p1 + q1)) (wrap64 (p2 + q2)) _ HC11.out HC6.out.2 (by unfold tally_Keys.f; rw [HPQ.out])).mono ?_
        rintro e w12 ⟨rfl, hb⟩
        have HB12 := Aside0.mk (below_step HB11.out hb)
        clear hb HB11 HC11
        go_wp2_with fail
        go_ret
        exact ⟨rfl, HB12.out⟩
  · rw [if_neg hf] at h
    obtain rfl : true = r := Option.some.inj h
    clear h hr0 hr1
    by_cases hf0 : l0.length ≤ 2000
    · have hf1 : ¬ l1.length ≤ 2000 := fun e => hf ⟨hf0, e⟩
      have hw0 : cartouchelaw20_few.f l0 = some true := by unfold cartouchelaw20_few.f; rw [decide_eq_true (by omega)]
      have hw1 : cartouchelaw20_few.f l1 = some false := by unfold cartouchelaw20_few.f; rw [decide_eq_false (by omega)]
      have HW0 := Aside0.mk hw0
      have HW1 := Aside0.mk hw1
      clear hw0 hw1 hf hf0 hf1
      go_enter Try.func10, Try.ntmps10
      go_wp2_with fail
      refine (cartouchelaw20_shown.calls true _ rfl).mono ?_
      rintro e w1 ⟨rfl, hb⟩
      have HB1 := Aside0.mk hb
      clear hb
      go_wp2_with fail
      refine (cartouchelaw20_few.calls _ _ _ true w1 (Kd.C_below HR0.out HB1.out) hc0 HW0.out).mono ?_
      rintro e w2 ⟨rfl, hb⟩
      obtain ⟨n2, rfl⟩ := hb.out
      have HB2 := Aside0.mk (pw_below_drewN HB1.out n2)
      clear hb HB1
      go_wp2_with fail
      refine (cartouchelaw20_few.calls _ _ _ false _ (Kd.C_below HR1.out HB2.out) hc1 HW1.out).mono ?_
      rintro e w3 ⟨rfl, hb⟩
      obtain ⟨n3, rfl⟩ := hb.out
      have HB3 := Aside0.mk (pw_below_drewN HB2.out n3)
      clear hb HB2
      go_wp2_with fail
      go_ret
      exact ⟨rfl, by first | exact HB3.out | simpa using HB3.out⟩
    · have hw0 : cartouchelaw20_few.f l0 = some false := by unfold cartouchelaw20_few.f; rw [decide_eq_false (by omega)]
      have HW0 := Aside0.mk hw0
      clear hw0 hf hf0
      go_enter Try.func10, Try.ntmps10
      go_wp2_with fail
      refine (cartouchelaw20_shown.calls true _ rfl).mono ?_
      rintro e w1 ⟨rfl, hb⟩
      have HB1 := Aside0.mk hb
      clear hb
      go_wp2_with fail
      refine (cartouchelaw20_few.calls _ _ _ false w1 (Kd.C_below HR0.out HB1.out) hc0 HW0.out).mono ?_
      rintro e w2 ⟨rfl, hb⟩
      obtain ⟨n2, rfl⟩ := hb.out
      have HB2 := Aside0.mk (pw_below_drewN HB1.out n2)
      clear hb HB1
      go_wp2_with fail
      go_ret
      exact ⟨rfl, HB2.out⟩

end Go.Proofs.Ytndbgdcjhhjaiaa.B
