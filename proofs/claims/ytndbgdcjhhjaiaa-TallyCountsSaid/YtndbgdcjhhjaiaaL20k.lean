/- Counts of kinds and of keys, in plain terms. -/
import Derived.Test.YtndbgdcjhhjaiaaG
import Derived.Test.YtndbgdcjhhjaiaaB2
import Derived.Test.YtndbgdcjhhjaiaaB5
import Derived.Test.YtndbgdcjhhjaiaaB6
namespace Go.Proofs.Ytndbgdcjhhjaiaa.Pl
open Go.RowKit Go.Proofs.Ytndbgdcjhhjaiaa.B Go.Proofs.YtndbgdcjhhjaiaaW.PrintWords Go.Proofs.YtndbgdcjhhjaiaaW.PrintLast
theorem w64_in {x : Int} (h0 : 0 ≤ x) (h1 : x ≤ 9223372036854775807) : wrap64 x = x := by unfold wrap64; omega
def kc (l : List S46) (k : Nat) : Int := ((l.filter fun x => tally_Kinds.kd x.f0 == k).length : Int)
theorem kc_cons (x : S46) (l : List S46) (k : Nat) : kc (x :: l) k = (if tally_Kinds.kd x.f0 = k then 1 else 0) + kc l k := by
  unfold kc
  by_cases h : tally_Kinds.kd x.f0 = k
  · rw [if_pos h]; simp [h]; omega
  · rw [if_neg h]; simp [h]
theorem kc_nonneg (l : List S46) (k : Nat) : 0 ≤ kc l k ∧ kc l k ≤ l.length := by
  have := List.length_filter_le (fun x : S46 => tally_Kinds.kd x.f0 == k) l
  unfold kc; omega
theorem kc_append (l m : List S46) (k : Nat) : kc (l ++ m) k = kc l k + kc m k := by
  unfold kc
  rw [List.filter_append, List.length_append]; omega
theorem kc_sum : ∀ (l : List S46), kc l 0 + kc l 1 + kc l 2 + kc l 3 + kc l 4 + kc l 5 = l.length
  | [] => rfl
  | x :: l => by
    have h := kc_sum l
    have hk := tally_Kinds.kd_lt x.f0
    simp only [kc_cons, List.length_cons]
    have hc : tally_Kinds.kd x.f0 = 0 ∨ tally_Kinds.kd x.f0 = 1 ∨ tally_Kinds.kd x.f0 = 2 ∨ tally_Kinds.kd x.f0 = 3 ∨ tally_Kinds.kd x.f0 = 4 ∨ tally_Kinds.kd x.f0 = 5 := by omega
    rcases hc with hc | hc | hc | hc | hc | hc <;> simp only [hc] <;> simp <;> omega
theorem kinds_fold : ∀ (l : List S46) (xs : List Int), xs.length = 6 → (∀ k, 0 ≤ xs.getD k 0 ∧ xs.getD k 0 + l.length ≤ 9223372036854775807) → ∀ k, k < 6 → (l.foldl tally_Kinds.one xs).getD k 0 = xs.getD k 0 + kc l k
  | [], xs, _, _, k, _ => by simp [kc]
  | x :: l, xs, hx, hb, k, hk => by
    rw [List.foldl_cons]
    have hkl := tally_Kinds.kd_lt x.f0
    have h1 := hb (tally_Kinds.kd x.f0)
    have hlen : ((x :: l).length : Int) = l.length + 1 := by simp
    rw [hlen] at h1
    have hw : wrap64 (xs.getD (tally_Kinds.kd x.f0) 0 + 1) = xs.getD (tally_Kinds.kd x.f0) 0 + 1 := w64_in (by omega) (by omega)
    have hg : ∀ j, (tally_Kinds.one xs x).getD j 0 = if tally_Kinds.kd x.f0 = j then xs.getD j 0 + 1 else xs.getD j 0 := by
      intro j
      unfold tally_Kinds.one
      rw [hw]
      by_cases e : tally_Kinds.kd x.f0 = j
      · subst e
        rw [if_pos rfl]
        simp [List.getD_eq_getElem?_getD, List.getElem?_set_self (show tally_Kinds.kd x.f0 < xs.length by omega)]
      · rw [if_neg e]
        simp only [List.getD_eq_getElem?_getD]
        rw [List.getElem?_set_ne e]
    rw [kinds_fold l _ (by rw [tally_Kinds.one_len]; exact hx) (fun j => by
      have := hb j
      rw [hlen] at this
      rw [hg j]
      split <;> omega) k hk, hg k, kc_cons]
    split <;> omega
theorem kinds_eq (l : List S46) (hl : l.length ≤ 4611686018427387904) : tally_Kinds.all l = [kc l 0, kc l 1, kc l 2, kc l 3, kc l 4, kc l 5] := by
  have h := kinds_fold l [0, 0, 0, 0, 0, 0] rfl (fun k => by
    have : ([0, 0, 0, 0, 0, 0] : List Int).getD k 0 = 0 := by
      rcases k with _ | _ | _ | _ | _ | _ | k <;> simp
    rw [this]; omega)
  obtain ⟨a, b, c, d, e, f, ha⟩ := tally_Kinds.six (tally_Kinds.all_len l)
  have hh : ∀ k, k < 6 → (tally_Kinds.all l).getD k 0 = kc l k := fun k hk => by
    have := h k hk
    have h0 : ([0, 0, 0, 0, 0, 0] : List Int).getD k 0 = 0 := by
      rcases k with _ | _ | _ | _ | _ | _ | k <;> simp
    rw [h0, Int.zero_add] at this
    exact this
  rw [ha] at hh
  have h0 := hh 0 (by omega)
  have h1 := hh 1 (by omega)
  have h2 := hh 2 (by omega)
  have h3 := hh 3 (by omega)
  have h4 := hh 4 (by omega)
  have h5 := hh 5 (by omega)
  simp at h0 h1 h2 h3 h4 h5
  rw [ha, h0, h1, h2, h3, h4, h5]
theorem kinds_join (l m : List S46) (hl : l.length ≤ 2000) (hm : m.length ≤ 2000) : tally_Kinds.all (l ++ m) = List.zipWith (fun a b => wrap64 (a + b)) (tally_Kinds.all l) (tally_Kinds.all m) := by
  rw [kinds_eq (l ++ m) (by rw [List.length_append]; omega), kinds_eq l (by omega), kinds_eq m (by omega)]
  have hw : ∀ k, wrap64 (kc l k + kc m k) = kc (l ++ m) k := fun k => by
    have h1 := kc_nonneg l k
    have h2 := kc_nonneg m k
    rw [w64_in (by omega) (by omega), kc_append]
  simp only [List.zipWith_cons_cons, List.zipWith_nil_left, hw]
theorem fold_w64 : ∀ (xs : List Int) (acc : Int), (∀ x ∈ xs, 0 ≤ x) → 0 ≤ acc → acc + xs.sum ≤ 9223372036854775807 → xs.foldl (fun s c => wrap64 (s + c)) acc = acc + xs.sum
  | [], acc, _, _, _ => by simp
  | x :: xs, acc, h, h0, h1 => by
    have hx := h x (List.mem_cons_self ..)
    have hs : 0 ≤ xs.sum := by
      clear h1
      induction xs with
      | nil => simp
      | cons y ys ih =>
        have hy := h y (by simp)
        have := ih (fun z hz => h z (by
          rcases List.mem_cons.1 hz with e | e
          · subst e; simp
          · simp [e]))
        rw [List.sum_cons]; omega
    rw [List.sum_cons] at h1 ⊢
    rw [List.foldl_cons, w64_in (by omega) (by omega), fold_w64 xs (acc + x) (fun z hz => h z (List.mem_cons_of_mem _ hz)) (by omega) (by omega)]
    omega
theorem kinds_sum (l : List S46) (hl : l.length ≤ 4000) : cartouchelaw20_TallyJoins.sum (tally_Kinds.all l) = (l.length : Int) := by
  have h := kc_sum l
  have hs : ([kc l 0, kc l 1, kc l 2, kc l 3, kc l 4, kc l 5] : List Int).sum = (l.length : Int) := by
    rw [← h]
    simp only [List.sum_cons, List.sum_nil]
    omega
  rw [kinds_eq l (by omega), cartouchelaw20_TallyJoins.sum, fold_w64 _ 0 (fun x hx => ?_) (Int.le_refl 0) (by rw [hs]; omega), hs, Int.zero_add]
  simp only [List.mem_cons, List.not_mem_nil, or_false] at hx
  rcases hx with e | e | e | e | e | e <;> rw [e] <;> exact (kc_nonneg l _).1
/-! keys -/
def rc (a : ByteArray) (n : Int) (l : List S46) : Int := ((l.filter fun x => x.f2.toList == a.toList && x.f0 == n).length : Int)
theorem rc_cons (a : ByteArray) (n : Int) (x : S46) (l : List S46) : rc a n (x :: l) = (if x.f2.toList = a.toList ∧ x.f0 = n then 1 else 0) + rc a n l := by
  unfold rc
  by_cases h : x.f2.toList = a.toList ∧ x.f0 = n
  · rw [if_pos h]; simp [h.1, h.2]; omega
  · rw [if_neg h]
    have : (x.f2.toList == a.toList && x.f0 == n) = false := by
      rw [Bool.eq_false_iff]
      simpa using h
    simp [this]
theorem rc_nonneg (a : ByteArray) (n : Int) (l : List S46) : 0 ≤ rc a n l ∧ rc a n l ≤ l.length := by
  have := List.length_filter_le (fun x : S46 => x.f2.toList == a.toList && x.f0 == n) l
  unfold rc; omega
theorem rc_append (a : ByteArray) (n : Int) (l m : List S46) : rc a n (l ++ m) = rc a n l + rc a n m := by
  unfold rc
  rw [List.filter_append, List.length_append]; omega
theorem keys_fold (a : ByteArray) : ∀ (l : List S46) (p : Int × Int), 0 ≤ p.1 → 0 ≤ p.2 → p.1 + l.length ≤ 9223372036854775807 → p.2 + l.length ≤ 9223372036854775807 → l.foldl (tally_Keys.one a) p = (p.1 + rc a 2 l, p.2 + rc a 3 l)
  | [], p, _, _, _, _ => by simp [rc]
  | x :: l, p, h0, h1, h2, h3 => by
    have hlen : ((x :: l).length : Int) = l.length + 1 := by simp
    rw [hlen] at h2 h3
    rw [List.foldl_cons, rc_cons, rc_cons]
    have hw1 := w64_in (x := p.1 + 1) (by omega) (by omega)
    have hw2 := w64_in (x := p.2 + 1) (by omega) (by omega)
    unfold tally_Keys.one
    by_cases c1 : x.f2.toList = a.toList
    · by_cases c2 : x.f0 = 2
      · rw [if_pos c1, if_pos c2, if_pos ⟨c1, c2⟩, if_neg (by omega), hw1]
        have := keys_fold a l (p.1 + 1, p.2) (by simp; omega) (by simp; omega) (by simp; omega) (by simp; omega)
        unfold tally_Keys.one at this
        rw [this]
        simp; omega
      · by_cases c3 : x.f0 = 3
        · rw [if_pos c1, if_neg c2, if_pos c3, if_neg (by omega), if_pos ⟨c1, c3⟩, hw2]
          have := keys_fold a l (p.1, p.2 + 1) (by simp; omega) (by simp; omega) (by simp; omega) (by simp; omega)
          unfold tally_Keys.one at this
          rw [this]
          simp; omega
        · rw [if_pos c1, if_neg c2, if_neg c3, if_neg (by omega), if_neg (by omega)]
          have := keys_fold a l p (by omega) (by omega) (by omega) (by omega)
          unfold tally_Keys.one at this
          rw [this]
          simp
    · rw [if_neg c1, if_neg (fun e => c1 e.1), if_neg (fun e => c1 e.1)]
      have := keys_fold a l p (by omega) (by omega) (by omega) (by omega)
      unfold tally_Keys.one at this
      rw [this]
      simp
theorem keys_eq (a : ByteArray) (l : List S46) (hl : l.length ≤ 4000) : tally_Keys.all a l = (rc a 2 l, rc a 3 l) := by
  have := keys_fold a l (0, 0) (by simp) (by simp) (by simp; omega) (by simp; omega)
  simpa [tally_Keys.all] using this
theorem keys_join (a : ByteArray) (l m : List S46) (hl : l.length ≤ 2000) (hm : m.length ≤ 2000) : tally_Keys.all a (l ++ m) = (wrap64 ((tally_Keys.all a l).1 + (tally_Keys.all a m).1), wrap64 ((tally_Keys.all a l).2 + (tally_Keys.all a m).2)) := by
  rw [keys_eq a (l ++ m) (by rw [List.length_append]; omega), keys_eq a l (by omega), keys_eq a m (by omega)]
  have h1 := rc_nonneg a 2 l
  have h2 := rc_nonneg a 2 m
  have h3 := rc_nonneg a 3 l
  have h4 := rc_nonneg a 3 m
  simp only [rc_append]
  rw [w64_in (by omega) (by omega), w64_in (by omega) (by omega)]
theorem rd46 (l : List S46) (i : Nat) (hi : i < l.length) : rd_T46 l (i : Int) = l[i] := by
  simp [rd_T46, List.getD_eq_getElem?_getD, List.getElem?_eq_getElem hi]
theorem refkeys_loop (a : ByteArray) (l : List S46) (hl : l.length ≤ 4000) (d : Nat) : ∀ (i k : Nat) (p1 p2 : Int), l.length - i = d → i ≤ l.length → 2 * d < k → cartoucheref20_Keys.l0 k l a p1 p2 i = some ((l.drop i).foldl (tally_Keys.one a) (p1, p2)) := by
  induction d with
  | zero =>
    intro i k p1 p2 hd hi hk
    obtain ⟨k, rfl⟩ : ∃ n, k = n + 1 := ⟨k - 1, by omega⟩
    simp only [cartoucheref20_Keys.l0]
    rw [if_neg (by omega), List.drop_of_length_le (by omega)]; rfl
  | succ d ih =>
    intro i k p1 p2 hd hi hk
    obtain ⟨k, rfl⟩ : ∃ n, k = n + 1 + 1 := ⟨k - 2, by omega⟩
    have hil : i < l.length := by omega
    have d1 := List.drop_eq_getElem_cons hil
    have e : wrap64 ((i : Int) + 1) = ((i + 1 : Nat) : Int) := by rw [w64_in (by omega) (by omega)]; omega
    have ih' := fun p1 p2 => ih (i + 1) k p1 p2 (by omega) (by omega) (by omega)
    simp only [cartoucheref20_Keys.l0, cartoucheref20_Keys.j1, rd46 l i hil, e, ih']
    rw [d1, List.foldl_cons, if_pos (show (i : Int) < l.length by omega), if_pos (show (0 : Int) ≤ i by omega)]
    simp only [if_pos (show (i : Int) < l.length by omega)]
    unfold tally_Keys.one
    by_cases c1 : l[i].f2.toList = a.toList
    · have c1b : (l[i].f2.toList == a.toList) = true := beq_iff_eq.2 c1
      by_cases c2 : l[i].f0 = 2
      · have c3 : ¬ l[i].f0 = 3 := by omega
        simp only [c1b, if_pos c1, if_pos c2, if_neg c3, if_true]
        rw [if_pos (show (0 : Int) ≤ i by omega)]
      · by_cases c3 : l[i].f0 = 3
        · simp only [if_pos c1, if_neg c2, if_pos c3, Bool.false_eq_true, if_false]
          rw [if_pos (show (0 : Int) ≤ i by omega)]
        · simp only [if_pos c1, if_neg c2, if_neg c3, Bool.false_eq_true, if_false]
          rw [if_pos (show (0 : Int) ≤ i by omega)]
    · have c1b : (l[i].f2.toList == a.toList) = false := beq_eq_false_iff_ne.2 c1
      by_cases c2 : l[i].f0 = 2
      · simp only [c1b, if_neg c1, if_pos c2, Bool.false_eq_true, if_false]
        rw [if_pos (show (0 : Int) ≤ i by omega)]
        simp
      · simp only [if_neg c1, if_neg c2, Bool.false_eq_true, if_false]
        rw [if_pos (show (0 : Int) ≤ i by omega)]
        simp
theorem refkeys_f (a : ByteArray) (l : List S46) (hl : l.length ≤ 4000) (k : Nat) (hk : 2 * l.length < k) : cartoucheref20_Keys.f k l a = some (tally_Keys.all a l) := by
  have := refkeys_loop a l hl _ 0 k 0 0 rfl (by omega) (by omega)
  simpa [cartoucheref20_Keys.f, tally_Keys.all] using this
end Go.Proofs.Ytndbgdcjhhjaiaa.Pl
