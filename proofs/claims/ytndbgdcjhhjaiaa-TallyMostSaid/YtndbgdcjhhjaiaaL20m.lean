/- The transaction with the most events, in plain terms. -/
import Derived.Test.YtndbgdcjhhjaiaaG
import Derived.Test.YtndbgdcjhhjaiaaL20k
import Derived.Test.YtndbgdcjhhjaiaaB3
import Derived.Test.YtndbgdcjhhjaiaaB4
import Derived.Test.YtndbgdcjhhjaiaaB7
namespace Go.Proofs.Ytndbgdcjhhjaiaa.Pl
open Go.RowKit Go.Proofs.Ytndbgdcjhhjaiaa.B Go.Proofs.YtndbgdcjhhjaiaaW.PrintWords Go.Proofs.YtndbgdcjhhjaiaaW.PrintLast
theorem cnt_cons (x : S46) (l : List S46) (t : Int) : tally_Most.cnt (x :: l) t = (if x.f1 = t then 1 else 0) + tally_Most.cnt l t := by
  unfold tally_Most.cnt
  by_cases h : x.f1 = t
  · rw [if_pos h]; simp [h]; omega
  · rw [if_neg h]; simp [h]
theorem cnt_nil (t : Int) : tally_Most.cnt [] t = 0 := rfl
theorem cnt_pos {l : List S46} {x : S46} (h : x ∈ l) : 1 ≤ tally_Most.cnt l x.f1 := by
  unfold tally_Most.cnt
  have : x ∈ l.filter fun y => y.f1 == x.f1 := List.mem_filter.2 ⟨h, by simp⟩
  have := List.length_pos_of_mem this
  omega
theorem inner_ref (l : List S46) (hl : l.length ≤ 4000) (t m : Int) (i : Nat) (hi : i < l.length) (d : Nat) : ∀ (j k : Nat) (c : Int), l.length - j = d → j ≤ l.length → 0 ≤ c → c ≤ j →
    cartoucheref20_Most.l1 (k + d) l t m i c j = cartoucheref20_Most.l1 k l t m i (c + tally_Most.cnt (l.drop j) l[i].f1) (l.length : Int) := by
  induction d with
  | zero =>
    intro j k c hd hj h0 h1
    have e : j = l.length := by omega
    subst e
    rw [List.drop_length, cnt_nil, Int.add_zero, Nat.add_zero]
  | succ d ih =>
    intro j k c hd hj h0 h1
    have hjl : j < l.length := by omega
    have e1 : wrap64 (c + 1) = c + 1 := w64_in (by omega) (by omega)
    have e2 : wrap64 ((j : Int) + 1) = ((j + 1 : Nat) : Int) := by rw [w64_in (by omega) (by omega)]; omega
    rw [← Nat.add_assoc, cartoucheref20_Most.l1, if_pos (by omega), if_pos (by omega), if_pos (by omega), if_pos (by omega), rd46 l j hjl, rd46 l i hi, e1, e2, List.drop_eq_getElem_cons hjl, cnt_cons]
    by_cases h : l[j].f1 = l[i].f1
    · rw [if_pos h, if_pos h, ih (j + 1) k (c + 1) (by omega) (by omega) (by omega) (by omega)]
      congr 1; omega
    · rw [if_neg h, if_neg h, ih (j + 1) k c (by omega) (by omega) (by omega) (by omega)]
      congr 1; omega
theorem outer_ref (l : List S46) (hl : l.length ≤ 4000) (d : Nat) : ∀ (i k : Nat) (t m : Int), l.length - i = d → i ≤ l.length →
    cartoucheref20_Most.l0 (k + d * (l.length + 2) + 1) l t m i = some ((l.drop i).foldl (tally_Most.one l) (t, m)) := by
  induction d with
  | zero =>
    intro i k t m hd hi
    rw [cartoucheref20_Most.l0, if_neg (by omega), List.drop_of_length_le (by omega)]; rfl
  | succ d ih =>
    intro i k t m hd hi
    have hil : i < l.length := by omega
    have e2 : wrap64 ((i : Int) + 1) = ((i + 1 : Nat) : Int) := by rw [w64_in (by omega) (by omega)]; omega
    have ef : k + (d + 1) * (l.length + 2) = (k + d * (l.length + 2) + 1 + 1) + l.length := by rw [Nat.succ_mul]; omega
    have hin := inner_ref l hl t m i hil l.length 0 (k + d * (l.length + 2) + 1 + 1) 0 (by omega) (by omega) (by omega) (by omega)
    rw [List.drop_zero, Int.zero_add] at hin
    have e0 : ((0 : Nat) : Int) = 0 := rfl
    rw [e0] at hin
    have ih' := fun t m => ih (i + 1) k t m (by omega) (by omega)
    rw [cartoucheref20_Most.l0, if_pos (by omega), ef, hin, cartoucheref20_Most.l1, if_neg (by omega), e2, rd46 l i hil, List.drop_eq_getElem_cons hil, List.foldl_cons]
    simp only [ih', if_pos (show (0 : Int) ≤ i by omega), if_pos (show (i : Int) < l.length by omega)]
    unfold tally_Most.one
    simp only
    by_cases c1 : tally_Most.cnt l l[i].f1 > m
    · rw [if_pos c1, if_pos (.inl c1)]
    · rw [if_neg c1]
      by_cases c2 : tally_Most.cnt l l[i].f1 = m
      · rw [if_pos c2]
        by_cases c3 : l[i].f1 < t
        · rw [if_pos c3, if_pos (.inr ⟨c2, c3⟩)]
        · rw [if_neg c3, if_neg (fun h => h.elim c1 (fun h => c3 h.2))]
      · rw [if_neg c2, if_neg (fun h => h.elim c1 (fun h => c2 h.1))]
theorem refmost_f (l : List S46) (hl : l.length ≤ 4000) : cartoucheref20_Most.f ((l.length + 2) * (l.length + 2) + 10) l = some (tally_Most.all l l) := by
  have e : (l.length + 2) * (l.length + 2) + 10 = (2 * (l.length + 2) + 9) + l.length * (l.length + 2) + 1 := by rw [Nat.add_mul l.length 2]; omega
  have := outer_ref l hl l.length 0 (2 * (l.length + 2) + 9) 0 0 rfl (by omega)
  rw [cartoucheref20_Most.f, e]
  simpa [tally_Most.all] using this
theorem most_f (l : List S46) (h : ∀ x ∈ l, (Lit.int .i64 x.f1).wf = true) : tally_Most.f l = some (tally_Most.all l l) := by
  unfold tally_Most.f
  rw [if_pos (List.all_eq_true.2 h)]
/-- What is true of the most so far. -/
def Mi (l pre : List S46) (p : Int × Int) : Prop :=
  (pre = [] → p = (0, 0)) ∧ (pre ≠ [] → p.2 = tally_Most.cnt l p.1 ∧ 1 ≤ p.2) ∧ ∀ x ∈ pre, tally_Most.cnt l x.f1 < p.2 ∨ (tally_Most.cnt l x.f1 = p.2 ∧ p.1 ≤ x.f1)
theorem mi_step {l pre : List S46} {p : Int × Int} {x : S46} (hx : x ∈ l) (h : Mi l pre p) : Mi l (pre ++ [x]) (tally_Most.one l p x) := by
  have hp := cnt_pos hx
  obtain ⟨h1, h2, h3⟩ := h
  unfold tally_Most.one
  by_cases c : tally_Most.cnt l x.f1 > p.2 ∨ (tally_Most.cnt l x.f1 = p.2 ∧ x.f1 < p.1)
  · rw [if_pos c]
    refine ⟨fun e => by simp at e, fun _ => ⟨rfl, hp⟩, fun y hy => ?_⟩
    rcases List.mem_append.1 hy with hy | hy
    · have := h3 y hy
      simp only; omega
    · obtain rfl : y = x := by simpa using hy
      simp
  · rw [if_neg c]
    have hne : pre ≠ [] := fun e => by
      have := h1 e
      rw [this] at c
      simp at c; omega
    refine ⟨fun e => by simp at e, fun _ => h2 hne, fun y hy => ?_⟩
    rcases List.mem_append.1 hy with hy | hy
    · exact h3 y hy
    · obtain rfl : y = x := by simpa using hy
      omega
theorem mi_fold (l : List S46) : ∀ (m pre : List S46) (p : Int × Int), (∀ x ∈ m, x ∈ l) → Mi l pre p → Mi l (pre ++ m) (m.foldl (tally_Most.one l) p)
  | [], pre, p, _, h => by simpa using h
  | x :: m, pre, p, hm, h => by
    have := mi_fold l m (pre ++ [x]) _ (fun y hy => hm y (List.mem_cons_of_mem _ hy)) (mi_step (hm x (List.mem_cons_self ..)) h)
    simpa using this
theorem mi_all (l : List S46) : Mi l l (tally_Most.all l l) := by
  have := mi_fold l l [] (0, 0) (fun x hx => hx) ⟨fun _ => rfl, fun h => absurd rfl h, fun x hx => by simp at hx⟩
  simpa [tally_Most.all] using this
theorem inner_law (l : List S46) (hl : l.length ≤ 4000) (s : Bool) (t m : Int) (i : Nat) (hi : i < l.length) (d : Nat) : ∀ (j k : Nat) (c : Int), l.length - j = d → j ≤ l.length → 0 ≤ c → c ≤ j →
    cartouchelaw20_TallyMost.l1 (k + d) l s t m i c j = cartouchelaw20_TallyMost.l1 k l s t m i (c + tally_Most.cnt (l.drop j) l[i].f1) (l.length : Int) := by
  induction d with
  | zero =>
    intro j k c hd hj h0 h1
    have e : j = l.length := by omega
    subst e
    rw [List.drop_length, cnt_nil, Int.add_zero, Nat.add_zero]
  | succ d ih =>
    intro j k c hd hj h0 h1
    have hjl : j < l.length := by omega
    have e1 : wrap64 (c + 1) = c + 1 := w64_in (by omega) (by omega)
    have e2 : wrap64 ((j : Int) + 1) = ((j + 1 : Nat) : Int) := by rw [w64_in (by omega) (by omega)]; omega
    rw [← Nat.add_assoc, cartouchelaw20_TallyMost.l1, if_pos (by omega), if_pos (by omega), if_pos (by omega), if_pos (by omega), rd46 l j hjl, rd46 l i hi, e1, e2, List.drop_eq_getElem_cons hjl, cnt_cons]
    by_cases h : l[j].f1 = l[i].f1
    · rw [if_pos h, if_pos h, ih (j + 1) k (c + 1) (by omega) (by omega) (by omega) (by omega)]
      congr 1; omega
    · rw [if_neg h, if_neg h, ih (j + 1) k c (by omega) (by omega) (by omega) (by omega)]
      congr 1; omega
theorem outer_law (l : List S46) (hl : l.length ≤ 4000) (d : Nat) : ∀ (i k : Nat), l.length - i = d → i ≤ l.length →
    cartouchelaw20_TallyMost.l0 (k + d * (l.length + 2) + 1) l true (tally_Most.all l l).1 (tally_Most.all l l).2 i = some true := by
  obtain ⟨h1, h2, h3⟩ := mi_all l
  induction d with
  | zero =>
    intro i k hd hi
    rw [cartouchelaw20_TallyMost.l0, if_neg (by omega), if_pos rfl]
    rcases l with _ | ⟨x, l⟩
    · rw [h1 rfl]; rfl
    · have := h2 (by simp)
      rw [decide_eq_true (by omega), decide_eq_true (by simp)]; rfl
  | succ d ih =>
    intro i k hd hi
    have hil : i < l.length := by omega
    have hne : l ≠ [] := fun e => by rw [e] at hil; simp at hil
    have hm := h2 hne
    have hx := h3 l[i] (List.getElem_mem hil)
    have e2 : wrap64 ((i : Int) + 1) = ((i + 1 : Nat) : Int) := by rw [w64_in (by omega) (by omega)]; omega
    have ef : k + (d + 1) * (l.length + 2) = (k + d * (l.length + 2) + 1 + 1) + l.length := by rw [Nat.succ_mul]; omega
    have hin := inner_law l hl true (tally_Most.all l l).1 (tally_Most.all l l).2 i hil l.length 0 (k + d * (l.length + 2) + 1 + 1) 0 (by omega) (by omega) (by omega) (by omega)
    rw [List.drop_zero, Int.zero_add] at hin
    have e0 : ((0 : Nat) : Int) = 0 := rfl
    rw [e0] at hin
    have ih' := ih (i + 1) k (by omega) (by omega)
    rw [cartouchelaw20_TallyMost.l0, if_pos (by omega), ef, hin, cartouchelaw20_TallyMost.l1, if_neg (by omega), e2, rd46 l i hil]
    simp only [ih', if_pos (show (0 : Int) ≤ i by omega), if_pos (show (i : Int) < l.length by omega)]
    rw [if_neg (by omega)]
    by_cases c2 : tally_Most.cnt l l[i].f1 = (tally_Most.all l l).2
    · rw [if_pos c2, if_neg (by omega)]
      simp
    · rw [if_neg c2, if_neg (fun e => c2 (by rw [e]; exact hm.1.symm))]
theorem law_most (l : List S46) (hl : l.length ≤ 4000) : ∃ k, cartouchelaw20_TallyMost.l0 k l true (tally_Most.all l l).1 (tally_Most.all l l).2 0 = some true :=
  ⟨0 + l.length * (l.length + 2) + 1, outer_law l hl l.length 0 0 rfl (by omega)⟩
end Go.Proofs.Ytndbgdcjhhjaiaa.Pl
