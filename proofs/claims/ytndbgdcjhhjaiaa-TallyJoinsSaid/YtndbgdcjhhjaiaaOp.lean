/- Arguments of whatever nesting, read by kinds: slices of strings, of structs; structs. -/
import Derived.Test.YtndbgdcjhhjaiaaWWords
import Derived.Deep.Slices
import Derived.Deep.Fields
import Derived.ChangeSame
import Derived.SizedLaws
import Derived.WideShapes
import Derived.ChangeOld
namespace Go.Proofs.Ytndbgdcjhhjaiaa.Op
open Go.ChangeShapes Go.WideShapes Go.Deep Go.RowKit Go.Proofs.YtndbgdcjhhjaiaaW.PrintWords

/-- What comes in at type t reads by d, and what so reads meets Q. -/
def Rd {α : Type} (P : Program) (t : TypeId) (d : Kd α) (Q : α → Prop) : Prop :=
  ∀ (H : Type) (enc : TypeId × Value → H) (w : World) (base : Nat) (sp : Nat → Bool) (held : Bool) (fuel : Nat) (cs : List Value) (y : DataW H × List MemPlace),
    DataW.trod enc P w base sp held fuel t cs = some y → (y.1.weights P t).all (· ≤ reachBytes) = true → ∃ x, d.K w x cs ∧ Q x

theorem rd_int {P : Program} {t : TypeId} {k : IntKind} (ht : P.underlying t = some (.int k)) : Rd P t (Kd.int k) (fun n => (Lit.int k n).wf = true) := by
  intro H enc w base sp held fuel cs y h _
  obtain ⟨n, rfl, rfl, hn⟩ := DataW.trod_int ht h
  exact ⟨n, rfl, hn⟩
theorem rd_bool {P : Program} {t : TypeId} (ht : P.underlying t = some .bool) : Rd P t Kd.bool (fun _ => True) := by
  intro H enc w base sp held fuel cs y h _
  obtain ⟨n, rfl, rfl⟩ := DataW.trod_bool ht h
  exact ⟨n, rfl, trivial⟩
theorem rd_str {P : Program} {t : TypeId} (ht : P.underlying t = some .string) : Rd P t Kd.string (fun s => s.size ≤ 140737488351232) := by
  intro H enc w base sp held fuel cs y h hw
  obtain ⟨s, rfl, rfl, _⟩ := DataW.trod_string ht h
  refine ⟨s, rfl, ?_⟩
  have z := List.all_eq_true.1 hw s.data.toList.length (by simp [DataW.weights])
  have z' : s.data.toList.length ≤ reachBytes := by simpa using z
  rw [Array.length_toList] at z'
  exact z'
theorem all_of {l l' : List Nat} (h : l.all (· ≤ reachBytes) = true) (hs : ∀ n ∈ l', n ∈ l) : l'.all (· ≤ reachBytes) = true :=
  List.all_eq_true.2 fun n hn => List.all_eq_true.1 h n (hs n hn)
theorem weightsAll_mem {H : Type} {P : Program} {e : TypeId} : ∀ {ds : List (DataW H)} {d : DataW H}, d ∈ ds → ∀ n ∈ d.weights P e, n ∈ DataW.weightsAll P e ds
  | d0 :: ds, d, hd, n, hn => by
    simp only [DataW.weightsAll, List.mem_append]
    rcases List.mem_cons.1 hd with rfl | hd
    · exact .inl hn
    · exact .inr (weightsAll_mem hd n hn)
theorem choose_list {α β : Type} (R : α → β → Prop) : ∀ (l : List α), (∀ a ∈ l, ∃ b, R a b) → ∃ m : List β, m.length = l.length ∧ ∀ (i : Nat) (a : α) (b : β), l[i]? = some a → m[i]? = some b → R a b
  | [], _ => ⟨[], rfl, fun i a b h => by simp at h⟩
  | a :: l, h => by
    obtain ⟨b, hb⟩ := h a (by simp)
    obtain ⟨m, hm, hr⟩ := choose_list R l (fun x hx => h x (by simp [hx]))
    refine ⟨b :: m, by simp [hm], fun i x y hx hy => ?_⟩
    rcases i with _ | i
    · simp at hx hy; subst hx; subst hy; exact hb
    · exact hr i x y (by simpa using hx) (by simpa using hy)
theorem rd_slice {α : Type} {P : Program} {t e : TypeId} {d : Kd α} {Q : α → Prop} (ht : P.underlying t = some (.slice e)) (hsz : P.cellsOf e = d.sz) {B : Nat} (hB : P.bytesOf e = B) (he : Rd P e d Q) :
    Rd P t (Kd.slice e d) (fun l => l.length * B ≤ 140737488351232 ∧ ∀ x ∈ l, Q x) := by
  subst hB
  intro H enc w base sp held fuel cs y h hw
  rcases DataW.trod_slice ht h with ⟨rfl, rfl⟩ | ⟨a, len, cap, elems, rest, n, rfl, rfl, rfl, hb, hl, hm, hlen, hel, _, _⟩
  · exact ⟨[], ⟨none, 0, rfl, Nat.le_refl _, rfl, by simp, fun h => absurd h (by simp)⟩, by simp, by simp⟩
  · have hW : ∀ y ∈ elems, (y.1.weights P e).all (· ≤ reachBytes) = true := by
      intro y hy
      refine all_of hw fun n hn => ?_
      simp only [DataW.weights, ht, List.mem_cons, List.mem_append]
      exact .inr (.inl (weightsAll_mem (List.mem_map_of_mem hy) n hn))
    have hex : ∀ i, i < len → ∃ x c, d.K w x c ∧ Q x ∧ c.length = d.sz ∧ ∀ j u, c[j]? = some u → w.cell? (a.add (i * d.sz + j)) = some u := by
      intro i hi
      have h1 := hel i hi
      obtain ⟨y, hy⟩ : ∃ y, elems[i]? = some y := ⟨_, List.getElem?_eq_getElem (by omega)⟩
      rw [hy, Option.bind_eq_some_iff] at h1
      obtain ⟨c, hc, ht'⟩ := h1
      obtain ⟨x, hx, hq⟩ := he H enc w base sp held n c y ht' (hW y (List.mem_of_getElem? hy))
      refine ⟨x, c, hx, hq, d.K_len hx, fun j u hu => ?_⟩
      obtain ⟨_, hcl, hat⟩ := World.cells?_some hc
      have hj : j < P.cellsOf e := by rw [hsz, ← d.K_len hx]; exact (List.getElem?_eq_some_iff.1 hu).1
      have h2 := hat j hj
      rw [hu, hsz] at h2
      rw [← Go.Deep.add_add]
      exact h2
    obtain ⟨l, hll, hlr⟩ := choose_list (fun i x => ∃ c, d.K w x c ∧ Q x ∧ c.length = d.sz ∧ ∀ j u, c[j]? = some u → w.cell? (a.add (i * d.sz + j)) = some u) (List.range len) (fun i hi => by
      obtain ⟨x, c, h⟩ := hex i (List.mem_range.1 hi)
      exact ⟨x, c, h⟩)
    rw [List.length_range] at hll
    have hget : ∀ i x, l[i]? = some x → ∃ c, d.K w x c ∧ Q x ∧ c.length = d.sz ∧ ∀ j u, c[j]? = some u → w.cell? (a.add (i * d.sz + j)) = some u := by
      intro i x hx
      have hi : i < len := by rw [← hll]; exact (List.getElem?_eq_some_iff.1 hx).1
      exact hlr i i x (by simp [hi]) hx
    refine ⟨l, ⟨some a, cap, by rw [hll], by omega, rfl, ?_, fun _ => ⟨a, rfl, fun i x hx => ?_⟩⟩, ?_, fun x hx => ?_⟩
    · unfold maxLen at hm; omega
    · obtain ⟨c, h1, _, h3, h4⟩ := hget i x hx
      exact ⟨c, h3, h1, h4⟩
    · have z := List.all_eq_true.1 hw ((elems.length + rest.length) * P.bytesOf e) (by simp [DataW.weights, ht])
      have z' : (elems.length + rest.length) * P.bytesOf e ≤ reachBytes := by simpa using z
      have : l.length * P.bytesOf e ≤ (elems.length + rest.length) * P.bytesOf e := Nat.mul_le_mul_right _ (by omega)
      exact Nat.le_trans this z'
    · obtain ⟨i, hi⟩ := List.getElem?_of_mem hx
      exact (hget i x hi).choose_spec.2.1
theorem rd_iso {α β : Type} {P : Program} {t : TypeId} {d : Kd α} {Q : α → Prop} (f : β → α) (g : α → β) (hfg : ∀ p, f (g p) = p) (h : Rd P t d Q) : Rd P t (Kd.iso d f) (fun x => Q (f x)) := by
  intro H enc w base sp held fuel cs y ht hw
  obtain ⟨x, hx, hq⟩ := h H enc w base sp held fuel cs y ht hw
  refine ⟨g x, ?_, by show Q (f (g x)); rw [hfg]; exact hq⟩
  show d.K w (f (g x)) cs
  rw [hfg]; exact hx
theorem weightsEach_mem {H : Type} {P : Program} {ts : List TypeId} {ds : List (DataW H)} {j : Nat} {t : TypeId} {d : DataW H} (hw : (DataW.weightsEach P ts ds).all (· ≤ reachBytes) = true) (ht : ts[j]? = some t) (hd : ds[j]? = some d) : (d.weights P t).all (· ≤ reachBytes) = true :=
  all_of hw (DataW.weights_mem_each ht hd)
/-- A struct of two fields of one cell each. -/
theorem rd_struct2 {α0 α1 : Type} {P : Program} {t : TypeId} {f0 f1 : Field} {d0 : Kd α0} {d1 : Kd α1} {Q0 : α0 → Prop} {Q1 : α1 → Prop} (ht : P.underlying t = some (.struct #[f0, f1])) (hC : P.cellsOf t = 2)
    (o : f0.offset = 0 ∧ f1.offset = 1) (c : P.cellsOf f0.type = 1 ∧ P.cellsOf f1.type = 1) (h0 : Rd P f0.type d0 Q0) (h1 : Rd P f1.type d1 Q1) :
    Rd P t (Kd.pair d0 d1) (fun p => Q0 p.1 ∧ Q1 p.2) := by
  intro H enc w base sp held fuel cs y h hw
  obtain ⟨xs, n, _, rfl, hlen, hxl, hf⟩ := DataW.trod_struct ht h
  rw [hC] at hlen
  match cs, hlen, xs, hxl with
  | [a, b], _, [x0, x1], _ =>
    simp only [DataW.weights, ht] at hw
    have e0 := hf 0 f0 rfl
    have e1 := hf 1 f1 rfl
    rw [o.1, c.1] at e0
    rw [o.2, c.2] at e1
    obtain ⟨p0, k0, q0⟩ := h0 H enc w base sp held n [a] x0 e0 (weightsEach_mem (j := 0) hw rfl rfl)
    obtain ⟨p1, k1, q1⟩ := h1 H enc w base sp held n [b] x1 e1 (weightsEach_mem (j := 1) hw rfl rfl)
    exact ⟨(p0, p1), ⟨[a], [b], rfl, k0, k1⟩, q0, q1⟩
/-- A struct of four fields of one cell each. -/
theorem rd_struct4 {α0 α1 α2 α3 : Type} {P : Program} {t : TypeId} {f0 f1 f2 f3 : Field} {d0 : Kd α0} {d1 : Kd α1} {d2 : Kd α2} {d3 : Kd α3} {Q0 : α0 → Prop} {Q1 : α1 → Prop} {Q2 : α2 → Prop} {Q3 : α3 → Prop}
    (ht : P.underlying t = some (.struct #[f0, f1, f2, f3])) (hC : P.cellsOf t = 4)
    (o : f0.offset = 0 ∧ f1.offset = 1 ∧ f2.offset = 2 ∧ f3.offset = 3) (c : P.cellsOf f0.type = 1 ∧ P.cellsOf f1.type = 1 ∧ P.cellsOf f2.type = 1 ∧ P.cellsOf f3.type = 1)
    (h0 : Rd P f0.type d0 Q0) (h1 : Rd P f1.type d1 Q1) (h2 : Rd P f2.type d2 Q2) (h3 : Rd P f3.type d3 Q3) :
    Rd P t (Kd.pair d0 (Kd.pair d1 (Kd.pair d2 d3))) (fun p => Q0 p.1 ∧ Q1 p.2.1 ∧ Q2 p.2.2.1 ∧ Q3 p.2.2.2) := by
  intro H enc w base sp held fuel cs y h hw
  obtain ⟨xs, n, _, rfl, hlen, hxl, hf⟩ := DataW.trod_struct ht h
  rw [hC] at hlen
  match cs, hlen, xs, hxl with
  | [a, b, c', d], _, [x0, x1, x2, x3], _ =>
    simp only [DataW.weights, ht] at hw
    have e0 := hf 0 f0 rfl
    have e1 := hf 1 f1 rfl
    have e2 := hf 2 f2 rfl
    have e3 := hf 3 f3 rfl
    rw [o.1, c.1] at e0
    rw [o.2.1, c.2.1] at e1
    rw [o.2.2.1, c.2.2.1] at e2
    rw [o.2.2.2, c.2.2.2] at e3
    obtain ⟨p0, k0, q0⟩ := h0 H enc w base sp held n [a] x0 e0 (weightsEach_mem (j := 0) hw rfl rfl)
    obtain ⟨p1, k1, q1⟩ := h1 H enc w base sp held n [b] x1 e1 (weightsEach_mem (j := 1) hw rfl rfl)
    obtain ⟨p2, k2, q2⟩ := h2 H enc w base sp held n [c'] x2 e2 (weightsEach_mem (j := 2) hw rfl rfl)
    obtain ⟨p3, k3, q3⟩ := h3 H enc w base sp held n [d] x3 e3 (weightsEach_mem (j := 3) hw rfl rfl)
    exact ⟨(p0, p1, p2, p3), ⟨[a], [b, c', d], rfl, k0, [b], [c', d], rfl, k1, [c'], [d], rfl, k2, k3⟩, q0, q1, q2, q3⟩
/-- An argument: what it reads as. -/
theorem rd_arg {α H : Type} {enc : TypeId × Value → H} {P : Program} {w : World} {base : Nat} {sp : Nat → Bool} {held : Bool} {t : TypeId} {v : Value} {d : DataW H} {p : List MemPlace} {k : Kd α} {Q : α → Prop} {ts : List TypeId} {ds : List (DataW H)}
    (hr : Rd P t k Q) (hsz : (DataW.weightsEach P ts ds).all (· ≤ reachBytes) = true) (j : Nat) (ht : ts[j]? = some t) (hd : ds[j]? = some d) (h : DataW.Trod enc P w base sp held t v d p) : ∃ x, k.K w x v.cells.toList ∧ Q x := by
  obtain ⟨fuel, hf⟩ := h
  exact hr H enc w base sp held fuel _ _ hf (weightsEach_mem hsz ht hd)
/-- The same of a slice's value, of a struct's. -/
theorem arg_slice {α : Type} {w : World} {e : Nat} {k : Kd α} {v : Value} {l : List α} (hv : ∃ a n c, v = .slice a n c) (h : (Kd.slice e k).K w l v.cells.toList) : ∃ A c, v = .slice A l.length c ∧ l.length ≤ c ∧ k.C w A l.length l := by
  obtain ⟨a, n, c, rfl⟩ := hv
  obtain ⟨A, c', hc, h1, h2⟩ := h
  have e : Value.slice a n c = .slice A l.length c' := by simpa [Value.cells] using hc
  exact ⟨A, c', e, h1, h2⟩
theorem arg_agg {v : Value} {cs : List Value} (hv : ∃ c : Array Value, v = .agg c) (h : v.cells.toList = cs) : v = .agg cs.toArray := by
  obtain ⟨c, rfl⟩ := hv
  have e : c.toList = cs := by simpa [Value.cells] using h
  subst e; simp
end Go.Proofs.Ytndbgdcjhhjaiaa.Op
