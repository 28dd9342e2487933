/- A row of bytes that '[]byte(s)' made (the model marks it behind its cells), and strings appended to it. -/
import Derived.Lib.FrozenHead
import Derived.Lib.AppendZeros
import Derived.Lib.ConvBytes
import Derived.Laws.BytesArg
import Derived.Test.YtkgonihoeghphaaWWords
import Derived.Test.YtkgonihoeghphaaWLast
import Derived.Test.YtkgonihoeghphaaProg
namespace Go.Proofs.Ytkgonihoeghphaa.Cvb
open Go.RowKit Go.Lib Go.Proofs.YtkgonihoeghphaaW.PrintWords Go.Proofs.YtkgonihoeghphaaW.PrintLast
/-- v is a row of bytes of the call's own, from B on, that holds acc; what is frozen in it lies behind its cells. -/
def At (e : TypeId) (B : Nat) (v : Value) (acc : ByteArray) (w : World) : Prop :=
  ∃ g cap cur fz, v = .slice (some ⟨g, 0, none⟩) acc.size cap ∧ B ≤ g ∧ w.heap[g]? = some (.cells cur e fz) ∧ (fz.2 = 0 ∨ cur.size ≤ fz.1) ∧ acc.size ≤ cap ∧ cap ≤ maxLen ∧ cur.size = cap ∧ cur.toList.take acc.size = strCells acc
theorem storeCells_at (P : Program) (g o : Nat) (t : TypeId) (fz : Nat × Nat) : ∀ (vs : List Value) (i : Nat) (cur : Array Value) (w : World), w.heap[g]? = some (.cells cur t fz) → (fz.2 = 0 ∨ cur.size ≤ fz.1) → o + i + vs.length ≤ cur.size → (∀ v ∈ vs, v.oneCell' = true) →
    (storeCells ⟨g, o, none⟩ vs i).run P w = .ok () (w.setRow g (cur.toList.take (o + i) ++ vs ++ cur.toList.drop (o + i + vs.length)).toArray)
  | [], i, cur, w, hg, _, _, _ => by
    simp only [storeCells, List.append_nil, List.length_nil, Nat.add_zero, List.take_append_drop, Array.toArray_toList]
    rw [setRow_self w g cur t fz hg]
    rfl
  | v :: rest, i, cur, w, hg, hfz, hl, h1 => by
    have hi : o + i < cur.size := by simp at hl; omega
    have hadd : (⟨g, o, none⟩ : Addr).add i = ⟨g, o + i, none⟩ := by unfold Addr.add; split <;> simp_all
    have hcell : w.cell? ⟨g, o + i, none⟩ = some cur[o + i] := by simp [World.cell?, hg, hi]
    have hfro : w.frozen? ⟨g, o + i, none⟩ = false := by
      obtain ⟨lo, hi'⟩ := fz
      simp only [World.frozen?, hg, Bool.and_eq_false_iff, decide_eq_false_iff_not]
      simp only at hfz
      rcases hfz with h | h
      · right; omega
      · left; omega
    have hst : (store ((⟨g, o, none⟩ : Addr).add i) v).run P w = .ok () (w.setRow g (cur.setIfInBounds (o + i) v)) := by
      rw [hadd, run_store P w _ v _ (h1 v (by simp)), hcell]
      simp [hfro, setCell_eq_setRow w g (o + i) cur t fz v hg]
    have ih := storeCells_at P g o t fz rest (i + 1) (cur.setIfInBounds (o + i) v) (w.setRow g (cur.setIfInBounds (o + i) v)) (setRow_heap w g cur _ t _ hg) (by simpa using hfz) (by simp at hl ⊢; omega) (fun x hx => h1 x (by simp [hx]))
    simp only [storeCells, Sem.run_bind, hst, Result.andThen_ok, ih, setRow_setRow]
    congr 3
    have e := list_seg_step cur.toList (o + i) v rest (by simp at hl ⊢; omega)
    simpa [Array.toList_setIfInBounds, Nat.add_assoc] using e
theorem cells_append (s x : ByteArray) : strCells s ++ strCells x = strCells (s ++ x) := by
  simp [strCells, ByteArray.data_append]
theorem append_room {P : Program} (w : World) (t u ty e : TypeId) (i : TypeInfo) (ht : P.underlying t = some (.slice e)) (hu : P.underlying u = some .string) (hi : P.info? e = some i) (hs1 : i.size = 1)
    (g sLen sCap : Nat) (cur : Array Value) (fz : Nat × Nat) (hg : w.heap[g]? = some (.cells cur e fz)) (hfz : fz.2 = 0 ∨ cur.size ≤ fz.1) (s : ByteArray)
    (hroom : sLen + s.size ≤ sCap) (hfit : sLen + s.size ≤ cur.size) :
    (Builtin.append_ #[t, u] ty #[.slice (some ⟨g, 0, none⟩) sLen sCap, .string s]).run P w =
      .ok (.slice (some ⟨g, 0, none⟩) (sLen + s.size) sCap) (w.setRow g (cur.toList.take sLen ++ strCells s ++ cur.toList.drop (sLen + s.size)).toArray) := by
  have hf := run_firstCells_string (P := P) w 1 s
  have hst := storeCells_at P g sLen e fz (strCells s) 0 cur w hg hfz (by simpa [strCells_length] using hfit) (strCells_oneCell s)
  simp only [Nat.add_zero, strCells_length] at hst
  simp [Builtin.append_, run_underlying ht, run_underlying hu, sizeOf, typeInfo, hi, hs1, Builtin.lenOf, hroom, hf, Addr.add_lit, hst]
theorem At.cells {e : TypeId} {B g n cap : Nat} {acc : ByteArray} {w : World} (h : At e B (.slice (some ⟨g, 0, none⟩) n cap) acc w) : ∀ j u, (strCells acc)[j]? = some u → w.cell? ((⟨g, 0, none⟩ : Addr).add j) = some u := by
  obtain ⟨g', cap', cur, fz, hv, hb, hg, _, _, _, _, htake⟩ := h
  injection hv with hv _ _
  injection hv with hv
  injection hv with hv _ _
  subst hv
  intro j u hu
  have hadd : (⟨g, 0, none⟩ : Addr).add j = ⟨g, j, none⟩ := by unfold Addr.add; split <;> simp_all
  rw [hadd, cell_of_row w g j cur e fz hg]
  rw [← htake, List.getElem?_take] at hu
  split at hu
  · simpa using hu
  · cases hu
theorem append_law {P : Program} (w : World) (t u ty e : TypeId) (i : TypeInfo) (ht : P.underlying t = some (.slice e)) (hu : P.underlying u = some .string) (hi : P.info? e = some i) (hz : i.zero = some (.int .u8 0))
    (hsize : i.size = 1) (hby : i.bytes = 1) (B : Nat) (v : Value) (acc s : ByteArray) (h : At e B v acc w) (hbytes : acc.size + s.size ≤ 140737488355328) (hB : B ≤ w.heap.size) :
    ∃ v' w', (Builtin.append_ #[t, u] ty #[v, .string s]).run P w = .ok v' w' ∧ At e B v' (acc ++ s) w' ∧ Below B w w' := by
  have h63 : acc.size + s.size ≤ maxLen := by unfold maxLen; omega
  have hsz : (acc ++ s).size = acc.size + s.size := ByteArray.size_append
  obtain ⟨g, cap, cur, fz, rfl, hbg, hg, hfz, hnc, hcm, hcs, htake⟩ := h
  have h : At e B (.slice (some ⟨g, 0, none⟩) acc.size cap) acc w := ⟨g, cap, cur, fz, rfl, hbg, hg, hfz, hnc, hcm, hcs, htake⟩
  by_cases hroom : acc.size + s.size ≤ cap
  · have hr := append_room (P := P) w t u ty e i ht hu hi hsize g acc.size cap cur fz hg hfz s hroom (by omega)
    have hn : (cur.toList.take acc.size ++ strCells s ++ cur.toList.drop (acc.size + s.size)).toArray.size = cap := by
      simp only [List.size_toArray, List.length_append, List.length_take, List.length_drop, Array.length_toList, strCells_length]
      omega
    refine ⟨_, _, hr, ⟨g, cap, _, fz, by rw [hsz], hbg, setRow_heap w g cur _ e _ hg, by rw [hn]; omega, by omega, hcm, hn, ?_⟩, ⟨rfl, rfl, rfl, by simp, fun k hk => setRow_other w g k _ (by omega)⟩⟩
    rw [htake, cells_append, hsz, ← hsz, ← strCells_length (acc ++ s)]
    exact List.take_left
  · have hr := run_append_grow_string (P := P) w t u ty e i (.int .u8 0) ht hu hi hz ⟨g, 0, none⟩ acc.size cap (strCells acc) (by rw [hsize, strCells_length, Nat.mul_one]) h.cells s (by omega) (by unfold maxLen at h63; omega) (by rw [hby]; exact growslice_fits (by omega) (by omega))
    have hge := grownCap_ge w (acc.size + s.size) cap e
    have hcm2 : grownCap w (acc.size + s.size) cap e ≤ maxLen := grownCap_le_maxLen w (acc.size + s.size) cap e h63
    refine ⟨_, _, hr, ⟨w.heap.size, _, _, (0, 0), by rw [hsz], hB, heap_alloc_new w.drew _, .inl rfl, by omega, hcm2, ?_, ?_⟩, ⟨rfl, rfl, rfl, by simp, fun k hk => Lib.alloc_old w.drew _ k (by simpa using Nat.lt_of_lt_of_le hk hB)⟩⟩
    · have hz1 : (Value.int IntKind.u8 0).cells.size = 1 := rfl
      simp only [Array.size_append, List.size_toArray, size_zeroCells, hz1, strCells_length]
      omega
    · simp only [Array.toList_append, List.append_assoc]
      rw [← List.append_assoc, cells_append, ← strCells_length (acc ++ s)]
      exact List.take_left
theorem wpList_append {P : Program} (w : World) {ops : Array Oper} {rest : List Oper} {o : Oper} {a : Act} {Q : Exit → Act → World → Prop} (hgd : o.guard = none) (sl x : Operand) (t u : TypeId)
    (ho : o.op = .call { callee := .builtin .append, args := #[sl, x], argTypes := #[t, u] })
    (e : TypeId) (i : TypeInfo) (ht : P.underlying t = some (.slice e)) (hu : P.underlying u = some .string) (hi : P.info? e = some i) (hz : i.zero = some (.int .u8 0))
    (hsize : i.size = 1) (hby : i.bytes = 1) (B : Nat) (v : Value) (acc s : ByteArray) (hs : a.eval sl = v) (hx : a.eval x = .string s) (h : At e B v acc w) (hbytes : acc.size + s.size ≤ 140737488355328) (hB : B ≤ w.heap.size)
    (hK : ∀ v' w', At e B v' (acc ++ s) w' → Below B w w' → wpList P ops Q rest (a.put o.dst v') w') : wpList P ops Q (o :: rest) a w := by
  obtain ⟨v', w', hr, h2, h3⟩ := append_law (P := P) w t u o.type e i ht hu hi hz hsize hby B v acc s h hbytes hB
  exact wpList_append_run w hgd sl x t u ho v (.string s) hs hx v' w' hr (hK v' w' h2 h3)
theorem at_new (w : World) (e : TypeId) (s : ByteArray) (hs : s.size ≤ maxLen) : At e w.heap.size (.slice (some ⟨w.heap.size, 0, none⟩) s.size (grownCap w s.size 0 e)) s (bytesWorld w e s) := by
  have hge := grownCap_ge w s.size 0 e
  have hn : (bytesCells w e s).size = grownCap w s.size 0 e := by
    have h1 : s.data.size = s.size := rfl
    simp [bytesCells, h1]
    omega
  refine ⟨_, _, _, _, rfl, Nat.le_refl _, bytesWorld_at_new w e s, .inr (Nat.le_refl _), hge, grownCap_le_maxLen w s.size 0 e hs, hn, ?_⟩
  have h1 : (bytesCells w e s).toList = strCells s ++ (Array.replicate (grownCap w s.size 0 e - s.size) (Value.int .u8 0)).toList := by
    simp [bytesCells, strCells]
  rw [h1, ← strCells_length s]
  exact List.take_left
theorem at_below {e : TypeId} {B : Nat} {v : Value} {acc : ByteArray} {w w' : World} (h : At e B v acc w) (hb : Below w.heap.size w w') : At e B v acc w' := by
  obtain ⟨g, cap, cur, fz, rfl, h1, h2, h3⟩ := h
  exact ⟨g, cap, cur, fz, rfl, h1, (hb.block g (Array.getElem?_eq_some_iff.1 h2).1).trans h2, h3⟩
theorem at_less {e : TypeId} {B B' : Nat} {v : Value} {acc : ByteArray} {w : World} (h : At e B v acc w) (hb : B' ≤ B) : At e B' v acc w := by
  obtain ⟨g, cap, cur, fz, rfl, h1, h2, h3⟩ := h
  exact ⟨g, cap, cur, fz, rfl, Nat.le_trans hb h1, h2, h3⟩
theorem strOfNums_bytesOf (s : ByteArray) : strOfNums (bytesOf s) = s := by
  have h : (strOfNums (bytesOf s)).data = s.data := by
    apply Array.ext'
    rw [strOfNums_data]
    rw [bytesOf, List.map_map]
    have hf : ((fun n : Int => UInt8.ofNat n.toNat) ∘ fun b : UInt8 => (b.toNat : Int)) = id := by
      funext b; simp
    rw [hf, List.map_id]
  rcases h1 : strOfNums (bytesOf s) with ⟨d⟩
  rcases s with ⟨d'⟩
  rw [h1] at h
  cases h
  rfl
/-- string(v). -/
theorem string_of {P : Program} {w : World} {src dst e : TypeId} {B g n cap : Nat} {acc : ByteArray} (hs : P.underlying src = some (.slice e)) (he : P.underlying e = some (.int .u8)) (hd : P.underlying dst = some .string)
    (h : At e B (.slice (some ⟨g, 0, none⟩) n cap) acc w) : (convert src dst (.slice (some ⟨g, 0, none⟩) n cap)).run P w = .ok (.string acc) w := by
  have hc := h.cells
  obtain ⟨g', cap', cur, fz, hv, _, _, _, hcap, hcm, _, _⟩ := h
  injection hv with _ hn hcc
  have hr : ReadsInt w .u8 (some ⟨g, 0, none⟩) n (bytesOf acc) := by
    refine ⟨by rw [bytesOf_length, hn], by unfold maxLen at hcm; omega, fun _ => ⟨_, rfl, fun j hj => ?_⟩⟩
    refine hc j _ ?_
    have hj' : j < acc.data.toList.length := by rw [data_length]; omega
    simp [strCells, bytesOf, List.getD_eq_getElem?_getD, List.getElem?_eq_getElem hj']
  rw [string_of_reads hs he hd hr, strOfNums_bytesOf]
end Go.Proofs.Ytkgonihoeghphaa.Cvb
