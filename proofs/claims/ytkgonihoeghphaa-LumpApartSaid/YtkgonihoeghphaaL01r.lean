/- lump's rows, in plain terms. -/
import Derived.Test.YtkgonihoeghphaaG
import Derived.Test.YtkgonihoeghphaaL01t
import Derived.Test.YtkgonihoeghphaaL01c
import Derived.Test.YtkgonihoeghphaaA10
import Derived.Test.YtkgonihoeghphaaA8
import Derived.Test.YtkgonihoeghphaaA9
namespace Go.Proofs.Ytkgonihoeghphaa.Pl
open Go.RowKit Go.Proofs.Ytkgonihoeghphaa.A Go.Proofs.YtkgonihoeghphaaW.PrintWords Go.Proofs.YtkgonihoeghphaaW.PrintLast

/-- The texts' bytes, one behind the other. -/
def rx : List ByteArray → List UInt8
  | [] => []
  | t :: ts => (lb (D t).length ++ D t) ++ rx ts
def rok (l : List ByteArray) : Bool := l.all fun t => decide ((D t).length ≤ 65535)
/-- A row's bytes. -/
def rb (l : List ByteArray) : List UInt8 × Int := if l.length > 65535 then ([], 4) else if rok l = true then (lb l.length ++ rx l, 0) else ([], 4)
theorem rok_cons (t : ByteArray) (ts : List ByteArray) : rok (t :: ts) = true ↔ (D t).length ≤ 65535 ∧ rok ts = true := by simp [rok]
theorem rx_len : ∀ (l : List ByteArray), rok l = true → (rx l).length ≤ l.length * 65538
  | [], _ => by simp [rx]
  | t :: ts, h => by
    have h := (rok_cons t ts).1 h
    have := rx_len ts h.2
    have := lb_len (D t).length
    simp only [rx, List.length_append, List.length_cons]; omega
theorem row_go : ∀ (l : List ByteArray) (acc : List UInt8), acc.length + l.length * 65538 ≤ 140737488355328 → lump_Row.go l (B acc) = some (if rok l = true then (B (acc ++ rx l), 0) else (B [], 4))
  | [], acc, _ => by simp [lump_Row.go, rok, rx]
  | t :: ts, acc, h => by
    rw [lump_Row.go, text_f]
    simp only [Option.bind_some, List.length_cons] at h ⊢
    have hb := lb_len (D t).length
    by_cases a : (D t).length > 65535
    · simp only [tx, if_pos a]
      rw [if_neg (by omega), if_neg (by rw [rok_cons]; omega)]; rfl
    · simp only [tx, if_neg a]
      rw [if_pos trivial, if_pos (by rw [size_B, size_B, List.length_append]; omega), B_append, row_go ts _ (by simp; omega)]
      by_cases c : rok ts = true
      · rw [if_pos c, if_pos ((rok_cons t ts).2 ⟨by omega, c⟩), rx, List.append_assoc]
      · rw [if_neg c, if_neg (fun e => c ((rok_cons t ts).1 e).2)]
theorem refrow_go : ∀ (l : List ByteArray) (acc : List UInt8), acc.length + l.length * 65538 ≤ 140737488355328 → cartoucheref01_Row.go l (B acc) = some (if rok l = true then (B (acc ++ rx l), 0) else (B [], 4))
  | [], acc, _ => by simp [cartoucheref01_Row.go, rok, rx]
  | t :: ts, acc, h => by
    rw [cartoucheref01_Row.go, reftext_f]
    simp only [Option.bind_some, List.length_cons] at h ⊢
    have hb := lb_len (D t).length
    by_cases a : (D t).length > 65535
    · simp only [tx, if_pos a]
      rw [if_neg (by omega), if_neg (by rw [rok_cons]; omega)]; rfl
    · simp only [tx, if_neg a]
      rw [if_pos trivial, if_pos (by rw [size_B, size_B, List.length_append]; omega), B_append, refrow_go ts _ (by simp; omega)]
      by_cases c : rok ts = true
      · rw [if_pos c, if_pos ((rok_cons t ts).2 ⟨by omega, c⟩), rx, List.append_assoc]
      · rw [if_neg c, if_neg (fun e => c ((rok_cons t ts).1 e).2)]
theorem row_f (l : List ByteArray) : lump_Row.f l = some (B (rb l).1, (rb l).2) := by
  unfold lump_Row.f rb
  by_cases a : l.length > 65535
  · rw [if_pos (by omega), if_pos a]; rfl
  · have hb := lb_len l.length
    rw [if_neg (by omega), if_neg a, length_f _ (by omega)]
    simp only [Option.bind_some]
    rw [if_pos (by rw [size_B]; omega), row_go l _ (by omega)]
    by_cases c : rok l = true
    · rw [if_pos c, if_pos c]
    · rw [if_neg c, if_neg c]
theorem refrow_f01 (l : List ByteArray) : cartoucheref01_Row.f l = some (B (rb l).1, (rb l).2) := by
  unfold cartoucheref01_Row.f rb
  by_cases a : l.length > 65535
  · rw [if_pos (by omega), if_pos a]; rfl
  · have hb := lb_len l.length
    rw [if_neg (by omega), if_neg a, size_f _ (by omega)]
    simp only [Option.bind_some]
    rw [if_pos (by rw [size_B]; omega), refrow_go l _ (by omega)]
    by_cases c : rok l = true
    · rw [if_pos c, if_pos c]
    · rw [if_neg c, if_neg c]
/-! ### a row taken -/
def trs (most : Int) : Nat → List ByteArray → List UInt8 → List ByteArray × List UInt8 × Int
  | 0, acc, l => (acc, l, 0)
  | n + 1, acc, l => if (tt l most).2.2 = 0 then trs most n (acc ++ [B (tt l most).1]) (tt l most).2.1 else ([], [], (tt l most).2.2)
def tr (l : List UInt8) (many most : Int) : List ByteArray × List UInt8 × Int :=
  if (tl l).2.2 = 0 then (if many < 0 ∨ ((tl l).1 : Int) > many then ([], [], 4) else trs most (tl l).1 [] (tl l).2.1) else ([], [], (tl l).2.2)
def Tr (s : ByteArray) (many most : Int) : Option (List ByteArray × ByteArray × Int) := some ((tr (D s) many most).1, B (tr (D s) many most).2.1, (tr (D s) many most).2.2)
theorem trs_len (most : Int) : ∀ (n : Nat) (acc : List ByteArray) (l : List UInt8), (trs most n acc l).1.length ≤ acc.length + n
  | 0, acc, l => by simp [trs]
  | n + 1, acc, l => by
    unfold trs
    split
    · have := trs_len most n (acc ++ [B (tt l most).1]) (tt l most).2.1
      simp at this; omega
    · simp
theorem tr_len (l : List UInt8) (many most : Int) : (tr l many most).1.length ≤ 65535 := by
  unfold tr
  have := tl_le l
  split
  · split
    · simp
    · have := trs_len most (tl l).1 [] (tl l).2.1
      simp at this; omega
  · simp
theorem row_loop (most : Int) (n : Nat) (hn : n ≤ 65535) (d : Nat) : ∀ (k i : Nat) (acc : List ByteArray) (l : List UInt8), n - i = d → i ≤ n → d < k → acc.length = i →
    lump_TakeRow.l0 k most (B l) acc n i = some ((trs most d acc l).1, B (trs most d acc l).2.1, (trs most d acc l).2.2) := by
  induction d with
  | zero =>
    intro k i acc l hd hi hk ha
    obtain ⟨k, rfl⟩ : ∃ m, k = m + 1 := ⟨k - 1, by omega⟩
    simp only [lump_TakeRow.l0, trs]
    rw [if_neg (by omega)]
  | succ d ih =>
    intro k i acc l hd hi hk ha
    obtain ⟨k, rfl⟩ : ∃ m, k = m + 1 := ⟨k - 1, by omega⟩
    simp only [lump_TakeRow.l0, trs]
    rw [if_pos (by omega), takeText]
    simp only [Tt, Option.bind_some, D_B]
    by_cases c : (tt l most).2.2 = 0
    · have e : (i : Int) + 1 = ((i + 1 : Nat) : Int) := by omega
      rw [if_pos c, if_pos c, if_pos (by omega), i64_wrap (x := (i : Int) + 1) (by omega) (by omega), e]
      exact ih k (i + 1) _ _ (by omega) (by omega) (by omega) (by simp [ha])
    · rw [if_neg c, if_neg c]; rfl
theorem refrow_loop01 (most : Int) (n : Nat) (hn : n ≤ 65535) (d : Nat) : ∀ (k i : Nat) (acc : List ByteArray) (l : List UInt8), n - i = d → i ≤ n → d + 1 < k → acc.length = i →
    cartoucheref01_TakeRow.l0 k most n (B l) acc i = some ((trs most d acc l).1, B (trs most d acc l).2.1, (trs most d acc l).2.2) := by
  induction d with
  | zero =>
    intro k i acc l hd hi hk ha
    obtain ⟨k, rfl⟩ : ∃ m, k = m + 1 := ⟨k - 1, by omega⟩
    simp only [cartoucheref01_TakeRow.l0, trs]
    rw [if_neg (by omega)]
  | succ d ih =>
    intro k i acc l hd hi hk ha
    obtain ⟨k, rfl⟩ : ∃ m, k = m + 1 := ⟨k - 1, by omega⟩
    simp only [cartoucheref01_TakeRow.l0, trs]
    rw [if_pos (by omega), refTakeText _ _ k (by omega)]
    simp only [Tt, Option.bind_some, D_B]
    by_cases c : (tt l most).2.2 = 0
    · have e : (i : Int) + 1 = ((i + 1 : Nat) : Int) := by omega
      rw [if_pos c, if_pos c, if_pos (by omega), i64_wrap (x := (i : Int) + 1) (by omega) (by omega), e]
      exact ih k (i + 1) _ _ (by omega) (by omega) (by omega) (by simp [ha])
    · rw [if_neg c, if_neg c]; rfl
theorem takeRow_f (s : ByteArray) (many most : Int) (k : Nat) (hk : 65536 < k) : lump_TakeRow.f k s many most = Tr s many most := by
  have hle := tl_le (D s)
  unfold lump_TakeRow.f Tr tr
  rw [takeLength]
  simp only [Tl, Option.bind_some]
  by_cases a : (tl (D s)).2.2 = 0
  · rw [if_pos a, if_pos a]
    by_cases b : many < 0
    · rw [if_pos b, if_pos (.inl b)]; rfl
    · rw [if_neg b]
      by_cases c : ((tl (D s)).1 : Int) > many
      · rw [if_pos c, if_pos (.inr c)]; rfl
      · rw [if_neg c, if_neg (by omega)]
        exact row_loop most (tl (D s)).1 hle _ k 0 [] _ (by omega) (by omega) (by omega) rfl
  · rw [if_neg a, if_neg a]; rfl
theorem refTakeRow_f (s : ByteArray) (many most : Int) (k : Nat) (hk : 65540 < k) : cartoucheref01_TakeRow.f k s many most = Tr s many most := by
  have hle := tl_le (D s)
  obtain ⟨k, rfl⟩ : ∃ m, k = m + 1 := ⟨k - 1, by omega⟩
  unfold cartoucheref01_TakeRow.f Tr tr
  rw [takeSize]
  simp only [Tl, Option.bind_some, cartoucheref01_TakeRow.j0]
  by_cases a : (tl (D s)).2.2 = 0
  · rw [if_pos a, if_pos a]
    by_cases b : many < 0
    · rw [if_pos b, if_pos trivial, if_pos (.inl b)]; rfl
    · rw [if_neg b]
      by_cases c : ((tl (D s)).1 : Int) > many
      · rw [if_pos (decide_eq_true c), if_pos (.inr c)]; rfl
      · rw [if_neg (by simpa using c), if_neg (by omega)]
        exact refrow_loop01 most (tl (D s)).1 hle _ k 0 [] _ (by omega) (by omega) (by omega) rfl
  · rw [if_neg a, if_neg a]; rfl
/-! ### what was written is taken -/
theorem trs_rx : ∀ (l : List ByteArray) (acc : List ByteArray) (more : List UInt8), rok l = true → trs 65535 l.length acc (rx l ++ more) = (acc ++ l, more, 0)
  | [], acc, more, _ => by simp [trs, rx]
  | t :: ts, acc, more, h => by
    have h := (rok_cons t ts).1 h
    have e := tt_tx (D t) (rx ts ++ more) 65535 h.1 (by omega)
    simp only [List.length_cons, trs, rx, List.append_assoc] at e ⊢
    rw [e]
    simp only [if_true]
    rw [trs_rx ts _ more h.2, B_D, List.append_assoc]; rfl
theorem rb_ok {l : List ByteArray} (h : (rb l).2 = 0) : l.length ≤ 65535 ∧ rok l = true ∧ (rb l).1 = lb l.length ++ rx l := by
  unfold rb at h ⊢
  by_cases a : l.length > 65535
  · rw [if_pos a] at h; simp at h
  · rw [if_neg a] at h ⊢
    by_cases b : rok l = true
    · rw [if_pos b]; exact ⟨by omega, b, rfl⟩
    · rw [if_neg b] at h; simp at h
theorem rb_code (l : List ByteArray) : (rb l).2 = 0 ∨ (rb l).2 = 4 := by
  unfold rb
  split
  · simp
  · split <;> simp
theorem tr_rb (l : List ByteArray) (more : List UInt8) (h : (rb l).2 = 0) : tr ((rb l).1 ++ more) l.length 65535 = (l, more, 0) := by
  obtain ⟨h1, h2, h3⟩ := rb_ok h
  unfold tr
  rw [h3, List.append_assoc, tl_lb _ h1]
  simp only [if_true]
  rw [if_neg (by omega), trs_rx l [] more h2]; rfl
theorem rb_inj {l m : List ByteArray} (hl : (rb l).2 = 0) (hm : (rb m).2 = 0) (h : (rb l).1 = (rb m).1) : l = m := by
  obtain ⟨h1, h2, h3⟩ := rb_ok hl
  obtain ⟨g1, g2, g3⟩ := rb_ok hm
  rw [h3, g3] at h
  have e1 := tl_lb _ h1 (rx l)
  rw [h, tl_lb _ g1] at e1
  injection e1 with e2 e3
  injection e3 with e3 _
  have t1 := trs_rx l [] [] h2
  have t2 := trs_rx m [] [] g2
  rw [List.append_nil, List.nil_append] at t1 t2
  rw [← e2, ← e3, t2] at t1
  injection t1 with t1 _
  exact t1.symm
theorem same_loop01 (l m : List ByteArray) (hl : l.length < 140737488355328) (he : l.length = m.length) (d : Nat) : ∀ (i k : Nat), l.length - i = d → i ≤ l.length → d < k → cartoucheref01_Same.l0 k l m i = some (decide (l.drop i = m.drop i)) := by
  induction d with
  | zero =>
    intro i k hd hi hk
    obtain ⟨k, rfl⟩ : ∃ n, k = n + 1 := ⟨k - 1, by omega⟩
    simp only [cartoucheref01_Same.l0]
    rw [if_neg (by omega), List.drop_of_length_le (by omega), List.drop_of_length_le (by omega)]; rfl
  | succ d ih =>
    intro i k hd hi hk
    obtain ⟨k, rfl⟩ : ∃ n, k = n + 1 := ⟨k - 1, by omega⟩
    have hil : i < l.length := by omega
    have him : i < m.length := by omega
    simp only [cartoucheref01_Same.l0]
    have e : (i : Int) + 1 = ((i + 1 : Nat) : Int) := by omega
    have r1 : rdOf ByteArray.empty l (i : Int) = l[i] := by simp [rdOf, List.getD_eq_getElem?_getD, List.getElem?_eq_getElem hil]
    have r2 : rdOf ByteArray.empty m (i : Int) = m[i] := by simp [rdOf, List.getD_eq_getElem?_getD, List.getElem?_eq_getElem him]
    rw [if_pos (by omega), if_pos (by omega), if_pos (by omega), i64_wrap (x := (i : Int) + 1) (by omega) (by omega), e, r1, r2, ih (i + 1) k (by omega) (by omega) (by omega)]
    have d1 := List.drop_eq_getElem_cons hil
    have d2 := List.drop_eq_getElem_cons him
    rw [d1, d2]
    by_cases c : l[i] = m[i]
    · rw [if_pos (by rw [c])]
      congr 1
      exact decide_eq_decide.2 ⟨fun h => by rw [h, c], fun h => (List.cons.inj h).2⟩
    · rw [if_neg (fun h => c (toList_inj.1 h)), decide_eq_false (fun h => c (List.cons.inj h).1)]
theorem same01_f (l m : List ByteArray) (hl : l.length < 140737488355328) (k : Nat) (hk : l.length < k) : cartoucheref01_Same.f k l m = some (decide (l = m)) := by
  unfold cartoucheref01_Same.f
  by_cases h : l.length = m.length
  · rw [if_pos (by omega)]
    simpa using same_loop01 l m hl h _ 0 k rfl (by omega) (by omega)
  · rw [if_neg (by omega)]
    have : l ≠ m := fun e => h (by rw [e])
    simp [this]
/-! ### a beginning of bytes -/
theorem tl_cut (n : Nat) (_h : n ≤ 65535) (a : Nat) (ha : a < (lb n).length) (r : List UInt8) : (tl ((lb n ++ r).take a)).2.2 = 2 := by
  unfold lb at ha ⊢
  by_cases c : n ≤ 250
  · rw [if_pos c] at ha ⊢
    simp at ha; subst ha; rfl
  · rw [if_neg c] at ha ⊢
    simp at ha
    have : a = 0 ∨ a = 1 ∨ a = 2 := by omega
    rcases this with rfl | rfl | rfl
    · rfl
    · simp [tl]
    · simp [tl]
theorem take_app {l r : List UInt8} {a : Nat} (h : l.length ≤ a) : (l ++ r).take a = l ++ r.take (a - l.length) := by
  rw [List.take_append, List.take_of_length_le h]
theorem tt_cut (l : List UInt8) (h : l.length ≤ 65535) (a : Nat) (ha : a < (lb l.length ++ l).length) (r : List UInt8) : (tt (((lb l.length ++ l) ++ r).take a) 65535).2.2 = 2 := by
  unfold tt
  by_cases c : a < (lb l.length).length
  · have := tl_cut l.length h a c (l ++ r)
    rw [← List.append_assoc] at this
    rw [if_neg (by omega)]; exact this
  · rw [List.append_assoc, take_app (by omega), tl_lb _ h]
    simp only [if_true]
    rw [List.length_append] at ha
    rw [if_neg (by omega), if_pos (by simp; omega)]
theorem trs_cut : ∀ (l : List ByteArray) (acc : List ByteArray) (a : Nat), rok l = true → a < (rx l).length → (trs 65535 l.length acc ((rx l).take a)).2.2 = 2
  | [], acc, a, _, h => by simp [rx] at h
  | t :: ts, acc, a, h, ha => by
    have h := (rok_cons t ts).1 h
    simp only [List.length_cons, trs, rx] at ha ⊢
    by_cases c : a < (lb (D t).length ++ D t).length
    · have := tt_cut (D t) h.1 a c (rx ts)
      rw [if_neg (by omega)]; exact this
    · rw [take_app (by omega), tt_tx (D t) _ 65535 h.1 (by omega)]
      simp only [if_true]
      rw [List.length_append] at ha
      exact trs_cut ts _ _ h.2 (by omega)
theorem tr_cut (l : List ByteArray) (h : (rb l).2 = 0) (a : Nat) (ha : a < (rb l).1.length) : (tr ((rb l).1.take a) l.length 65535).2.2 = 2 := by
  obtain ⟨h1, h2, h3⟩ := rb_ok h
  rw [h3] at ha ⊢
  unfold tr
  by_cases c : a < (lb l.length).length
  · have := tl_cut l.length h1 a c (rx l)
    rw [if_neg (by omega)]; exact this
  · rw [take_app (by omega), tl_lb _ h1]
    simp only [if_true]
    rw [List.length_append] at ha
    rw [if_neg (by omega)]
    exact trs_cut l [] _ h2 (by omega)
end Go.Proofs.Ytkgonihoeghphaa.Pl
