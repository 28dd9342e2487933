/- The bytes of a history behind another one are those of both. Condition: the arguments hold together at most 1048576 values and letters (the given second form). -/
import Derived.Test.YtpfmdpbhmilepaaA5
import Derived.Test.YtpfmdpbhmilepaaG
import Derived.Test.YtpfmdpbhmilepaaL01t
import Derived.Test.YtpfmdpbhmilepaaL01c
import Derived.Test.YtpfmdpbhmilepaaL06
import Derived.Test.YtpfmdpbhmilepaaL06h
namespace Go.Proofs.Ytpfmdpbhmilepaa.Pure
open Go.RowKit Go.Proofs.Ytpfmdpbhmilepaa.A Go.Proofs.YtpfmdpbhmilepaaW.PrintWords Go.Proofs.YtpfmdpbhmilepaaW.PrintLast Go.Proofs.Ytpfmdpbhmilepaa.Pl

theorem joins_loop (x y : List ByteArray) (hx : x.length + y.length ≤ 256) (d : Nat) : ∀ (i k : Nat), (x ++ y).length - i = d → i ≤ (x ++ y).length → d < k →
    cartouchelaw06_EventJoins.l0 k true x y (x ++ y) i = some true := by
  have hxy : (x ++ y).length = x.length + y.length := List.length_append
  induction d with
  | zero =>
    intro i k hd hi hk
    obtain ⟨k, rfl⟩ : ∃ m, k = m + 1 := ⟨k - 1, by omega⟩
    simp only [cartouchelaw06_EventJoins.l0]
    rw [if_neg (by omega)]
  | succ d ih =>
    intro i k hd hi hk
    obtain ⟨k, rfl⟩ : ∃ m, k = m + 1 := ⟨k - 1, by omega⟩
    have hw : wrap64 ((i : Int) + 1) = ((i + 1 : Nat) : Int) := by rw [i64_wrap (by omega) (by omega)]; omega
    have hih := ih (i + 1) k (by omega) (by omega) (by omega)
    simp only [cartouchelaw06_EventJoins.l0]
    rw [if_pos (by omega), hw]
    by_cases h : i < x.length
    · have e : rdOf ByteArray.empty (x ++ y) i = rdOf ByteArray.empty x i := by
        simp [rdOf, List.getElem?_append_left h]
      rw [if_pos (by omega), if_pos (by omega), e, if_pos rfl, if_neg (by omega), hih]
    · have hw2 : wrap64 ((i : Int) - x.length) = ((i - x.length : Nat) : Int) := by rw [i64_wrap (by omega) (by omega)]; omega
      have e : rdOf ByteArray.empty (x ++ y) i = rdOf ByteArray.empty y ((i - x.length : Nat) : Int) := by
        simp [rdOf, List.getElem?_append_right (show x.length ≤ i by omega)]
      rw [if_neg (by omega), if_pos (by omega), if_pos (by omega), hw2, if_pos (by omega), if_pos (by omega), e, if_pos rfl, hih]
theorem EventJoinsUpto : ∀ (l0 : List (S23)) (l1 : List (S23)), (l0.length * 48 ≤ 140737488351232 ∧ ∀ x ∈ l0, ((Lit.int .i64 x.f0).wf = true ∧ (Lit.int .i64 x.f1).wf = true ∧ x.f2.size ≤ 140737488351232 ∧ x.f3.size ≤ 140737488351232)) → (l1.length * 48 ≤ 140737488351232 ∧ ∀ x ∈ l1, ((Lit.int .i64 x.f0).wf = true ∧ (Lit.int .i64 x.f1).wf = true ∧ x.f2.size ≤ 140737488351232 ∧ x.f3.size ≤ 140737488351232)) → l0.length + l1.length ≤ 1048576 → ∃ k, cartouchelaw06_EventJoins.f k l0 l1 = some true := by
  intro a b ha hb hab
  refine ⟨a.length + b.length + 260, ?_⟩
  have j1 : ∀ (x y z : List ByteArray) (k : Nat), x.length + y.length ≤ 256 → x.length + y.length + 2 ≤ k → z = x ++ y → cartouchelaw06_EventJoins.j1 k true x y z ((z.length : Int) != wrap64 ((x.length : Int) + (y.length : Int))) = some true := by
    intro x y z k h hk e
    obtain ⟨k, rfl⟩ : ∃ m, k = m + 1 := ⟨k - 1, by omega⟩
    subst e
    have hw : wrap64 ((x.length : Int) + (y.length : Int)) = ((x ++ y).length : Int) := by rw [i64_wrap (by omega) (by omega), List.length_append]; omega
    simp only [cartouchelaw06_EventJoins.j1]
    rw [hw, if_neg (by simp)]
    exact joins_loop x y h ((x ++ y).length - 0) 0 k rfl (by omega) (by rw [List.length_append]; omega)
  unfold cartouchelaw06_EventJoins.f
  rw [shown06, leaves_f a _ (by omega), leaves_f b _ (by omega)]
  simp only [Option.bind_some]
  rw [if_pos (by simp; omega)]
  simp only [List.nil_append]
  rw [if_pos (by omega), leaves_f (a ++ b) _ (by rw [List.length_append]; omega)]
  simp only [Option.bind_some]
  have hw : wrap64 ((a.length : Int) + (b.length : Int)) = ((a ++ b).length : Int) := by rw [i64_wrap (by omega) (by omega), List.length_append]; omega
  have ok : ∀ l : List Ev, (lvs l).2 = 0 ↔ (¬ l.length > 256 ∧ l.all mayE = true) := by
    intro l
    unfold lvs
    by_cases h : l.length > 256
    · simp [h]
    · by_cases h2 : l.all mayE = true
      · rw [if_neg h, if_pos h2]; simp only [true_iff]; exact ⟨h, h2⟩
      · rw [if_neg h, if_neg h2]; simp only; constructor
        · intro e; omega
        · intro e; exact absurd e.2 h2
  have odd : (lvs a).2 ≠ 0 ∨ (lvs b).2 ≠ 0 → (lvs (a ++ b)).2 ≠ 0 := by
    intro h e
    have e' := (ok (a ++ b)).1 e
    rw [List.length_append, List.all_append, Bool.and_eq_true] at e'
    rcases h with h | h
    · exact h ((ok a).2 ⟨by omega, e'.2.1⟩)
    · exact h ((ok b).2 ⟨by omega, e'.2.2⟩)
  obtain ⟨K, hK⟩ : ∃ K, a.length + b.length + 260 = K + 1 := ⟨a.length + b.length + 259, rfl⟩
  rw [hK]
  simp only [cartouchelaw06_EventJoins.j0, if_true, hw]
  by_cases h1 : (lvs a).2 = 0
  · rw [if_pos h1]
    by_cases h2 : (lvs b).2 = 0
    · rw [if_neg (by simp [h2])]
      have ha' := (ok a).1 h1
      have hb' := (ok b).1 h2
      have ea : lvs a = (a.map ebE, 0) := by unfold lvs; rw [if_neg ha'.1, if_pos ha'.2]
      have eb : lvs b = (b.map ebE, 0) := by unfold lvs; rw [if_neg hb'.1, if_pos hb'.2]
      by_cases h3 : ((a ++ b).length : Int) > 256
      · rw [if_pos h3]
        have e4 : (lvs (a ++ b)).2 = 4 := by unfold lvs; rw [if_pos (by omega)]
        rw [e4]; rfl
      · rw [if_neg h3]
        have e5 : lvs (a ++ b) = ((a ++ b).map ebE, 0) := by
          unfold lvs
          rw [if_neg (by omega), if_pos (by rw [List.all_append, ha'.2, hb'.2]; rfl)]
        rw [e5, ea, eb]
        simp only
        rw [if_pos trivial]
        rw [List.length_append] at h3
        exact j1 _ _ _ K (by simp; omega) (by simp; omega) (by simp)
    · rw [if_pos (by simpa using h2)]
      simpa using odd (.inr h2)
  · rw [if_neg h1]
    simpa using odd (.inl h1)

end Go.Proofs.Ytpfmdpbhmilepaa.Pure
