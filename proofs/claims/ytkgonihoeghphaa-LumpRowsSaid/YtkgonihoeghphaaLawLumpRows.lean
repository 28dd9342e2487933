-- Written by wip/hand.py (rows2.py) of this session's repository: the row of the law cartouchelaw01_LumpRows. Not trusted: Lean checks it.
import Derived.Test.YtkgonihoeghphaaRows
import Derived.Test.YtkgonihoeghphaaA11
import Derived.Test.YtkgonihoeghphaaOp
import Derived.Test.YtkgonihoeghphaaPureLumpRows
import Derived.WalkKit
import Derived.ProofKit
import Derived.OpenShut
import Derived.ShutString
import Derived.ChangeOld
import Derived.Below
import Derived.SizedLaws
namespace Go.Proofs.Ytkgonihoeghphaa.lumpRows
open Go.ChangeShapes Go.WideShapes Go.ChangeAt Go.RowKit Go.Proofs.Ytkgonihoeghphaa Go.Proofs.YtkgonihoeghphaaW.PrintWords
open Go.ChangeMaps (open_string shut_string)
set_option linter.unusedVariables false
theorem own : ownKnob Try.prog.godebug = none := by kernel_rfl
theorem laidOut : laidOutB Try.prog = true := by kernel_rfl
set_option maxRecDepth 100000 in
theorem lifted (os : Os) (started : os.Started) (H : Type) (enc : TypeId × Value → H) :
    ReturnsInHanded {} Try.checked os 10 .any (Rows.lumpRowsSpec.pre6 enc Try.prog Try.f10 Rows.lumpRowsRow.domain false) (Rows.lumpRowsSpec.post enc Try.prog Try.f10 false true false false) := by
  refine returnsInHanded_of_change_sized (C := Try.checked) own started (by kernel_rfl) Try.func10
    (ChangeSpec.witness6 (enc := enc) (C := Try.checked) false ⟨#[], #[.agg #[.slice none 0 0, .string ByteArray.empty, .int .i64 0, .int .i64 0]], []⟩ 8 (by kernel_rfl) (by kernel_rfl) (by kernel_rfl) (by kernel_rfl)) ?_
  intro W base args ds gs before hval0 hW hcnd hsz0 _
  have hsz : (DataW.weightsEach Try.prog (Try.f10.params.toList ++ Rows.lumpRowsSpec.plain.varTypes Try.prog) (ds ++ gs)).all (· ≤ reachBytes) = true := hsz0
  have hval : ∀ (j : Nat) t v, Try.f10.params[j]? = some t → args[j]? = some v → Value.okWide Try.prog W .any base t v := hval0
  have hW' := hW
  obtain ⟨p, q, hA0, hV, rfl, hfz, hnd⟩ := hW
  have hA : DataW.TrodAll enc Try.prog W 0 (fun _ => true) true Try.f10.params.toList args.toList ds p := hA0
  rw [Try.params10] at hA hval hsz
  obtain ⟨v0, vs0, d0, ds0, p0, q0, hargs, rfl, rfl, h0, r0⟩ := trodAll_cons hA
  obtain ⟨rfl, rfl, rfl⟩ := trodAll_nil r0
  obtain rfl : args = #[v0] := by cases args; simp_all
  obtain ⟨rfl, rfl⟩ := trodVars_none hV
  have k0 := h0
  have lt0 : ∀ x ∈ p0, x.block < W.heap.size := by obtain ⟨m, hm⟩ := k0; exact DataW.trod_lt m _ _ _ hm
  obtain ⟨x0, hk0, hq0⟩ := Op.rd_arg (Op.rd_struct4 Try.underlying50 (by kernel_rfl) ⟨rfl, rfl, rfl, rfl⟩ ⟨(by kernel_rfl), (by kernel_rfl), (by kernel_rfl), (by kernel_rfl)⟩ (Op.rd_slice Try.underlying46 (by kernel_rfl) (B := 16) (by kernel_rfl) (Op.rd_str Try.underlying9)) (Op.rd_str Try.underlying9) (Op.rd_int Try.underlying3) (Op.rd_int Try.underlying3)) hsz 0 rfl rfl h0
  obtain ⟨cs0_, rfl, _⟩ := okWide_struct Try.underlying50 (hval 0 50 v0 rfl rfl)
  obtain ⟨_, _, e0, ⟨A0_0, c0_0, rfl, hc0_0, hr0_0⟩, ⟨_, _, rfl, rfl, ⟨_, _, rfl, rfl, rfl⟩⟩⟩ := hk0
  have hv0 : Value.agg cs0_ = .agg #[.slice A0_0 x0.1.length c0_0, .string x0.2.1, .int .i64 x0.2.2.1, .int .i64 x0.2.2.2] := Op.arg_agg ⟨_, rfl⟩ e0
  injection hv0 with hv0_
  subst hv0_
  clear hA0 hval0 hsz0 hsz
  obtain ⟨k, hp⟩ := Pure.LumpRows x0.1 x0.2.1 x0.2.2.1 x0.2.2.2 hq0.1 hq0.2.1 hq0.2.2.1 hq0.2.2.2
  refine (A.cartouchelaw01_LumpRows.calls k _ _ x0.1 x0.2.1 x0.2.2.1 x0.2.2.2 true W hr0_0 hc0_0 hp).mono fun e W' ⟨he, bel0⟩ => ?_
  have bel : Below W.heap.size W W' := bel0
  subst he
  exact ⟨_, rfl, _, _, _, [], _, [], hW', trodAll_mk1 (shut_bool Try.underlying4 _), (trodAll_cons_mk (Below.trod laidOut (by kernel_rfl) (of_decide_eq_true (by kernel_rfl)) k0 bel lt0) trodAll_mk0), rfl, bel.frame _, fun h => by cases h⟩
theorem over : Rows.lumpRowsRow.holds Try.pinned (OpenSpec.ofChange Rows.lumpRowsSpec) :=
  OpenClaim.holds_of_wide 10 Try.f10 rfl rfl rfl rfl rfl rfl rfl ⟨rfl, rfl, rfl, rfl, rfl⟩ rfl rfl rfl rfl rfl (by kernel_rfl) Try.func10 (by kernel_rfl)
    (of_decide_eq_true (by kernel_rfl)) (by unfold Func.isWrapper; first | (rw [if_pos (by decide +kernel)]; kernel_rfl) | (rw [if_neg (by decide +kernel)]; exact ⟨rfl, rfl⟩))
    (fun os started H enc _ => lifted os started H enc)
theorem proved : Rows.LumpRowsSaid := over
#print axioms proved
end Go.Proofs.Ytkgonihoeghphaa.lumpRows
namespace Go.Proofs.Ytkgonihoeghphaa
/-- The row, under a short name, for the claim. -/
theorem lumpRows_holds : Rows.LumpRowsSaid := lumpRows.proved
end Go.Proofs.Ytkgonihoeghphaa
