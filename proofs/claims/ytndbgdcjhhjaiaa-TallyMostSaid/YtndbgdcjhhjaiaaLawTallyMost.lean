-- Written by wip/hand.py (rows2.py) of this session's repository: the row of the law cartouchelaw20_TallyMost. Not trusted: Lean checks it.
import Derived.Test.YtndbgdcjhhjaiaaRows
import Derived.Test.YtndbgdcjhhjaiaaB4
import Derived.Test.YtndbgdcjhhjaiaaOp
import Derived.Test.YtndbgdcjhhjaiaaPureTallyMost
import Derived.WalkKit
import Derived.ProofKit
import Derived.OpenShut
import Derived.ShutString
import Derived.ChangeOld
import Derived.Below
import Derived.SizedLaws
namespace Go.Proofs.Ytndbgdcjhhjaiaa.tallyMost
open Go.ChangeShapes Go.WideShapes Go.ChangeAt Go.RowKit Go.Proofs.Ytndbgdcjhhjaiaa Go.Proofs.YtndbgdcjhhjaiaaW.PrintWords
open Go.ChangeMaps (open_string shut_string)
set_option linter.unusedVariables false
theorem own : ownKnob Try.prog.godebug = none := by kernel_rfl
theorem laidOut : laidOutB Try.prog = true := by kernel_rfl
set_option maxRecDepth 100000 in
theorem lifted (os : Os) (started : os.Started) (H : Type) (enc : TypeId × Value → H) :
    ReturnsInHanded {} Try.checked os 9 .any (Rows.tallyMostSpec.pre6 enc Try.prog Try.f9 Rows.tallyMostRow.domain false) (Rows.tallyMostSpec.post enc Try.prog Try.f9 false true false false) := by
  refine returnsInHanded_of_change_sized (C := Try.checked) own started (by kernel_rfl) Try.func9
    (ChangeSpec.witness6 (enc := enc) (C := Try.checked) false ⟨#[], #[.slice none 0 0], []⟩ 8 (by kernel_rfl) (by kernel_rfl) (by kernel_rfl) (by kernel_rfl)) ?_
  intro W base args ds gs before hval0 hW hcnd hsz0 _
  have hsz : (DataW.weightsEach Try.prog (Try.f9.params.toList ++ Rows.tallyMostSpec.plain.varTypes Try.prog) (ds ++ gs)).all (· ≤ reachBytes) = true := hsz0
  have hval : ∀ (j : Nat) t v, Try.f9.params[j]? = some t → args[j]? = some v → Value.okWide Try.prog W .any base t v := hval0
  have hW' := hW
  obtain ⟨p, q, hA0, hV, rfl, hfz, hnd⟩ := hW
  have hA : DataW.TrodAll enc Try.prog W 0 (fun _ => true) true Try.f9.params.toList args.toList ds p := hA0
  rw [Try.params9] at hA hval hsz
  obtain ⟨v0, vs0, d0, ds0, p0, q0, hargs, rfl, rfl, h0, r0⟩ := trodAll_cons hA
  obtain ⟨rfl, rfl, rfl⟩ := trodAll_nil r0
  obtain rfl : args = #[v0] := by cases args; simp_all
  obtain ⟨rfl, rfl⟩ := trodVars_none hV
  have k0 := h0
  have lt0 : ∀ x ∈ p0, x.block < W.heap.size := by obtain ⟨m, hm⟩ := k0; exact DataW.trod_lt m _ _ _ hm
  obtain ⟨x0, hk0, hq0⟩ := Op.rd_arg (Op.rd_slice Try.underlying42 (by kernel_rfl) (B := 48) (by kernel_rfl) (Op.rd_iso (fun x : B.S46 => (x.f0, x.f1, x.f2, x.f3)) (fun p => ⟨p.1, p.2.1, p.2.2.1, p.2.2.2⟩) (fun _ => rfl) (Op.rd_struct4 Try.underlying46 (by kernel_rfl) ⟨rfl, rfl, rfl, rfl⟩ ⟨(by kernel_rfl), (by kernel_rfl), (by kernel_rfl), (by kernel_rfl)⟩ (Op.rd_int Try.underlying3) (Op.rd_int Try.underlying3) (Op.rd_str Try.underlying9) (Op.rd_str Try.underlying9)))) hsz 0 rfl rfl h0
  obtain ⟨a0_, len0_, cap0_, rfl⟩ := okWide_slice Try.underlying42 (hval 0 42 v0 rfl rfl)
  obtain ⟨A0, c0, hv0, hc0, hr0⟩ := Op.arg_slice ⟨_, _, _, rfl⟩ hk0
  injection hv0 with e1_ e2_ e3_
  subst e1_; subst e2_; subst e3_
  clear hA0 hval0 hsz0 hsz
  obtain ⟨k, hp⟩ := Pure.TallyMost x0 hq0
  refine (B.cartouchelaw20_TallyMost.calls k _ _ x0 true W hr0 hc0 hp).mono fun e W' ⟨he, bel0⟩ => ?_
  have bel : Below W.heap.size W W' := bel0
  subst he
  exact ⟨_, rfl, _, _, _, [], _, [], hW', trodAll_mk1 (shut_bool Try.underlying4 _), (trodAll_cons_mk (Below.trod laidOut (by kernel_rfl) (of_decide_eq_true (by kernel_rfl)) k0 bel lt0) trodAll_mk0), rfl, bel.frame _, fun h => by cases h⟩
theorem over : Rows.tallyMostRow.holds Try.pinned (OpenSpec.ofChange Rows.tallyMostSpec) :=
  OpenClaim.holds_of_wide 9 Try.f9 rfl rfl rfl rfl rfl rfl rfl ⟨rfl, rfl, rfl, rfl, rfl⟩ rfl rfl rfl rfl rfl (by kernel_rfl) Try.func9 (by kernel_rfl)
    (of_decide_eq_true (by kernel_rfl)) (by unfold Func.isWrapper; first | (rw [if_pos (by decide +kernel)]; kernel_rfl) | (rw [if_neg (by decide +kernel)]; exact ⟨rfl, rfl⟩))
    (fun os started H enc _ => lifted os started H enc)
theorem proved : Rows.TallyMostSaid := over
#print axioms proved
end Go.Proofs.Ytndbgdcjhhjaiaa.tallyMost
namespace Go.Proofs.Ytndbgdcjhhjaiaa
/-- The row, under a short name, for the claim. -/
theorem tallyMost_holds : Rows.TallyMostSaid := tallyMost.proved
end Go.Proofs.Ytndbgdcjhhjaiaa
