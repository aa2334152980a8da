/- The row of the law FnExactPairDigest: for every input that its statement speaks of, the call returns true and leaves its arguments as they were. Conditions: none but the statement's own. -/
import Derived.Test.YtnaloccjejmmfaaRows
import Derived.Test.YtnaloccjejmmfaaFFnExactPairDigestx
import Derived.Test.YtnaloccjejmmfaaPureFnExactPairDigest
import Derived.Test.YtnaloccjejmmfaaReads
import Derived.WalkKit
import Derived.ProofKit
import Derived.OpenShut
import Derived.ShutString
import Derived.ChangeOld
import Derived.Below
import Derived.SizedLaws
import Derived.Carry
set_option linter.unusedVariables false
set_option linter.unusedSimpArgs false
namespace Go.Proofs.Ytnaloccjejmmfaa.fnExactPairDigest
open Go.ChangeShapes Go.WideShapes Go.ChangeAt Go.RowKit Go.Proofs.YtnaloccjejmmfaaW.PrintWords Go.Proofs.YtnaloccjejmmfaaL Go.Proofs.Ytnaloccjejmmfaa.FFnExactPairDigest
theorem own : ownKnob Try.prog.godebug = none := by kernel_rfl
theorem laidOut : laidOutB Try.prog = true := by kernel_rfl
theorem rds_arg0 : Rds Try.prog 32 (Kd.pair Kd.string (Kd.int .i64)) (fun y => (FitS y.1 ∧ Fit y.2)) := (rds_struct (d := (Kd.pair Kd.string (Kd.int .i64))) Try.underlying32 (by kernel_rfl) (rdsF_cons rfl (by kernel_rfl) (rds_string Try.underlying9) (rdsF_one rfl (by kernel_rfl) (rds_i64 Try.underlying3))))
set_option maxRecDepth 100000 in
theorem lifted (os : Os) (started : os.Started) (H : Type) (enc : TypeId × Value → H) :
    ReturnsInHanded {} Try.checked os 8 .any (Rows.fnExactPairDigestSpec.pre6 enc Try.prog Try.f8 Rows.fnExactPairDigestRow.domain false) (Rows.fnExactPairDigestSpec.post enc Try.prog Try.f8 false true false false) := by
  refine returnsInHanded_of_change_sized (C := Try.checked) own started (by kernel_rfl) Try.func8
    (ChangeSpec.witness6 (enc := enc) (C := Try.checked) false ⟨#[], #[.agg #[.string ByteArray.empty, .int .i64 0]], []⟩ 8 (by kernel_rfl) (by kernel_rfl) (by kernel_rfl) (by kernel_rfl)) ?_
  intro W base args ds gs before hval0 hW hcnd hsz0 _
  have hval : ∀ (j : Nat) t v, Try.f8.params[j]? = some t → args[j]? = some v → Value.okWide Try.prog W .any base t v := hval0
  have hW' := hW
  obtain ⟨p, q, hA0, hV, rfl, hfz, hnd⟩ := hW
  have hA : DataW.TrodAll enc Try.prog W 0 (fun _ => true) true Try.f8.params.toList args.toList ds p := hA0
  rw [Try.params8] at hA hval
  obtain ⟨v0, vs0, d0, ds0, p0, q0, hargs, rfl, rfl, h0, r0⟩ := trodAll_cons hA
  obtain ⟨rfl, rfl, rfl⟩ := trodAll_nil r0
  obtain rfl : args = #[v0] := by cases args; simp_all
  obtain ⟨rfl, rfl⟩ := trodVars_none hV
  obtain ⟨cs0, rfl⟩ := okWide_agg Try.underlying32 (hval 0 32 v0 rfl rfl)
  obtain ⟨⟨a0_0, a0_1⟩, hK0, hf0⟩ := rds_arg rds_arg0 h0
  obtain ⟨_, _, e0, rfl, rfl⟩ := hK0
  obtain rfl : cs0 = #[.string a0_0, .int .i64 a0_1] := by apply Array.ext'; simpa [Value.cells] using e0
  have lt0 : ∀ x ∈ p0, x.block < W.heap.size := by obtain ⟨m, hm⟩ := h0; exact DataW.trod_lt m _ _ _ hm
  clear hA0 hval0 hsz0
  obtain ⟨k, hk⟩ := FFnExactPairDigest.law_holds a0_0 a0_1 hf0
  refine (FFnExactPairDigest.laws_FnExactPairDigest.calls k _ _ true W hk).mono fun e W' ⟨he, bel0⟩ => ?_
  have bel : Below W.heap.size W W' := bel0
  subst he
  exact ⟨_, rfl, _, _, _, [], _, [], hW', trodAll_mk1 (shut_bool Try.underlying4 _), (trodAll_cons_mk (Below.trod laidOut (by kernel_rfl) (of_decide_eq_true (by kernel_rfl)) h0 bel lt0) trodAll_mk0), rfl, bel.frame _, fun h => by cases h⟩
theorem over : Rows.fnExactPairDigestRow.holds Try.pinned (OpenSpec.ofChange Rows.fnExactPairDigestSpec) :=
  OpenClaim.holds_of_wide 8 Try.f8 rfl rfl rfl rfl rfl rfl rfl ⟨rfl, rfl, rfl, rfl, rfl⟩ rfl rfl rfl rfl rfl (by kernel_rfl) Try.func8 (by kernel_rfl)
    (of_decide_eq_true (by kernel_rfl)) (by unfold Func.isWrapper; first | (rw [if_pos (by decide +kernel)]; kernel_rfl) | (rw [if_neg (by decide +kernel)]; exact ⟨rfl, rfl⟩))
    (fun os started H enc _ => lifted os started H enc)
theorem proved : Rows.FnExactPairDigestSaid := over
end Go.Proofs.Ytnaloccjejmmfaa.fnExactPairDigest
namespace Go.Proofs.Ytnaloccjejmmfaa
theorem fnExactPairDigest_holds : Rows.FnExactPairDigestSaid := fnExactPairDigest.proved
#print axioms fnExactPairDigest_holds
end Go.Proofs.Ytnaloccjejmmfaa
