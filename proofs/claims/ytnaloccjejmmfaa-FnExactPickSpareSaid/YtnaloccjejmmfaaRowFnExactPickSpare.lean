/- The row of the law FnExactPickSpare: for every input that its statement speaks of, the call returns true and leaves its arguments as they were. Conditions: none but the statement's own. -/
import Derived.Test.YtnaloccjejmmfaaRows
import Derived.Test.YtnaloccjejmmfaaFFnExactPickSparex
import Derived.Test.YtnaloccjejmmfaaPureFnExactPickSpare
import Derived.Test.YtnaloccjejmmfaaReads
import Derived.WalkKit
import Derived.ProofKit
import Derived.OpenShut
import Derived.ShutString
import Derived.ChangeOld
import Derived.Below
import Derived.SizedLaws
import Derived.Carry
set_option linter.unusedVariables false
set_option linter.unusedSimpArgs false
namespace Go.Proofs.Ytnaloccjejmmfaa.fnExactPickSpare
open Go.ChangeShapes Go.WideShapes Go.ChangeAt Go.RowKit Go.Proofs.YtnaloccjejmmfaaW.PrintWords Go.Proofs.YtnaloccjejmmfaaL Go.Proofs.Ytnaloccjejmmfaa.FFnExactPickSpare
theorem own : ownKnob Try.prog.godebug = none := by kernel_rfl
theorem laidOut : laidOutB Try.prog = true := by kernel_rfl
theorem rds_arg0 : Rds Try.prog 22 (Kd.slice 3 (Kd.int .i64)) (FitL Fit) := (rds_slice (d := (Kd.int .i64)) Try.underlying22 (by kernel_rfl) (rds_i64 Try.underlying3))
theorem rds_arg1 : Rds Try.prog 42 (Kd.slice 4 Kd.bool) (FitL (fun _ => True)) := (rds_slice (d := Kd.bool) Try.underlying42 (by kernel_rfl) (rds_bool Try.underlying4))
theorem rds_arg2 : Rds Try.prog 50 (Kd.pair (Kd.int .i64) (Kd.pair (Kd.slice 3 (Kd.int .i64)) Kd.bool)) (fun y => (Fit y.1 ∧ ((FitL Fit) y.2.1 ∧ (fun _ => True) y.2.2))) := (rds_struct (d := (Kd.pair (Kd.int .i64) (Kd.pair (Kd.slice 3 (Kd.int .i64)) Kd.bool))) Try.underlying50 (by kernel_rfl) (rdsF_cons rfl (by kernel_rfl) (rds_i64 Try.underlying3) (rdsF_cons rfl (by kernel_rfl) (rds_slice (d := (Kd.int .i64)) Try.underlying22 (by kernel_rfl) (rds_i64 Try.underlying3)) (rdsF_one rfl (by kernel_rfl) (rds_bool Try.underlying4)))))
set_option maxRecDepth 100000 in
theorem lifted (os : Os) (started : os.Started) (H : Type) (enc : TypeId × Value → H) :
    ReturnsInHanded {} Try.checked os 12 .any (Rows.fnExactPickSpareSpec.pre6 enc Try.prog Try.f12 Rows.fnExactPickSpareRow.domain false) (Rows.fnExactPickSpareSpec.post enc Try.prog Try.f12 false true false false) := by
  refine returnsInHanded_of_change_sized (C := Try.checked) own started (by kernel_rfl) Try.func12
    (ChangeSpec.witness6 (enc := enc) (C := Try.checked) false ⟨#[], #[.slice none 0 0, .slice none 0 0, .agg #[.int .i64 0, .slice none 0 0, .bool false]], []⟩ 8 (by kernel_rfl) (by kernel_rfl) (by kernel_rfl) (by kernel_rfl)) ?_
  intro W base args ds gs before hval0 hW hcnd hsz0 _
  have hval : ∀ (j : Nat) t v, Try.f12.params[j]? = some t → args[j]? = some v → Value.okWide Try.prog W .any base t v := hval0
  have hW' := hW
  obtain ⟨p, q, hA0, hV, rfl, hfz, hnd⟩ := hW
  have hA : DataW.TrodAll enc Try.prog W 0 (fun _ => true) true Try.f12.params.toList args.toList ds p := hA0
  rw [Try.params12] at hA hval
  obtain ⟨v0, vs0, d0, ds0, p0, q0, hargs, rfl, rfl, h0, r0⟩ := trodAll_cons hA
  obtain ⟨v1, vs1, d1, ds1, p1, q1, rfl, rfl, rfl, h1, r1⟩ := trodAll_cons r0
  obtain ⟨v2, vs2, d2, ds2, p2, q2, rfl, rfl, rfl, h2, r2⟩ := trodAll_cons r1
  obtain ⟨rfl, rfl, rfl⟩ := trodAll_nil r2
  obtain rfl : args = #[v0, v1, v2] := by cases args; simp_all
  obtain ⟨rfl, rfl⟩ := trodVars_none hV
  obtain ⟨a0_, len0_, cap0_, rfl⟩ := okWide_slice Try.underlying22 (hval 0 22 v0 rfl rfl)
  obtain ⟨l0, ⟨A0, c0, e0, hc0, hr0⟩, hf0⟩ := rds_arg rds_arg0 h0
  simp [Value.cells] at e0
  obtain ⟨rfl, rfl, rfl⟩ := e0
  have lt0 : ∀ x ∈ p0, x.block < W.heap.size := by obtain ⟨m, hm⟩ := h0; exact DataW.trod_lt m _ _ _ hm
  obtain ⟨a1_, len1_, cap1_, rfl⟩ := okWide_slice Try.underlying42 (hval 1 42 v1 rfl rfl)
  obtain ⟨l1, ⟨A1, c1, e1, hc1, hr1⟩, hf1⟩ := rds_arg rds_arg1 h1
  simp [Value.cells] at e1
  obtain ⟨rfl, rfl, rfl⟩ := e1
  have lt1 : ∀ x ∈ p1, x.block < W.heap.size := by obtain ⟨m, hm⟩ := h1; exact DataW.trod_lt m _ _ _ hm
  obtain ⟨cs2, rfl⟩ := okWide_agg Try.underlying50 (hval 2 50 v2 rfl rfl)
  obtain ⟨⟨a2_0, l2_1, a2_2⟩, hK2, hf2⟩ := rds_arg rds_arg2 h2
  obtain ⟨_, _, e2, rfl, ⟨_, _, rfl, ⟨A2_1, c2_1, rfl, hc2_1, hr2_1⟩, rfl⟩⟩ := hK2
  obtain rfl : cs2 = #[.int .i64 a2_0, .slice A2_1 l2_1.length c2_1, .bool a2_2] := by apply Array.ext'; simpa [Value.cells] using e2
  have lt2 : ∀ x ∈ p2, x.block < W.heap.size := by obtain ⟨m, hm⟩ := h2; exact DataW.trod_lt m _ _ _ hm
  clear hA0 hval0 hsz0
  obtain ⟨k, hk⟩ := FFnExactPickSpare.law_holds l0 l1 a2_0 l2_1 a2_2 hf0 hf1 hf2
  refine (FFnExactPickSpare.laws_FnExactPickSpare.calls k _ _ _ _ _ _ _ _ _ _ _ true W hr0 hc0 hr1 hc1 hr2_1 hc2_1 hk).mono fun e W' ⟨he, bel0⟩ => ?_
  have bel : Below W.heap.size W W' := bel0
  subst he
  exact ⟨_, rfl, _, _, _, [], _, [], hW', trodAll_mk1 (shut_bool Try.underlying4 _), (trodAll_cons_mk (Below.trod laidOut (by kernel_rfl) (of_decide_eq_true (by kernel_rfl)) h0 bel lt0) (trodAll_cons_mk (Below.trod laidOut (by kernel_rfl) (of_decide_eq_true (by kernel_rfl)) h1 bel lt1) (trodAll_cons_mk (Below.trod laidOut (by kernel_rfl) (of_decide_eq_true (by kernel_rfl)) h2 bel lt2) trodAll_mk0))), rfl, bel.frame _, fun h => by cases h⟩
theorem over : Rows.fnExactPickSpareRow.holds Try.pinned (OpenSpec.ofChange Rows.fnExactPickSpareSpec) :=
  OpenClaim.holds_of_wide 12 Try.f12 rfl rfl rfl rfl rfl rfl rfl ⟨rfl, rfl, rfl, rfl, rfl⟩ rfl rfl rfl rfl rfl (by kernel_rfl) Try.func12 (by kernel_rfl)
    (of_decide_eq_true (by kernel_rfl)) (by unfold Func.isWrapper; first | (rw [if_pos (by decide +kernel)]; kernel_rfl) | (rw [if_neg (by decide +kernel)]; exact ⟨rfl, rfl⟩))
    (fun os started H enc _ => lifted os started H enc)
theorem proved : Rows.FnExactPickSpareSaid := over
end Go.Proofs.Ytnaloccjejmmfaa.fnExactPickSpare
namespace Go.Proofs.Ytnaloccjejmmfaa
theorem fnExactPickSpare_holds : Rows.FnExactPickSpareSaid := fnExactPickSpare.proved
#print axioms fnExactPickSpare_holds
end Go.Proofs.Ytnaloccjejmmfaa
