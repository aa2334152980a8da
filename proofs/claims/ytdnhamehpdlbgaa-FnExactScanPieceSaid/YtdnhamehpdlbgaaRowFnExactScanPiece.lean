/- The row of the law FnExactScanPiece: for every input that its statement speaks of, the call returns true and leaves its arguments as they were. Conditions: none but the statement's own. -/
import Derived.Test.YtdnhamehpdlbgaaRows
import Derived.Test.YtdnhamehpdlbgaaV28
import Derived.Test.YtdnhamehpdlbgaaA1
import Derived.WalkKit
import Derived.ProofKit
import Derived.OpenShut
import Derived.ShutString
import Derived.ChangeOld
import Derived.Below
import Derived.SizedLaws
import Derived.Carry
set_option linter.unusedVariables false
set_option linter.unusedSimpArgs false
namespace Go.Proofs.Ytdnhamehpdlbgaa.fnExactScanPiece
open Go.ChangeShapes Go.WideShapes Go.ChangeAt Go.RowKit Go.Proofs.YtdnhamehpdlbgaaV
theorem own : ownKnob Try.prog.godebug = none := by kernel_rfl
theorem laidOut : laidOutB Try.prog = true := by kernel_rfl
theorem tys0 : tysOf Try.prog 9 81 = some [.s, .s, .sl [.s, .i .i64], .sl [.i .i64, .i .i64, .i .i64], .b, .s] := by kernel_rfl
theorem tys1 : tysOf Try.prog 9 77 = some [.s, .s] := by kernel_rfl
set_option maxRecDepth 100000 in
theorem lifted (os : Os) (started : os.Started) (H : Type) (enc : TypeId × Value → H) :
    ReturnsInHanded {} Try.checked os 9 .any (Rows.fnExactScanPieceSpec.pre6 enc Try.prog Try.f9 Rows.fnExactScanPieceRow.domain false) (Rows.fnExactScanPieceSpec.post enc Try.prog Try.f9 false true false false) := by
  refine returnsInHanded_of_change_sized (C := Try.checked) own started (by kernel_rfl) Try.func9
    (ChangeSpec.witness6 (enc := enc) (C := Try.checked) false ⟨#[], #[.agg #[.string ByteArray.empty, .string ByteArray.empty, .slice none 0 0, .slice none 0 0, .bool false, .string ByteArray.empty], .agg #[.string ByteArray.empty, .string ByteArray.empty]], []⟩ 8 (by kernel_rfl) (by kernel_rfl) (by kernel_rfl) (by kernel_rfl)) ?_
  intro W base args ds gs before hval0 hW hcnd hsz0 _
  have hval : ∀ (j : Nat) t v, Try.f9.params[j]? = some t → args[j]? = some v → Value.okWide Try.prog W .any base t v := hval0
  have hW' := hW
  obtain ⟨p, q, hA0, hV, rfl, hfz, hnd⟩ := hW
  have hA : DataW.TrodAll enc Try.prog W 0 (fun _ => true) true Try.f9.params.toList args.toList ds p := hA0
  rw [Try.params9] at hA hval
  obtain ⟨v0, vs0, d0, ds0, p0, q0, hargs, rfl, rfl, h0, r0⟩ := trodAll_cons hA
  obtain ⟨v1, vs1, d1, ds1, p1, q1, rfl, rfl, rfl, h1, r1⟩ := trodAll_cons r0
  obtain ⟨rfl, rfl, rfl⟩ := trodAll_nil r1
  obtain rfl : args = #[v0, v1] := by cases args; simp_all
  obtain ⟨rfl, rfl⟩ := trodVars_none hV
  obtain ⟨cs0, rfl⟩ := okWide_agg Try.underlying81 (hval 0 81 v0 rfl rfl)
  obtain ⟨u0, hr0, hl0, ht0⟩ := arg_ag tys0 h0
  have lt0 : ∀ x ∈ p0, x.block < W.heap.size := by obtain ⟨m, hm⟩ := h0; exact DataW.trod_lt m _ _ _ hm
  obtain ⟨cs1, rfl⟩ := okWide_agg Try.underlying77 (hval 1 77 v1 rfl rfl)
  obtain ⟨u1, hr1, hl1, ht1⟩ := arg_ag tys1 h1
  have lt1 : ∀ x ∈ p1, x.block < W.heap.size := by obtain ⟨m, hm⟩ := h1; exact DataW.trod_lt m _ _ _ hm
  clear hA0 hval0 hsz0
  refine (call_out all_calls (law_FnExactScanPiece u0 hl0 ht0 u1 hl1 ht1) rfl (fun j x hj => ?_)).mono fun e W' ⟨he, bel⟩ => ?_
  · match j, hj with
    | 0, hj => cases hj; exact ⟨_, rfl, hr0⟩
    | 1, hj => cases hj; exact ⟨_, rfl, hr1⟩
    | j + 2, hj => simp at hj
  subst he
  exact ⟨_, rfl, _, _, _, [], _, [], hW', trodAll_mk1 (shut_bool Try.underlying4 _), (trodAll_cons_mk (Below.trod laidOut (by kernel_rfl) (of_decide_eq_true (by kernel_rfl)) h0 bel lt0) (trodAll_cons_mk (Below.trod laidOut (by kernel_rfl) (of_decide_eq_true (by kernel_rfl)) h1 bel lt1) trodAll_mk0)), rfl, bel.frame _, fun h => by cases h⟩
theorem and2 {a b : Bool} (h : a = true) (k : b = true) : (a && b) = true := by rw [h, k]; rfl
abbrev Part (g : Program → FuncId → Func → ChangeSpec → OpenClaim → Bool) : Prop := g Try.checked.prog 9 Try.f9 Rows.fnExactScanPieceSpec Rows.fnExactScanPieceRow = true
set_option maxHeartbeats 4000000 in
theorem part0 : Part fun P f fn s c => c.wf (OpenSpec.ofChange s) := by kernel_rfl
set_option maxHeartbeats 4000000 in
theorem part1 : Part fun P f fn s c => laidOutB P := by kernel_rfl
set_option maxHeartbeats 4000000 in
theorem part2 : Part fun P f fn s c => mapsRowed P := by kernel_rfl
set_option maxHeartbeats 4000000 in
theorem part3 : Part fun P f fn s c => fn.params.all (P.readableRec ·) := by kernel_rfl
set_option maxHeartbeats 4000000 in
theorem part4 : Part fun P f fn s c => namedTie P c.named s.vars := by kernel_rfl
set_option maxHeartbeats 4000000 in
theorem part5 : Part fun P f fn s c => (c.stops == []) := by kernel_rfl
set_option maxHeartbeats 4000000 in
theorem part6 : Part fun P f fn s c => (P.stops == []) := by kernel_rfl
set_option maxHeartbeats 4000000 in
theorem part7 : Part fun P f fn s c => (c.knobs == []) := by kernel_rfl
set_option maxHeartbeats 4000000 in
theorem part8 : Part fun P f fn s c => (P.stopKnobs == []) := by kernel_rfl
set_option maxHeartbeats 4000000 in
theorem part9 : Part fun P f fn s c => (c.inPlace == P.inPlace f) := by kernel_rfl
set_option maxHeartbeats 4000000 in
theorem part10 : Part fun P f fn s c => (c.unfollowed == P.unfollowed f) := by kernel_rfl
set_option maxHeartbeats 4000000 in
theorem part11 : Part fun P f fn s c => (c.recurses == P.recurses f) := by kernel_rfl
set_option maxHeartbeats 4000000 in
theorem part12 : Part fun P f fn s c => (c.named == P.varsNamed f) := by kernel_rfl
set_option maxHeartbeats 4000000 in
theorem part13 : Part fun P f fn s c => (c.maps == (fn.params.toList ++ s.plain.varTypes P).any (P.mapsRec ·)) := by kernel_rfl
set_option maxHeartbeats 4000000 in
theorem part14 : Part fun P f fn s c => (c.ifaces == (fn.params.toList ++ s.plain.varTypes P).any (P.ifacesRec ·)) := by kernel_rfl
set_option maxHeartbeats 4000000 in
theorem part15 : Part fun P f fn s c => (c.mapsOut == P.mapsAmong fn.resultTypes.toList) := by kernel_rfl
set_option maxHeartbeats 4000000 in
theorem part16 : Part fun P f fn s c => (c.loops == (fn.params.toList ++ s.plain.varTypes P).any (P.loopsFrom ·)) := by kernel_rfl
set_option maxHeartbeats 4000000 in
theorem part17 : Part fun P f fn s c => (c.wideKeys == (fn.params.toList ++ s.plain.varTypes P ++ fn.resultTypes.toList).any (P.wideKeysFrom ·)) := by kernel_rfl
set_option maxHeartbeats 4000000 in
theorem part18 : Part fun P f fn s c => s.vars.all (P.varReadable ·) := by kernel_rfl
set_option maxHeartbeats 4000000 in
theorem part19 : Part fun P f fn s c => fn.resultTypes.all (fun t => P.readableRec t && decide (t < P.types.size)) := by kernel_rfl
set_option maxHeartbeats 4000000 in
theorem part20 : Part fun P f fn s c => (c.ifacesOut == fn.resultTypes.toList.any (P.ifacesRec ·)) := by kernel_rfl
set_option maxHeartbeats 4000000 in
theorem part21 : Part fun P f fn s c => (c.loopsOut == fn.resultTypes.toList.any (P.loopsFrom ·)) := by kernel_rfl
set_option maxHeartbeats 4000000 in
theorem part22 : Part fun P f fn s c => (c.plainKeys == P.plainKeys) := by kernel_rfl
set_option maxHeartbeats 4000000 in
theorem part23 : Part fun P f fn s c => c.shortTexts.isNone := by kernel_rfl
set_option maxHeartbeats 4000000 in
theorem part24 : Part fun P f fn s c => P.stopsHeard := by kernel_rfl
set_option maxHeartbeats 4000000 in
theorem part25 : Part fun P f fn s c => P.mayEnter := by kernel_rfl
set_option maxHeartbeats 4000000 in
theorem part26 : Part fun P f fn s c => (c.lifted == P.liftsFinal) := by kernel_rfl
set_option maxHeartbeats 4000000 in
theorem part27 : Part fun P f fn s c => (P.make == some c.make) := by kernel_rfl
set_option maxHeartbeats 4000000 in
theorem part28 : Part fun P f fn s c => (c.kinds == (if c.domain.isEmpty then [] else fn.params.toList.map fun t => match P.underlying t with | some (.int k) => some k | _ => none)) := by kernel_rfl
set_option maxHeartbeats 4000000 in
theorem part29 : Part fun P f fn s c => (c.pinned == c.pinnedBy) := by kernel_rfl
set_option maxHeartbeats 4000000 in
theorem part30 : Part fun P f fn s c => (c.veiled == (fn.params.toList ++ s.plain.varTypes P ++ fn.resultTypes.toList).any (P.veiledRec ·)) := by kernel_rfl
set_option maxHeartbeats 4000000 in
theorem part31 : Part fun P f fn s c => c.veiledFits P fn.params.toList (fn.params.toList ++ s.plain.varTypes P ++ fn.resultTypes.toList) := by kernel_rfl
theorem facts : joinedFacts Try.checked.prog 9 Try.f9 Rows.fnExactScanPieceSpec Rows.fnExactScanPieceRow = true := by
  unfold joinedFacts
  exact (and2 (and2 (and2 (and2 (and2 (and2 (and2 (and2 (and2 (and2 (and2 (and2 (and2 (and2 (and2 (and2 (and2 (and2 (and2 (and2 (and2 (and2 (and2 (and2 (and2 (and2 (and2 (and2 (and2 (and2 (and2 part0 part1) part2) part3) part4) part5) part6) part7) part8) part9) part10) part11) part12) part13) part14) part15) part16) part17) part18) part19) part20) part21) part22) part23) part24) part25) part26) part27) part28) part29) part30) part31)
set_option maxHeartbeats 4000000 in
theorem over : Rows.fnExactScanPieceRow.holds Try.pinned (OpenSpec.ofChange Rows.fnExactScanPieceSpec) :=
  OpenClaim.holds_of_wide 9 Try.f9 rfl rfl rfl rfl rfl rfl rfl ⟨rfl, rfl, rfl, rfl, rfl⟩ rfl rfl rfl rfl rfl (by as_aux_lemma => kernel_rfl) Try.func9 facts
    (of_decide_eq_true (by as_aux_lemma => kernel_rfl)) (by unfold Func.isWrapper; first | (rw [if_pos (by decide +kernel)]; kernel_rfl) | (rw [if_neg (by decide +kernel)]; exact ⟨rfl, rfl⟩))
    (fun os started H enc _ => lifted os started H enc)
theorem proved : Rows.FnExactScanPieceSaid := over
end Go.Proofs.Ytdnhamehpdlbgaa.fnExactScanPiece
namespace Go.Proofs.Ytdnhamehpdlbgaa
theorem fnExactScanPiece_holds : Rows.FnExactScanPieceSaid := fnExactScanPiece.proved
#print axioms fnExactScanPiece_holds
end Go.Proofs.Ytdnhamehpdlbgaa
