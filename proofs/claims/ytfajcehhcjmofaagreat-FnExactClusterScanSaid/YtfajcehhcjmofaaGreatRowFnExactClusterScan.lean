/- The row of the law FnExactClusterScan: for every input that its statement speaks of, the call returns true and leaves its arguments as they were. Conditions: none but the statement's own. -/
import Derived.Test.YtfajcehhcjmofaaGreatRows
import Derived.Test.YtfajcehhcjmofaaGreatV28
import Derived.Test.YtfajcehhcjmofaaGreatA3
import Derived.WalkKit
import Derived.ProofKit
import Derived.OpenShut
import Derived.ShutString
import Derived.ChangeOld
import Derived.Below
import Derived.SizedLaws
import Derived.Carry
set_option linter.unusedVariables false
set_option linter.unusedSimpArgs false
namespace Go.Proofs.YtfajcehhcjmofaaGreat.fnExactClusterScan
open Go.ChangeShapes Go.WideShapes Go.ChangeAt Go.RowKit Go.Proofs.YtfajcehhcjmofaaGreatV
theorem own:ownKnob Tryz.prog.godebug=none:=by kernel_rfl
theorem laidOut:laidOutB Tryz.prog=true:=by kernel_rfl
theorem tys0:ZdD Tryz.prog 14 28=some [.sl [.b,.s,.s,.sl [.s,.i .i64],.sl [.i .i64,.i .i64,.i .i64],.b,.s,.i .i64,.sl [.i .i64],.b,.sl [.i .i64,.sl [.i .i64],.b,.b,.sl [.i .i64,.i .i64,.i .i64,.s,.i .i64,.i .i64]],.sl [.b],.sl [.i .i64,.i .i64,.i .i64,.i .i64,.sl [.i .i64],.b,.sl [.i .i64,.i .i64,.i .i64,.s,.i .i64,.i .i64]],.sl [.i .i64,.i .i64,.i .i64,.s,.i .i64,.i .i64,.i .i64]],.sl [.sl [.i .i64,.s,.s],.i .i64,.b,.i .i64,.s,.i .i64,.i .i64,.i .i64],.sl [.i .i64,.i .i64,.i .i64,.s,.i .i64,.i .i64,.i .i64,.i .i64,.i .i64],.i .i64,.i .i64,.i .i64,.s,.i .i64,.i .i64,.i .i64,.i .i64,.i .i64]:=by kernel_rfl
theorem tys1:ZdD Tryz.prog 14 41=some [.s,.s]:=by kernel_rfl
set_option maxRecDepth 100000 in
theorem lifted (os:Os) (started:os.Started) (H:Type) (enc:TypeId×Value→H) :
    ReturnsInHanded {} Tryz.checked os 4 .any (Rows.fnExactClusterScanSpec.pre6 enc Tryz.prog Tryz.f4 Rows.fnExactClusterScanRow.domain false) (Rows.fnExactClusterScanSpec.post enc Tryz.prog Tryz.f4 false true false false):=by
  refine returnsInHanded_of_change_sized (C:=Tryz.checked) own started (by kernel_rfl) Tryz.func4
    (ChangeSpec.witness6 (enc:=enc) (C:=Tryz.checked) false ⟨#[],#[.agg #[.slice none 0 0,.slice none 0 0,.slice none 0 0,.int .i64 0,.int .i64 0,.int .i64 0,.string ByteArray.empty,.int .i64 0,.int .i64 0,.int .i64 0,.int .i64 0,.int .i64 0],.agg #[.string ByteArray.empty,.string ByteArray.empty]],[]⟩ 8 (by kernel_rfl) (by kernel_rfl) (by kernel_rfl) (by kernel_rfl)) ?_
  intro W base args ds gs before hval0 hW hcnd hsz0 _
  have hval:∀ (j:Nat) t v,Tryz.f4.params[j]?=some t→args[j]?=some v→Value.okWide Tryz.prog W .any base t v:=hval0
  have hW':=hW
  obtain ⟨p,q,hA0,hV,rfl,hfz,hnd⟩:=hW
  have hA:DataW.TrodAll enc Tryz.prog W 0 (fun _=>true) true Tryz.f4.params.toList args.toList ds p:=hA0
  rw [Tryz.params4] at hA hval
  obtain ⟨v0,vs0,d0,ds0,p0,q0,hargs,rfl,rfl,h0,r0⟩:=trodAll_cons hA
  obtain ⟨v1,vs1,d1,ds1,p1,q1,rfl,rfl,rfl,h1,r1⟩:=trodAll_cons r0
  obtain ⟨rfl,rfl,rfl⟩:=trodAll_nil r1
  obtain rfl:args=#[v0,v1]:=by cases args; simp_all
  obtain ⟨rfl,rfl⟩:=trodVars_none hV
  obtain ⟨cs0,rfl⟩:=ZhX Tryz.underlying28 (hval 0 28 v0 rfl rfl)
  obtain ⟨u0,hr0,hl0,ht0⟩:=arg_ag tys0 h0
  have lt0:∀ x∈p0,x.block<W.heap.size:=by obtain ⟨m,hm⟩:=h0; exact DataW.trod_lt m _ _ _ hm
  obtain ⟨cs1,rfl⟩:=ZhX Tryz.underlying41 (hval 1 41 v1 rfl rfl)
  obtain ⟨u1,hr1,hl1,ht1⟩:=arg_ag tys1 h1
  have lt1:∀ x∈p1,x.block<W.heap.size:=by obtain ⟨m,hm⟩:=h1; exact DataW.trod_lt m _ _ _ hm
  clear hA0 hval0 hsz0
  refine (Zi2 ZNi (law_FnExactClusterScan u0 hl0 ht0 u1 hl1 ht1) rfl (fun j x hj=>?_)).mono fun e W' ⟨he,bel⟩=>?_
  · match j,hj with
    | 0,hj=>cases hj; exact ⟨_,rfl,hr0⟩
    | 1,hj=>cases hj; exact ⟨_,rfl,hr1⟩
    | j+2,hj=>simp at hj
  subst he
  exact ⟨_,rfl,_,_,_,[],_,[],hW',trodAll_mk1 (shut_bool Tryz.underlying4 _),(trodAll_cons_mk (Below.trod laidOut (by kernel_rfl) (of_decide_eq_true (by kernel_rfl)) h0 bel lt0) (trodAll_cons_mk (Below.trod laidOut (by kernel_rfl) (of_decide_eq_true (by kernel_rfl)) h1 bel lt1) trodAll_mk0)),rfl,bel.frame _,fun h=>by cases h⟩
theorem and2 {a b:Bool} (h:a=true) (k:b=true):(a&&b)=true:=by rw [h,k]; rfl
set_option maxHeartbeats 4000000 in
theorem part0:(fun (P:Program) (f:FuncId) (fn:Func) (s:ChangeSpec) (c:OpenClaim)=>c.wf (OpenSpec.ofChange s)) Tryz.checked.prog 4 Tryz.f4 Rows.fnExactClusterScanSpec Rows.fnExactClusterScanRow=true:=by kernel_rfl
set_option maxHeartbeats 4000000 in
theorem part1:(fun (P:Program) (f:FuncId) (fn:Func) (s:ChangeSpec) (c:OpenClaim)=>laidOutB P) Tryz.checked.prog 4 Tryz.f4 Rows.fnExactClusterScanSpec Rows.fnExactClusterScanRow=true:=by kernel_rfl
set_option maxHeartbeats 4000000 in
theorem part2:(fun (P:Program) (f:FuncId) (fn:Func) (s:ChangeSpec) (c:OpenClaim)=>mapsRowed P) Tryz.checked.prog 4 Tryz.f4 Rows.fnExactClusterScanSpec Rows.fnExactClusterScanRow=true:=by kernel_rfl
set_option maxHeartbeats 4000000 in
theorem part3:(fun (P:Program) (f:FuncId) (fn:Func) (s:ChangeSpec) (c:OpenClaim)=>fn.params.all (P.readableRec ·)) Tryz.checked.prog 4 Tryz.f4 Rows.fnExactClusterScanSpec Rows.fnExactClusterScanRow=true:=by kernel_rfl
set_option maxHeartbeats 4000000 in
theorem part4:(fun (P:Program) (f:FuncId) (fn:Func) (s:ChangeSpec) (c:OpenClaim)=>namedTie P c.named s.vars) Tryz.checked.prog 4 Tryz.f4 Rows.fnExactClusterScanSpec Rows.fnExactClusterScanRow=true:=by kernel_rfl
set_option maxHeartbeats 4000000 in
theorem part5:(fun (P:Program) (f:FuncId) (fn:Func) (s:ChangeSpec) (c:OpenClaim)=>(c.stops==[])) Tryz.checked.prog 4 Tryz.f4 Rows.fnExactClusterScanSpec Rows.fnExactClusterScanRow=true:=by kernel_rfl
set_option maxHeartbeats 4000000 in
theorem part6:(fun (P:Program) (f:FuncId) (fn:Func) (s:ChangeSpec) (c:OpenClaim)=>(P.stops==[])) Tryz.checked.prog 4 Tryz.f4 Rows.fnExactClusterScanSpec Rows.fnExactClusterScanRow=true:=by kernel_rfl
set_option maxHeartbeats 4000000 in
theorem part7:(fun (P:Program) (f:FuncId) (fn:Func) (s:ChangeSpec) (c:OpenClaim)=>(c.knobs==[])) Tryz.checked.prog 4 Tryz.f4 Rows.fnExactClusterScanSpec Rows.fnExactClusterScanRow=true:=by kernel_rfl
set_option maxHeartbeats 4000000 in
theorem part8:(fun (P:Program) (f:FuncId) (fn:Func) (s:ChangeSpec) (c:OpenClaim)=>(P.stopKnobs==[])) Tryz.checked.prog 4 Tryz.f4 Rows.fnExactClusterScanSpec Rows.fnExactClusterScanRow=true:=by kernel_rfl
set_option maxHeartbeats 4000000 in
theorem part9:(fun (P:Program) (f:FuncId) (fn:Func) (s:ChangeSpec) (c:OpenClaim)=>(c.inPlace==P.inPlace f)) Tryz.checked.prog 4 Tryz.f4 Rows.fnExactClusterScanSpec Rows.fnExactClusterScanRow=true:=by kernel_rfl
set_option maxHeartbeats 4000000 in
theorem part10:(fun (P:Program) (f:FuncId) (fn:Func) (s:ChangeSpec) (c:OpenClaim)=>(c.unfollowed==P.unfollowed f)) Tryz.checked.prog 4 Tryz.f4 Rows.fnExactClusterScanSpec Rows.fnExactClusterScanRow=true:=by kernel_rfl
set_option maxHeartbeats 4000000 in
theorem part11:(fun (P:Program) (f:FuncId) (fn:Func) (s:ChangeSpec) (c:OpenClaim)=>(c.recurses==P.recurses f)) Tryz.checked.prog 4 Tryz.f4 Rows.fnExactClusterScanSpec Rows.fnExactClusterScanRow=true:=by kernel_rfl
set_option maxHeartbeats 4000000 in
theorem part12:(fun (P:Program) (f:FuncId) (fn:Func) (s:ChangeSpec) (c:OpenClaim)=>(c.named==P.varsNamed f)) Tryz.checked.prog 4 Tryz.f4 Rows.fnExactClusterScanSpec Rows.fnExactClusterScanRow=true:=by kernel_rfl
set_option maxHeartbeats 4000000 in
theorem part13:(fun (P:Program) (f:FuncId) (fn:Func) (s:ChangeSpec) (c:OpenClaim)=>(c.maps==(fn.params.toList++s.plain.varTypes P).any (P.mapsRec ·))) Tryz.checked.prog 4 Tryz.f4 Rows.fnExactClusterScanSpec Rows.fnExactClusterScanRow=true:=by kernel_rfl
set_option maxHeartbeats 4000000 in
theorem part14:(fun (P:Program) (f:FuncId) (fn:Func) (s:ChangeSpec) (c:OpenClaim)=>(c.ifaces==(fn.params.toList++s.plain.varTypes P).any (P.ifacesRec ·))) Tryz.checked.prog 4 Tryz.f4 Rows.fnExactClusterScanSpec Rows.fnExactClusterScanRow=true:=by kernel_rfl
set_option maxHeartbeats 4000000 in
theorem part15:(fun (P:Program) (f:FuncId) (fn:Func) (s:ChangeSpec) (c:OpenClaim)=>(c.mapsOut==P.mapsAmong fn.resultTypes.toList)) Tryz.checked.prog 4 Tryz.f4 Rows.fnExactClusterScanSpec Rows.fnExactClusterScanRow=true:=by kernel_rfl
set_option maxHeartbeats 4000000 in
theorem part16:(fun (P:Program) (f:FuncId) (fn:Func) (s:ChangeSpec) (c:OpenClaim)=>(c.loops==(fn.params.toList++s.plain.varTypes P).any (P.loopsFrom ·))) Tryz.checked.prog 4 Tryz.f4 Rows.fnExactClusterScanSpec Rows.fnExactClusterScanRow=true:=by kernel_rfl
set_option maxHeartbeats 4000000 in
theorem part17:(fun (P:Program) (f:FuncId) (fn:Func) (s:ChangeSpec) (c:OpenClaim)=>(c.wideKeys==(fn.params.toList++s.plain.varTypes P++fn.resultTypes.toList).any (P.wideKeysFrom ·))) Tryz.checked.prog 4 Tryz.f4 Rows.fnExactClusterScanSpec Rows.fnExactClusterScanRow=true:=by kernel_rfl
set_option maxHeartbeats 4000000 in
theorem part18:(fun (P:Program) (f:FuncId) (fn:Func) (s:ChangeSpec) (c:OpenClaim)=>s.vars.all (P.varReadable ·)) Tryz.checked.prog 4 Tryz.f4 Rows.fnExactClusterScanSpec Rows.fnExactClusterScanRow=true:=by kernel_rfl
set_option maxHeartbeats 4000000 in
theorem part19:(fun (P:Program) (f:FuncId) (fn:Func) (s:ChangeSpec) (c:OpenClaim)=>fn.resultTypes.all (fun t=>P.readableRec t&&decide (t<P.types.size))) Tryz.checked.prog 4 Tryz.f4 Rows.fnExactClusterScanSpec Rows.fnExactClusterScanRow=true:=by kernel_rfl
set_option maxHeartbeats 4000000 in
theorem part20:(fun (P:Program) (f:FuncId) (fn:Func) (s:ChangeSpec) (c:OpenClaim)=>(c.ifacesOut==fn.resultTypes.toList.any (P.ifacesRec ·))) Tryz.checked.prog 4 Tryz.f4 Rows.fnExactClusterScanSpec Rows.fnExactClusterScanRow=true:=by kernel_rfl
set_option maxHeartbeats 4000000 in
theorem part21:(fun (P:Program) (f:FuncId) (fn:Func) (s:ChangeSpec) (c:OpenClaim)=>(c.loopsOut==fn.resultTypes.toList.any (P.loopsFrom ·))) Tryz.checked.prog 4 Tryz.f4 Rows.fnExactClusterScanSpec Rows.fnExactClusterScanRow=true:=by kernel_rfl
set_option maxHeartbeats 4000000 in
theorem part22:(fun (P:Program) (f:FuncId) (fn:Func) (s:ChangeSpec) (c:OpenClaim)=>(c.plainKeys==P.plainKeys)) Tryz.checked.prog 4 Tryz.f4 Rows.fnExactClusterScanSpec Rows.fnExactClusterScanRow=true:=by kernel_rfl
set_option maxHeartbeats 4000000 in
theorem part23:(fun (P:Program) (f:FuncId) (fn:Func) (s:ChangeSpec) (c:OpenClaim)=>c.shortTexts.isNone) Tryz.checked.prog 4 Tryz.f4 Rows.fnExactClusterScanSpec Rows.fnExactClusterScanRow=true:=by kernel_rfl
set_option maxHeartbeats 4000000 in
theorem part24:(fun (P:Program) (f:FuncId) (fn:Func) (s:ChangeSpec) (c:OpenClaim)=>P.stopsHeard) Tryz.checked.prog 4 Tryz.f4 Rows.fnExactClusterScanSpec Rows.fnExactClusterScanRow=true:=by kernel_rfl
set_option maxHeartbeats 4000000 in
theorem part25:(fun (P:Program) (f:FuncId) (fn:Func) (s:ChangeSpec) (c:OpenClaim)=>P.mayEnter) Tryz.checked.prog 4 Tryz.f4 Rows.fnExactClusterScanSpec Rows.fnExactClusterScanRow=true:=by kernel_rfl
set_option maxHeartbeats 4000000 in
theorem part26:(fun (P:Program) (f:FuncId) (fn:Func) (s:ChangeSpec) (c:OpenClaim)=>(c.lifted==P.liftsFinal)) Tryz.checked.prog 4 Tryz.f4 Rows.fnExactClusterScanSpec Rows.fnExactClusterScanRow=true:=by kernel_rfl
set_option maxHeartbeats 4000000 in
theorem part27:(fun (P:Program) (f:FuncId) (fn:Func) (s:ChangeSpec) (c:OpenClaim)=>(P.make==some c.make)) Tryz.checked.prog 4 Tryz.f4 Rows.fnExactClusterScanSpec Rows.fnExactClusterScanRow=true:=by kernel_rfl
set_option maxHeartbeats 4000000 in
theorem part28:(fun (P:Program) (f:FuncId) (fn:Func) (s:ChangeSpec) (c:OpenClaim)=>(c.kinds==(if c.domain.isEmpty then [] else fn.params.toList.map fun t=>match P.underlying t with|some (.int k)=>some k|_=>none))) Tryz.checked.prog 4 Tryz.f4 Rows.fnExactClusterScanSpec Rows.fnExactClusterScanRow=true:=by kernel_rfl
set_option maxHeartbeats 4000000 in
theorem part29:(fun (P:Program) (f:FuncId) (fn:Func) (s:ChangeSpec) (c:OpenClaim)=>(c.pinned==c.pinnedBy)) Tryz.checked.prog 4 Tryz.f4 Rows.fnExactClusterScanSpec Rows.fnExactClusterScanRow=true:=by kernel_rfl
set_option maxHeartbeats 4000000 in
theorem part30:(fun (P:Program) (f:FuncId) (fn:Func) (s:ChangeSpec) (c:OpenClaim)=>(c.veiled==(fn.params.toList++s.plain.varTypes P++fn.resultTypes.toList).any (P.veiledRec ·))) Tryz.checked.prog 4 Tryz.f4 Rows.fnExactClusterScanSpec Rows.fnExactClusterScanRow=true:=by kernel_rfl
set_option maxHeartbeats 4000000 in
theorem part31:(fun (P:Program) (f:FuncId) (fn:Func) (s:ChangeSpec) (c:OpenClaim)=>c.veiledFits P fn.params.toList (fn.params.toList++s.plain.varTypes P++fn.resultTypes.toList)) Tryz.checked.prog 4 Tryz.f4 Rows.fnExactClusterScanSpec Rows.fnExactClusterScanRow=true:=by kernel_rfl
set_option maxRecDepth 100000 in
theorem facts:joinedFacts Tryz.checked.prog 4 Tryz.f4 Rows.fnExactClusterScanSpec Rows.fnExactClusterScanRow=true:=by
  unfold joinedFacts
  exact (and2 (and2 (and2 (and2 (and2 (and2 (and2 (and2 (and2 (and2 (and2 (and2 (and2 (and2 (and2 (and2 (and2 (and2 (and2 (and2 (and2 (and2 (and2 (and2 (and2 (and2 (and2 (and2 (and2 (and2 (and2 part0 part1) part2) part3) part4) part5) part6) part7) part8) part9) part10) part11) part12) part13) part14) part15) part16) part17) part18) part19) part20) part21) part22) part23) part24) part25) part26) part27) part28) part29) part30) part31)
set_option maxHeartbeats 4000000 in
theorem over:Rows.fnExactClusterScanRow.holds Tryz.pinned (OpenSpec.ofChange Rows.fnExactClusterScanSpec):=
  OpenClaim.holds_of_wide 4 Tryz.f4 rfl rfl rfl rfl rfl rfl rfl ⟨rfl,rfl,rfl,rfl,rfl⟩ rfl rfl rfl rfl rfl (by as_aux_lemma=>kernel_rfl) Tryz.func4 facts
    (of_decide_eq_true (by as_aux_lemma=>kernel_rfl)) (by unfold Func.isWrapper; first|(rw [if_pos (by decide +kernel)]; kernel_rfl)|(rw [if_neg (by decide +kernel)]; exact ⟨rfl,rfl⟩))
    (fun os started H enc _=>lifted os started H enc)
theorem proved:Rows.FnExactClusterScanSaid:=over
end Go.Proofs.YtfajcehhcjmofaaGreat.fnExactClusterScan
namespace Go.Proofs.YtfajcehhcjmofaaGreat
theorem fnExactClusterScan_holds:Rows.FnExactClusterScanSaid:=fnExactClusterScan.proved
#print axioms fnExactClusterScan_holds
end Go.Proofs.YtfajcehhcjmofaaGreat
