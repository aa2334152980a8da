/- The row of the law FnExactStitchPieces: for every input that its statement speaks of, the call returns true and leaves its arguments as they were. Conditions: none but the statement's own. -/
import Derived.Test.YtfajcehhcjmofaaRows
import Derived.Test.YtfajcehhcjmofaaV28
import Derived.Test.YtfajcehhcjmofaaA1
import Derived.WalkKit
import Derived.ProofKit
import Derived.OpenShut
import Derived.ShutString
import Derived.ChangeOld
import Derived.Below
import Derived.SizedLaws
import Derived.Carry
set_option linter.unusedVariables false
set_option linter.unusedSimpArgs false
namespace Go.Proofs.Ytfajcehhcjmofaa.fnExactStitchPieces
open Go.ChangeShapes Go.WideShapes Go.ChangeAt Go.RowKit Go.Proofs.YtfajcehhcjmofaaV
theorem own:ownKnob Try.prog.godebug=none:=by kernel_rfl
theorem laidOut:laidOutB Try.prog=true:=by kernel_rfl
theorem tys0:ZdJ Try.prog 14 22=some [.sl [.s,.s,.sl [.s,.i .i64]]]:=by kernel_rfl
theorem tys1:ZdJ Try.prog 14 24=some [.s,.s]:=by kernel_rfl
theorem tys2:ZdJ Try.prog 14 3=some [.i .i64]:=by kernel_rfl
set_option maxRecDepth 100000 in
theorem lifted (os:Os) (started:os.Started) (H:Type) (enc:TypeId×Value→H) :
    ReturnsInHanded {} Try.checked os 3 .any (Rows.fnExactStitchPiecesSpec.pre6 enc Try.prog Try.f3 Rows.fnExactStitchPiecesRow.domain false) (Rows.fnExactStitchPiecesSpec.post enc Try.prog Try.f3 false true false false):=by
  refine returnsInHanded_of_change_sized (C:=Try.checked) own started (by kernel_rfl) Try.func3
    (ChangeSpec.witness6 (enc:=enc) (C:=Try.checked) false ⟨#[],#[.slice none 0 0,.agg #[.string ByteArray.empty,.string ByteArray.empty],.int .i64 0],[]⟩ 8 (by kernel_rfl) (by kernel_rfl) (by kernel_rfl) (by kernel_rfl)) ?_
  intro W base args ds gs before hval0 hW hcnd hsz0 _
  have hval:∀ (j:Nat) t v,Try.f3.params[j]?=some t→args[j]?=some v→Value.okWide Try.prog W .any base t v:=hval0
  have hW':=hW
  obtain ⟨p,q,hA0,hV,rfl,hfz,hnd⟩:=hW
  have hA:DataW.TrodAll enc Try.prog W 0 (fun _=>true) true Try.f3.params.toList args.toList ds p:=hA0
  rw [Try.params3] at hA hval
  obtain ⟨v0,vs0,d0,ds0,p0,q0,hargs,rfl,rfl,h0,r0⟩:=trodAll_cons hA
  obtain ⟨v1,vs1,d1,ds1,p1,q1,rfl,rfl,rfl,h1,r1⟩:=trodAll_cons r0
  obtain ⟨v2,vs2,d2,ds2,p2,q2,rfl,rfl,rfl,h2,r2⟩:=trodAll_cons r1
  obtain ⟨rfl,rfl,rfl⟩:=trodAll_nil r2
  obtain rfl:args=#[v0,v1,v2]:=by cases args; simp_all
  obtain ⟨rfl,rfl⟩:=trodVars_none hV
  obtain ⟨a0_,len0_,cap0_,rfl⟩:=okWide_slice Try.underlying22 (hval 0 22 v0 rfl rfl)
  obtain ⟨u0,hr0,ht0⟩:=arg_sc tys0 h0 rfl
  have lt0:∀ x∈p0,x.block<W.heap.size:=by obtain ⟨m,hm⟩:=h0; exact DataW.trod_lt m _ _ _ hm
  obtain ⟨cs1,rfl⟩:=Zh2 Try.underlying24 (hval 1 24 v1 rfl rfl)
  obtain ⟨u1,hr1,hl1,ht1⟩:=arg_ag tys1 h1
  have lt1:∀ x∈p1,x.block<W.heap.size:=by obtain ⟨m,hm⟩:=h1; exact DataW.trod_lt m _ _ _ hm
  obtain ⟨s2_,rfl⟩:=okWide_int Try.underlying3 (hval 2 3 v2 rfl rfl)
  obtain ⟨u2,hr2,ht2⟩:=arg_sc tys2 h2 rfl
  have lt2:∀ x∈p2,x.block<W.heap.size:=by obtain ⟨m,hm⟩:=h2; exact DataW.trod_lt m _ _ _ hm
  clear hA0 hval0 hsz0
  refine (Zi8 ZGS (law_FnExactStitchPieces u0 ht0 u1 hl1 ht1 u2 ht2) rfl (fun j x hj=>?_)).mono fun e W' ⟨he,bel⟩=>?_
  · match j,hj with
    | 0,hj=>cases hj; exact ⟨_,rfl,hr0⟩
    | 1,hj=>cases hj; exact ⟨_,rfl,hr1⟩
    | 2,hj=>cases hj; exact ⟨_,rfl,hr2⟩
    | j+3,hj=>simp at hj
  subst he
  exact ⟨_,rfl,_,_,_,[],_,[],hW',trodAll_mk1 (shut_bool Try.underlying4 _),(trodAll_cons_mk (Below.trod laidOut (by kernel_rfl) (of_decide_eq_true (by kernel_rfl)) h0 bel lt0) (trodAll_cons_mk (Below.trod laidOut (by kernel_rfl) (of_decide_eq_true (by kernel_rfl)) h1 bel lt1) (trodAll_cons_mk (Below.trod laidOut (by kernel_rfl) (of_decide_eq_true (by kernel_rfl)) h2 bel lt2) trodAll_mk0))),rfl,bel.frame _,fun h=>by cases h⟩
theorem and2 {a b:Bool} (h:a=true) (k:b=true):(a&&b)=true:=by rw [h,k]; rfl
set_option maxHeartbeats 4000000 in
theorem part0:(fun (P:Program) (f:FuncId) (fn:Func) (s:ChangeSpec) (c:OpenClaim)=>c.wf (OpenSpec.ofChange s)) Try.checked.prog 3 Try.f3 Rows.fnExactStitchPiecesSpec Rows.fnExactStitchPiecesRow=true:=by kernel_rfl
set_option maxHeartbeats 4000000 in
theorem part1:(fun (P:Program) (f:FuncId) (fn:Func) (s:ChangeSpec) (c:OpenClaim)=>laidOutB P) Try.checked.prog 3 Try.f3 Rows.fnExactStitchPiecesSpec Rows.fnExactStitchPiecesRow=true:=by kernel_rfl
set_option maxHeartbeats 4000000 in
theorem part2:(fun (P:Program) (f:FuncId) (fn:Func) (s:ChangeSpec) (c:OpenClaim)=>mapsRowed P) Try.checked.prog 3 Try.f3 Rows.fnExactStitchPiecesSpec Rows.fnExactStitchPiecesRow=true:=by kernel_rfl
set_option maxHeartbeats 4000000 in
theorem part3:(fun (P:Program) (f:FuncId) (fn:Func) (s:ChangeSpec) (c:OpenClaim)=>fn.params.all (P.readableRec ·)) Try.checked.prog 3 Try.f3 Rows.fnExactStitchPiecesSpec Rows.fnExactStitchPiecesRow=true:=by kernel_rfl
set_option maxHeartbeats 4000000 in
theorem part4:(fun (P:Program) (f:FuncId) (fn:Func) (s:ChangeSpec) (c:OpenClaim)=>namedTie P c.named s.vars) Try.checked.prog 3 Try.f3 Rows.fnExactStitchPiecesSpec Rows.fnExactStitchPiecesRow=true:=by kernel_rfl
set_option maxHeartbeats 4000000 in
theorem part5:(fun (P:Program) (f:FuncId) (fn:Func) (s:ChangeSpec) (c:OpenClaim)=>(c.stops==[])) Try.checked.prog 3 Try.f3 Rows.fnExactStitchPiecesSpec Rows.fnExactStitchPiecesRow=true:=by kernel_rfl
set_option maxHeartbeats 4000000 in
theorem part6:(fun (P:Program) (f:FuncId) (fn:Func) (s:ChangeSpec) (c:OpenClaim)=>(P.stops==[])) Try.checked.prog 3 Try.f3 Rows.fnExactStitchPiecesSpec Rows.fnExactStitchPiecesRow=true:=by kernel_rfl
set_option maxHeartbeats 4000000 in
theorem part7:(fun (P:Program) (f:FuncId) (fn:Func) (s:ChangeSpec) (c:OpenClaim)=>(c.knobs==[])) Try.checked.prog 3 Try.f3 Rows.fnExactStitchPiecesSpec Rows.fnExactStitchPiecesRow=true:=by kernel_rfl
set_option maxHeartbeats 4000000 in
theorem part8:(fun (P:Program) (f:FuncId) (fn:Func) (s:ChangeSpec) (c:OpenClaim)=>(P.stopKnobs==[])) Try.checked.prog 3 Try.f3 Rows.fnExactStitchPiecesSpec Rows.fnExactStitchPiecesRow=true:=by kernel_rfl
set_option maxHeartbeats 4000000 in
theorem part9:(fun (P:Program) (f:FuncId) (fn:Func) (s:ChangeSpec) (c:OpenClaim)=>(c.inPlace==P.inPlace f)) Try.checked.prog 3 Try.f3 Rows.fnExactStitchPiecesSpec Rows.fnExactStitchPiecesRow=true:=by kernel_rfl
set_option maxHeartbeats 4000000 in
theorem part10:(fun (P:Program) (f:FuncId) (fn:Func) (s:ChangeSpec) (c:OpenClaim)=>(c.unfollowed==P.unfollowed f)) Try.checked.prog 3 Try.f3 Rows.fnExactStitchPiecesSpec Rows.fnExactStitchPiecesRow=true:=by kernel_rfl
set_option maxHeartbeats 4000000 in
theorem part11:(fun (P:Program) (f:FuncId) (fn:Func) (s:ChangeSpec) (c:OpenClaim)=>(c.recurses==P.recurses f)) Try.checked.prog 3 Try.f3 Rows.fnExactStitchPiecesSpec Rows.fnExactStitchPiecesRow=true:=by kernel_rfl
set_option maxHeartbeats 4000000 in
theorem part12:(fun (P:Program) (f:FuncId) (fn:Func) (s:ChangeSpec) (c:OpenClaim)=>(c.named==P.varsNamed f)) Try.checked.prog 3 Try.f3 Rows.fnExactStitchPiecesSpec Rows.fnExactStitchPiecesRow=true:=by kernel_rfl
set_option maxHeartbeats 4000000 in
theorem part13:(fun (P:Program) (f:FuncId) (fn:Func) (s:ChangeSpec) (c:OpenClaim)=>(c.maps==(fn.params.toList++s.plain.varTypes P).any (P.mapsRec ·))) Try.checked.prog 3 Try.f3 Rows.fnExactStitchPiecesSpec Rows.fnExactStitchPiecesRow=true:=by kernel_rfl
set_option maxHeartbeats 4000000 in
theorem part14:(fun (P:Program) (f:FuncId) (fn:Func) (s:ChangeSpec) (c:OpenClaim)=>(c.ifaces==(fn.params.toList++s.plain.varTypes P).any (P.ifacesRec ·))) Try.checked.prog 3 Try.f3 Rows.fnExactStitchPiecesSpec Rows.fnExactStitchPiecesRow=true:=by kernel_rfl
set_option maxHeartbeats 4000000 in
theorem part15:(fun (P:Program) (f:FuncId) (fn:Func) (s:ChangeSpec) (c:OpenClaim)=>(c.mapsOut==P.mapsAmong fn.resultTypes.toList)) Try.checked.prog 3 Try.f3 Rows.fnExactStitchPiecesSpec Rows.fnExactStitchPiecesRow=true:=by kernel_rfl
set_option maxHeartbeats 4000000 in
theorem part16:(fun (P:Program) (f:FuncId) (fn:Func) (s:ChangeSpec) (c:OpenClaim)=>(c.loops==(fn.params.toList++s.plain.varTypes P).any (P.loopsFrom ·))) Try.checked.prog 3 Try.f3 Rows.fnExactStitchPiecesSpec Rows.fnExactStitchPiecesRow=true:=by kernel_rfl
set_option maxHeartbeats 4000000 in
theorem part17:(fun (P:Program) (f:FuncId) (fn:Func) (s:ChangeSpec) (c:OpenClaim)=>(c.wideKeys==(fn.params.toList++s.plain.varTypes P++fn.resultTypes.toList).any (P.wideKeysFrom ·))) Try.checked.prog 3 Try.f3 Rows.fnExactStitchPiecesSpec Rows.fnExactStitchPiecesRow=true:=by kernel_rfl
set_option maxHeartbeats 4000000 in
theorem part18:(fun (P:Program) (f:FuncId) (fn:Func) (s:ChangeSpec) (c:OpenClaim)=>s.vars.all (P.varReadable ·)) Try.checked.prog 3 Try.f3 Rows.fnExactStitchPiecesSpec Rows.fnExactStitchPiecesRow=true:=by kernel_rfl
set_option maxHeartbeats 4000000 in
theorem part19:(fun (P:Program) (f:FuncId) (fn:Func) (s:ChangeSpec) (c:OpenClaim)=>fn.resultTypes.all (fun t=>P.readableRec t&&decide (t<P.types.size))) Try.checked.prog 3 Try.f3 Rows.fnExactStitchPiecesSpec Rows.fnExactStitchPiecesRow=true:=by kernel_rfl
set_option maxHeartbeats 4000000 in
theorem part20:(fun (P:Program) (f:FuncId) (fn:Func) (s:ChangeSpec) (c:OpenClaim)=>(c.ifacesOut==fn.resultTypes.toList.any (P.ifacesRec ·))) Try.checked.prog 3 Try.f3 Rows.fnExactStitchPiecesSpec Rows.fnExactStitchPiecesRow=true:=by kernel_rfl
set_option maxHeartbeats 4000000 in
theorem part21:(fun (P:Program) (f:FuncId) (fn:Func) (s:ChangeSpec) (c:OpenClaim)=>(c.loopsOut==fn.resultTypes.toList.any (P.loopsFrom ·))) Try.checked.prog 3 Try.f3 Rows.fnExactStitchPiecesSpec Rows.fnExactStitchPiecesRow=true:=by kernel_rfl
set_option maxHeartbeats 4000000 in
theorem part22:(fun (P:Program) (f:FuncId) (fn:Func) (s:ChangeSpec) (c:OpenClaim)=>(c.plainKeys==P.plainKeys)) Try.checked.prog 3 Try.f3 Rows.fnExactStitchPiecesSpec Rows.fnExactStitchPiecesRow=true:=by kernel_rfl
set_option maxHeartbeats 4000000 in
theorem part23:(fun (P:Program) (f:FuncId) (fn:Func) (s:ChangeSpec) (c:OpenClaim)=>c.shortTexts.isNone) Try.checked.prog 3 Try.f3 Rows.fnExactStitchPiecesSpec Rows.fnExactStitchPiecesRow=true:=by kernel_rfl
set_option maxHeartbeats 4000000 in
theorem part24:(fun (P:Program) (f:FuncId) (fn:Func) (s:ChangeSpec) (c:OpenClaim)=>P.stopsHeard) Try.checked.prog 3 Try.f3 Rows.fnExactStitchPiecesSpec Rows.fnExactStitchPiecesRow=true:=by kernel_rfl
set_option maxHeartbeats 4000000 in
theorem part25:(fun (P:Program) (f:FuncId) (fn:Func) (s:ChangeSpec) (c:OpenClaim)=>P.mayEnter) Try.checked.prog 3 Try.f3 Rows.fnExactStitchPiecesSpec Rows.fnExactStitchPiecesRow=true:=by kernel_rfl
set_option maxHeartbeats 4000000 in
theorem part26:(fun (P:Program) (f:FuncId) (fn:Func) (s:ChangeSpec) (c:OpenClaim)=>(c.lifted==P.liftsFinal)) Try.checked.prog 3 Try.f3 Rows.fnExactStitchPiecesSpec Rows.fnExactStitchPiecesRow=true:=by kernel_rfl
set_option maxHeartbeats 4000000 in
theorem part27:(fun (P:Program) (f:FuncId) (fn:Func) (s:ChangeSpec) (c:OpenClaim)=>(P.make==some c.make)) Try.checked.prog 3 Try.f3 Rows.fnExactStitchPiecesSpec Rows.fnExactStitchPiecesRow=true:=by kernel_rfl
set_option maxHeartbeats 4000000 in
theorem part28:(fun (P:Program) (f:FuncId) (fn:Func) (s:ChangeSpec) (c:OpenClaim)=>(c.kinds==(if c.domain.isEmpty then [] else fn.params.toList.map fun t=>match P.underlying t with|some (.int k)=>some k|_=>none))) Try.checked.prog 3 Try.f3 Rows.fnExactStitchPiecesSpec Rows.fnExactStitchPiecesRow=true:=by kernel_rfl
set_option maxHeartbeats 4000000 in
theorem part29:(fun (P:Program) (f:FuncId) (fn:Func) (s:ChangeSpec) (c:OpenClaim)=>(c.pinned==c.pinnedBy)) Try.checked.prog 3 Try.f3 Rows.fnExactStitchPiecesSpec Rows.fnExactStitchPiecesRow=true:=by kernel_rfl
set_option maxHeartbeats 4000000 in
theorem part30:(fun (P:Program) (f:FuncId) (fn:Func) (s:ChangeSpec) (c:OpenClaim)=>(c.veiled==(fn.params.toList++s.plain.varTypes P++fn.resultTypes.toList).any (P.veiledRec ·))) Try.checked.prog 3 Try.f3 Rows.fnExactStitchPiecesSpec Rows.fnExactStitchPiecesRow=true:=by kernel_rfl
set_option maxHeartbeats 4000000 in
theorem part31:(fun (P:Program) (f:FuncId) (fn:Func) (s:ChangeSpec) (c:OpenClaim)=>c.veiledFits P fn.params.toList (fn.params.toList++s.plain.varTypes P++fn.resultTypes.toList)) Try.checked.prog 3 Try.f3 Rows.fnExactStitchPiecesSpec Rows.fnExactStitchPiecesRow=true:=by kernel_rfl
set_option maxRecDepth 100000 in
theorem facts:joinedFacts Try.checked.prog 3 Try.f3 Rows.fnExactStitchPiecesSpec Rows.fnExactStitchPiecesRow=true:=by
  unfold joinedFacts
  exact (and2 (and2 (and2 (and2 (and2 (and2 (and2 (and2 (and2 (and2 (and2 (and2 (and2 (and2 (and2 (and2 (and2 (and2 (and2 (and2 (and2 (and2 (and2 (and2 (and2 (and2 (and2 (and2 (and2 (and2 (and2 part0 part1) part2) part3) part4) part5) part6) part7) part8) part9) part10) part11) part12) part13) part14) part15) part16) part17) part18) part19) part20) part21) part22) part23) part24) part25) part26) part27) part28) part29) part30) part31)
set_option maxHeartbeats 4000000 in
theorem over:Rows.fnExactStitchPiecesRow.holds Try.pinned (OpenSpec.ofChange Rows.fnExactStitchPiecesSpec):=
  OpenClaim.holds_of_wide 3 Try.f3 rfl rfl rfl rfl rfl rfl rfl ⟨rfl,rfl,rfl,rfl,rfl⟩ rfl rfl rfl rfl rfl (by as_aux_lemma=>kernel_rfl) Try.func3 facts
    (of_decide_eq_true (by as_aux_lemma=>kernel_rfl)) (by unfold Func.isWrapper; first|(rw [if_pos (by decide +kernel)]; kernel_rfl)|(rw [if_neg (by decide +kernel)]; exact ⟨rfl,rfl⟩))
    (fun os started H enc _=>lifted os started H enc)
theorem proved:Rows.FnExactStitchPiecesSaid:=over
end Go.Proofs.Ytfajcehhcjmofaa.fnExactStitchPieces
namespace Go.Proofs.Ytfajcehhcjmofaa
theorem fnExactStitchPieces_holds:Rows.FnExactStitchPiecesSaid:=fnExactStitchPieces.proved
#print axioms fnExactStitchPieces_holds
end Go.Proofs.Ytfajcehhcjmofaa
