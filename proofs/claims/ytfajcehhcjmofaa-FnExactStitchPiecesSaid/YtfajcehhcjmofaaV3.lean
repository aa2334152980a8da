/- The evaluator without rounds: its equations. No conditions. -/
import Derived.Test.YtfajcehhcjmofaaV1
import Derived.Test.YtfajcehhcjmofaaV2
namespace Go.Proofs.YtfajcehhcjmofaaV
open Go Go.RowKit
set_option linter.unusedVariables false
theorem ZdI {E:Nat→Zb} {E':Zb} (h:∀ f a i,Lim (fun k=>E k f a i) (E' f a i)) (st:St) (o:IOp):Lim (fun k=>step (E k) st o) (step E' st o):=by
 cases o with
 | call d f xs=>exact Lim.bind (Lim.const _) fun vs=>Lim.bind (Lim.const _) fun args=>Lim.bind (h ..) fun r=>Lim.const _
 | callr d f xs=>
  refine Lim.bind (Lim.const _) fun vs=>Lim.bind (Lim.const _) fun ins=>?_
  exact Lim.ite (Lim.bind (h ..) fun r=>Lim.const _) (Lim.const _)
 | callc d f xs=>
  refine Lim.bind (Lim.const _) fun vs=>Lim.bind (Lim.const _) fun ins=>?_
  exact Lim.ite (Lim.bind (h ..) fun r=>Lim.const _) (Lim.const _)
 | callv d fs x xs=>exact Lim.bind (Lim.const _) fun p=>Lim.ite (Lim.bind (Lim.const _) fun vs=>Lim.bind (Lim.const _) fun args=>Lim.bind (h ..) fun r=>Lim.const _) (Lim.const _)
 | callk d f dp xs=>
  refine Lim.bind (Lim.const _) fun vs=>?_
  split
  ·split
   ·exact Lim.bind (Lim.const _) fun x=>Lim.bind (Lim.const _) fun ob=>Lim.bind (h ..) fun r=>Lim.const _
   ·exact Lim.const _
  ·exact Lim.const _
 | _=>exact Lim.const _
theorem Zd0 {E:Nat→Zb} {E':Zb} (h:∀ f a i,Lim (fun k=>E k f a i) (E' f a i)) (st:St) (o:GOp):Lim (fun k=>Zaf (E k) st o) (Zaf E' st o):=by
 unfold Zaf
 cases o.g with
 | none=>exact ZdI h st o.op
 | some p=>exact Lim.bind (Lim.const _) fun x=>Lim.ite (ZdI h st o.op) (Lim.const _)
theorem ZdF {E:Nat→Zb} {E':Zb} (h:∀ f a i,Lim (fun k=>E k f a i) (E' f a i)):∀ (ops:List GOp) (st:St),Lim (fun k=>Zaq (E k) ops st) (Zaq E' ops st)
 | [],st=>Lim.const _
 | o::os,st=>Lim.bind (Zd0 h st o) fun st'=>ZdF h os st'
theorem Zel {E:Nat→Zb} {E':Zb} (h:∀ f a i,Lim (fun k=>E k f a i) (E' f a i)) (st:St) (o:IOp):Lim (fun k=>fxF (E k) st o) (fxF E' st o):=Lim.bind (ZdI h st o) fun _=>Lim.const _
theorem Zgl {E:Nat→Zb} {E':Zb} (h:∀ f a i,Lim (fun k=>E k f a i) (E' f a i)) (st:St) (o:IOp):Lim (fun k=>fx (E k) st o) (fx E' st o):=by
 cases o with
 | call d f xs=>exact Lim.bind (Lim.const _) fun vs=>Lim.bind (Lim.const _) fun args=>Lim.bind (h ..) fun r=>Lim.const _
 | callr d f xs=>
  refine Lim.bind (Lim.const _) fun vs=>Lim.bind (Lim.const _) fun ins=>?_
  exact Lim.ite (Lim.bind (h ..) fun r=>Lim.const _) (Lim.const _)
 | mv d a=>exact Lim.ite (Lim.const _) (Zel h st _)
 | slc d sz x lo hi=>exact Lim.ite (Zel h st _) (Lim.const _)
 | alloc=>exact Lim.const _
 | nilr=>exact Lim.const _
 | box=>exact Lim.const _
 | lit=>exact Lim.const _
 | mk=>exact Lim.const _
 | st=>exact Lim.const _
 | app=>exact Lim.const _
 | callv=>exact Lim.const _
 | cl=>exact Lim.const _
 | stc=>exact Lim.const _
 | slp=>exact Lim.const _
 | mkd=>exact Lim.const _
 | litd=>exact Lim.const _
 | appd=>exact Lim.const _
 | std=>exact Lim.const _
 | callk=>exact Lim.const _
 | mkf=>exact Lim.const _
 | callc=>exact Lim.const _
 | _=>exact Zel h st _
theorem ZgV {E:Nat→Zb} {E':Zb} (h:∀ f a i,Lim (fun k=>E k f a i) (E' f a i)) (st:St) (o:GOp):Lim (fun k=>gfx (E k) st o) (gfx E' st o):=by
 unfold gfx
 cases o.g with
 | none=>exact Zgl h st o.op
 | some p=>exact Lim.bind (Lim.const _) fun x=>Lim.ite (Zgl h st o.op) (Lim.const _)
theorem ZbP {E:Nat→Zb} {E':Zb} (h:∀ f a i,Lim (fun k=>E k f a i) (E' f a i)):∀ (ops:List (GOp×List Nat)) (done:List Fx) (st:St),Lim (fun k=>Zy (E k) ops done st) (Zy E' ops done st)
 | [],_,st=>Lim.const _
 | (o,free)::os,done,st=>Lim.ite (Lim.bind (Zd0 h st o) fun st=>ZbP h os _ _) (Lim.bind (ZgV h st o) fun e=>Lim.ite (ZbP h os _ _) (Lim.const _))
variable (F:Nat→Option IFn)
theorem ZdU {r r':List Za→St→Option St} (h:∀ i s,LeO (r i s) (r' i s)) (f:Nat) (a:List T) (i:List Obj):LeO (ZaM F r f a i) (ZaM F r' f a i):=
 LeO.bind (LeO.refl _) fun fn=>LeO.ite (LeO.bind (h _ _) fun _=>LeO.refl _) (LeO.refl _)
theorem Zep {E E':Zb} (h:∀ f a i,LeO (E f a i) (E' f a i)) (st:St) (o:IOp):LeO (step E st o) (step E' st o):=by
 cases o with
 | call d f xs=>exact LeO.bind (LeO.refl _) fun vs=>LeO.bind (LeO.refl _) fun args=>LeO.bind (h _ _ _) fun r=>LeO.refl _
 | callr d f xs=>
  refine LeO.bind (LeO.refl _) fun vs=>LeO.bind (LeO.refl _) fun ins=>?_
  exact LeO.ite (LeO.bind (h _ _ _) fun r=>LeO.refl _) (LeO.refl _)
 | callc d f xs=>
  refine LeO.bind (LeO.refl _) fun vs=>LeO.bind (LeO.refl _) fun ins=>?_
  exact LeO.ite (LeO.bind (h _ _ _) fun r=>LeO.refl _) (LeO.refl _)
 | callv d fs x xs=>exact LeO.bind (LeO.refl _) fun p=>LeO.ite (LeO.bind (LeO.refl _) fun vs=>LeO.bind (LeO.refl _) fun args=>LeO.bind (h _ _ _) fun r=>LeO.refl _) (LeO.refl _)
 | callk d f dp xs=>
  refine LeO.bind (LeO.refl _) fun vs=>?_
  split
  ·split
   ·exact LeO.bind (LeO.refl _) fun x=>LeO.bind (LeO.refl _) fun ob=>LeO.bind (h _ _ _) fun r=>LeO.refl _
   ·exact LeO.refl _
  ·exact LeO.refl _
 | _=>exact LeO.refl _
theorem ZeF {E E':Zb} (h:∀ f a i,LeO (E f a i) (E' f a i)) (st:St) (o:GOp):LeO (Zaf E st o) (Zaf E' st o):=by
 unfold Zaf
 cases o.g with
 | none=>exact Zep h st o.op
 | some p=>exact LeO.bind (LeO.refl _) fun x=>LeO.ite (Zep h st o.op) (LeO.refl _)
theorem Zec {E E':Zb} (h:∀ f a i,LeO (E f a i) (E' f a i)):∀ (ops:List GOp) (st:St),LeO (Zaq E ops st) (Zaq E' ops st)
 | [],st=>LeO.refl _
 | o::os,st=>LeO.bind (ZeF h st o) fun st'=>Zec h os st'
theorem Zff {E E':Zb} (h:∀ f a i,LeO (E f a i) (E' f a i)) (st:St) (o:IOp):LeO (fxF E st o) (fxF E' st o):=LeO.bind (Zep h st o) fun _=>LeO.refl _
theorem Zhe {E E':Zb} (h:∀ f a i,LeO (E f a i) (E' f a i)) (st:St) (o:IOp):LeO (fx E st o) (fx E' st o):=by
 cases o with
 | call d f xs=>exact LeO.bind (LeO.refl _) fun vs=>LeO.bind (LeO.refl _) fun args=>LeO.bind (h _ _ _) fun r=>LeO.refl _
 | callr d f xs=>
  refine LeO.bind (LeO.refl _) fun vs=>LeO.bind (LeO.refl _) fun ins=>?_
  exact LeO.ite (LeO.bind (h _ _ _) fun r=>LeO.refl _) (LeO.refl _)
 | mv d a=>exact LeO.ite (LeO.refl _) (Zff h st _)
 | slc d sz x lo hi=>exact LeO.ite (Zff h st _) (LeO.refl _)
 | alloc=>exact LeO.refl _
 | nilr=>exact LeO.refl _
 | box=>exact LeO.refl _
 | lit=>exact LeO.refl _
 | mk=>exact LeO.refl _
 | st=>exact LeO.refl _
 | app=>exact LeO.refl _
 | callv=>exact LeO.refl _
 | cl=>exact LeO.refl _
 | stc=>exact LeO.refl _
 | slp=>exact LeO.refl _
 | mkd=>exact LeO.refl _
 | litd=>exact LeO.refl _
 | appd=>exact LeO.refl _
 | std=>exact LeO.refl _
 | callk=>exact LeO.refl _
 | mkf=>exact LeO.refl _
 | callc=>exact LeO.refl _
 | _=>exact Zff h st _
theorem ZhD {E E':Zb} (h:∀ f a i,LeO (E f a i) (E' f a i)) (st:St) (o:GOp):LeO (gfx E st o) (gfx E' st o):=by
 unfold gfx
 cases o.g with
 | none=>exact Zhe h st o.op
 | some p=>exact LeO.bind (LeO.refl _) fun x=>LeO.ite (Zhe h st o.op) (LeO.refl _)
theorem Zce {E E':Zb} (h:∀ f a i,LeO (E f a i) (E' f a i)):∀ (ops:List (GOp×List Nat)) (done:List Fx) (st:St),LeO (Zy E ops done st) (Zy E' ops done st)
 | [],_,st=>LeO.refl _
 | (o,free)::os,done,st=>LeO.ite (LeO.bind (ZeF h st o) fun st=>Zce h os _ _) (LeO.bind (ZhD h st o) fun e=>LeO.ite (Zce h os _ _) (LeO.refl _))
theorem Zfb:∀ (k:Nat) (items:List Za) (st:St),LeO (Zu F k items st) (Zu F (k+1) items st):=by
 intro k
 induction k with
 | zero=>intro items st; exact LeO.none _
 | succ k ih=>
  intro items st
  match items with
  | []=>exact LeO.refl _
  | .inBlock _::rest=>exact ih _ _
  | .inLoop c::rest=>exact ih _ _
  | .code c::rest=>
   cases c with
   | skip=>exact ih _ _
   | region ops=>exact LeO.bind (Zec (ZdU F ih) ops st) fun st'=>ih _ _
   | draw ops=>exact LeO.bind (Zce (ZdU F ih) ops _ _) fun st'=>ih _ _
   | seq a b=>exact ih _ _
   | cond c a b=>exact LeO.bind (LeO.refl _) fun x=>ih _ _
   | block id c=>exact ih _ _
   | loop c=>exact ih _ _
   | exit id=>exact LeO.bind (LeO.refl _) fun r=>ih _ _
   | ret=>exact LeO.refl _
noncomputable def CC (items:List Za) (st:St):Option St:=lim fun k=>Zu F k items st
noncomputable def EE:Zb:=ZaM F (CC F)
theorem Zac (items:List Za) (st:St):Lim (fun k=>Zu F k items st) (CC F items st):=Lim.of fun k=>Zfb F k items st
theorem Ze6 (f:Nat) (a:List T) (i:List Obj):Lim (fun k=>ZaM F (Zu F k) f a i) (EE F f a i):=
 Lim.bind (Lim.const _) fun fn=>Lim.ite (Lim.bind (Zac F _ _) fun _=>Lim.const _) (Lim.const _)
theorem Zf5 (st:St):CC F [] st=some st:=Lim.step (fun _=>rfl) (Zac F [] st).mono (Lim.const _)
theorem Ze5 (id:Nat) (rest:List Za) (st:St):CC F (.inBlock id::rest) st=CC F rest st:=Lim.step (fun _=>rfl) (Zac F _ st).mono (Zac F rest st)
theorem ZdQ (c:IC) (rest:List Za) (st:St):CC F (.inLoop c::rest) st=CC F (.code c::.inLoop c::rest) st:=Lim.step (fun _=>rfl) (Zac F _ st).mono (Zac F _ st)
theorem ZgM (rest:List Za) (st:St):CC F (.code .skip::rest) st=CC F rest st:=Lim.step (fun _=>rfl) (Zac F _ st).mono (Zac F _ st)
theorem ZdR (ops:List GOp) (rest:List Za) (st:St):CC F (.code (.region ops)::rest) st=(Zaq (EE F) ops st).bind (CC F rest):=
 Lim.step (fun _=>rfl) (Zac F _ st).mono (Lim.bind (ZdF (Ze6 F) ops st) fun st'=>Zac F rest st')
theorem Zfn (ops:List (GOp×List Nat)) (rest:List Za) (st:St):CC F (.code (.draw ops)::rest) st=(Zy (EE F) ops [] (coolDsts st ops)).bind (CC F rest):=
 Lim.step (fun _=>rfl) (Zac F _ st).mono (Lim.bind (ZbP (Ze6 F) ops _ _) fun st'=>Zac F rest st')
theorem Zhr (a b:IC) (rest:List Za) (st:St):CC F (.code (.seq a b)::rest) st=CC F (.code a::.code b::rest) st:=Lim.step (fun _=>rfl) (Zac F _ st).mono (Zac F _ st)
theorem ZgK (c:Arg) (a b:IC) (rest:List Za) (st:St):CC F (.code (.cond c a b)::rest) st=(st.get c).bool?.bind fun x=>CC F (.code (if x then a else b)::rest) st:=
 Lim.step (fun _=>rfl) (Zac F _ st).mono (Lim.bind (Lim.const _) fun x=>Zac F _ st)
theorem Zf4 (id:Nat) (c:IC) (rest:List Za) (st:St):CC F (.code (.block id c)::rest) st=CC F (.code c::.inBlock id::rest) st:=Lim.step (fun _=>rfl) (Zac F _ st).mono (Zac F _ st)
theorem ZgL (c:IC) (rest:List Za) (st:St):CC F (.code (.loop c)::rest) st=CC F (.code c::.inLoop c::rest) st:=Lim.step (fun _=>rfl) (Zac F _ st).mono (Zac F _ st)
theorem Zci (id:Nat) (rest:List Za) (st:St):CC F (.code (.exit id)::rest) st=(exitTo id rest).bind fun r=>CC F r st:=
 Lim.step (fun _=>rfl) (Zac F _ st).mono (Lim.bind (Lim.const _) fun r=>Zac F r st)
theorem Zhq (rest:List Za) (st:St):CC F (.code .ret::rest) st=some st:=Lim.step (fun _=>rfl) (Zac F _ st).mono (Lim.const _)
theorem ZgN {f:Nat} {a:List T} {i:List Obj} {r:Ret} (h:EE F f a i=some r):∃ k,ZaM F (Zu F k) f a i=some r:=Zdy ((Ze6 F f a i).eq.trans h)
end Go.Proofs.YtfajcehhcjmofaaV
