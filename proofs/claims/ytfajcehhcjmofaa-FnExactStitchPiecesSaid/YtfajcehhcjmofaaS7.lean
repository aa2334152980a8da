/- More of the simplifier's rules: structs compared, calls that are handed own objects, and what drawn regions store. No conditions. -/
import Derived.Test.YtfajcehhcjmofaaS6
namespace Go.Proofs.YtfajcehhcjmofaaV
open Go Go.RowKit
set_option linter.unusedVariables false
set_option linter.unusedSimpArgs false
/-! ### Structs compared -/
def eqSh:List EK→List C→List C→Bool
 | [],[],[]=>true
 | .i::ks,.u (.int k _)::xs,.u (.int k' _)::ys=>decide (k=k')&&eqSh ks xs ys
 | .b::ks,.u (.bool _)::xs,.u (.bool _)::ys=>eqSh ks xs ys
 | .s::ks,.u (.str _)::xs,.u (.str _)::ys=>eqSh ks xs ys
 | _,_,_=>false
def eqBs:List EK→List C→List C→Bool
 | .i::ks,.u (.int _ a)::xs,.u (.int _ b)::ys=>decide (a=b)&&eqBs ks xs ys
 | .b::ks,.u (.bool a)::xs,.u (.bool b)::ys=>decide (a=b)&&eqBs ks xs ys
 | .s::ks,.u (.str a)::xs,.u (.str b)::ys=>decide (a=b)&&eqBs ks xs ys
 | _,_,_=>true
theorem Zdl:∀ (ks:List EK) (xs ys:List C),eqSh ks xs ys=true→Zg ks xs ys=some (eqBs ks xs ys):=by
 intro ks
 induction ks with
 | nil=>intro xs ys h; cases xs<;>cases ys<;>simp_all [eqSh,Zg,eqBs]
 | cons k ks ih=>
  intro xs ys h
  unfold eqSh at h
  split at h<;>simp_all [Zg,eqBs]
  all_goals (split<;>simp_all)
/-! ### Drawn regions: boxes made and written -/
def fxb (ob:Option Obj) (id:Id) (n i off:Nat) (v:T):Option Fx:=match ob with
 | some (.box cs)=>sel (v.cells.length==n) (if i=0 then (Zx cs off v.cells).map fun c=>⟨none,.bad,[(id,.box c)],[id]⟩ else none) none
 | some (.row z r)=>sel (v.cells.length==n&&v.ids.isEmpty) ((uAll v.cells).bind fun us=>(r[i]?).bind fun cs=>(Zx cs off us).map fun c=>⟨none,.bad,[(id,.row z (r.set i c))],[id]⟩) none
 | some (.deep z r)=>sel (v.cells.length==n) ((uAll v.cells).bind fun us=>(r[i]?).bind fun cs=>(seg cs off v.cells.length).bind fun old=>if us.all U.scal=true∧old.all U.scal=true then (Zx cs off us).map fun c=>⟨none,.bad,[(id,.deep z (r.set i c))],[id]⟩ else none) none
 | none=>none
def fxw (st:St) (n:Nat) (a x:D):Option Fx:=match a with
 | .t (.sc (.ptr id i o))=>x.t?.bind fun v=>fxb (st.o id) id n i o v
 | _=>none
@[congr] theorem ZiE {st:St} {n:Nat} {a a' x x':D} (h:a=a') (h':x=x'):fxw st n a x=fxw st n a' x':=by rw [h,h']
theorem Zhf (E:Zb) (st:St) (n:Nat) (a x:Arg):fx E st (.st n a x)=fxw st n (st.get a) (st.get x):=by
 simp only[fx,fxw]
 split
 ·rename_i id i o hg
  simp only[hg]
  cases (st.get x).t? with
  | none=>rfl
  | some v=>
   simp only[Option.bind_some,fxb,St.write,Zb1,St.isRow]
   have ho:∀ y,(st.obj id (some y)).o id=some y:=by intro y; simp [St.obj]
   cases st.o id with
   | none=>simp only; split<;>rfl
   | some ob =>
    cases ob with
    | box cs=>
     by_cases h:v.cells.length=n
     ·simp only[sel,h,true_and,or_true,if_true,beq_self_eq_true]
      split
      ·cases Zx cs o v.cells<;>simp [ho]
      ·rfl
     ·simp [sel,h]
    | row z r=>
     by_cases h:v.cells.length=n
     ·cases h2:v.ids with
      | cons j js=>simp [sel,h]
      | nil=>
       simp only[sel,h,true_and,true_or,if_true,beq_self_eq_true,List.isEmpty_nil,Bool.and_self]
       cases uAll v.cells with
       | none=>rfl
       | some us=>
        simp only[Option.bind_some]
        cases r[i]? with
        | none=>rfl
        | some cs=>simp only[Option.bind_some]; cases Zx cs o us<;>simp [ho]
     ·simp [sel,h]
    | deep z r=>
     by_cases h:v.cells.length=n
     ·simp only[sel,h,true_and,or_true,if_true,beq_self_eq_true]
      cases uAll v.cells with
      | none=>rfl
      | some us=>
       simp only[Option.bind_some]
       cases r[i]? with
       | none=>rfl
       | some cs=>
        simp only[Option.bind_some]
        cases seg cs o n with
        | none=>rfl
        | some old=>
         simp only[Option.bind_some]
         split
         ·cases Zx cs o us<;>simp [ho]
         ·rfl
     ·simp [sel,h]
 ·rename_i h1
  generalize st.get a=y at h1
  split
  ·rename_i id i o; exact absurd rfl (h1 id i o)
  ·rfl
def fxa (st:St) (d:Nat) (ob:Option Obj) (zero:List U):Option Fx:=sel (isNo ob) (some ⟨some d,.t (.sc (.ptr (.loc d 0) 0 0)),[(.loc d 0,.box (zero.map .u))],[]⟩) none
theorem Zi9 (st:St) (d:Nat):st.dead d 1=isNo (st.o (.loc d 0)):=by simp [St.dead,isNo,List.range_succ]
/-! ### Calls that are handed own objects -/
def ddI (l:List Id):List Id:=l.eraseDups
def neI (a:Id) (l:List Id):List Id:=l.filter fun b=>!b==a
def renP (x:Option Id) (a b:Nat):C:=match x with
 | some j=>.ptr j a b
 | none=>.bad
def SQK (c:Bool) (st:St) (d:Nat) (ids:List Id) (r:Ret):Option St:=if c=true then (if r.out.isEmpty=true then some (((st.killAll ids).coolAll ((List.range r.new.length).map (.loc d ·))).ofRet d r) else none) else (Zz ids r.out st).map fun st=>(st.coolAll ((List.range r.new.length).map (.loc d ·))).ofRet d r
noncomputable def SQ1 (c:Bool) (F:Nat→Option IFn) (st:St) (d f:Nat) (vs:Option (List T)):Option St:=vs.bind fun vs=>(((vs.flatMap T.ids).eraseDups).mapM st.o).bind fun ins=>if ins.all Obj.data then
   (EE F f (vs.map (T.mapC (C.ren (Zat ((vs.flatMap T.ids).eraseDups))))) ins).bind (SQK c st d ((vs.flatMap T.ids).eraseDups)) else none
noncomputable def SQ2 (c:Bool) (F:Nat→Option IFn) (st:St) (d f:Nat) (vs:List T) (ids:List Id) (ins:Option (List Obj)):Option St:=ins.bind fun ins=>if ins.all Obj.data then
   (EE F f (vs.map (T.mapC (C.ren (fun i=>posI i 0 ids)))) ins).bind (SQK c st d ids) else none
noncomputable def SQ3 (c:Bool) (F:Nat→Option IFn) (st:St) (d f:Nat) (vs:List T) (ids:List Id) (ins:List Obj) (ok:Bool):Option St:=if ok=true then
   (EE F f (vs.map (T.mapC (C.ren (fun i=>posI i 0 ids)))) ins).bind (SQK c st d ids) else none
noncomputable def SQ4 (c:Bool) (F:Nat→Option IFn) (st:St) (d f:Nat) (ids:List Id) (ins:List Obj) (args:List T):Option St:=(EE F f args ins).bind (SQK c st d ids)
def SQ5 (c:Bool) (st:St) (d:Nat) (ids:List Id) (r:Option Ret):Option St:=r.bind (SQK c st d ids)
def SQ6 (d:Nat) (res:List T) (new:List Obj) (st:Option St):Option St:=st.map fun st=>(st.coolAll ((List.range new.length).map (.loc d ·))).ofRet d ⟨res,new,[]⟩
def PO (ids:List Id) (out:List Obj) (st:St):Option St:=Zz ids out st
def PK (ids:List Id) (out:List Obj) (id:Id) (x:Obj) (st:St) (ok:Bool):Option St:=if ok=true then Zz ids out (st.obj id (some x)) else none
@[congr] theorem Zip {c:Bool} {F:Nat→Option IFn} {st:St} {d f:Nat} {v v':Option (List T)} (h:v=v'):SQ1 c F st d f v=SQ1 c F st d f v':=by rw [h]
@[congr] theorem Ziq {c:Bool} {F:Nat→Option IFn} {st:St} {d f:Nat} {vs:List T} {ids ids':List Id} {v v':Option (List Obj)} (h1:ids=ids') (h:v=v'):SQ2 c F st d f vs ids v=SQ2 c F st d f vs ids' v':=by rw [h1,h]
@[congr] theorem Zir {c:Bool} {F:Nat→Option IFn} {st:St} {d f:Nat} {vs:List T} {ids:List Id} {ins:List Obj} {v v':Bool} (h:v=v'):SQ3 c F st d f vs ids ins v=SQ3 c F st d f vs ids ins v':=by rw [h]
@[congr] theorem Zis {c:Bool} {F:Nat→Option IFn} {st:St} {d f:Nat} {ids:List Id} {ins:List Obj} {v v':List T} (h:v=v'):SQ4 c F st d f ids ins v=SQ4 c F st d f ids ins v':=by rw [h]
@[congr] theorem Zit {c:Bool} {st:St} {d:Nat} {ids:List Id} {v v':Option Ret} (h:v=v'):SQ5 c st d ids v=SQ5 c st d ids v':=by rw [h]
@[congr] theorem Ziu {d:Nat} {res:List T} {new:List Obj} {v v':Option St} (h:v=v'):SQ6 d res new v=SQ6 d res new v':=by rw [h]
@[congr] theorem ZiY {ids:List Id} {out:List Obj} {st:St}:PO ids out st=PO ids out st:=rfl
@[congr] theorem ZiX {ids:List Id} {out:List Obj} {id:Id} {x:Obj} {st:St} {v v':Bool} (h:v=v'):PK ids out id x st v=PK ids out id x st v':=by rw [h]
theorem ZeU (ids:List Id):(fun i=>posI i 0 ids)=Zat ids:=by funext i; rw [Zdd]; simp [Zat]
theorem sq:(∀ (F:Nat→Option IFn) (st:St) d f xs,step (EE F) st (.callr d f xs)=SQ1 false F st d f (getL st xs))∧
 (∀ (F:Nat→Option IFn) (st:St) d f xs,step (EE F) st (.callc d f xs)=SQ1 true F st d f (getL st xs))∧
 (∀ c (F:Nat→Option IFn) (st:St) d f vs,SQ1 c F st d f (some vs)=SQ2 c F st d f vs (ddI (vs.flatMap T.ids)) (Zv st (ddI (vs.flatMap T.ids))))∧
 (∀ c (F:Nat→Option IFn) (st:St) d f vs ids ins,SQ2 c F st d f vs ids (some ins)=SQ3 c F st d f vs ids ins (ins.all Obj.data))∧
 (∀ c (F:Nat→Option IFn) (st:St) d f vs ids ins,SQ3 c F st d f vs ids ins true=SQ4 c F st d f ids ins (vs.map (T.mapC (C.ren (fun i=>posI i 0 ids)))))∧
 (∀ c (F:Nat→Option IFn) (st:St) d f ids ins args,SQ4 c F st d f ids ins args=SQ5 c st d ids (EE F f args ins))∧
 (∀ (st:St) d ids res new out,SQ5 false st d ids (some ⟨res,new,out⟩)=SQ6 d res new (PO ids out st))∧
 (∀ (st:St) d ids res new,SQ5 true st d ids (some ⟨res,new,[]⟩)=SQ6 d res new (some (st.killAll ids)))∧
 (∀ d res new (st:St),SQ6 d res new (some st)=some ((st.coolAll ((List.range new.length).map (.loc d ·))).ofRet d ⟨res,new,[]⟩))∧
 (∀ (st:St),PO [] [] st=some st)∧(∀ (st:St) id ids x out,PO (id::ids) (x::out) st=PK ids out id x st (ZaL (st.o id) x))∧
 (∀ (st:St) id ids x out,PK ids out id x st true=PO ids out (st.obj id (some x)))∧
 (∀ z r z' r',ZaL (some (.row z r)) (.row z' r')=decide (r.length≤r'.length))∧(∀ c c',ZaL (some (.box c)) (.box c')=true)∧
 ddI []=[]∧(∀ a l,ddI (a::l)=a::ddI (neI a l))∧(∀ a,neI a []=[])∧(∀ a b l,neI a (b::l)=sel (b==a) (neI a l) (b::neI a l))∧
 (∀ f i a b,C.ren f (.ptr i a b)=renP (f i) a b)∧(∀ j a b,renP (some j) a b=.ptr j a b)∧(∀ {α:Type} (l:List α),List.length l≤l.length)∧(∀ {α β:Type} (f:α→β) (l:List α),(l.map f).length=l.length):=by
 refine ⟨fun F st d f xs=>?_,fun F st d f xs=>?_,fun c F st d f vs=>?_,fun c F st d f vs ids ins=>rfl,fun c F st d f vs ids ins=>rfl,fun c F st d f ids ins args=>rfl,fun st d ids res new out=>?_,fun st d ids res new=>rfl,fun d res new st=>rfl,fun st=>rfl,fun st id ids x out=>?_,fun st id ids x out=>rfl,fun z r z' r'=>rfl,fun c c'=>rfl,rfl,fun a l=>?_,fun a=>rfl,fun a b l=>?_,fun f i a b=>?_,fun j a b=>rfl,fun l=>Nat.le_refl _,fun f l=>List.length_map ..⟩
 ·simp only[step,SQ1,Za9]; rfl
 ·simp only[step,SQ1,Za9]; rfl
 ·simp only[SQ1,SQ2,Option.bind_some,ZeU,ddI,Zbs]
 ·rfl
 ·rfl
 ·simp only[ddI,neI,List.eraseDups_cons]
 ·simp only[neI,List.filter_cons,sel]
  cases b==a<;>rfl
 ·simp only[C.ren,renP]
  cases f i<;>rfl
theorem fxq:(∀ st n id i o v,fxw st n (.t (.sc (.ptr id i o))) (.t v)=fxb (st.o id) id n i o v)∧
 (∀ cs id n o v,fxb (some (.box cs)) id n 0 o v=sel (v.cells.length==n) ((Zx cs o v.cells).map fun c=>⟨none,.bad,[(id,.box c)],[id]⟩) none)∧
 (∀ z r id n i o v,fxb (some (.row z r)) id n i o v=sel (v.cells.length==n&&v.ids.isEmpty) ((uAll v.cells).bind fun us=>(r[i]?).bind fun cs=>(Zx cs o us).map fun c=>⟨none,.bad,[(id,.row z (r.set i c))],[id]⟩) none)∧
 (∀ (E:Zb) st d zero,fx E st (.alloc d zero)=fxa st d (st.o (.loc d 0)) zero)∧(∀ st d zero,fxa st d none zero=some ⟨some d,.t (.sc (.ptr (.loc d 0) 0 0)),[(.loc d 0,.box (zero.map .u))],[]⟩):=by
 refine ⟨fun st n id i o v=>rfl,fun cs id n o v=>rfl,fun z r id n i o v=>rfl,fun E st d zero=>?_,fun st d zero=>rfl⟩
 simp only[fx,fxa,Zi9,sel]
/-! ### Literals of slices; bytes as strings -/
def lit1 (st:St) (d n:Nat) (zero:List U) (ps:List (Nat×Arg)) (ids:List Id):Option St:=((st.coolAll ids).fillRows zero.length (List.replicate n zero) ps).map fun r=>(st.coolAll ids).make d (.row zero.length r) (.own (.loc d 0) n)
def lit2 (st:St) (d n k:Nat) (r:Option (List (List U))):Option St:=r.map fun r=>(st.obj (.loc d 0) (some (.row k r))).put d (.t (.sc (.own (.loc d 0) n)))
def fr1 (st:St) (n:Nat) (rows:List (List U)) (i:Nat) (us:Option (List U)) (ps:List (Nat×Arg)):Option (List (List U)):=us.bind fun cs=>if i<rows.length∧cs.length=n then st.fillRows n (rows.set i cs) ps else none
def fr2 (st:St) (n:Nat) (rows:List (List U)) (ok:Bool) (ps:List (Nat×Arg)):Option (List (List U)):=if ok=true then st.fillRows n rows ps else none
def usOf (x:D):Option (List U):=x.t?.bind fun x=>uAll x.cells
def bsOf (r:List (List U)):Option (List UInt8):=r.mapM ZaX
def vbs (r:Option (Nat×List (List U))):Option D:=r.bind fun r=>if r.1=1 then (bsOf r.2).map DS else none
@[congr] theorem ZhZ {st:St} {d n:Nat} {zero:List U} {ps:List (Nat×Arg)} {v v':List Id} (h:v=v'):lit1 st d n zero ps v=lit1 st d n zero ps v':=by rw [h]
@[congr] theorem Zh0 {st:St} {d n k k':Nat} {v v':Option (List (List U))} (h0:k=k') (h:v=v'):lit2 st d n k v=lit2 st d n k' v':=by rw [h0,h]
@[congr] theorem ZiC {st:St} {n i:Nat} {rows rows':List (List U)} {ps:List (Nat×Arg)} {v v':Option (List U)} (h1:rows=rows') (h:v=v'):fr1 st n rows i v ps=fr1 st n rows' i v' ps:=by rw [h1,h]
@[congr] theorem ZiD {st:St} {n:Nat} {rows rows':List (List U)} {ps:List (Nat×Arg)} {v v':Bool} (h1:rows=rows') (h:v=v'):fr2 st n rows v ps=fr2 st n rows' v' ps:=by rw [h1,h]
def Zhi (x:D):List Id:=match x with
 | .t x=>x.ids
 | _=>[]
theorem sl:(∀ (E:Zb) st d n zero ps,step E st (.lit d n zero ps)=lit1 (st.cool (.loc d 0)) d n zero ps ((st.cool (.loc d 0)).partIds ps))∧
 (∀ st d n zero ps,lit1 st d n zero ps []=lit2 st d n zero.length (st.fillRows zero.length (List.replicate n zero) ps))∧
 (∀ st d n zero ps i is,lit1 st d n zero ps (i::is)=lit2 (st.coolAll (i::is)) d n zero.length ((st.coolAll (i::is)).fillRows zero.length (List.replicate n zero) ps))∧
 (∀ st d n k r,lit2 st d n k (some r)=some ((st.obj (.loc d 0) (some (.row k r))).put d (.t (.sc (.own (.loc d 0) n)))))∧
 (∀ (st:St),st.partIds []=[])∧(∀ (st:St) i a ps,st.partIds ((i,a)::ps)=Zhi (st.get a)++st.partIds ps)∧(∀ x,Zhi (.t x)=x.ids)∧
 (∀ (st:St) n rows,st.fillRows n rows []=some rows)∧(∀ (st:St) n rows i a ps,st.fillRows n rows ((i,a)::ps)=fr1 st n rows i (usOf (st.get a)) ps)∧
 (∀ (st:St) n rows i us ps,fr1 st n rows i (some us) ps=fr2 st n (rows.set i us) (decide (i<rows.length)&&us.length==n) ps)∧(∀ (st:St) n rows ps,fr2 st n rows true ps=st.fillRows n rows ps)∧
 (∀ x,usOf (.t x)=uAll x.cells)∧
 (∀ (st:St) id n,ZcG st (.t (.sc (.own id n)))=vbs (vro (st.o id) n))∧(∀ (st:St) z r,ZcG st (DU (.sl z r))=vbs (some (z,r)))∧(∀ r,vbs (some (1,r))=(bsOf r).map DS)∧
 bsOf []=some []∧(∀ n r,bsOf ([.int .u8 n]::r)=(bsOf r).map (UInt8.ofNat n.toNat::·))∧
 (∀ (a:List U),List.replicate 0 a=[])∧(∀ n (a:List U),List.replicate (n+1) a=a::List.replicate n a)∧(∀ (a b:List U) l,(a::l).set 0 b=b::l)∧(∀ (a b:List U) l n,(a::l).set (n+1) b=a::l.set n b):=by
 refine ⟨fun E st d n zero ps=>rfl,fun st d n zero ps=>rfl,fun st d n zero ps i is=>rfl,fun st d n k r=>rfl,fun st=>rfl,fun st i a ps=>?_,fun x=>rfl,fun st n rows=>rfl,fun st n rows i a ps=>?_,fun st n rows i us ps=>?_,fun st n rows ps=>rfl,fun x=>rfl,fun st id n=>?_,fun st z r=>rfl,fun r=>rfl,rfl,fun n r=>?_,fun a=>rfl,fun n a=>rfl,fun a b l=>rfl,fun a b l n=>rfl⟩
 ·simp only[St.partIds,List.flatMap_cons]; rfl
 ·simp only[St.fillRows,fr1,usOf,Zb1,Option.bind_assoc]
 ·simp only[fr1,fr2,Option.bind_some]
  by_cases h1:i<rows.length<;>by_cases h2:us.length=n<;>simp [h1,h2]
 ·simp only[ZcG,D.c?,Option.bind_some,vbs,bsOf]
  have:st.rowsOf (.own id n)=vro (st.o id) n:=by unfold St.rowsOf vro; rfl
  rw [this]
 ·simp only[bsOf,List.mapM_cons,ZaX]
  cases r.mapM ZaX<;>rfl
/-! ### Drawn calls that are handed own objects -/
noncomputable def FQ1 (F:Nat→Option IFn) (st:St) (d f:Nat) (vs:Option (List T)):Option Fx:=vs.bind fun vs=>(((vs.flatMap T.ids).eraseDups).mapM st.o).bind fun ins=>if ins.all Obj.data then
   (EE F f (vs.map (T.mapC (C.ren (Zat ((vs.flatMap T.ids).eraseDups))))) ins).bind fun r=>if (Zz ((vs.flatMap T.ids).eraseDups) r.out st).isSome=true∧st.dead d r.new.length=true∧r.out.all Obj.data=true then
    some ⟨some d,retD (r.res.map (T.mapC (C.ren (Zah d)))),((vs.flatMap T.ids).eraseDups).zip r.out++Zw d 0 r.new,(vs.flatMap T.ids).eraseDups⟩ else none else none
noncomputable def FQ2 (F:Nat→Option IFn) (st:St) (d f:Nat) (vs:List T) (ids:List Id) (ins:Option (List Obj)):Option Fx:=ins.bind fun ins=>if ins.all Obj.data then
   (EE F f (vs.map (T.mapC (C.ren (fun i=>posI i 0 ids)))) ins).bind fun r=>if (Zz ids r.out st).isSome=true∧st.dead d r.new.length=true∧r.out.all Obj.data=true then
    some ⟨some d,retD (r.res.map (T.mapC (C.ren (Zah d)))),ids.zip r.out++Zw d 0 r.new,ids⟩ else none else none
noncomputable def FQ3 (F:Nat→Option IFn) (st:St) (d f:Nat) (vs:List T) (ids:List Id) (ins:List Obj) (ok:Bool):Option Fx:=if ok=true then
   (EE F f (vs.map (T.mapC (C.ren (fun i=>posI i 0 ids)))) ins).bind fun r=>if (Zz ids r.out st).isSome=true∧st.dead d r.new.length=true∧r.out.all Obj.data=true then
    some ⟨some d,retD (r.res.map (T.mapC (C.ren (Zah d)))),ids.zip r.out++Zw d 0 r.new,ids⟩ else none else none
noncomputable def FQ4 (F:Nat→Option IFn) (st:St) (d f:Nat) (ids:List Id) (ins:List Obj) (args:List T):Option Fx:=(EE F f args ins).bind fun r=>if (Zz ids r.out st).isSome=true∧st.dead d r.new.length=true∧r.out.all Obj.data=true then
    some ⟨some d,retD (r.res.map (T.mapC (C.ren (Zah d)))),ids.zip r.out++Zw d 0 r.new,ids⟩ else none
def FQ5 (st:St) (d:Nat) (ids:List Id) (r:Option Ret):Option Fx:=r.bind fun r=>if (Zz ids r.out st).isSome=true∧st.dead d r.new.length=true∧r.out.all Obj.data=true then
    some ⟨some d,retD (r.res.map (T.mapC (C.ren (Zah d)))),ids.zip r.out++Zw d 0 r.new,ids⟩ else none
def FOK (st:St) (d:Nat) (ids:List Id) (new out:List Obj):Bool:=(PO ids out st).isSome&&st.dead d new.length&&out.all Obj.data
@[congr] theorem Zih {F:Nat→Option IFn} {st:St} {d f:Nat} {v v':Option (List T)} (h:v=v'):FQ1 F st d f v=FQ1 F st d f v':=by rw [h]
@[congr] theorem Zii {F:Nat→Option IFn} {st:St} {d f:Nat} {vs:List T} {ids ids':List Id} {v v':Option (List Obj)} (h1:ids=ids') (h:v=v'):FQ2 F st d f vs ids v=FQ2 F st d f vs ids' v':=by rw [h1,h]
@[congr] theorem Zij {F:Nat→Option IFn} {st:St} {d f:Nat} {vs:List T} {ids:List Id} {ins:List Obj} {v v':Bool} (h:v=v'):FQ3 F st d f vs ids ins v=FQ3 F st d f vs ids ins v':=by rw [h]
@[congr] theorem Zik {F:Nat→Option IFn} {st:St} {d f:Nat} {ids:List Id} {ins:List Obj} {v v':List T} (h:v=v'):FQ4 F st d f ids ins v=FQ4 F st d f ids ins v':=by rw [h]
@[congr] theorem Zil {st:St} {d:Nat} {ids:List Id} {v v':Option Ret} (h:v=v'):FQ5 st d ids v=FQ5 st d ids v':=by rw [h]
theorem fq:(∀ (F:Nat→Option IFn) (st:St) d f xs,fx (EE F) st (.callr d f xs)=FQ1 F st d f (getL st xs))∧
 (∀ (F:Nat→Option IFn) (st:St) d f vs,FQ1 F st d f (some vs)=FQ2 F st d f vs (ddI (vs.flatMap T.ids)) (Zv st (ddI (vs.flatMap T.ids))))∧
 (∀ (F:Nat→Option IFn) (st:St) d f vs ids ins,FQ2 F st d f vs ids (some ins)=FQ3 F st d f vs ids ins (ins.all Obj.data))∧
 (∀ (F:Nat→Option IFn) (st:St) d f vs ids ins,FQ3 F st d f vs ids ins true=FQ4 F st d f ids ins (vs.map (T.mapC (C.ren (fun i=>posI i 0 ids)))))∧
 (∀ (F:Nat→Option IFn) (st:St) d f ids ins args,FQ4 F st d f ids ins args=FQ5 st d ids (EE F f args ins))∧
 (∀ (st:St) d ids res new out,FQ5 st d ids (some ⟨res,new,out⟩)=sel (FOK st d ids new out) (some ⟨some d,retD (res.map (T.mapC (C.ren (Zah d)))),ids.zip out++Zw d 0 new,ids⟩) none)∧
 (∀ (st:St) d ids new out,FOK st d ids new out=((PO ids out st).isSome&&st.dead d new.length&&out.all Obj.data))∧
 (∀ {α β:Type} (l:List β),List.zip ([]:List α) l=[])∧(∀ {α β:Type} (a:α) (b:β) l m,List.zip (a::l) (b::m)=(a,b)::List.zip l m):=by
 refine ⟨fun F st d f xs=>?_,fun F st d f vs=>?_,fun F st d f vs ids ins=>rfl,fun F st d f vs ids ins=>rfl,fun F st d f ids ins args=>rfl,fun st d ids res new out=>?_,fun st d ids new out=>rfl,fun l=>rfl,fun a b l m=>rfl⟩
 ·simp only[fx,FQ1,Za9]
 ·simp only[FQ1,FQ2,Option.bind_some,ZeU,ddI,Zbs]
  rfl
 ·simp only[FQ5,Option.bind_some,sel,FOK,PO,Bool.and_eq_true,and_assoc]
/-! ### Calls of function values -/
noncomputable def VC1 (F:Nat→Option IFn) (st:St) (d:Nat) (fs:List Nat) (x:D) (xs:List Arg):Option St:=(fnOf x.u?).bind fun p=>if fs.contains p.1 then (xs.mapM fun a=>(st.get a).t?).bind fun vs=>(vs.mapM st.lendT).bind fun args=>(EE F p.1 (args++p.2.map fun c=>.sc (.u c)) []).bind fun r=>
   if r.out.isEmpty then some ((((st.coolAll (if r.quiet then [] else vs.flatMap T.ids)).coolAll ((List.range r.new.length).map (.loc d ·))).ofRet d r)) else none else none
noncomputable def VC2 (F:Nat→Option IFn) (st:St) (d g:Nat) (cs:List U) (vs:Option (List T)) (ok:Bool):Option St:=if ok=true then vs.bind fun vs=>(vs.mapM st.lendT).bind fun args=>(EE F g (args++cs.map fun c=>.sc (.u c)) []).bind fun r=>
   if r.out.isEmpty then some ((((st.coolAll (if r.quiet then [] else vs.flatMap T.ids)).coolAll ((List.range r.new.length).map (.loc d ·))).ofRet d r)) else none else none
noncomputable def VC3 (F:Nat→Option IFn) (st:St) (d g:Nat) (cs:List U) (vs:List T) (args:Option (List T)):Option St:=args.bind fun args=>(EE F g (args++cs.map fun c=>.sc (.u c)) []).bind fun r=>
   if r.out.isEmpty then some ((((st.coolAll (if r.quiet then [] else vs.flatMap T.ids)).coolAll ((List.range r.new.length).map (.loc d ·))).ofRet d r)) else none
noncomputable def VC4 (F:Nat→Option IFn) (st:St) (d g:Nat) (vs:List T) (args:List T):Option St:=(EE F g args []).bind fun r=>
   if r.out.isEmpty then some ((((st.coolAll (if r.quiet then [] else vs.flatMap T.ids)).coolAll ((List.range r.new.length).map (.loc d ·))).ofRet d r)) else none
def VC5 (st:St) (d:Nat) (vs:List T) (r:Option Ret):Option St:=r.bind fun r=>
   if r.out.isEmpty then some ((((st.coolAll (if r.quiet then [] else vs.flatMap T.ids)).coolAll ((List.range r.new.length).map (.loc d ·))).ofRet d r)) else none
@[congr] theorem Ziv {F:Nat→Option IFn} {st:St} {d:Nat} {fs:List Nat} {x x':D} {xs:List Arg} (h:x=x'):VC1 F st d fs x xs=VC1 F st d fs x' xs:=by rw [h]
@[congr] theorem Ziw {F:Nat→Option IFn} {st:St} {d g:Nat} {cs:List U} {vs vs':Option (List T)} {b b':Bool} (h:vs=vs') (h':b=b'):VC2 F st d g cs vs b=VC2 F st d g cs vs' b':=by rw [h,h']
@[congr] theorem Zix {F:Nat→Option IFn} {st:St} {d g:Nat} {cs:List U} {vs:List T} {a a':Option (List T)} (h:a=a'):VC3 F st d g cs vs a=VC3 F st d g cs vs a':=by rw [h]
@[congr] theorem Ziy {F:Nat→Option IFn} {st:St} {d g:Nat} {vs:List T} {a a':List T} (h:a=a'):VC4 F st d g vs a=VC4 F st d g vs a':=by rw [h]
@[congr] theorem Ziz {st:St} {d:Nat} {vs:List T} {a a':Option Ret} (h:a=a'):VC5 st d vs a=VC5 st d vs a':=by rw [h]
def hasN (g:Nat):List Nat→Bool
 | []=>false
 | h::t=>(g==h)||hasN g t
theorem ZfB (g:Nat):∀ l:List Nat,l.contains g=hasN g l
 | []=>rfl
 | h::t=>by rw [List.contains_cons,ZfB g t,hasN]
theorem vc:(∀ (F:Nat→Option IFn) (st:St) d fs x xs,step (EE F) st (.callv d fs x xs)=VC1 F st d fs (st.get x) xs)∧
 (∀ (F:Nat→Option IFn) (st:St) d fs g cs xs,VC1 F st d fs (.t (.sc (.u (.fn g cs)))) xs=VC2 F st d g cs (getL st xs) (hasN g fs))∧
 (∀ (F:Nat→Option IFn) (st:St) d g cs vs,VC2 F st d g cs (some vs) true=VC3 F st d g cs vs (ZbE st vs))∧
 (∀ (F:Nat→Option IFn) (st:St) d g cs vs args,VC3 F st d g cs vs (some args)=VC4 F st d g vs (args++cs.map fun c=>.sc (.u c)))∧
 (∀ (F:Nat→Option IFn) (st:St) d g vs args,VC4 F st d g vs args=VC5 st d vs (EE F g args []))∧
 (∀ (st:St) d vs res new,VC5 st d vs (some ⟨res,new,[]⟩)=some (ZfM st d (vs.flatMap T.ids) res new))∧
 (∀ g,hasN g []=false)∧(∀ g h t,hasN g (h::t)=((g==h)||hasN g t)):=by
 refine ⟨fun F st d fs x xs=>rfl,fun F st d fs g cs xs=>?_,fun F st d g cs vs=>?_,fun F st d g cs vs args=>rfl,fun F st d g vs args=>rfl,fun st d vs res new=>rfl,fun g=>rfl,fun g h t=>rfl⟩
 ·simp only[VC1,D.u?,C.u?,fnOf,Option.bind_some,VC2,←ZfB,Za9]
 ·simp only[VC2,VC3,Option.bind_some,if_true,Zcz]
/-! ### Appending -/
def apO (st:St) (d sz:Nat) (id:Id) (n:Nat) (ob:Option Obj) (r:List (List U)) (bytes:Nat) (ok:Bool):Option St:=if ok=true then (match ob with
 | some (.row z r0)=>if z=sz∧r0.length=n∧Zk id∧n+r.length≤maxLen∧(n+r.length)*bytes≤140737488355328 then some (((st.kill id).obj id (some (.row sz (r0++r)))).put d (.t (.sc (.own id (n+r.length))))) else none
 | _=>none) else none
@[congr] theorem ZiA {st:St} {d sz n bytes:Nat} {id:Id} {ob ob':Option Obj} {r r':List (List U)} {ok ok':Bool} (h1:ob=ob') (h2:r=r') (h3:ok=ok'):apO st d sz id n ob r bytes ok=apO st d sz id n ob' r' bytes ok':=by rw [h1,h2,h3]
theorem sa:(∀ (st:St) d sz z r bytes,ZcE st d sz (.t (.sc (.u .nil))) (some (z,r)) bytes=sel (z==sz&&(decide (r.length≤maxLen)&&decide (r.length*bytes≤140737488355328))) (some (((st.cool (.loc d 0)).obj (.loc d 0) (some (.row sz r))).put d (.t (.sc (.own (.loc d 0) r.length))))) none)∧
 (∀ (st:St) d sz id n z r bytes,ZcE st d sz (.t (.sc (.own id n))) (some (z,r)) bytes=apO st d sz id n (st.o id) r bytes (z==sz))∧
 (∀ (st:St) d sz id n z r0 r bytes,apO st d sz id n (some (.row z r0)) r bytes true=sel (z==sz&&(r0.length==n&&(Zk id&&(decide (n+r.length≤maxLen)&&decide ((n+r.length)*bytes≤140737488355328))))) (some (((st.kill id).obj id (some (.row sz (r0++r)))).put d (.t (.sc (.own id (n+r.length)))))) none):=by
 refine ⟨fun st d sz z r bytes=>?_,fun st d sz id n z r bytes=>?_,fun st d sz id n z r0 r bytes=>?_⟩
 ·simp only[ZcE,D.base?,Option.bind_some,sel,Bool.and_eq_true,beq_iff_eq,decide_eq_true_eq]
  by_cases h:z=sz<;>simp [h]
 ·simp only[ZcE,D.base?,Option.bind_some,apO,beq_iff_eq]
  by_cases h:z=sz<;>simp only[h,if_true,if_false]
  cases st.o id with
  | none=>rfl
  | some ob=>cases ob<;>rfl
 ·simp only[apO,sel,if_true,Bool.and_eq_true,beq_iff_eq,decide_eq_true_eq]
/-! ### Cuts of slices -/
def slc2 (st:St) (d sz:Nat) (r:List (List U)) (p:Option (Nat×Nat)) (ok:Bool):Option St:=if ok=true then p.map fun p=>st.put d (DU (.sl sz ((r.take p.2).drop p.1))) else none
@[congr] theorem Zh5 {st:St} {d sz:Nat} {r r':List (List U)} {p p':Option (Nat×Nat)} {ok ok':Bool} (h1:r=r') (h2:p=p') (h3:ok=ok'):slc2 st d sz r p ok=slc2 st d sz r' p' ok':=by rw [h1,h2,h3]
def slc3 (st:St) (d sz:Nat) (id:Id) (p:Option (Nat×Nat)) (r:Option (Nat×List (List U))):Option St:=r.bind fun r=>if r.1=sz then p.map fun p=>(st.cool id).put d (DU (.sl sz ((r.2.take p.2).drop p.1))) else none
@[congr] theorem Zh6 {st:St} {d sz:Nat} {id:Id} {p p':Option (Nat×Nat)} {r r':Option (Nat×List (List U))} (h1:r=r') (h2:p=p'):slc3 st d sz id p r=slc3 st d sz id p' r':=by rw [h1,h2]
theorem sc:(∀ (st:St) d sz z r lo hi,ZdH st d sz (.t (.sc (.u (.sl z r)))) lo hi=slc2 st d sz r (vcut r.length lo hi) (z==sz))∧
 (∀ (st:St) d sz r a b,slc2 st d sz r (some (a,b)) true=some (st.put d (DU (.sl sz ((r.take b).drop a)))))∧
 (∀ (st:St) d sz id n lo hi,ZdH st d sz (.t (.sc (.own id n))) lo hi=slc3 st d sz id (vcut n lo hi) (vro (st.o id) n))∧
 (∀ (st:St) d sz id a b r,slc3 st d sz id (some (a,b)) (some (sz,r))=some ((st.cool id).put d (DU (.sl sz ((r.take b).drop a))))):=by
 refine ⟨fun st d sz z r lo hi=>?_,fun st d sz r a b=>rfl,fun st d sz id n lo hi=>?_,fun st d sz id a b r=>?_⟩
 ·simp only[ZdH,D.c?,Option.bind_some,slc2,beq_iff_eq]
  by_cases h:z=sz<;>simp [h]
 ·simp only[ZdH,D.c?,Option.bind_some,slc3]
  have:st.rowsOf (.own id n)=vro (st.o id) n:=by unfold St.rowsOf vro; rfl
  rw [this]
 ·simp [slc3]
/-! ### Fresh rows that hold no addresses -/
def ZcM (rows:List (List U)):Bool:=rows.all fun r=>r.all U.flat
theorem Zja {α:Type} {u:α→List U} (h:∀ x,(u x).all U.flat=true) (l:List α):ZcM (l.map u)=true:=by
 simp only[ZcM,List.all_map,List.all_eq_true]
 intro x _
 simpa using h x
theorem sf:(∀ z r,Obj.flat (.row z r)=ZcM r)∧(∀ cs,Obj.flat (.box cs)=cs.all fun c=>!c.isSl)∧ZcM []=true∧(∀ r rs,ZcM (r::rs)=((r.all U.flat)&&ZcM rs))∧
 (∀ k n,U.flat (.int k n)=true)∧(∀ b,U.flat (.bool b)=true)∧(∀ s,U.flat (.str s)=true)∧U.flat .nil=true∧(∀ z r,U.flat (.sl z r)=r.isEmpty)∧(∀ {α:Type},([]:List α).isEmpty=true)∧(∀ {α:Type} (a:α) l,(a::l).isEmpty=false):=
 ⟨fun _ _=>rfl,fun _=>rfl,rfl,fun _ _=>rfl,fun _ _=>rfl,fun _=>rfl,fun _=>rfl,rfl,fun _ _=>rfl,rfl,fun _ _=>rfl⟩
/-! ### Empty slices without room; appending in drawn regions -/
def fxp1 (st:St) (d sz:Nat) (nil:Bool) (ys:Option (Nat×List (List U))) (bytes:Nat) (ids:List Id):Option Fx:=if nil=true then ys.bind fun ys=>if ys.1=sz∧ys.2.length≤maxLen∧ys.2.length*bytes≤140737488355328 then
   some ⟨some d,.t (.sc (.own (.loc d 0) ys.2.length)),[(.loc d 0,.row sz ys.2)],ids⟩ else none else none
@[congr] theorem ZhA {st:St} {d sz bytes:Nat} {a a':Bool} {y y':Option (Nat×List (List U))} {i i':List Id} (h1:a=a') (h2:y=y') (h3:i=i'):fxp1 st d sz a y bytes i=fxp1 st d sz a' y' bytes i':=by rw [h1,h2,h3]
def oids:Option D→List Id
 | none=>[]
 | some x=>x.ids
def fxs1 (d sz:Nat) (x:D) (lo hi:Option D) (ids:List Id):Option Fx:=match x with
 | .t (.sc (.u (.sl z r)))=>if z=sz then (vcut r.length lo hi).map fun p=>⟨some d,DU (.sl z ((r.take p.2).drop p.1)),[],ids⟩ else none
 | _=>none
def fxs2 (d sz:Nat) (r:List (List U)) (p:Option (Nat×Nat)) (ok:Bool) (ids:List Id):Option Fx:=if ok=true then p.map fun p=>⟨some d,DU (.sl sz ((r.take p.2).drop p.1)),[],ids⟩ else none
@[congr] theorem ZhB {d sz:Nat} {x x':D} {lo lo' hi hi':Option D} {i i':List Id} (h1:x=x') (h2:lo=lo') (h3:hi=hi') (h4:i=i'):fxs1 d sz x lo hi i=fxs1 d sz x' lo' hi' i':=by rw [h1,h2,h3,h4]
@[congr] theorem ZhC {d sz:Nat} {r r':List (List U)} {p p':Option (Nat×Nat)} {ok ok':Bool} {i i':List Id} (h1:r=r') (h2:p=p') (h3:ok=ok') (h4:i=i'):fxs2 d sz r p ok i=fxs2 d sz r' p' ok' i':=by rw [h1,h2,h3,h4]
theorem em2 : (∀ (E:Zb) st d sz x lo hi,fx E st (.slc d sz x lo hi)=fxs1 d sz (st.get x) (lo.map st.get) (hi.map st.get) ((st.get x).ids++(oids (lo.map st.get)++oids (hi.map st.get))))∧
 (∀ d sz z r lo hi ids,fxs1 d sz (.t (.sc (.u (.sl z r)))) lo hi ids=fxs2 d sz r (vcut r.length lo hi) (z==sz) ids)∧
 (∀ d sz r a b ids,fxs2 d sz r (some (a,b)) true ids=some ⟨some d,DU (.sl sz ((r.take b).drop a)),[],ids⟩)∧(oids none=[])∧(∀ x,oids (some x)=x.ids)∧(∀ id i o,Zbr (.t (.sc (.ptr id i o)))=[])∧(∀ u,Zbr (.t (.sc (.u u)))=[])∧(∀ id n,Zbr (.t (.sc (.own id n)))=[])∧(∀ id n,Zbr (.t (.sc (.down id n)))=[])∧(∀ id i c n,Zbr (.t (.sc (.sub id i c n)))=[])∧(∀ cs,Zbr (.t (.ag cs))=T.ids (.ag cs))∧(∀ xs,Zbr (.tup xs)=xs.flatMap T.ids)∧Zbr .emp=[]∧Zbr .bad=[]∧(∀ cs,Zbr (.rptr cs)=[]):=by
 refine ⟨fun E st d sz x lo hi=>?_,fun d sz z r lo hi ids=>?_,fun d sz r a b ids=>rfl,rfl,fun x=>rfl,fun id i o=>rfl,fun u=>rfl,fun id n=>rfl,fun id n=>rfl,fun id i c n=>rfl,fun cs=>rfl,fun xs=>rfl,rfl,rfl,fun cs=>rfl⟩
 ·have hi':Zt st (.slc d sz x lo hi)=(st.get x).ids++(oids (lo.map st.get)++oids (hi.map st.get)):=by
   cases lo<;>cases hi<;>simp [Zt,IOp.args,oids,Option.toList]
  have h0:fx E st (.slc d sz x lo hi)=if (st.get x).u?.isSome=true then fxF E st (.slc d sz x lo hi) else none:=by simp only[fx]
  rw [h0,←hi']
  simp only[fxF,step,IOp.dst,fxs1,ZbG]
  generalize Zt st (.slc d sz x lo hi)=ids
  cases hx:st.get x with
  | t y => cases y with
   | sc c=>cases c with
    | u u=>cases u with
     | sl z r=>
      simp only[D.u?,D.c?,Option.isSome_some,if_true,Option.bind_some]
      split
      ·cases vcut r.length (lo.map st.get) (hi.map st.get)<;>simp [St.put]
      ·rfl
     | _=>simp [D.u?,D.c?]
    | _=>simp [D.u?]
   | ag cs=>simp [D.u?]
  | _=>simp [D.u?]
 ·simp only[fxs1,fxs2,beq_iff_eq]
  by_cases h:z=sz<;>simp [h]
def pidO (x:D):Option (List Id):=x.t?.map T.ids
def cl1 (st:St) (d:Nat) (a:Arg) (ids:Option (List Id)):Option St:=ids.map fun ids=>(st.coolAll ids).put d ((st.coolAll ids).get a)
def stc1 (st:St) (n:Nat) (a x:Arg) (ids:Option (List Id)):Option St:=ids.bind fun ids=>stSt (st.coolAll ids) n ((st.coolAll ids).get a) ((st.coolAll ids).get x) x
@[congr] theorem ZiB {st:St} {d:Nat} {a:Arg} {v v':Option (List Id)} (h:v=v'):cl1 st d a v=cl1 st d a v':=by rw [h]
@[congr] theorem Zh7 {st:St} {n:Nat} {a x:Arg} {v v':Option (List Id)} (h:v=v'):stc1 st n a x v=stc1 st n a x v':=by rw [h]
theorem em3:(∀ (F:Nat→Option IFn) (fin:St→Option Ret) (is:List Za) (os:List GOp) (st:St) d a,RR F fin is (⟨.cl d a,none⟩::os) st=RS F fin is os (cl1 st d a (pidO (st.get a))))∧
 (∀ (F:Nat→Option IFn) (fin:St→Option Ret) (is:List Za) (os:List GOp) (st:St) n a x,RR F fin is (⟨.stc n a x,none⟩::os) st=RS F fin is os (stc1 st n a x (pidO (st.get x))))∧
 (∀ x,pidO (.t x)=some x.ids)∧(∀ st d a ids,cl1 st d a (some ids)=some ((st.coolAll ids).put d ((st.coolAll ids).get a)))∧(∀ st n a x ids,stc1 st n a x (some ids)=stSt (st.coolAll ids) n ((st.coolAll ids).get a) ((st.coolAll ids).get x) x):=by
 refine ⟨fun F fin is os st d a=>Zak F fin is os st ?_,fun F fin is os st n a x=>Zak F fin is os st ?_,fun x=>rfl,fun st d a ids=>rfl,fun st n a x ids=>rfl⟩
 ·simp only[step,cl1,pidO]
  cases (st.get a).t?<;>rfl
 ·simp only[step,stc1,pidO]
  cases (st.get x).t?<;>rfl
theorem em:(∀ (F:Nat→Option IFn) (fin:St→Option Ret) (is:List Za) (os:List GOp) (st:St) d,RR F fin is (⟨.emp d,none⟩::os) st=RR F fin is os (st.put d .emp))∧
 (∀ f,D.mapC f .emp=.emp)∧(D.ids .emp=[])∧(D.isNil .emp=true)∧(D.isNil (.t (.sc (.u .nil)))=true)∧
 (∀ (st:St) d sz z r bytes,ZcE st d sz .emp (some (z,r)) bytes=sel (z==sz&&(decide (r.length≤maxLen)&&decide (r.length*bytes≤140737488355328))) (some (((st.cool (.loc d 0)).obj (.loc d 0) (some (.row sz r))).put d (.t (.sc (.own (.loc d 0) r.length))))) none)∧
 (∀ (E:Zb) st d,fx E st (.emp d)=some ⟨some d,.emp,[],[]⟩)∧
 (∀ (E:Zb) st d sz x y bytes,fx E st (.app d sz x y bytes)=fxp1 st d sz ((st.get x).isNil&&st.dead d 1) (Zbe st sz (st.get y)) bytes ((st.get x).ids++(st.get y).ids))∧
 (∀ st d sz z r bytes ids,fxp1 st d sz true (some (z,r)) bytes ids=sel (z==sz&&(decide (r.length≤maxLen)&&decide (r.length*bytes≤140737488355328))) (some ⟨some d,.t (.sc (.own (.loc d 0) r.length)),[(.loc d 0,.row sz r)],ids⟩) none):=by
 refine ⟨fun F fin is os st d=>by rw [Zbf]; rfl,fun f=>rfl,rfl,rfl,rfl,fun st d sz z r bytes=>?_,fun E st d=>?_,fun E st d sz x y bytes=>?_,fun st d sz z r bytes ids=>?_⟩
 ·simp only[ZcE,D.base?,Option.bind_some,sel,Bool.and_eq_true,beq_iff_eq,decide_eq_true_eq]
  by_cases h:z=sz<;>simp [h]
 ·simp [fx,fxF,step,IOp.dst,St.put,Zt,IOp.args]
 ·simp [fx,fxp1,Zt,IOp.args]
 ·simp only[fxp1,if_true,Option.bind_some,sel,Bool.and_eq_true,beq_iff_eq,decide_eq_true_eq]
theorem xR:(type_of% Zhf)∧(type_of% sq)∧(type_of% fxq)∧(type_of% sl)∧(type_of% fq)∧(type_of% vc)∧(type_of% sa)∧(type_of% sc)∧(type_of% @sf)∧(type_of% em)∧(type_of% em2)∧(type_of% em3):=⟨Zhf,sq,fxq,sl,@fq,vc,sa,sc,@sf,em,em2,em3⟩
end Go.Proofs.YtfajcehhcjmofaaV
