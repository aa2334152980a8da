/- Symbolic runs of the evaluator: the simplifier's rules for what states and values are. No conditions. -/
import Derived.Test.YtfajcehhcjmofaaS1
namespace Go.Proofs.YtfajcehhcjmofaaV
open Go Go.RowKit
set_option linter.unusedVariables false
set_option linter.unusedSimpArgs false
/-! ### Looking up -/
section
variable {st:St} {i j:Id} {t d:Nat} {x:D} {r:Option Obj} {f:C→C}
theorem ZgD (h:(t==d)=false):(st.put d x).s t=st.s t:=by
 have:¬t=d:=by simpa using h
 simp [St.put,this]
theorem Zgy (h:(j==i)=false):(st.obj i r).o j=st.o j:=by
 have:¬j=i:=by simpa using h
 simp [St.obj,this]
theorem Zfv (h:(j==i)=false):(st.cool i).o j=(st.o j).map (Obj.mapC (st.coolC i)):=by
 have:¬j=i:=by simpa using h
 simp [St.cool,St.mapC,St.obj,this]
theorem ZfE (h:(j==i)=false):(st.kill i).o j=(st.o j).map (Obj.mapC (C.kill i)):=by
 have:¬j=i:=by simpa using h
 simp [St.kill,St.mapC,St.obj,this]
theorem Zcl {n:Nat} (h:(j==i)=false):st.coolC i (.own j n)=.own j n:=by
 have:¬j=i:=by simpa using h
 unfold St.coolC
 cases st.o i with
 | none=>simp [C.kill,this]
 | some ob=>cases ob<;>simp [C.cool,C.coolD,C.kill,this]
theorem Zcm {a b:Nat} (h:(j==i)=false):st.coolC i (.ptr j a b)=.ptr j a b:=by
 have:¬j=i:=by simpa using h
 unfold St.coolC
 cases st.o i with
 | none=>simp [C.kill,this]
 | some ob=>cases ob<;>simp [C.cool,C.coolD,C.kill,this]
theorem ZcX {n:Nat} (h:(j==i)=false):C.kill i (.own j n)=.own j n:=by
 have:¬j=i:=by simpa using h
 simp [C.kill,this]
theorem ZcY {a b:Nat} (h:(j==i)=false):C.kill i (.ptr j a b)=.ptr j a b:=by
 have:¬j=i:=by simpa using h
 simp [C.kill,this]
theorem Zfw {F:Nat→Option IFn} {fin:St→Option Ret} {is:List Za} {a b:Nat} (h:(b==a)=false):KK F fin (.code (.exit a)::.inBlock b::is) st=KK F fin (.code (.exit a)::is) st:=by
 have:¬b=a:=by simpa using h
 simp [KK,Zci,exitTo,this]
end
def Za8 (id:Id) (n:Nat):Option Obj→C
 | some (.row z r)=>.u (.sl z (r.take n))
 | _=>.bad
/-- Rules that are tried ahead of an expression's parts. -/
theorem vp0 (st:St) :
 (∀ d x,(st.put d x).s d=x)∧(∀ d x i,(st.put d x).o i=st.o i)∧(∀ i r t,(st.obj i r).s t=st.s t)∧(∀ i r,(st.obj i r).o i=r)∧
 (∀ i t,(st.cool i).s t=(st.s t).mapC (st.coolC i))∧(∀ i,(st.cool i).o i=none)∧(∀ i t,(st.kill i).s t=(st.s t).mapC (C.kill i))∧(∀ i,(st.kill i).o i=none)∧
 (∀ f t,(st.mapC f).s t=(st.s t).mapC f)∧(∀ f i,(st.mapC f).o i=(st.o i).map (Obj.mapC f))∧(∀ t,S0.s t=.bad)∧(∀ i,S0.o i=none)∧
 (∀ t,st.get (.t t)=st.s t)∧(∀ u,st.get (.k u)=.t (.sc (.u u)))∧
 (∀ {α:Type} (a b:α),sel true a b=a)∧(∀ {α:Type} (a b:α),sel false a b=b)∧
 (∀ (F:Nat→Option IFn) (fin:St→Option Ret) is a,KK F fin (.code (.exit a)::.inBlock a::is) st=KK F fin is st)∧
 (∀ (F:Nat→Option IFn) (fin:St→Option Ret) is a c,KK F fin (.code (.exit a)::.code c::is) st=KK F fin (.code (.exit a)::is) st)∧
 (∀ (F:Nat→Option IFn) (fin:St→Option Ret) is a c,KK F fin (.code (.exit a)::.inLoop c::is) st=KK F fin (.code (.exit a)::is) st):=by
 refine ⟨fun d x=>by simp [St.put],fun d x i=>rfl,fun i r t=>rfl,fun i r=>by simp [St.obj],fun i t=>rfl,fun i=>by simp [St.cool,St.mapC,St.obj],fun i t=>rfl,fun i=>by simp [St.kill,St.mapC,St.obj],fun f t=>rfl,fun f i=>rfl,fun t=>rfl,fun i=>rfl,fun t=>rfl,fun u=>rfl,fun a b=>rfl,fun a b=>rfl,fun F fin is a=>by simp [KK,Zci,exitTo],fun F fin is a c=>by simp [KK,Zci,exitTo],fun F fin is a c=>by simp [KK,Zci,exitTo]⟩
theorem vp:(∀ (st:St),∀ d x,(st.put d x).s d=x)∧
 (∀ (st:St),∀ d x i,(st.put d x).o i=st.o i)∧
 (∀ (st:St),∀ i r t,(st.obj i r).s t=st.s t)∧
 (∀ (st:St),∀ i r,(st.obj i r).o i=r)∧
 (∀ (st:St),∀ i t,(st.cool i).s t=(st.s t).mapC (st.coolC i))∧
 (∀ (st:St),∀ i,(st.cool i).o i=none)∧
 (∀ (st:St),∀ i t,(st.kill i).s t=(st.s t).mapC (C.kill i))∧
 (∀ (st:St),∀ i,(st.kill i).o i=none)∧
 (∀ (st:St),∀ f t,(st.mapC f).s t=(st.s t).mapC f)∧
 (∀ (st:St),∀ f i,(st.mapC f).o i=(st.o i).map (Obj.mapC f))∧
 (∀ t,S0.s t=.bad)∧
 (∀ i,S0.o i=none)∧
 (∀ (st:St),∀ t,st.get (.t t)=st.s t)∧
 (∀ (st:St),∀ u,st.get (.k u)=.t (.sc (.u u)))∧
 (∀ {α:Type} (a b:α),sel true a b=a)∧
 (∀ {α:Type} (a b:α),sel false a b=b)∧
 (∀ (st:St),∀ (F:Nat→Option IFn) (fin:St→Option Ret) is a,KK F fin (.code (.exit a)::.inBlock a::is) st=KK F fin is st)∧
 (∀ (st:St),∀ (F:Nat→Option IFn) (fin:St→Option Ret) is a c,KK F fin (.code (.exit a)::.code c::is) st=KK F fin (.code (.exit a)::is) st)∧
 (∀ (st:St),∀ (F:Nat→Option IFn) (fin:St→Option Ret) is a c,KK F fin (.code (.exit a)::.inLoop c::is) st=KK F fin (.code (.exit a)::is) st):=
 ⟨fun st=>(vp0 st).1,fun st=>(vp0 st).2.1,fun st=>(vp0 st).2.2.1,fun st=>(vp0 st).2.2.2.1,fun st=>(vp0 st).2.2.2.2.1,fun st=>(vp0 st).2.2.2.2.2.1,fun st=>(vp0 st).2.2.2.2.2.2.1,fun st=>(vp0 st).2.2.2.2.2.2.2.1,fun st=>(vp0 st).2.2.2.2.2.2.2.2.1,fun st=>(vp0 st).2.2.2.2.2.2.2.2.2.1,(vp0 S0).2.2.2.2.2.2.2.2.2.2.1,(vp0 S0).2.2.2.2.2.2.2.2.2.2.2.1,fun st=>(vp0 st).2.2.2.2.2.2.2.2.2.2.2.2.1,fun st=>(vp0 st).2.2.2.2.2.2.2.2.2.2.2.2.2.1,(vp0 S0).2.2.2.2.2.2.2.2.2.2.2.2.2.2.1,(vp0 S0).2.2.2.2.2.2.2.2.2.2.2.2.2.2.2.1,fun st=>(vp0 st).2.2.2.2.2.2.2.2.2.2.2.2.2.2.2.2.1,fun st=>(vp0 st).2.2.2.2.2.2.2.2.2.2.2.2.2.2.2.2.2.1,fun st=>(vp0 st).2.2.2.2.2.2.2.2.2.2.2.2.2.2.2.2.2.2⟩
theorem Zm (f:C→C) (st:St) :
 (∀ x,D.mapC f (.t x)=.t (x.mapC f))∧(∀ cs,D.mapC f (.rptr cs)=.rptr cs)∧(∀ xs,D.mapC f (.tup xs)=.tup (xs.map (T.mapC f)))∧D.mapC f .bad=.bad∧
 (∀ c,T.mapC f (.sc c)=.sc (f c))∧(∀ cs,T.mapC f (.ag cs)=.ag (cs.map f))∧(∀ cs,Obj.mapC f (.box cs)=.box (cs.map f))∧(∀ z r,Obj.mapC f (.row z r)=.row z r)∧
 (∀ i u,st.coolC i (.u u)=.u u)∧(∀ i,st.coolC i .bad=.bad)∧(∀ i a b,st.coolC i (.ptr i a b)=.bad)∧(∀ i n,st.coolC i (.own i n)=Za8 i n (st.o i))∧
 (∀ i u,C.kill i (.u u)=.u u)∧(∀ i,C.kill i .bad=.bad)∧(∀ i a b,C.kill i (.ptr i a b)=.bad)∧(∀ i n,C.kill i (.own i n)=.bad)∧
 (∀ i n z r,Za8 i n (some (.row z r))=.u (.sl z (r.take n)))∧(∀ i n,Za8 i n none=.bad):=by
 refine ⟨fun x=>rfl,fun x=>rfl,fun x=>rfl,rfl,fun x=>rfl,fun x=>rfl,fun x=>rfl,fun z r=>rfl,fun i u=>?_,fun i=>?_,fun i a b=>?_,fun i n=>?_,fun i u=>rfl,fun i=>rfl,fun i a b=>by simp [C.kill],fun i n=>by simp [C.kill],fun i n z r=>rfl,fun i n=>rfl⟩
 ·unfold St.coolC; cases st.o i with
  | none=>rfl
  | some ob=>cases ob<;>rfl
 ·unfold St.coolC; cases st.o i with
  | none=>rfl
  | some ob=>cases ob<;>rfl
 ·unfold St.coolC; cases st.o i with
  | none=>simp [C.kill]
  | some ob=>cases ob<;>simp [C.cool,C.coolD,C.kill]
 ·unfold St.coolC; cases st.o i with
  | none=>simp [C.kill,Za8]
  | some ob=>cases ob<;>simp [C.cool,C.coolD,C.kill,Za8]
theorem Zdu:(∀ (f:C→C),∀ x,D.mapC f (.t x)=.t (x.mapC f))∧
 (∀ (f:C→C),∀ cs,D.mapC f (.rptr cs)=.rptr cs)∧
 (∀ (f:C→C),∀ xs,D.mapC f (.tup xs)=.tup (xs.map (T.mapC f)))∧
 (∀ (f:C→C),D.mapC f .bad=.bad)∧
 (∀ (f:C→C),∀ c,T.mapC f (.sc c)=.sc (f c))∧
 (∀ (f:C→C),∀ cs,T.mapC f (.ag cs)=.ag (cs.map f))∧
 (∀ (f:C→C),∀ cs,Obj.mapC f (.box cs)=.box (cs.map f))∧
 (∀ (f:C→C),∀ z r,Obj.mapC f (.row z r)=.row z r)∧
 (∀ (st:St),∀ i u,st.coolC i (.u u)=.u u)∧
 (∀ (st:St),∀ i,st.coolC i .bad=.bad)∧
 (∀ (st:St),∀ i a b,st.coolC i (.ptr i a b)=.bad)∧
 (∀ (st:St),∀ i n,st.coolC i (.own i n)=Za8 i n (st.o i))∧
 (∀ i u,C.kill i (.u u)=.u u)∧
 (∀ i,C.kill i .bad=.bad)∧
 (∀ i a b,C.kill i (.ptr i a b)=.bad)∧
 (∀ i n,C.kill i (.own i n)=.bad)∧
 (∀ i n z r,Za8 i n (some (.row z r))=.u (.sl z (r.take n)))∧
 (∀ i n,Za8 i n none=.bad):=
 ⟨fun f=>(Zm f S0).1,fun f=>(Zm f S0).2.1,fun f=>(Zm f S0).2.2.1,fun f=>(Zm f S0).2.2.2.1,fun f=>(Zm f S0).2.2.2.2.1,fun f=>(Zm f S0).2.2.2.2.2.1,fun f=>(Zm f S0).2.2.2.2.2.2.1,fun f=>(Zm f S0).2.2.2.2.2.2.2.1,fun st=>(Zm id st).2.2.2.2.2.2.2.2.1,fun st=>(Zm id st).2.2.2.2.2.2.2.2.2.1,fun st=>(Zm id st).2.2.2.2.2.2.2.2.2.2.1,fun st=>(Zm id st).2.2.2.2.2.2.2.2.2.2.2.1,(Zm id S0).2.2.2.2.2.2.2.2.2.2.2.2.1,(Zm id S0).2.2.2.2.2.2.2.2.2.2.2.2.2.1,(Zm id S0).2.2.2.2.2.2.2.2.2.2.2.2.2.2.1,(Zm id S0).2.2.2.2.2.2.2.2.2.2.2.2.2.2.2.1,(Zm id S0).2.2.2.2.2.2.2.2.2.2.2.2.2.2.2.2.1,(Zm id S0).2.2.2.2.2.2.2.2.2.2.2.2.2.2.2.2.2⟩
theorem ZeG:(∀ a b c d,(Id.loc a b==Id.loc c d)=(a==c&&b==d))∧(∀ a b,(Id.par a==Id.par b)=(a==b))∧(∀ a b c,(Id.loc a b==Id.par c)=false)∧(∀ a b c,(Id.par c==Id.loc a b)=false):=by
 refine ⟨fun a b c d=>?_,fun a b=>?_,fun a b c=>?_,fun a b c=>?_⟩
 ·rw [Bool.eq_iff_iff]; simp
 ·rw [Bool.eq_iff_iff]; simp
 ·rw [Bool.eq_iff_iff]; simp
 ·rw [Bool.eq_iff_iff]; simp
/-! ### Reading and writing objects -/
def vrd (id:Id) (x:Option Obj) (i o n:Nat):Option (List C):=match x with
 | some (.box cs)=>if i=0 then seg cs o n else none
 | some (.row _ r)=>(r[i]?).bind fun cs=>(seg cs o n).map (·.map .u)
 | some (.deep _ r)=>(r[i]?).bind fun cs=>(seg cs o n).map (toCs id i o)
 | none=>none
def vwr (st:St) (id:Id) (x:Option Obj) (i o:Nat) (xs:List C):Option St:=match x with
 | some (.box cs)=>if i=0 then (Zx cs o xs).map fun c=>st.obj id (some (.box c)) else none
 | some (.row z r)=>(xs.mapM C.u?).bind fun us=>(r[i]?).bind fun cs=>(Zx cs o us).map fun c=>st.obj id (some (.row z (r.set i c)))
 | some (.deep z r)=>(xs.mapM C.u?).bind fun us=>(r[i]?).bind fun cs=>(seg cs o xs.length).bind fun old=>if us.all U.scal=true∧old.all U.scal=true then (Zx cs o us).map fun c=>st.obj id (some (.deep z (r.set i c))) else none
 | none=>none
def visr (x:Option Obj):Bool:=match x with
 | some (.row ..)=>true
 | _=>false
def vro (x:Option Obj) (n:Nat):Option (Nat×List (List U)):=match x with
 | some (.row z r)=>if n≤r.length then some (z,r.take n) else none
 | _=>none
def uAll:List C→Option (List U)
 | []=>some []
 | .u u::cs=>(uAll cs).map (u::·)
 | _::_=>none
theorem Zb1:∀ cs,cs.mapM C.u?=uAll cs
 | []=>rfl
 | c::cs=>by
  rw [List.mapM_cons,Zb1 cs]
  cases c with
  | u u=>simp only[C.u?,uAll]; cases uAll cs<;>rfl
  | _=>rfl
def Zbx (st:St):List C→Option (List C)
 | []=>some []
 | c::cs=>(st.lend c).bind fun x=>(Zbx st cs).map (x::·)
theorem Zd6 (st:St):∀ cs,cs.mapM st.lend=Zbx st cs
 | []=>rfl
 | c::cs=>by
  rw [List.mapM_cons,Zd6 st cs,Zbx]
  cases st.lend c with
  | none=>rfl
  | some x=>cases Zbx st cs<;>rfl
/-- A slice's bytes as a string. -/
def Zeh:List (List U)→Option (List UInt8)
 | []=>some []
 | r::rs=>(ZaX r).bind fun b=>(Zeh rs).map (b::·)
theorem ZfU:∀ rs,rs.mapM ZaX=Zeh rs
 | []=>rfl
 | r::rs=>by
  rw [List.mapM_cons,ZfU rs,Zeh]
  cases ZaX r with
  | none=>rfl
  | some x=>cases Zeh rs<;>rfl
def ZfM (st:St) (d:Nat) (ids:List Id) (res:List T) (new:List Obj):St:=((st.coolAll (if (Ret.mk res new []).quiet=true then [] else ids)).coolAll ((List.range new.length).map (.loc d ·))).ofRet d ⟨res,new,[]⟩
def ZaQ (st:St):List IRes→Option (List T)
 | []=>some []
 | r::rs=>(st.result r).bind fun x=>(ZaQ st rs).map (x::·)
theorem ZcP (st:St):∀ rs,rs.mapM st.result=ZaQ st rs
 | []=>rfl
 | r::rs=>by
  rw [List.mapM_cons,ZcP st rs,ZaQ]
  cases st.result r with
  | none=>rfl
  | some x=>cases ZaQ st rs<;>rfl
def Zv (st:St):List Id→Option (List Obj)
 | []=>some []
 | i::is=>(st.o i).bind fun x=>(Zv st is).map (x::·)
theorem Zbs (st:St):∀ is,is.mapM st.o=Zv st is
 | []=>rfl
 | r::rs=>by
  rw [List.mapM_cons,Zbs st rs,Zv]
  cases st.o r with
  | none=>rfl
  | some x=>cases Zv st rs<;>rfl
/-- A call's end: its results in slots or boxes, and how many objects it hands back. -/
def FF (res:List IRes) (nout:Nat) (st:St):Option Ret:=Zcb ⟨0,.skip,res,false⟩ nout st
/-- .. of a function that takes what it is handed. -/
def FT (res:List IRes) (nout:Nat) (st:St):Option Ret:=Zcb ⟨0,.skip,res,true⟩ nout st
def FX (st:St) (nout:Nat) (xs:Option (List T)):Option Ret:=xs.bind fun xs=>(Zv st (xs.flatMap T.ids)).bind fun new=>(Zv st ((List.range nout).map Id.par)).bind fun out=>
 if ((xs.flatMap T.ids).all Zk&&(xs.flatMap T.ids).Nodup&&xs.all (fun x=>x.cells.all (C.fits st))&&new.all Obj.data&&out.all Obj.data)=true then some ⟨xs.map (T.mapC (C.ren (Zat (xs.flatMap T.ids)))),new,out⟩ else none
def FY (st:St) (xs:List T) (ids:List Id) (new out:Option (List Obj)):Option Ret:=new.bind fun new=>out.bind fun out=>
 if (ids.all Zk&&ids.Nodup&&xs.all (fun x=>x.cells.all (C.fits st))&&new.all Obj.data&&out.all Obj.data)=true then some ⟨xs.map (T.mapC (C.ren (Zat ids))),new,out⟩ else none
@[congr] theorem ZiO {st:St} {n:Nat} {v v':Option (List T)} (h:v=v'):FX st n v=FX st n v':=by rw [h]
def FV (lent:List Id) (st:St) (nout:Nat) (xs:Option (List T)):Option Ret:=xs.bind fun xs=>(Zv st (xs.flatMap T.ids)).bind fun new=>(Zv st ((List.range nout).map Id.par)).bind fun out=>
 if ((xs.flatMap T.ids).all Zk&&(xs.flatMap T.ids).Nodup&&xs.all (fun x=>x.cells.all (C.fits st))&&new.all Obj.data&&out.all Obj.data&&(lent.all Zk&&(lent.isEmpty||(xs.flatMap T.ids).isEmpty)))=true then some ⟨xs.map (T.mapC (C.ren (Zat (xs.flatMap T.ids)))),new,out⟩ else none
@[congr] theorem ZiN {st:St} {n:Nat} {l l':List Id} {v v':Option (List T)} (h1:l=l') (h:v=v'):FV l st n v=FV l' st n v':=by rw [h1,h]
theorem ZiL (res:List IRes) (nout:Nat) (st:St):FF res nout st=FV (res.flatMap st.lent) st nout (ZaQ st res):=by
 simp only[FF,Zcb,FV,ZcP,Zbs,Bool.false_and,Bool.false_or,Bool.false_eq_true,if_false]
theorem Zhs (st:St) (nout:Nat) (xs:Option (List T)):FV [] st nout xs=FX st nout xs:=by
 simp [FV,FX]
theorem ZgO (i:Id) (is:List Id) (st:St) (nout:Nat) (xs:List T):FV (i::is) st nout (some xs)=sel ((i::is).all Zk&&(xs.flatMap T.ids).isEmpty) (FX st nout (some xs)) none:=by
 simp only[FV,FX,Option.bind_some,List.isEmpty_cons,Bool.false_or]
 cases Zv st (xs.flatMap T.ids) with
 | none=>simp [sel]
 | some new=>
  cases Zv st ((List.range nout).map Id.par) with
  | none=>simp [sel]
  | some out=>
   simp only[Option.bind_some,sel]
   cases h:((i::is).all Zk&&(xs.flatMap T.ids).isEmpty)<;>simp [Bool.and_assoc]
theorem Zjm (st:St) (nout:Nat) (xs:List T):FX st nout (some xs)=FY st xs (xs.flatMap T.ids) (Zv st (xs.flatMap T.ids)) (Zv st ((List.range nout).map Id.par)):=rfl
/-- One result that is data. -/
theorem FX_u (st:St) (u:U):FX st 0 (some [.sc (.u u)])=some ⟨[.sc (.u u)],[],[]⟩:=by
 have h:T.ids (.sc (.u u))=[]:=rfl
 simp [FX,Zv,h,T.cells,C.fits,T.mapC,C.ren]
theorem vj0 (F:Nat→Option IFn) (fin:St→Option Ret) (is:List Za) (os:List GOp) (st:St) :
 (∀ d x,RB F fin is os st d (some x)=RR F fin is os (st.put d x))∧
 (∀ st',RS F fin is os (some st')=RR F fin is os st')∧
 (∀ d x,RX F fin is os st d (some x)=RR F fin is os (((st.cool (.loc d 0)).obj (.loc d 0) (some (.box x.cells))).put d (.t (.sc (.ptr (.loc d 0) 0 0)))))∧
 (∀ d,RP F fin is os st (some d)=RR F fin is os (st.put d (.tup [])))∧(RP F fin is os st none=RR F fin is os st)∧
 (∀ o t x,RG F fin is os o t true st (DB x)=sel x (RR F fin is (⟨o,none⟩::os) (st.put t (DB true))) (RP F fin is os (st.put t (DB false)) o.dst))∧
 (∀ o t x,RG F fin is os o t false st (DB x)=sel x (RP F fin is os (st.put t (DB true)) o.dst) (RR F fin is (⟨o,none⟩::os) (st.put t (DB false))))∧
 (∀ t a b x,RC F fin is t a b st (DB x)=sel x (KK F fin (.code a::is) (st.put t (DB true))) (KK F fin (.code b::is) (st.put t (DB false))))∧
 (∀ d f vs,RA1 F fin is os st d f (some vs)=RA2 F fin is os st d f vs (ZbE st vs))∧
 (∀ d f vs args,RA2 F fin is os st d f vs (some args)=RA3 F fin is os st d vs (EE F f args []))∧
 (∀ d vs res new,RA3 F fin is os st d vs (some ⟨res,new,[]⟩)=RT F fin is os (ZfM st d (vs.flatMap T.ids) res new))∧
 (RT F fin is os st=RR F fin is os st):=by
 refine ⟨fun d x=>rfl,fun s=>rfl,fun d x=>rfl,fun d=>rfl,rfl,fun o t x=>?_,fun o t x=>?_,fun t a b x=>?_,fun d f vs=>?_,fun d f vs args=>rfl,fun d vs res new=>rfl,rfl⟩
 ·cases x<;>rfl
 ·cases x<;>rfl
 ·cases x<;>rfl
 ·show _=(ZbE st vs).bind _
  rw [←Zcz]; rfl
theorem vj:(∀ (F:Nat→Option IFn) (fin:St→Option Ret) (is:List Za) (os:List GOp) (st:St),∀ d x,RB F fin is os st d (some x)=RR F fin is os (st.put d x))∧
 (∀ (F:Nat→Option IFn) (fin:St→Option Ret) (is:List Za) (os:List GOp),∀ st',RS F fin is os (some st')=RR F fin is os st')∧
 (∀ (F:Nat→Option IFn) (fin:St→Option Ret) (is:List Za) (os:List GOp) (st:St),∀ d x,RX F fin is os st d (some x)=RR F fin is os (((st.cool (.loc d 0)).obj (.loc d 0) (some (.box x.cells))).put d (.t (.sc (.ptr (.loc d 0) 0 0)))))∧
 (∀ (F:Nat→Option IFn) (fin:St→Option Ret) (is:List Za) (os:List GOp) (st:St),∀ d,RP F fin is os st (some d)=RR F fin is os (st.put d (.tup [])))∧
 (∀ (F:Nat→Option IFn) (fin:St→Option Ret) (is:List Za) (os:List GOp) (st:St),RP F fin is os st none=RR F fin is os st)∧
 (∀ (F:Nat→Option IFn) (fin:St→Option Ret) (is:List Za) (os:List GOp) (st:St),∀ o t x,RG F fin is os o t true st (DB x)=sel x (RR F fin is (⟨o,none⟩::os) (st.put t (DB true))) (RP F fin is os (st.put t (DB false)) o.dst))∧
 (∀ (F:Nat→Option IFn) (fin:St→Option Ret) (is:List Za) (os:List GOp) (st:St),∀ o t x,RG F fin is os o t false st (DB x)=sel x (RP F fin is os (st.put t (DB true)) o.dst) (RR F fin is (⟨o,none⟩::os) (st.put t (DB false))))∧
 (∀ (F:Nat→Option IFn) (fin:St→Option Ret) (is:List Za) (st:St),∀ t a b x,RC F fin is t a b st (DB x)=sel x (KK F fin (.code a::is) (st.put t (DB true))) (KK F fin (.code b::is) (st.put t (DB false))))∧
 (∀ (F:Nat→Option IFn) (fin:St→Option Ret) (is:List Za) (os:List GOp) (st:St),∀ d f vs,RA1 F fin is os st d f (some vs)=RA2 F fin is os st d f vs (ZbE st vs))∧
 (∀ (F:Nat→Option IFn) (fin:St→Option Ret) (is:List Za) (os:List GOp) (st:St),∀ d f vs args,RA2 F fin is os st d f vs (some args)=RA3 F fin is os st d vs (EE F f args []))∧
 (∀ (F:Nat→Option IFn) (fin:St→Option Ret) (is:List Za) (os:List GOp) (st:St),∀ d vs res new,RA3 F fin is os st d vs (some ⟨res,new,[]⟩)=RT F fin is os (ZfM st d (vs.flatMap T.ids) res new))∧
 (∀ (F:Nat→Option IFn) (fin:St→Option Ret) (is:List Za) (os:List GOp) (st:St),RT F fin is os st=RR F fin is os st):=
 ⟨fun F fin is os st=>(vj0 F fin is os st).1,fun F fin is os=>(vj0 F fin is os S0).2.1,fun F fin is os st=>(vj0 F fin is os st).2.2.1,fun F fin is os st=>(vj0 F fin is os st).2.2.2.1,fun F fin is os st=>(vj0 F fin is os st).2.2.2.2.1,fun F fin is os st=>(vj0 F fin is os st).2.2.2.2.2.1,fun F fin is os st=>(vj0 F fin is os st).2.2.2.2.2.2.1,fun F fin is st=>(vj0 F fin is [] st).2.2.2.2.2.2.2.1,fun F fin is os st=>(vj0 F fin is os st).2.2.2.2.2.2.2.2.1,fun F fin is os st=>(vj0 F fin is os st).2.2.2.2.2.2.2.2.2.1,fun F fin is os st=>(vj0 F fin is os st).2.2.2.2.2.2.2.2.2.2.1,fun F fin is os st=>(vj0 F fin is os st).2.2.2.2.2.2.2.2.2.2.2⟩
theorem vd:(∀ u,D.u? (.t (.sc (.u u)))=some u)∧(∀ c,D.c? (.t (.sc c))=some c)∧(∀ x,D.t? (.t x)=some x)∧(∀ n,D.int? (DI n)=some n)∧(∀ b,D.bool? (DB b)=some b)∧
 (∀ c,T.cells (.sc c)=[c])∧(∀ cs,T.cells (.ag cs)=cs)∧(∀ u,C.u? (.u u)=some u)∧(∀ u,C.id? (.u u)=none)∧(∀ i n,C.id? (.own i n)=some i)∧(∀ i a b,C.id? (.ptr i a b)=some i)∧
 (∀ c,Zl false [c]=some (.sc c))∧(∀ cs,Zl true cs=some (.ag cs))∧
 (∀ z r,lenOf (.u (.sl z r))=some r.length)∧lenOf (.u .nil)=some 0∧(∀ i n,lenOf (.own i n)=some n):=by
 refine ⟨fun _=>rfl,fun _=>rfl,fun _=>rfl,fun _=>rfl,fun _=>rfl,fun _=>rfl,fun _=>rfl,fun _=>rfl,fun _=>rfl,fun _ _=>rfl,fun _ _ _=>rfl,fun _=>rfl,fun _=>rfl,fun _ _=>rfl,rfl,fun _ _=>rfl⟩
theorem vb:(∀ k a b,vbin .add (DU (.int k a)) (DU (.int k b))=some (DU (.int k (k.wrap (a+b)))))∧(∀ k a b,vbin .sub (DU (.int k a)) (DU (.int k b))=some (DU (.int k (k.wrap (a - b)))))∧
 (∀ k a b,vbin .mul (DU (.int k a)) (DU (.int k b))=some (DU (.int k (k.wrap (a*b)))))∧(∀ k a b,vbin .quo (DU (.int k a)) (DU (.int k b))=if b=0 then none else some (DU (.int k (k.wrap (a.tdiv b)))))∧
 (∀ k a b,vbin .rem (DU (.int k a)) (DU (.int k b))=if b=0 then none else some (DU (.int k (a.tmod b))))∧(∀ k a b,vbin .xor (DU (.int k a)) (DU (.int k b))=some (DU (.int k (bits .xor k a b))))∧
 (∀ k a b,vbin .and (DU (.int k a)) (DU (.int k b))=some (DU (.int k (bits .and k a b))))∧
 (∀ k a b,vbin .shr (DU (.int k a)) (DU (.int k b))=if b<0 then none else some (DU (.int k (a.fdiv (2 ^ min b.toNat k.bits)))))∧
 (∀ k a b,vbin .eq (DU (.int k a)) (DU (.int k b))=some (DB (decide (a=b))))∧(∀ k a b,vbin .ne (DU (.int k a)) (DU (.int k b))=some (DB (decide (a≠b))))∧
 (∀ k a b,vbin .lt (DU (.int k a)) (DU (.int k b))=some (DB (decide (a<b))))∧(∀ k a b,vbin .le (DU (.int k a)) (DU (.int k b))=some (DB (decide (a≤b))))∧
 (∀ k a b,vbin .gt (DU (.int k a)) (DU (.int k b))=some (DB (decide (b<a))))∧(∀ k a b,vbin .ge (DU (.int k a)) (DU (.int k b))=some (DB (decide (b≤a))))∧
 (∀ a b,vbin .add (DS a) (DS b)=if a.length+b.length≤9223372036854775807 then some (DS (a++b)) else none)∧
 (∀ a b,vbin .eq (DS a) (DS b)=some (DB (decide (a=b))))∧(∀ a b,vbin .ne (DS a) (DS b)=some (DB (decide (a≠b))))∧
 (∀ a b,vbin .lt (DS a) (DS b)=some (DB (Za2 a b)))∧(∀ a b,vbin .le (DS a) (DS b)=some (DB (Za2 a b||decide (a=b))))∧
 (∀ a b,vbin .gt (DS a) (DS b)=some (DB (!(Za2 a b||decide (a=b)))))∧(∀ a b,vbin .ge (DS a) (DS b)=some (DB (!Za2 a b))):=by
 refine ⟨?_,?_,?_,?_,?_,?_,?_,?_,?_,?_,?_,?_,?_,?_,?_,?_,?_,?_,?_,?_,?_⟩<;>intros
 all_goals try simp only[vbin,D.u?,bin2,Option.bind_some,if_true,Option.map_some]
 all_goals try rfl
 all_goals try (split<;>rfl)
 all_goals (refine congrArg (fun q=>some (DB q)) ?_; rw [Bool.eq_iff_iff]; simp)
theorem vv:(∀ x y,Zb8 (DB true) x y=some x)∧(∀ x y,Zb8 (DB false) x y=some y)∧(∀ q u v,Zb8 (DB q) (DB u) (DB v)=some (DB (if q=true then u else v)))∧(∀ q,vnot (DB q)=some (DB (!q)))∧(∀ n,vneg (DI n)=some (DI (IntKind.i64.wrap (0 - n))))∧
 (∀ k k' n,ZdK k (DU (.int k' n))=some (DU (.int k (k.wrap n))))∧(∀ s,ZdL (DS s)=some (DS s))∧(∀ z (r:List (List U)),vlen (DU (.sl z r))=some (DI r.length))∧vlen (DU .nil)=some (DI 0)∧(∀ i (n:Nat),vlen (.t (.sc (.own i n)))=some (DI n))∧
 (∀ s,ZdN (DS s)=some (DI s.length))∧(∀ mx k a b,ZcH mx (DU (.int k a)) (DU (.int k b))=some (DU (.int k (if mx then (if b > a then b else a) else (if b<a then b else a)))))∧
 (∀ mx a b,ZcH mx (DS a) (DS b)=some (DS (if mx then (if (!Za2 a b)=true then a else b) else (if (Za2 a b||a==b)=true then a else b))))∧
 (∀ id i o n,vfa (.t (.sc (.ptr id i o))) n=some (.t (.sc (.ptr id i (o+n)))))∧(∀ cs n,vfa (.rptr cs) n=some (.rptr (cs.drop n)))∧
 (∀ cs off n agg,vfld (.t (.ag cs)) off n agg=(seg cs off n).bind fun cs=>(Zl agg cs).map .t)∧(∀ xs i,vext (.tup xs) i=(xs[i]?).map .t)∧
 (∀ id i o,Zc8 (.t (.sc (.ptr id i o)))=some (.t (.sc (.ptr id i o))))∧(∀ cs,Zc8 (.rptr cs)=some (.rptr cs))∧
 (∀ ks ne xs ys,veqs ks ne (.t (.ag xs)) (.t (.ag ys))=(Zg ks xs ys).map fun b=>DB (if ne then !b else b))∧(∀ ne a b,vbeq ne (DB a) (DB b)=some (DB (if ne then !(a==b) else a==b)))∧
 (∀ s lo hi,vssl (DS s) lo hi=(vcut s.length lo hi).map fun p=>DS ((s.take p.2).drop p.1)):=by
 refine ⟨?_,?_,?_,?_,?_,?_,?_,?_,?_,?_,?_,?_,?_,?_,?_,?_,?_,?_,?_,?_,?_,?_⟩<;>intros
 all_goals try rfl
 ·simp only[Zb8,D.bool?,Option.map_some,sel]; split<;>rfl
 ·simp [ZcH,mnmx,D.u?]
theorem vs0 (st:St):(∀ id i o n agg,vld st (.t (.sc (.ptr id i o))) n agg=(vrd id (st.o id) i o n).bind fun cs=>(Zl agg cs).map .t)∧(∀ cs n agg,vld st (.rptr cs) n agg=(seg cs 0 n).bind fun cs=>(Zl agg (cs.map .u)).map .t)∧
 (∀ id cs o n,vrd id (some (.box cs)) 0 o n=seg cs o n)∧(∀ id z r i o n,vrd id (some (.row z r)) i o n=(r[i]?).bind fun cs=>(seg cs o n).map (·.map .u))∧
 (∀ id i o n x ax,stSt st n (.t (.sc (.ptr id i o))) (.t x) ax=if visr (st.o id)=true then ((st.coolAll x.ids).get ax).t?.bind fun v'=>if v'.cells.length=n then vwr (st.coolAll x.ids) id ((st.coolAll x.ids).o id) i o v'.cells else none else if x.cells.length=n then vwr st id (st.o id) i o x.cells else none)∧
 (∀ cs,visr (some (.box cs))=false)∧(∀ z r,visr (some (.row z r))=true)∧
 (∀ id cs o xs,vwr st id (some (.box cs)) 0 o xs=(Zx cs o xs).map fun c=>st.obj id (some (.box c)))∧
 (∀ id z r i o xs,vwr st id (some (.row z r)) i o xs=(uAll xs).bind fun us=>(r[i]?).bind fun cs=>(Zx cs o us).map fun c=>st.obj id (some (.row z (r.set i c))))∧
 (∀ z r,st.rowsOf (.u (.sl z r))=some (z,r))∧(∀ id n,st.rowsOf (.own id n)=vro (st.o id) n)∧(∀ z r n,vro (some (.row z r)) n=if n≤r.length then some (z,r.take n) else none)∧
 (∀ s,Zbe st 1 (DS s)=some (1,Zao s))∧(∀ sz z r,Zbe st sz (DU (.sl z r))=some (z,r))∧(∀ sz id n,Zbe st sz (.t (.sc (.own id n)))=vro (st.o id) n)∧
 (∀ x,st.lendT (.sc x)=(st.lend x).map .sc)∧(∀ cs,st.lendT (.ag cs)=(Zbx st cs).map .ag)∧(∀ u,st.lend (.u u)=some (.u u))∧(∀ id n,st.lend (.own id n)=(vro (st.o id) n).map fun r=>.u (.sl r.1 r.2))∧
 (st.coolAll []=st)∧(∀ i ids,st.coolAll (i::ids)=(st.cool i).coolAll ids)∧(∀ j,ZaP j 0 [] st=st):=by
 refine ⟨fun id i o n agg=>?_,?_,?_,?_,fun id i o n x ax=>?_,?_,?_,?_,fun id z r i o xs=>?_,?_,fun id n=>?_,?_,?_,fun sz z r=>?_,fun sz id n=>?_,?_,fun cs=>?_,?_,fun id n=>?_,rfl,fun i ids=>rfl,fun j=>rfl⟩
 ·simp only[vld,St.read,vrd]
  cases st.o id with
  | none=>rfl
  | some ob=>cases ob<;>rfl
 ·intros; rfl
 ·intros; rfl
 ·intros; rfl
 ·have hi:st.isRow id=visr (st.o id):=by
   unfold St.isRow visr
   cases st.o id with
   | none=>rfl
   | some ob=>cases ob<;>rfl
  have hw:∀ (s:St) (xs:List C),s.write id i o xs=vwr s id (s.o id) i o xs:=by
   intro s xs
   unfold St.write vwr
   cases s.o id with
   | none=>rfl
   | some ob=>cases ob<;>rfl
  simp only[stSt,D.t?,Option.bind_some,hi,hw]
 ·intros; rfl
 ·intros; rfl
 ·intros; rfl
 ·simp only[vwr,Zb1]
 ·intros; rfl
 ·unfold St.rowsOf vro
  simp only
  cases st.o id with
  | none=>rfl
  | some ob=>cases ob<;>rfl
 ·intros; rfl
 ·intros; rfl
 ·rfl
 ·simp only[Zbe]
  unfold St.rowsOf vro
  simp only
  cases st.o id with
  | none=>rfl
  | some ob=>cases ob<;>rfl
 ·intros; rfl
 ·simp only[St.lendT,Zd6]
 ·intros; rfl
 ·simp only[St.lend]
  congr 1
theorem vs:(∀ (st:St),∀ id i o n agg,vld st (.t (.sc (.ptr id i o))) n agg=(vrd id (st.o id) i o n).bind fun cs=>(Zl agg cs).map .t)∧
 (∀ (st:St),∀ cs n agg,vld st (.rptr cs) n agg=(seg cs 0 n).bind fun cs=>(Zl agg (cs.map .u)).map .t)∧
 (∀ id cs o n,vrd id (some (.box cs)) 0 o n=seg cs o n)∧
 (∀ id z r i o n,vrd id (some (.row z r)) i o n=(r[i]?).bind fun cs=>(seg cs o n).map (·.map .u))∧
 (∀ (st:St),∀ id i o n x ax,stSt st n (.t (.sc (.ptr id i o))) (.t x) ax=if visr (st.o id)=true then ((st.coolAll x.ids).get ax).t?.bind fun v'=>if v'.cells.length=n then vwr (st.coolAll x.ids) id ((st.coolAll x.ids).o id) i o v'.cells else none else if x.cells.length=n then vwr st id (st.o id) i o x.cells else none)∧
 (∀ cs,visr (some (.box cs))=false)∧
 (∀ z r,visr (some (.row z r))=true)∧
 (∀ (st:St),∀ id cs o xs,vwr st id (some (.box cs)) 0 o xs=(Zx cs o xs).map fun c=>st.obj id (some (.box c)))∧
 (∀ (st:St),∀ id z r i o xs,vwr st id (some (.row z r)) i o xs=(uAll xs).bind fun us=>(r[i]?).bind fun cs=>(Zx cs o us).map fun c=>st.obj id (some (.row z (r.set i c))))∧
 (∀ (st:St),∀ z r,st.rowsOf (.u (.sl z r))=some (z,r))∧
 (∀ (st:St),∀ id n,st.rowsOf (.own id n)=vro (st.o id) n)∧
 (∀ z r n,vro (some (.row z r)) n=if n≤r.length then some (z,r.take n) else none)∧
 (∀ (st:St),∀ s,Zbe st 1 (DS s)=some (1,Zao s))∧
 (∀ (st:St),∀ sz z r,Zbe st sz (DU (.sl z r))=some (z,r))∧
 (∀ (st:St),∀ sz id n,Zbe st sz (.t (.sc (.own id n)))=vro (st.o id) n)∧
 (∀ (st:St),∀ x,st.lendT (.sc x)=(st.lend x).map .sc)∧
 (∀ (st:St),∀ cs,st.lendT (.ag cs)=(Zbx st cs).map .ag)∧
 (∀ (st:St),∀ u,st.lend (.u u)=some (.u u))∧
 (∀ (st:St),∀ id n,st.lend (.own id n)=(vro (st.o id) n).map fun r=>.u (.sl r.1 r.2))∧
 (∀ (st:St),st.coolAll []=st)∧
 (∀ (st:St),∀ i ids,st.coolAll (i::ids)=(st.cool i).coolAll ids)∧
 (∀ (st:St),∀ j,ZaP j 0 [] st=st):=
 ⟨fun st=>(vs0 st).1,fun st=>(vs0 st).2.1,(vs0 S0).2.2.1,(vs0 S0).2.2.2.1,fun st=>(vs0 st).2.2.2.2.1,(vs0 S0).2.2.2.2.2.1,(vs0 S0).2.2.2.2.2.2.1,fun st=>(vs0 st).2.2.2.2.2.2.2.1,fun st=>(vs0 st).2.2.2.2.2.2.2.2.1,fun st=>(vs0 st).2.2.2.2.2.2.2.2.2.1,fun st=>(vs0 st).2.2.2.2.2.2.2.2.2.2.1,(vs0 S0).2.2.2.2.2.2.2.2.2.2.2.1,fun st=>(vs0 st).2.2.2.2.2.2.2.2.2.2.2.2.1,fun st=>(vs0 st).2.2.2.2.2.2.2.2.2.2.2.2.2.1,fun st=>(vs0 st).2.2.2.2.2.2.2.2.2.2.2.2.2.2.1,fun st=>(vs0 st).2.2.2.2.2.2.2.2.2.2.2.2.2.2.2.1,fun st=>(vs0 st).2.2.2.2.2.2.2.2.2.2.2.2.2.2.2.2.1,fun st=>(vs0 st).2.2.2.2.2.2.2.2.2.2.2.2.2.2.2.2.2.1,fun st=>(vs0 st).2.2.2.2.2.2.2.2.2.2.2.2.2.2.2.2.2.2.1,fun st=>(vs0 st).2.2.2.2.2.2.2.2.2.2.2.2.2.2.2.2.2.2.2.1,fun st=>(vs0 st).2.2.2.2.2.2.2.2.2.2.2.2.2.2.2.2.2.2.2.2.1,fun st=>(vs0 st).2.2.2.2.2.2.2.2.2.2.2.2.2.2.2.2.2.2.2.2.2⟩
end Go.Proofs.YtfajcehhcjmofaaV
