/- Symbolic runs of the evaluator: one equation a kind of step, for the simplifier. No conditions. -/
import Derived.Test.YtfajcehhcjmofaaV3
namespace Go.Proofs.YtfajcehhcjmofaaV
open Go Go.RowKit
set_option linter.unusedVariables false
def sel {α:Type} (x:Bool) (a b:α):α:=if x=true then a else b
/-- Code, and what follows it. -/
noncomputable def KK (F:Nat→Option IFn) (fin:St→Option Ret) (is:List Za) (st:St):Option Ret:=(CC F is st).bind fin
/-- Operations, then code, and what follows. -/
noncomputable def RR (F:Nat→Option IFn) (fin:St→Option Ret) (is:List Za) (os:List GOp) (st:St):Option Ret:=(Zaq (EE F) os st).bind (KK F fin is)
noncomputable def RB (F:Nat→Option IFn) (fin:St→Option Ret) (is:List Za) (os:List GOp) (st:St) (d:Nat) (v:Option D):Option Ret:=v.bind fun x=>RR F fin is os (st.put d x)
noncomputable def RS (F:Nat→Option IFn) (fin:St→Option Ret) (is:List Za) (os:List GOp) (v:Option St):Option Ret:=v.bind (RR F fin is os)
noncomputable def RX (F:Nat→Option IFn) (fin:St→Option Ret) (is:List Za) (os:List GOp) (st:St) (d:Nat) (v:Option T):Option Ret:=v.bind fun x=>RR F fin is os (((st.cool (.loc d 0)).obj (.loc d 0) (some (.box x.cells))).put d (.t (.sc (.ptr (.loc d 0) 0 0))))
noncomputable def RP (F:Nat→Option IFn) (fin:St→Option Ret) (is:List Za) (os:List GOp) (st:St) (d:Option Nat):Option Ret:=RR F fin is os (st.putO d DUnd)
def pin (st:St) (t:Nat):Option Bool→St
 | some y=>st.put t (DB y)
 | none=>st
noncomputable def RG (F:Nat→Option IFn) (fin:St→Option Ret) (is:List Za) (os:List GOp) (o:IOp) (t:Nat) (b:Bool) (st:St) (x:D):Option Ret:=(ZaJ x).bind fun y=>if y=some b then RR F fin is (⟨o,none⟩::os) (pin st t y) else RP F fin is os (pin st t y) o.dst
noncomputable def RC (F:Nat→Option IFn) (fin:St→Option Ret) (is:List Za) (t:Nat) (a b:IC) (st:St) (x:D):Option Ret:=x.bool?.bind fun y=>KK F fin (.code (if y then a else b)::is) (st.put t (DB y))
noncomputable def RE (F:Nat→Option IFn) (fin:St→Option Ret) (st:St) (r:Option (List Za)):Option Ret:=r.bind fun r=>KK F fin r st
noncomputable def RA1 (F:Nat→Option IFn) (fin:St→Option Ret) (is:List Za) (os:List GOp) (st:St) (d f:Nat) (vs:Option (List T)):Option Ret:=vs.bind fun vs=>(vs.mapM st.lendT).bind fun args=>(EE F f args []).bind fun r=>if r.out.isEmpty=true then RR F fin is os (((st.coolAll (if r.quiet then [] else vs.flatMap T.ids)).coolAll ((List.range r.new.length).map (.loc d ·))).ofRet d r) else none
noncomputable def RA2 (F:Nat→Option IFn) (fin:St→Option Ret) (is:List Za) (os:List GOp) (st:St) (d f:Nat) (vs:List T) (args:Option (List T)):Option Ret:=args.bind fun args=>(EE F f args []).bind fun r=>if r.out.isEmpty=true then RR F fin is os (((st.coolAll (if r.quiet then [] else vs.flatMap T.ids)).coolAll ((List.range r.new.length).map (.loc d ·))).ofRet d r) else none
noncomputable def RA3 (F:Nat→Option IFn) (fin:St→Option Ret) (is:List Za) (os:List GOp) (st:St) (d:Nat) (vs:List T) (r:Option Ret):Option Ret:=r.bind fun r=>if r.out.isEmpty=true then RR F fin is os (((st.coolAll (if r.quiet then [] else vs.flatMap T.ids)).coolAll ((List.range r.new.length).map (.loc d ·))).ofRet d r) else none
noncomputable def RT (F:Nat→Option IFn) (fin:St→Option Ret) (is:List Za) (os:List GOp) (st:St):Option Ret:=RR F fin is os st
section
variable {F:Nat→Option IFn} {fin:St→Option Ret} {is:List Za} {os:List GOp} {st st':St} {d f t:Nat} {o:IOp} {b:Bool} {a1 a2:IC}
@[congr] theorem ZiU (h:st=st'):KK F fin is st=KK F fin is st':=by rw [h]
@[congr] theorem Zi4 (h:st=st'):RR F fin is os st=RR F fin is os st':=by rw [h]
@[congr] theorem ZiZ {v v':Option D} (h:v=v'):RB F fin is os st d v=RB F fin is os st d v':=by rw [h]
@[congr] theorem Zi5 {v v':Option St} (h:v=v'):RS F fin is os v=RS F fin is os v':=by rw [h]
@[congr] theorem Zi7 {v v':Option T} (h:v=v'):RX F fin is os st d v=RX F fin is os st d v':=by rw [h]
@[congr] theorem Zi3 {v v':Option Nat} (h:v=v'):RP F fin is os st v=RP F fin is os st v':=by rw [h]
@[congr] theorem Zi2 {v v':D} (h:v=v'):RG F fin is os o t b st v=RG F fin is os o t b st v':=by rw [h]
@[congr] theorem Zi0 {v v':D} (h:v=v'):RC F fin is t a1 a2 st v=RC F fin is t a1 a2 st v':=by rw [h]
@[congr] theorem Zi1 {v v':Option (List Za)} (h:v=v'):RE F fin st v=RE F fin st v':=by rw [h]
@[congr] theorem Zim {v v':Option (List T)} (h:v=v'):RA1 F fin is os st d f v=RA1 F fin is os st d f v':=by rw [h]
@[congr] theorem Zin {vs:List T} {v v':Option (List T)} (h:v=v'):RA2 F fin is os st d f vs v=RA2 F fin is os st d f vs v':=by rw [h]
@[congr] theorem Zio {vs:List T} {v v':Option Ret} (h:v=v'):RA3 F fin is os st d vs v=RA3 F fin is os st d vs v':=by rw [h]
@[congr] theorem Zi6 (h:st=st'):RT F fin is os st=RT F fin is os st':=by rw [h]
end
/-! ### Values -/
def vbin (b:B2) (x y:D):Option D:=x.u?.bind fun a=>y.u?.bind fun c=>(bin2 b a c).map DU
def Zb8 (c x y:D):Option D:=c.bool?.map fun q=>if q then x else y
def vnot (x:D):Option D:=x.bool?.map fun q=>DB (!q)
def vneg (x:D):Option D:=x.int?.map fun n=>DI (IntKind.i64.wrap (0 - n))
def ZdK (k:IntKind) (x:D):Option D:=match x.u? with
 | some (.int _ n)=>some (DU (.int k (k.wrap n)))
 | _=>none
def ZdL (x:D):Option D:=match x.u? with
 | some (.str s)=>some (DS s)
 | _=>none
def vlen (x:D):Option D:=x.c?.bind fun c=>(lenOf c).map fun (n:Nat)=>DI (n:Int)
def ZdN (x:D):Option D:=match x.u? with
 | some (.str s)=>some (DI s.length)
 | _=>none
def ZcH (mx:Bool) (x y:D):Option D:=x.u?.bind fun a=>y.u?.bind fun c=>(mnmx mx a c).map DU
def vix (x i:D):Option D:=i.int?.bind fun n=>match x with
 | .t (.sc (.u (.str s)))=>if 0≤n then (s[n.toNat]?).map fun b=>DU (.int .u8 b.toNat) else none
 | _=>none
def vfa (x:D) (off:Nat):Option D:=match x with
 | .t (.sc (.ptr id i o))=>some (.t (.sc (.ptr id i (o+off))))
 | .rptr cs=>some (.rptr (cs.drop off))
 | _=>none
def vld (st:St) (x:D) (n:Nat) (agg:Bool):Option D:=match x with
 | .t (.sc (.ptr id i o))=>(st.read id i o n).bind fun cs=>(Zl agg cs).map .t
 | .rptr cs=>(seg cs 0 n).bind fun cs=>(Zl agg (cs.map .u)).map .t
 | .t (.sc (.u (.rp cs)))=>(seg cs 0 n).bind fun cs=>(Zl agg (cs.map .u)).map .t
 | _=>none
def vfld (x:D) (off n:Nat) (agg:Bool):Option D:=match x with
 | .t (.ag cs)=>(seg cs off n).bind fun cs=>(Zl agg cs).map .t
 | _=>none
def vext (x:D) (i:Nat):Option D:=match x with
 | .tup xs=>(xs[i]?).map .t
 | _=>none
def Zc8 (x:D):Option D:=match x with
 | .t (.sc (.ptr id i o))=>some (.t (.sc (.ptr id i o)))
 | .rptr cs=>some (.rptr cs)
 | _=>none
def veqs (ks:List EK) (ne:Bool) (x y:D):Option D:=match x,y with
 | .t (.ag xs),.t (.ag ys)=>(Zg ks xs ys).map fun b=>DB (if ne then !b else b)
 | _,_=>none
def vbeq (ne:Bool) (x y:D):Option D:=x.bool?.bind fun a=>y.bool?.map fun b=>DB (if ne then !(a==b) else a==b)
def visn (ne:Bool) (x:D):Option D:=match x with
 | .t (.sc (.u (.sl _ (_::_))))=>some (DB ne)
 | .t (.sc (.u .nil))=>some (DB (!ne))
 | .t (.sc (.own _ (_+1)))=>some (DB ne)
 | _=>none
def via (st:St) (sz:Nat) (x i:D):Option D:=i.int?.bind fun n=>match x with
 | .t (.sc (.u (.sl z rows)))=>if 0≤n∧z=sz then (rows[n.toNat]?).map .rptr else none
 | .t (.sc (.own id m))=>match st.o id with
  | some (.row z _)=>if 0≤n∧n<(m:Int)∧z=sz then some (.t (.sc (.ptr id n.toNat 0))) else none
  | _=>none
 | .t (.sc (.down id m))=>match st.o id with
  | some (.deep z _)=>if 0≤n∧n<(m:Int)∧z=sz then some (.t (.sc (.ptr id n.toNat 0))) else none
  | _=>none
 | _=>none
def vcut (n:Nat) (lo hi:Option D):Option (Nat×Nat):=
 (match hi with
  | some a=>a.int?
  | none=>some (n:Int)).bind fun h=>(match lo with
  | some a=>a.int?
  | none=>some 0).bind fun l=>if 0≤l∧l≤h∧h≤(n:Int) then some (l.toNat,h.toNat) else none
def vssl (x:D) (lo hi:Option D):Option D:=match x.u? with
 | some (.str s)=>(vcut s.length lo hi).map fun p=>DS ((s.take p.2).drop p.1)
 | _=>none
def ZcG (st:St) (x:D):Option D:=x.c?.bind fun c=>(st.rowsOf c).bind fun r=>if r.1=1 then (r.2.mapM ZaX).map fun bs=>DS bs else none
def ZdM (st:St) (cells:List C) (ps:List (Nat×Nat×Arg)):Option D:=(st.fill cells ps).map fun cs=>.t (.ag cs)
def ZdH (st:St) (d sz:Nat) (x:D) (lo hi:Option D):Option St:=x.c?.bind fun c=>match c with
 | .u (.sl z r)=>if z=sz then (vcut r.length lo hi).map fun p=>st.put d (DU (.sl z ((r.take p.2).drop p.1))) else none
 | .own id n=>(st.rowsOf (.own id n)).bind fun r=>if r.1=sz then (vcut n lo hi).map fun p=>(st.cool id).put d (DU (.sl sz ((r.2.take p.2).drop p.1))) else none
 | _=>none
def stSt (st:St) (n:Nat) (a x:D) (ax:Arg):Option St:=match a with
 | .t (.sc (.ptr id i o))=>x.t?.bind fun v=>if st.isRow id then
   ((st.coolAll v.ids).get ax).t?.bind fun v'=>if v'.cells.length=n then (st.coolAll v.ids).write id i o v'.cells else none
  else if v.cells.length=n then st.write id i o v.cells else none
 | _=>none
def stMk (st:St) (d:Nat) (n c:D) (zero:List U) (bytes:Nat):Option St:=n.int?.bind fun n=>c.int?.bind fun c=>if 0≤n∧n≤c∧c.toNat*bytes≤140737488355328 then
 some (((st.cool (.loc d 0)).obj (.loc d 0) (some (.row zero.length (List.replicate n.toNat zero)))).put d (.t (.sc (.own (.loc d 0) n.toNat)))) else none
def ZcE (st:St) (d sz:Nat) (x:D) (ys:Option (Nat×List (List U))) (bytes:Nat):Option St:=x.base?.bind fun cx=>ys.bind fun ys=>if ys.1=sz then (match cx with
  | .own id n=>match st.o id with
   | some (.row z r)=>if z=sz∧r.length=n∧Zk id∧n+ys.2.length≤maxLen∧(n+ys.2.length)*bytes≤140737488355328 then some (((st.kill id).obj id (some (.row sz (r++ys.2)))).put d (.t (.sc (.own id (n+ys.2.length))))) else none
   | _=>none
  | .u .nil=>if ys.2.length≤maxLen∧ys.2.length*bytes≤140737488355328 then some (((st.cool (.loc d 0)).obj (.loc d 0) (some (.row sz ys.2))).put d (.t (.sc (.own (.loc d 0) ys.2.length)))) else none
  | _=>none) else none
def ZgG (st:St) (d sz:Nat) (x hi:D):Option St:=x.c?.bind fun c=>match c with
 | .own id n=>match st.o id with
  | some (.row z r)=>if z=sz∧n≤r.length then (vcut n none (some hi)).map fun p=>((st.mapC (C.kill id)).obj id (some (.row z (r.take p.2)))).put d (.t (.sc (.own id p.2))) else none
  | _=>none
 | _=>none
def getL (st:St):List Arg→Option (List T)
 | []=>some []
 | a::as=>(st.get a).t?.bind fun x=>(getL st as).map (x::·)
theorem Za9 (st:St):∀ xs,xs.mapM (fun a=>(st.get a).t?)=getL st xs
 | []=>rfl
 | a::as=>by
  rw [List.mapM_cons,Za9 st as,getL]
  cases (st.get a).t? with
  | none=>rfl
  | some x=>cases getL st as<;>rfl
def ZbE (st:St):List T→Option (List T)
 | []=>some []
 | x::xs=>(st.lendT x).bind fun y=>(ZbE st xs).map (y::·)
theorem Zcz (st:St):∀ xs,xs.mapM st.lendT=ZbE st xs
 | []=>rfl
 | x::xs=>by
  rw [List.mapM_cons,Zcz st xs,ZbE]
  cases st.lendT x with
  | none=>rfl
  | some y=>cases ZbE st xs<;>rfl
theorem ZbG (st:St) (n:Nat) (lo hi:Option Arg):ZaR st n lo hi=vcut n (lo.map st.get) (hi.map st.get):=by
 cases lo<;>cases hi<;>rfl
/-! ### One step of code, one operation -/
section
variable (F:Nat→Option IFn) (fin:St→Option Ret) (is:List Za) (os:List GOp) (st:St)
theorem Zht:KK F fin [] st=fin st:=by simp [KK,Zf5]
theorem Ze7 (id:Nat):KK F fin (.inBlock id::is) st=KK F fin is st:=by simp [KK,Ze5]
theorem ZfS (c:IC):KK F fin (.inLoop c::is) st=KK F fin (.code c::.inLoop c::is) st:=by simp [KK,ZdQ]
theorem ZgP (c:IC):KK F fin (.code (.loop c)::is) st=KK F fin (.inLoop c::is) st:=by simp [KK,ZgL,ZdQ]
theorem Zbf (o:GOp):RR F fin is (o::os) st=(Zaf (EE F) st o).bind (RR F fin is os):=by
 simp only[RR,Zaq]
 cases Zaf (EE F) st o<;>rfl
theorem ZdB (t:Nat):st.put t (st.s t)=st:=by
 apply congr (congrArg St.mk (funext fun k=>?_)) rfl
 show (if k=t then st.s t else st.s k)=st.s k
 split
 ·rename_i h; rw [h]
 ·rfl
theorem Zq {E:Zb} {o:IOp} {d:Nat} {v:Option D} (h:step E st o=v.map (st.put d)) (hE:E=EE F):RR F fin is (⟨o,none⟩::os) st=RB F fin is os st d v:=by
 subst hE
 rw [Zbf]
 show (step (EE F) st o).bind _=_
 rw [h]
 cases v<;>rfl
theorem Zak {o:IOp} {v:Option St} (h:step (EE F) st o=v):RR F fin is (⟨o,none⟩::os) st=RS F fin is os v:=by
 rw [Zbf]
 show (step (EE F) st o).bind _=_
 rw [h]
 rfl
end
/-- No slots, no objects. -/
def S0:St:=⟨fun _=>.bad,fun _=>none⟩
theorem vi0 (F:Nat→Option IFn) (fin:St→Option Ret) (is:List Za) (os:List GOp) (st:St) :
 (KK F fin [] st=fin st)∧
 (∀ id,KK F fin (.inBlock id::is) st=KK F fin is st)∧
 (KK F fin (.code .skip::is) st=KK F fin is st)∧
 (∀ ops,KK F fin (.code (.region ops)::is) st=RR F fin is ops st)∧
 (∀ ops,KK F fin (.code (rg ops)::is) st=RR F fin is (ops.map fun o=>⟨o,none⟩) st)∧
 (∀ a b,KK F fin (.code (.seq a b)::is) st=KK F fin (.code a::.code b::is) st)∧
 (∀ t a b,KK F fin (.code (.cond (.t t) a b)::is) st=RC F fin is t a b st (st.s t))∧
 (∀ id c,KK F fin (.code (.block id c)::is) st=KK F fin (.code c::.inBlock id::is) st)∧
 (∀ id,KK F fin (.code (.exit id)::is) st=RE F fin st (exitTo id is))∧
 (KK F fin (.code .ret::is) st=fin st)∧
 (RR F fin is [] st=KK F fin is st)∧
 (∀ o ops,RR F fin is (List.map (fun o=>(⟨o,none⟩:GOp)) (o::ops)) st=RR F fin is (⟨o,none⟩::List.map (fun o=>(⟨o,none⟩:GOp)) ops) st)∧
 (RR F fin is (List.map (fun o=>(⟨o,none⟩:GOp)) []) st=KK F fin is st)∧
 (∀ o t b,RR F fin is (⟨o,some (t,b)⟩::os) st=RG F fin is os o t b st (st.s t))∧
 (∀ d a,RR F fin is (⟨.mv d a,none⟩::os) st=RB F fin is os st d (some (st.get a)))∧
 (∀ d c a b,RR F fin is (⟨.pick d c a b,none⟩::os) st=RB F fin is os st d (Zb8 (st.get c) (st.get a) (st.get b)))∧
 (∀ d zero,RR F fin is (⟨.alloc d zero,none⟩::os) st=RR F fin is os (((st.cool (.loc d 0)).obj (.loc d 0) (some (.box (zero.map .u)))).put d (.t (.sc (.ptr (.loc d 0) 0 0)))))∧
 (∀ d zero ps,RR F fin is (⟨.build d zero ps,none⟩::os) st=RB F fin is os st d (ZdM st (zero.map .u) ps))∧
 (∀ d a n agg,RR F fin is (⟨.ld d a n agg,none⟩::os) st=RB F fin is os st d (vld st (st.get a) n agg))∧
 (∀ n a x,RR F fin is (⟨.st n a x,none⟩::os) st=RS F fin is os (stSt st n (st.get a) (st.get x) x))∧
 (∀ d a off,RR F fin is (⟨.fa d a off,none⟩::os) st=RB F fin is os st d (vfa (st.get a) off))∧
 (∀ d sz x i,RR F fin is (⟨.ia d sz x i,none⟩::os) st=RB F fin is os st d (via st sz (st.get x) (st.get i)))∧
 (∀ d x i,RR F fin is (⟨.ix d x i,none⟩::os) st=RB F fin is os st d (vix (st.get x) (st.get i)))∧
 (∀ d op x y,RR F fin is (⟨.bin d op x y,none⟩::os) st=RB F fin is os st d (vbin op (st.get x) (st.get y)))∧
 (∀ d ks ne x y,RR F fin is (⟨.eqs d ks ne x y,none⟩::os) st=RB F fin is os st d (veqs ks ne (st.get x) (st.get y)))∧
 (∀ d ne x y,RR F fin is (⟨.beq d ne x y,none⟩::os) st=RB F fin is os st d (vbeq ne (st.get x) (st.get y)))∧
 (∀ d ne x,RR F fin is (⟨.isn d ne x,none⟩::os) st=RB F fin is os st d (visn ne (st.get x)))∧
 (∀ d x,RR F fin is (⟨.not d x,none⟩::os) st=RB F fin is os st d (vnot (st.get x)))∧
 (∀ d x,RR F fin is (⟨.neg d x,none⟩::os) st=RB F fin is os st d (vneg (st.get x)))∧
 (∀ d k x,RR F fin is (⟨.conv d k x,none⟩::os) st=RB F fin is os st d (ZdK k (st.get x)))∧
 (∀ d x,RR F fin is (⟨.cstr d x,none⟩::os) st=RB F fin is os st d (ZdL (st.get x)))∧
 (∀ d x,RR F fin is (⟨.bstr d x,none⟩::os) st=RB F fin is os st d (ZcG st (st.get x)))∧
 (∀ d x,RR F fin is (⟨.len d x,none⟩::os) st=RB F fin is os st d (vlen (st.get x)))∧
 (∀ d x,RR F fin is (⟨.slen d x,none⟩::os) st=RB F fin is os st d (ZdN (st.get x)))∧
 (∀ d mx x y,RR F fin is (⟨.mnmx d mx x y,none⟩::os) st=RB F fin is os st d (ZcH mx (st.get x) (st.get y)))∧
 (∀ d sz x lo hi,RR F fin is (⟨.slc d sz x lo hi,none⟩::os) st=RS F fin is os (ZdH st d sz (st.get x) (lo.map st.get) (hi.map st.get)))∧
 (∀ d x lo hi,RR F fin is (⟨.ssl d x lo hi,none⟩::os) st=RB F fin is os st d (vssl (st.get x) (lo.map st.get) (hi.map st.get)))∧
 (∀ d sz,RR F fin is (⟨.nilr d sz,none⟩::os) st=RR F fin is os (((st.cool (.loc d 0)).obj (.loc d 0) (some (.row sz []))).put d (.t (.sc (.own (.loc d 0) 0)))))∧
 (∀ d n c zero bytes,RR F fin is (⟨.mk d n c zero bytes,none⟩::os) st=RS F fin is os (stMk st d (st.get n) (st.get c) zero bytes))∧
 (∀ d sz x y bytes,RR F fin is (⟨.app d sz x y bytes,none⟩::os) st=RS F fin is os (ZcE st d sz (st.get x) (Zbe st sz (st.get y)) bytes))∧
 (∀ d x i,RR F fin is (⟨.ext d x i,none⟩::os) st=RB F fin is os st d (vext (st.get x) i))∧
 (∀ d x off n agg,RR F fin is (⟨.fld d x off n agg,none⟩::os) st=RB F fin is os st d (vfld (st.get x) off n agg))∧
 (∀ d x,RR F fin is (⟨.nilc d x,none⟩::os) st=RB F fin is os st d (Zc8 (st.get x)))∧
 (∀ d f xs,RR F fin is (⟨.call d f xs,none⟩::os) st=RA1 F fin is os st d f (getL st xs))∧
 (∀ d,RR F fin is (⟨.junk d,none⟩::os) st=RR F fin is os (st.put d .bad))∧
 (∀ d sz x hi,RR F fin is (⟨.slp d sz x hi,none⟩::os) st=RS F fin is os (ZgG st d sz (st.get x) (st.get hi)))∧
 (∀ d a,RR F fin is (⟨.box d a,none⟩::os) st=RX F fin is os st d ((st.cool (.loc d 0)).get a).t?)∧
 (∀ d n zero ps,RR F fin is (⟨.lit d n zero ps,none⟩::os) st=RS F fin is os (step (EE F) st (.lit d n zero ps)))∧
 (∀ d f xs,RR F fin is (⟨.callr d f xs,none⟩::os) st=RS F fin is os (step (EE F) st (.callr d f xs)))∧
 (∀ d fs x xs,RR F fin is (⟨.callv d fs x xs,none⟩::os) st=RS F fin is os (step (EE F) st (.callv d fs x xs))):=by
 refine ⟨Zht ..,Ze7 F fin is st,by simp [KK,ZgM],fun ops=>by simp [KK,ZdR,RR,Option.bind_assoc]; rfl,fun ops=>by simp [KK,rg,ZdR,RR,Option.bind_assoc]; rfl,fun a b=>by simp [KK,Zhr],fun t a b=>?_,fun id c=>by simp [KK,Zf4],fun id=>by simp [KK,RE,Zci,Option.bind_assoc],by simp [KK,Zhq],rfl,fun _ _=>rfl,rfl,fun o t b=>?_,?_⟩
 ·simp only[KK,ZgK,RC,St.get]
  cases hx:(st.s t).bool? with
  | none=>rfl
  | some x=>
   have hs:st.put t (DB x)=st:=by
    have:st.s t=DB x:=by
     unfold D.bool? at hx
     split at hx
     ·cases hx; assumption
     ·cases hx
    rw [←this]; exact ZdB st t
   simp only[Option.bind_some,hs]
 ·rw [Zbf]
  simp only[Zaf,RG]
  cases hx:ZaJ (st.s t) with
  | none=>rfl
  | some x=>
   have hs:pin st t x=st:=by
    unfold ZaJ at hx
    split at hx
    ·cases hx; rfl
    ·simp only[Option.map_eq_some_iff] at hx
     obtain ⟨y,hy,rfl⟩:=hx
     have:st.s t=DB y:=by
      unfold D.bool? at hy
      split at hy
      ·cases hy; assumption
      ·cases hy
     show st.put t (DB y)=st
     rw [←this]; exact ZdB st t
   simp only[Option.bind_some,hs]
   split
   ·rw [Zbf]; rfl
   ·rfl
 ·refine ⟨?_,?_,?_,?_,?_,?_,?_,?_,?_,?_,?_,?_,?_,?_,?_,?_,?_,?_,?_,?_,?_,?_,?_,?_,?_,?_,?_,?_,?_,?_,?_,?_,?_,?_,?_,?_⟩
  ·exact fun d a=>Zq F fin is os st rfl rfl
  ·exact fun d c a b=>Zq F fin is os st (by simp only[step,Zb8]; cases (st.get c).bool?<;>rfl) rfl
  ·exact fun d zero=>by rw [Zbf]; rfl
  ·exact fun d zero ps=>Zq F fin is os st (by simp only[step,ZdM]; cases st.fill (zero.map .u) ps<;>rfl) rfl
  ·intro d a n agg
   refine Zq F fin is os st ?_ rfl
   simp only[step,vld]
   split
   ·rename_i id i o hg
    simp only[hg]
    cases st.read id i o n with
    | none=>rfl
    | some cs=>simp only[Option.bind_some]; cases Zl agg cs<;>rfl
   ·rename_i cs hg
    simp only[hg]
    cases seg cs 0 n with
    | none=>rfl
    | some cs=>simp only[Option.bind_some]; cases Zl agg (cs.map .u)<;>rfl
   ·rename_i cs hg
    simp only[hg]
    cases seg cs 0 n with
    | none=>rfl
    | some cs=>simp only[Option.bind_some]; cases Zl agg (cs.map .u)<;>rfl
   ·rename_i h1 h2 h3
    generalize st.get a=x at h1 h2 h3 ⊢
    split<;>first|rfl|(exact absurd rfl (h1 _ _ _))|(exact absurd rfl (h2 _))|(exact absurd rfl (h3 _))
  ·exact fun n a x=>Zak F fin is os st rfl
  ·intro d a off
   refine Zq F fin is os st ?_ rfl
   simp only[step,vfa]
   cases st.get a with
   | t x=>cases x with
    | sc c=>cases c<;>rfl
    | ag cs=>rfl
   | _=>rfl
  ·intro d sz x i
   refine Zq F fin is os st ?_ rfl
   simp only[step,via]
   cases (st.get i).int? with
   | none=>rfl
   | some n=>
    simp only[Option.bind_some]
    cases st.get x with
    | t x =>
     cases x with
     | sc c=>
      cases c with
      | u u=>
       cases u with
       | sl z rows=>simp only; split<;>(try cases rows[n.toNat]?)<;>rfl
       | _=>rfl
      | own id m=>
       simp only
       cases st.o id with
       | none=>rfl
       | some ob=>cases ob<;>simp only<;>(try split)<;>rfl
      | down id m=>
       simp only
       cases st.o id with
       | none=>rfl
       | some ob=>cases ob<;>simp only<;>(try split)<;>rfl
      | _=>rfl
     | ag cs=>rfl
    | _=>rfl
  ·intro d x i
   refine Zq F fin is os st ?_ rfl
   simp only[step,vix]
   cases (st.get i).int? with
   | none=>rfl
   | some n=>
    simp only[Option.bind_some]
    cases st.get x with
    | t x =>
     cases x with
     | sc c=>
      cases c with
      | u u=>
       cases u with
       | str s=>simp only; split<;>(try cases s[n.toNat]?)<;>rfl
       | _=>rfl
      | _=>rfl
     | ag cs=>rfl
    | _=>rfl
  ·intro d op x y
   refine Zq F fin is os st ?_ rfl
   simp only[step,vbin]
   cases (st.get x).u? with
   | none=>rfl
   | some a=>
    cases (st.get y).u? with
    | none=>rfl
    | some c=>simp only[Option.bind_some]; cases bin2 op a c<;>rfl
  ·intro d ks ne x y
   refine Zq F fin is os st ?_ rfl
   simp only[step,veqs]
   split
   ·rename_i xs ys h1 h2
    simp only[h1,h2]
    cases Zg ks xs ys<;>rfl
   ·rename_i h1
    split
    ·rename_i h2 h3; exact absurd h3 (h1 _ _ h2)
    ·rfl
  ·intro d ne x y
   refine Zq F fin is os st ?_ rfl
   simp only[step,vbeq]
   cases (st.get x).bool? with
   | none=>rfl
   | some a=>cases (st.get y).bool?<;>rfl
  ·intro d ne x
   refine Zq F fin is os st ?_ rfl
   simp only[step,visn]
   cases st.get x with
   | t x =>
    cases x with
    | sc c=>
     cases c with
     | u u=>
      cases u with
      | sl z rows=>cases rows<;>rfl
      | _=>rfl
     | own id n=>cases n<;>rfl
     | _=>rfl
    | ag cs=>rfl
   | _=>rfl
  ·exact fun d x=>Zq F fin is os st (by simp only[step,vnot]; cases (st.get x).bool?<;>rfl) rfl
  ·exact fun d x=>Zq F fin is os st (by simp only[step,vneg]; cases (st.get x).int?<;>rfl) rfl
  ·intro d k x
   refine Zq F fin is os st ?_ rfl
   simp only[step,ZdK]
   cases (st.get x).u? with
   | none=>rfl
   | some u=>cases u<;>rfl
  ·intro d x
   refine Zq F fin is os st ?_ rfl
   simp only[step,ZdL]
   cases (st.get x).u? with
   | none=>rfl
   | some u=>cases u<;>rfl
  ·intro d x
   refine Zq F fin is os st ?_ rfl
   simp only[step,ZcG]
   cases (st.get x).c? with
   | none=>rfl
   | some c=>
    simp only[Option.bind_some]
    cases st.rowsOf c with
    | none=>rfl
    | some r=>
     simp only[Option.bind_some]
     split
     ·cases r.2.mapM ZaX<;>rfl
     ·rfl
  ·intro d x
   refine Zq F fin is os st ?_ rfl
   simp only[step,vlen]
   cases (st.get x).c? with
   | none=>rfl
   | some c=>simp only[Option.bind_some]; cases lenOf c<;>rfl
  ·intro d x
   refine Zq F fin is os st ?_ rfl
   simp only[step,ZdN]
   cases (st.get x).u? with
   | none=>rfl
   | some u=>cases u<;>rfl
  ·intro d mx x y
   refine Zq F fin is os st ?_ rfl
   simp only[step,ZcH]
   cases (st.get x).u? with
   | none=>rfl
   | some a=>
    cases (st.get y).u? with
    | none=>rfl
    | some c=>simp only[Option.bind_some]; cases mnmx mx a c<;>rfl
  ·exact fun d sz x lo hi=>Zak F fin is os st (by simp only[step,ZdH,ZbG]; rfl)
  ·intro d x lo hi
   refine Zq F fin is os st ?_ rfl
   simp only[step,vssl,ZbG]
   cases (st.get x).u? with
   | none=>rfl
   | some u=>
    cases u with
    | str s=>simp only; cases vcut s.length (lo.map st.get) (hi.map st.get)<;>rfl
    | _=>rfl
  ·exact fun d sz=>by rw [Zbf]; rfl
  ·exact fun d n c zero bytes=>Zak F fin is os st (by simp only[step,stMk]; rfl)
  ·exact fun d sz x y bytes=>Zak F fin is os st (by simp only[step,ZcE]; rfl)
  ·intro d x i
   refine Zq F fin is os st ?_ rfl
   simp only[step,vext]
   cases st.get x with
   | tup xs=>simp only; cases xs[i]?<;>rfl
   | t x=>cases x with
    | sc c=>rfl
    | ag cs=>rfl
   | _=>rfl
  ·intro d x off n agg
   refine Zq F fin is os st ?_ rfl
   simp only[step,vfld]
   cases st.get x with
   | t x=>cases x with
    | sc c=>rfl
    | ag cs=>
     simp only
     cases seg cs off n with
     | none=>rfl
     | some cs=>simp only[Option.bind_some]; cases Zl agg cs<;>rfl
   | _=>rfl
  ·intro d x
   refine Zq F fin is os st ?_ rfl
   simp only[step,Zc8]
   cases st.get x with
   | t x=>cases x with
    | sc c=>cases c<;>rfl
    | ag cs=>rfl
   | _=>rfl
  ·intro d f xs
   rw [Zbf]
   simp only[Zaf,step,RA1,Za9]
   cases getL st xs with
   | none=>rfl
   | some vs=>
    simp only[Option.bind_some]
    cases vs.mapM st.lendT with
    | none=>rfl
    | some args=>
     simp only[Option.bind_some]
     cases EE F f args [] with
     | none=>rfl
     | some r=>simp only[Option.bind_some]; cases hq:r.out.isEmpty<;>simp
  ·exact fun d=>by rw [Zbf]; rfl
  ·exact fun d sz x hi=>Zak F fin is os st (by simp only[step,ZgG,ZbG]; rfl)
  ·intro d a
   rw [Zbf]
   simp only[Zaf,step,RX]
   cases ((st.cool (.loc d 0)).get a).t?<;>rfl
  ·exact fun d n zero ps=>Zak F fin is os st rfl
  ·exact fun d f xs=>Zak F fin is os st rfl
  ·exact fun d fs x xs=>Zak F fin is os st rfl
theorem vi:(∀ (F:Nat→Option IFn) (fin:St→Option Ret) (st:St),KK F fin [] st=fin st)∧
 (∀ (F:Nat→Option IFn) (fin:St→Option Ret) (is:List Za) (st:St),∀ id,KK F fin (.inBlock id::is) st=KK F fin is st)∧
 (∀ (F:Nat→Option IFn) (fin:St→Option Ret) (is:List Za) (st:St),KK F fin (.code .skip::is) st=KK F fin is st)∧
 (∀ (F:Nat→Option IFn) (fin:St→Option Ret) (is:List Za) (st:St),∀ ops,KK F fin (.code (.region ops)::is) st=RR F fin is ops st)∧
 (∀ (F:Nat→Option IFn) (fin:St→Option Ret) (is:List Za) (st:St),∀ ops,KK F fin (.code (rg ops)::is) st=RR F fin is (ops.map fun o=>⟨o,none⟩) st)∧
 (∀ (F:Nat→Option IFn) (fin:St→Option Ret) (is:List Za) (st:St),∀ a b,KK F fin (.code (.seq a b)::is) st=KK F fin (.code a::.code b::is) st)∧
 (∀ (F:Nat→Option IFn) (fin:St→Option Ret) (is:List Za) (st:St),∀ t a b,KK F fin (.code (.cond (.t t) a b)::is) st=RC F fin is t a b st (st.s t))∧
 (∀ (F:Nat→Option IFn) (fin:St→Option Ret) (is:List Za) (st:St),∀ id c,KK F fin (.code (.block id c)::is) st=KK F fin (.code c::.inBlock id::is) st)∧
 (∀ (F:Nat→Option IFn) (fin:St→Option Ret) (is:List Za) (st:St),KK F fin (.code .ret::is) st=fin st)∧
 (∀ (F:Nat→Option IFn) (fin:St→Option Ret) (is:List Za) (st:St),RR F fin is [] st=KK F fin is st)∧
 (∀ (F:Nat→Option IFn) (fin:St→Option Ret) (is:List Za) (st:St),∀ o ops,RR F fin is (List.map (fun o=>(⟨o,none⟩:GOp)) (o::ops)) st=RR F fin is (⟨o,none⟩::List.map (fun o=>(⟨o,none⟩:GOp)) ops) st)∧
 (∀ (F:Nat→Option IFn) (fin:St→Option Ret) (is:List Za) (st:St),RR F fin is (List.map (fun o=>(⟨o,none⟩:GOp)) []) st=KK F fin is st)∧
 (∀ (F:Nat→Option IFn) (fin:St→Option Ret) (is:List Za) (os:List GOp) (st:St),∀ o t b,RR F fin is (⟨o,some (t,b)⟩::os) st=RG F fin is os o t b st (st.s t))∧
 (∀ (F:Nat→Option IFn) (fin:St→Option Ret) (is:List Za) (os:List GOp) (st:St),∀ d a,RR F fin is (⟨.mv d a,none⟩::os) st=RB F fin is os st d (some (st.get a)))∧
 (∀ (F:Nat→Option IFn) (fin:St→Option Ret) (is:List Za) (os:List GOp) (st:St),∀ d c a b,RR F fin is (⟨.pick d c a b,none⟩::os) st=RB F fin is os st d (Zb8 (st.get c) (st.get a) (st.get b)))∧
 (∀ (F:Nat→Option IFn) (fin:St→Option Ret) (is:List Za) (os:List GOp) (st:St),∀ d zero,RR F fin is (⟨.alloc d zero,none⟩::os) st=RR F fin is os (((st.cool (.loc d 0)).obj (.loc d 0) (some (.box (zero.map .u)))).put d (.t (.sc (.ptr (.loc d 0) 0 0)))))∧
 (∀ (F:Nat→Option IFn) (fin:St→Option Ret) (is:List Za) (os:List GOp) (st:St),∀ d zero ps,RR F fin is (⟨.build d zero ps,none⟩::os) st=RB F fin is os st d (ZdM st (zero.map .u) ps))∧
 (∀ (F:Nat→Option IFn) (fin:St→Option Ret) (is:List Za) (os:List GOp) (st:St),∀ d a n agg,RR F fin is (⟨.ld d a n agg,none⟩::os) st=RB F fin is os st d (vld st (st.get a) n agg))∧
 (∀ (F:Nat→Option IFn) (fin:St→Option Ret) (is:List Za) (os:List GOp) (st:St),∀ n a x,RR F fin is (⟨.st n a x,none⟩::os) st=RS F fin is os (stSt st n (st.get a) (st.get x) x))∧
 (∀ (F:Nat→Option IFn) (fin:St→Option Ret) (is:List Za) (os:List GOp) (st:St),∀ d a off,RR F fin is (⟨.fa d a off,none⟩::os) st=RB F fin is os st d (vfa (st.get a) off))∧
 (∀ (F:Nat→Option IFn) (fin:St→Option Ret) (is:List Za) (os:List GOp) (st:St),∀ d sz x i,RR F fin is (⟨.ia d sz x i,none⟩::os) st=RB F fin is os st d (via st sz (st.get x) (st.get i)))∧
 (∀ (F:Nat→Option IFn) (fin:St→Option Ret) (is:List Za) (os:List GOp) (st:St),∀ d x i,RR F fin is (⟨.ix d x i,none⟩::os) st=RB F fin is os st d (vix (st.get x) (st.get i)))∧
 (∀ (F:Nat→Option IFn) (fin:St→Option Ret) (is:List Za) (os:List GOp) (st:St),∀ d op x y,RR F fin is (⟨.bin d op x y,none⟩::os) st=RB F fin is os st d (vbin op (st.get x) (st.get y)))∧
 (∀ (F:Nat→Option IFn) (fin:St→Option Ret) (is:List Za) (os:List GOp) (st:St),∀ d ks ne x y,RR F fin is (⟨.eqs d ks ne x y,none⟩::os) st=RB F fin is os st d (veqs ks ne (st.get x) (st.get y)))∧
 (∀ (F:Nat→Option IFn) (fin:St→Option Ret) (is:List Za) (os:List GOp) (st:St),∀ d ne x y,RR F fin is (⟨.beq d ne x y,none⟩::os) st=RB F fin is os st d (vbeq ne (st.get x) (st.get y)))∧
 (∀ (F:Nat→Option IFn) (fin:St→Option Ret) (is:List Za) (os:List GOp) (st:St),∀ d ne x,RR F fin is (⟨.isn d ne x,none⟩::os) st=RB F fin is os st d (visn ne (st.get x)))∧
 (∀ (F:Nat→Option IFn) (fin:St→Option Ret) (is:List Za) (os:List GOp) (st:St),∀ d x,RR F fin is (⟨.not d x,none⟩::os) st=RB F fin is os st d (vnot (st.get x)))∧
 (∀ (F:Nat→Option IFn) (fin:St→Option Ret) (is:List Za) (os:List GOp) (st:St),∀ d x,RR F fin is (⟨.neg d x,none⟩::os) st=RB F fin is os st d (vneg (st.get x)))∧
 (∀ (F:Nat→Option IFn) (fin:St→Option Ret) (is:List Za) (os:List GOp) (st:St),∀ d k x,RR F fin is (⟨.conv d k x,none⟩::os) st=RB F fin is os st d (ZdK k (st.get x)))∧
 (∀ (F:Nat→Option IFn) (fin:St→Option Ret) (is:List Za) (os:List GOp) (st:St),∀ d x,RR F fin is (⟨.cstr d x,none⟩::os) st=RB F fin is os st d (ZdL (st.get x)))∧
 (∀ (F:Nat→Option IFn) (fin:St→Option Ret) (is:List Za) (os:List GOp) (st:St),∀ d x,RR F fin is (⟨.bstr d x,none⟩::os) st=RB F fin is os st d (ZcG st (st.get x)))∧
 (∀ (F:Nat→Option IFn) (fin:St→Option Ret) (is:List Za) (os:List GOp) (st:St),∀ d x,RR F fin is (⟨.len d x,none⟩::os) st=RB F fin is os st d (vlen (st.get x)))∧
 (∀ (F:Nat→Option IFn) (fin:St→Option Ret) (is:List Za) (os:List GOp) (st:St),∀ d x,RR F fin is (⟨.slen d x,none⟩::os) st=RB F fin is os st d (ZdN (st.get x)))∧
 (∀ (F:Nat→Option IFn) (fin:St→Option Ret) (is:List Za) (os:List GOp) (st:St),∀ d mx x y,RR F fin is (⟨.mnmx d mx x y,none⟩::os) st=RB F fin is os st d (ZcH mx (st.get x) (st.get y)))∧
 (∀ (F:Nat→Option IFn) (fin:St→Option Ret) (is:List Za) (os:List GOp) (st:St),∀ d sz x lo hi,RR F fin is (⟨.slc d sz x lo hi,none⟩::os) st=RS F fin is os (ZdH st d sz (st.get x) (lo.map st.get) (hi.map st.get)))∧
 (∀ (F:Nat→Option IFn) (fin:St→Option Ret) (is:List Za) (os:List GOp) (st:St),∀ d x lo hi,RR F fin is (⟨.ssl d x lo hi,none⟩::os) st=RB F fin is os st d (vssl (st.get x) (lo.map st.get) (hi.map st.get)))∧
 (∀ (F:Nat→Option IFn) (fin:St→Option Ret) (is:List Za) (os:List GOp) (st:St),∀ d sz,RR F fin is (⟨.nilr d sz,none⟩::os) st=RR F fin is os (((st.cool (.loc d 0)).obj (.loc d 0) (some (.row sz []))).put d (.t (.sc (.own (.loc d 0) 0)))))∧
 (∀ (F:Nat→Option IFn) (fin:St→Option Ret) (is:List Za) (os:List GOp) (st:St),∀ d n c zero bytes,RR F fin is (⟨.mk d n c zero bytes,none⟩::os) st=RS F fin is os (stMk st d (st.get n) (st.get c) zero bytes))∧
 (∀ (F:Nat→Option IFn) (fin:St→Option Ret) (is:List Za) (os:List GOp) (st:St),∀ d sz x y bytes,RR F fin is (⟨.app d sz x y bytes,none⟩::os) st=RS F fin is os (ZcE st d sz (st.get x) (Zbe st sz (st.get y)) bytes))∧
 (∀ (F:Nat→Option IFn) (fin:St→Option Ret) (is:List Za) (os:List GOp) (st:St),∀ d x i,RR F fin is (⟨.ext d x i,none⟩::os) st=RB F fin is os st d (vext (st.get x) i))∧
 (∀ (F:Nat→Option IFn) (fin:St→Option Ret) (is:List Za) (os:List GOp) (st:St),∀ d x off n agg,RR F fin is (⟨.fld d x off n agg,none⟩::os) st=RB F fin is os st d (vfld (st.get x) off n agg))∧
 (∀ (F:Nat→Option IFn) (fin:St→Option Ret) (is:List Za) (os:List GOp) (st:St),∀ d x,RR F fin is (⟨.nilc d x,none⟩::os) st=RB F fin is os st d (Zc8 (st.get x)))∧
 (∀ (F:Nat→Option IFn) (fin:St→Option Ret) (is:List Za) (os:List GOp) (st:St),∀ d f xs,RR F fin is (⟨.call d f xs,none⟩::os) st=RA1 F fin is os st d f (getL st xs))∧
 (∀ (F:Nat→Option IFn) (fin:St→Option Ret) (is:List Za) (os:List GOp) (st:St),∀ d,RR F fin is (⟨.junk d,none⟩::os) st=RR F fin is os (st.put d .bad))∧
 (∀ (F:Nat→Option IFn) (fin:St→Option Ret) (is:List Za) (os:List GOp) (st:St),∀ d sz x hi,RR F fin is (⟨.slp d sz x hi,none⟩::os) st=RS F fin is os (ZgG st d sz (st.get x) (st.get hi)))∧
 (∀ (F:Nat→Option IFn) (fin:St→Option Ret) (is:List Za) (os:List GOp) (st:St),∀ d a,RR F fin is (⟨.box d a,none⟩::os) st=RX F fin is os st d ((st.cool (.loc d 0)).get a).t?)∧
 (∀ (F:Nat→Option IFn) (fin:St→Option Ret) (is:List Za) (os:List GOp) (st:St),∀ d n zero ps,RR F fin is (⟨.lit d n zero ps,none⟩::os) st=RS F fin is os (step (EE F) st (.lit d n zero ps)))∧
 (∀ (F:Nat→Option IFn) (fin:St→Option Ret) (is:List Za) (os:List GOp) (st:St),∀ d f xs,RR F fin is (⟨.callr d f xs,none⟩::os) st=RS F fin is os (step (EE F) st (.callr d f xs)))∧
 (∀ (F:Nat→Option IFn) (fin:St→Option Ret) (is:List Za) (os:List GOp) (st:St),∀ d fs x xs,RR F fin is (⟨.callv d fs x xs,none⟩::os) st=RS F fin is os (step (EE F) st (.callv d fs x xs))):=
 ⟨fun F fin st=>(vi0 F fin [] [] st).1,fun F fin is st=>(vi0 F fin is [] st).2.1,fun F fin is st=>(vi0 F fin is [] st).2.2.1,fun F fin is st=>(vi0 F fin is [] st).2.2.2.1,fun F fin is st=>(vi0 F fin is [] st).2.2.2.2.1,fun F fin is st=>(vi0 F fin is [] st).2.2.2.2.2.1,fun F fin is st=>(vi0 F fin is [] st).2.2.2.2.2.2.1,fun F fin is st=>(vi0 F fin is [] st).2.2.2.2.2.2.2.1,fun F fin is st=>(vi0 F fin is [] st).2.2.2.2.2.2.2.2.2.1,fun F fin is st=>(vi0 F fin is [] st).2.2.2.2.2.2.2.2.2.2.1,fun F fin is st=>(vi0 F fin is [] st).2.2.2.2.2.2.2.2.2.2.2.1,fun F fin is st=>(vi0 F fin is [] st).2.2.2.2.2.2.2.2.2.2.2.2.1,fun F fin is os st=>(vi0 F fin is os st).2.2.2.2.2.2.2.2.2.2.2.2.2.1,fun F fin is os st=>(vi0 F fin is os st).2.2.2.2.2.2.2.2.2.2.2.2.2.2.1,fun F fin is os st=>(vi0 F fin is os st).2.2.2.2.2.2.2.2.2.2.2.2.2.2.2.1,fun F fin is os st=>(vi0 F fin is os st).2.2.2.2.2.2.2.2.2.2.2.2.2.2.2.2.1,fun F fin is os st=>(vi0 F fin is os st).2.2.2.2.2.2.2.2.2.2.2.2.2.2.2.2.2.1,fun F fin is os st=>(vi0 F fin is os st).2.2.2.2.2.2.2.2.2.2.2.2.2.2.2.2.2.2.1,fun F fin is os st=>(vi0 F fin is os st).2.2.2.2.2.2.2.2.2.2.2.2.2.2.2.2.2.2.2.1,fun F fin is os st=>(vi0 F fin is os st).2.2.2.2.2.2.2.2.2.2.2.2.2.2.2.2.2.2.2.2.1,fun F fin is os st=>(vi0 F fin is os st).2.2.2.2.2.2.2.2.2.2.2.2.2.2.2.2.2.2.2.2.2.1,fun F fin is os st=>(vi0 F fin is os st).2.2.2.2.2.2.2.2.2.2.2.2.2.2.2.2.2.2.2.2.2.2.1,fun F fin is os st=>(vi0 F fin is os st).2.2.2.2.2.2.2.2.2.2.2.2.2.2.2.2.2.2.2.2.2.2.2.1,fun F fin is os st=>(vi0 F fin is os st).2.2.2.2.2.2.2.2.2.2.2.2.2.2.2.2.2.2.2.2.2.2.2.2.1,fun F fin is os st=>(vi0 F fin is os st).2.2.2.2.2.2.2.2.2.2.2.2.2.2.2.2.2.2.2.2.2.2.2.2.2.1,fun F fin is os st=>(vi0 F fin is os st).2.2.2.2.2.2.2.2.2.2.2.2.2.2.2.2.2.2.2.2.2.2.2.2.2.2.1,fun F fin is os st=>(vi0 F fin is os st).2.2.2.2.2.2.2.2.2.2.2.2.2.2.2.2.2.2.2.2.2.2.2.2.2.2.2.1,fun F fin is os st=>(vi0 F fin is os st).2.2.2.2.2.2.2.2.2.2.2.2.2.2.2.2.2.2.2.2.2.2.2.2.2.2.2.2.1,fun F fin is os st=>(vi0 F fin is os st).2.2.2.2.2.2.2.2.2.2.2.2.2.2.2.2.2.2.2.2.2.2.2.2.2.2.2.2.2.1,fun F fin is os st=>(vi0 F fin is os st).2.2.2.2.2.2.2.2.2.2.2.2.2.2.2.2.2.2.2.2.2.2.2.2.2.2.2.2.2.2.1,fun F fin is os st=>(vi0 F fin is os st).2.2.2.2.2.2.2.2.2.2.2.2.2.2.2.2.2.2.2.2.2.2.2.2.2.2.2.2.2.2.2.1,fun F fin is os st=>(vi0 F fin is os st).2.2.2.2.2.2.2.2.2.2.2.2.2.2.2.2.2.2.2.2.2.2.2.2.2.2.2.2.2.2.2.2.1,fun F fin is os st=>(vi0 F fin is os st).2.2.2.2.2.2.2.2.2.2.2.2.2.2.2.2.2.2.2.2.2.2.2.2.2.2.2.2.2.2.2.2.2.1,fun F fin is os st=>(vi0 F fin is os st).2.2.2.2.2.2.2.2.2.2.2.2.2.2.2.2.2.2.2.2.2.2.2.2.2.2.2.2.2.2.2.2.2.2.1,fun F fin is os st=>(vi0 F fin is os st).2.2.2.2.2.2.2.2.2.2.2.2.2.2.2.2.2.2.2.2.2.2.2.2.2.2.2.2.2.2.2.2.2.2.2.1,fun F fin is os st=>(vi0 F fin is os st).2.2.2.2.2.2.2.2.2.2.2.2.2.2.2.2.2.2.2.2.2.2.2.2.2.2.2.2.2.2.2.2.2.2.2.2.1,fun F fin is os st=>(vi0 F fin is os st).2.2.2.2.2.2.2.2.2.2.2.2.2.2.2.2.2.2.2.2.2.2.2.2.2.2.2.2.2.2.2.2.2.2.2.2.2.1,fun F fin is os st=>(vi0 F fin is os st).2.2.2.2.2.2.2.2.2.2.2.2.2.2.2.2.2.2.2.2.2.2.2.2.2.2.2.2.2.2.2.2.2.2.2.2.2.2.1,fun F fin is os st=>(vi0 F fin is os st).2.2.2.2.2.2.2.2.2.2.2.2.2.2.2.2.2.2.2.2.2.2.2.2.2.2.2.2.2.2.2.2.2.2.2.2.2.2.2.1,fun F fin is os st=>(vi0 F fin is os st).2.2.2.2.2.2.2.2.2.2.2.2.2.2.2.2.2.2.2.2.2.2.2.2.2.2.2.2.2.2.2.2.2.2.2.2.2.2.2.2.1,fun F fin is os st=>(vi0 F fin is os st).2.2.2.2.2.2.2.2.2.2.2.2.2.2.2.2.2.2.2.2.2.2.2.2.2.2.2.2.2.2.2.2.2.2.2.2.2.2.2.2.2.1,fun F fin is os st=>(vi0 F fin is os st).2.2.2.2.2.2.2.2.2.2.2.2.2.2.2.2.2.2.2.2.2.2.2.2.2.2.2.2.2.2.2.2.2.2.2.2.2.2.2.2.2.2.1,fun F fin is os st=>(vi0 F fin is os st).2.2.2.2.2.2.2.2.2.2.2.2.2.2.2.2.2.2.2.2.2.2.2.2.2.2.2.2.2.2.2.2.2.2.2.2.2.2.2.2.2.2.2.1,fun F fin is os st=>(vi0 F fin is os st).2.2.2.2.2.2.2.2.2.2.2.2.2.2.2.2.2.2.2.2.2.2.2.2.2.2.2.2.2.2.2.2.2.2.2.2.2.2.2.2.2.2.2.2.1,fun F fin is os st=>(vi0 F fin is os st).2.2.2.2.2.2.2.2.2.2.2.2.2.2.2.2.2.2.2.2.2.2.2.2.2.2.2.2.2.2.2.2.2.2.2.2.2.2.2.2.2.2.2.2.2.1,fun F fin is os st=>(vi0 F fin is os st).2.2.2.2.2.2.2.2.2.2.2.2.2.2.2.2.2.2.2.2.2.2.2.2.2.2.2.2.2.2.2.2.2.2.2.2.2.2.2.2.2.2.2.2.2.2.1,fun F fin is os st=>(vi0 F fin is os st).2.2.2.2.2.2.2.2.2.2.2.2.2.2.2.2.2.2.2.2.2.2.2.2.2.2.2.2.2.2.2.2.2.2.2.2.2.2.2.2.2.2.2.2.2.2.2.1,fun F fin is os st=>(vi0 F fin is os st).2.2.2.2.2.2.2.2.2.2.2.2.2.2.2.2.2.2.2.2.2.2.2.2.2.2.2.2.2.2.2.2.2.2.2.2.2.2.2.2.2.2.2.2.2.2.2.2.1,fun F fin is os st=>(vi0 F fin is os st).2.2.2.2.2.2.2.2.2.2.2.2.2.2.2.2.2.2.2.2.2.2.2.2.2.2.2.2.2.2.2.2.2.2.2.2.2.2.2.2.2.2.2.2.2.2.2.2.2⟩
end Go.Proofs.YtfajcehhcjmofaaV
