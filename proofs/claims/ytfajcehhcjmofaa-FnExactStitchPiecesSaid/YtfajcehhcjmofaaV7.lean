/- Which operation of the evaluator stands for which operation of the program: a check that can be computed. Definitions, and what the small checks say. -/
import Derived.Test.YtfajcehhcjmofaaV6
namespace Go.Proofs.YtfajcehhcjmofaaV
open Go Go.RowKit
set_option linter.unusedVariables false
set_option linter.unusedSimpArgs false
def uOk:U→Value→Bool
 | .int k n,.int k' n'=>k==k'&&decide (n=n')
 | .bool b,.bool b'=>b==b'
 | .str s,.string s'=>s==s'.data.toList
 | .nil,.slice none 0 0=>true
 | .sl _ [],.slice none 0 0=>true
 | _,_=>false
def Ze (n:Nat):Arg→Operand→Bool
 | .t k,.tmp k'=>k==k'&&decide (k<n)
 | .k u,.const v=>uOk u v
 | .k (.fn f []),.func g=>f==g
 | _,_=>false
def Zp (n:Nat) (o:Option Tmp) (d:Nat):Bool:=match o with
 | some t=>t==d
 | none=>decide (n≤d)
def ZaB:List U→List Value→Bool
 | [],[]=>true
 | u::us,v::vs=>uOk u v&&ZaB us vs
 | _,_=>false
def Zfq:TypeDesc→Bool
 | .struct _|.array _ _=>true
 | _=>false
def ZaU (P:Program) (t:TypeId) (n:Nat) (agg:Bool):Bool:=match P.info? t,P.underlying t with
 | some i,some d=>i.size==n&&Zfq d==agg
 | _,_=>false
def Za3 (P:Program) (t:TypeId) (n:Nat):Bool:=match P.info? t with
 | some i=>i.size==n
 | none=>false
def Zbd (P:Program) (t:TypeId) (n:Nat):Bool:=match P.info? t with
 | some i=>i.bytes==n
 | none=>false
def ZbS (P:Program) (t:TypeId) (zero:List U):Bool:=match P.info? t with
 | some i=>match i.zero with
  | some z=>i.size==zero.length&&ZaB zero z.cells.toList
  | none=>false
 | none=>false
def ZbD (P:Program) (t:TypeId) (n:Nat):Bool:=match P.info? t with
 | some i=>match i.zero with
  | some z=>i.size==n&&z.cells.size==n&&decide (0<n)
  | none=>false
 | none=>false
def Zdb (P:Program) (s:TypeId) (f:Nat) (p:Field→Bool):Bool:=match P.underlying s with
 | some (.struct fs)=>match fs[f]? with
  | some fd=>p fd
  | none=>false
 | _=>false
def Zag (P:Program) (t:TypeId) (p:TypeId→Bool):Bool:=match P.underlying t with
 | some (.slice e)=>p e
 | _=>false
def Zaw (P:Program) (t:TypeId):Bool:=match P.underlying t with
 | some .string=>true
 | _=>false
def Zfg (P:Program) (t:TypeId):Bool:=match P.underlying t with
 | some .bool=>true
 | _=>false
def ZfD (P:Program) (t:TypeId) (k:IntKind):Bool:=match P.underlying t with
 | some (.int k')=>k'==k
 | _=>false
def Zb6 (n:Nat):Option Arg→Option Operand→Bool
 | none,none=>true
 | some x,some o=>Ze n x o
 | _,_=>false
def ZbX (n:Nat) (size:Nat→Option (Nat×Nat)):List (Nat×Nat×Arg)→List (Nat×Operand)→Bool
 | [],[]=>true
 | (off,m,x)::ps,(i,o)::qs=>(match size i with
  | some (off',m')=>off==off'&&m==m'
  | none=>false)&&Ze n x o&&ZbX n size ps qs
 | _,_=>false
def Zar (n:Nat):List (Nat×Arg)→List (Nat×Operand)→Bool
 | [],[]=>true
 | (j,x)::ps,(i,o)::qs=>j==i&&Ze n x o&&Zar n ps qs
 | _,_=>false
def ZaC (n:Nat):List Arg→List Operand→Bool
 | [],[]=>true
 | x::xs,o::os=>Ze n x o&&ZaC n xs os
 | _,_=>false
def opOf:B2→BinOp
 | .add=>.add|.sub=>.sub|.mul=>.mul|.quo=>.quo|.rem=>.rem|.and=>.and|.or=>.or|.xor=>.xor|.shr=>.shr
 | .eq=>.eql|.ne=>.neq|.lt=>.lss|.le=>.leq|.gt=>.gtr|.ge=>.geq
/-- The kinds of a type's cells, one after the other, where they can be compared. -/
def Zcs (P:Program) (g:TypeId→Option (List EK)):Nat→List Field→Option (List EK)
 | _,[]=>some []
 | j, f :: fs => if f.offset = j ∧ f.name ≠ "_" then (g f.type).bind fun ks => if Za3 P f.type ks.length = true then (Zcs P g (j + ks.length) fs).map (ks ++ ·) else none else none
def Zcy (P:Program):Nat→TypeId→Option (List EK)
 | 0,_=>none
 | d+1,t=>match P.underlying t with
  | some (.int _)=>some [.i]
  | some .bool=>some [.b]
  | some .string=>some [.s]
  | some (.struct fs)=>if P.stoodInHeld t=true then none else Zcs P (Zcy P d) 0 fs.toList
  | _=>none
def Zdo (P:Program) (f:FuncId):Bool:=match P.funcs[f]? with
 | some fn => !(fn.name == "runtime.NumGoroutine") && fn.body.isSome
 | none=>false
/-- The program's function: the evaluator may have several forms of it. -/
def pf (f:Nat):Nat:=f % 4096
def ZcK (P:Program) (n f:Nat) (xs:List Arg) (c:Call):Bool:=(match c.callee with
 | .value (.func g)=>g==pf f
 | _=>false)&&ZaC n xs c.args.toList&&Zdo P (pf f)
def okOp (P:Program) (n:Nat) (o:Oper):IOp→Bool
 | .mv d x=>Zp n o.dst d&&(match o.op with
  | .move y=>Ze n x y
  | .assign y=>Ze n x y
  | _=>false)
 | .pick d c x y=>Zp n o.dst d&&(match o.op with
  | .pick c' x' y'=>Ze n c c'&&Ze n x x'&&Ze n y y'
  | _=>false)
 | .alloc d zero=>Zp n o.dst d&&(match o.op with
  | .alloc e=>ZbS P e zero
  | _=>false)
 | .box d x=>Zp n o.dst d&&(match o.op with
  | .box e y=>Ze n x y
  | _=>false)
 | .build d zero parts=>Zp n o.dst d&&(match o.op with
  | .build t ps=>ZbS P t zero&&(match P.underlying t with
   | some (.struct fs)=>fs.toList.all (fun f=>(P.info? f.type).isSome)&&ZbX n (fun i=>(fs[i]?).bind fun f=>(P.info? f.type).map fun i=>(f.offset,i.size)) parts ps.toList
   | _=>false)
  | _=>false)
 | .lit d len zero parts=>Zp n o.dst d&&(match o.op with
  | .buildSlice t len' ps=>len==len'&&decide (0<zero.length)&&decide (len*zero.length≤16777216)&&decide (len≤maxLen)&&Zag P t (fun e=>ZbS P e zero)&&Zar n parts ps.toList
  | _=>false)
 | .ld d x m agg=>Zp n o.dst d&&(match o.op with
  | .load t y=>ZaU P t m agg&&Ze n x y
  | _=>false)
 | .st m x v=>(match o.dst with
  | none=>true
  | some _=>false)&&(match o.op with
  | .store t x' v'=>Za3 P t m&&Ze n x x'&&Ze n v v'
  | _=>false)
 | .fa d x off=>Zp n o.dst d&&(match o.op with
  | .fieldAddr s y f=>Ze n x y&&Zdb P s f (fun fd=>fd.offset==off&&(match P.info? fd.type with
   | some i=>decide (0<i.size)
   | none=>false))
  | _=>false)
 | .ia d sz x i=>Zp n o.dst d&&(match o.op with
  | .indexAddr t y j=>Ze n x y&&Ze n i j&&Zag P t (fun e=>Za3 P e sz)
  | _=>false)
 | .ix d x i=>Zp n o.dst d&&(match o.op with
  | .index t y j=>Ze n x y&&Ze n i j&&Zaw P t
  | _=>false)
 | .bin d b x y=>Zp n o.dst d&&(match o.op with
  | .binOp b' _ x' y' _=>decide (b'=opOf b)&&Ze n x x'&&Ze n y y'
  | _=>false)
 | .eqs d ks ne x y=>Zp n o.dst d&&(match o.op with
  | .binOp b' t x' y' _=>decide (b'=if ne then .neq else .eql)&&Ze n x x'&&Ze n y y'&&!(P.eqGuardType P.depth t)&&(match P.underlying t with
   | some (.struct _)=>decide (Zcy P 9 t=some ks)
   | _=>false)
  | _=>false)
 | .beq d ne x y=>Zp n o.dst d&&(match o.op with
  | .binOp b' t x' y' _=>decide (b'=if ne then .neq else .eql)&&Ze n x x'&&Ze n y y'&&Zfg P t
  | _=>false)
 | .isn d ne x=>Zp n o.dst d&&(match o.op with
  | .binOp b' t x' y' _=>decide (b'=if ne then .neq else .eql)&&Zag P t (fun _=>true)&&((Ze n x x'&&Ze n (.k .nil) y')||(Ze n (.k .nil) x'&&Ze n x y'))
  | _=>false)
 | .not d x=>Zp n o.dst d&&(match o.op with
  | .unOp .not _ y=>Ze n x y
  | _=>false)
 | .neg d x=>Zp n o.dst d&&(match o.op with
  | .unOp .neg _ y=>Ze n x y
  | _=>false)
 | .conv d k x=>Zp n o.dst d&&(match o.op with
  | .convert s t y=>Ze n x y&&(P.underlying s).isSome&&ZfD P t k
  | _=>false)
 | .cstr d x=>Zp n o.dst d&&(match o.op with
  | .convert s t y=>Ze n x y&&Zaw P s&&Zaw P t
  | _=>false)
 | .bstr d x=>Zp n o.dst d&&(match o.op with
  | .convert s t y=>Ze n x y&&Zag P s (fun e=>ZfD P e .u8)&&Zaw P t
  | _=>false)
 | .len d x=>Zp n o.dst d&&(match o.op with
  | .call c=>(match c.callee,c.args.toList,c.argTypes.toList with
   | .builtin .len,[y],[t]=>Ze n x y&&Zag P t (fun _=>true)
   | _,_,_=>false)
  | _=>false)
 | .slen d x=>Zp n o.dst d&&(match o.op with
  | .call c=>(match c.callee,c.args.toList,c.argTypes.toList with
   | .builtin .len,[y],[t]=>Ze n x y&&Zaw P t
   | _,_,_=>false)
  | _=>false)
 | .mnmx d mx x y=>Zp n o.dst d&&(match o.op with
  | .call c=>(match c.callee,c.args.toList with
   | .builtin .max,[x',y']=>mx&&Ze n x x'&&Ze n y y'
   | .builtin .min,[x',y']=>!mx&&Ze n x x'&&Ze n y y'
   | _,_=>false)
  | _=>false)
 | .slc d sz x lo hi=>Zp n o.dst d&&(match o.op with
  | .slice t y lo' hi' none=>Ze n x y&&Zb6 n lo lo'&&Zb6 n hi hi'&&Zag P t (fun e=>Za3 P e sz)
  | _=>false)
 | .ssl d x lo hi=>Zp n o.dst d&&(match o.op with
  | .slice t y lo' hi' none=>Ze n x y&&Zb6 n lo lo'&&Zb6 n hi hi'&&Zaw P t
  | _=>false)
 | .nilr d sz=>Zp n o.dst d&&(match o.op with
  | .move (.const (.slice none 0 0))=>true
  | .assign (.const (.slice none 0 0))=>true
  | _=>false)
 | .mk d m c zero bytes=>Zp n o.dst d&&(match o.op with
  | .makeSlice t m' c'=>Ze n m m'&&Ze n c c'&&decide (0<bytes)&&Zag P t (fun e=>ZbS P e zero&&Zbd P e bytes&&decide (0<zero.length))
  | _=>false)
 | .app d sz x y bytes=>Zp n o.dst d&&(match o.op with
  | .call c=>(match c.callee,c.args.toList,c.argTypes.toList with
   | .builtin .append,[x',y'],[t,t']=>Ze n x x'&&Ze n y y'&&Zag P t (fun e=>ZbD P e sz&&Zbd P e bytes)&&(Zag P t' (fun _=>true)||Zaw P t')
   | _,_,_=>false)
  | _=>false)
 | .ext d x i=>Zp n o.dst d&&(match o.op with
  | .extract y j=>Ze n x y&&i==j
  | _=>false)
 | .fld d x off m agg=>Zp n o.dst d&&(match o.op with
  | .field t y f=>Ze n x y&&Zdb P t f (fun fd=>fd.offset==off&&ZaU P fd.type m agg)
  | _=>false)
 | .nilc d x=>Zp n o.dst d&&(match o.op with
  | .nilCheck y=>Ze n x y
  | _=>false)
 | .call d f xs=>Zp n o.dst d&&(match o.op with
  | .call c=>ZcK P n f xs c
  | _=>false)
 | .callc d f xs=>Zp n o.dst d&&(match o.op with
  | .call c=>ZcK P n f xs c
  | _=>false)
 | .callr d f xs=>Zp n o.dst d&&(match o.op with
  | .call c=>ZcK P n f xs c
  | _=>false)
 | .callv d fs x xs=>Zp n o.dst d&&(match o.op with
  | .call c=>(match c.callee with
   | .value y=>Ze n x y
   | _=>false)&&ZaC n xs c.args.toList&&fs.all (fun f=>pf f==f&&Zdo P f)
  | _=>false)
 | .slp d sz x hi=>Zp n o.dst d&&(match o.op with
  | .slice t y none (some hi') none=>Ze n x y&&Ze n hi hi'&&Zag P t (fun e=>Za3 P e sz)
  | _=>false)
 | .mkd d m c zero bytes=>Zp n o.dst d&&(match o.op with
  | .makeSlice t m' c'=>Ze n m m'&&Ze n c c'&&decide (0<bytes)&&Zag P t (fun e=>ZbS P e zero&&Zbd P e bytes&&decide (0<zero.length))
  | _=>false)
 | .litd d k zero x=>Zp n o.dst d&&(match o.op with
  | .buildSlice t len' ps=>decide (k=1)&&len'==1&&decide (0<zero.length)&&decide (zero.length≤16777216)&&Zag P t (fun e=>ZbS P e zero)&&Zar n [(0,x)] ps.toList
  | _=>false)
 | .appd d sz x y bytes=>Zp n o.dst d&&(match o.op with
  | .call c=>(match c.callee,c.args.toList,c.argTypes.toList with
   | .builtin .append,[x',y'],[t,t']=>Ze n x x'&&Ze n y y'&&Zag P t (fun e=>ZbD P e sz&&Zbd P e bytes)&&Zag P t' (fun _=>true)
   | _,_,_=>false)
  | _=>false)
 | .std m x v=>(match o.dst with
  | none=>true
  | some _=>false)&&(match o.op with
  | .store t x' v'=>Za3 P t m&&Ze n x x'&&Ze n v v'
  | _=>false)
 | .callk d f dp xs=>Zp n o.dst d&&(match o.op with
  | .call c=>ZcK P n f xs c
  | _=>false)
 | .mkf d f caps=>Zp n o.dst d&&(match o.op with
  | .makeFunc (.func g) first cs=>g==f&&first.isEmpty&&ZaC n caps cs.toList
  | _=>false)
 | .cl d x=>Zp n o.dst d&&(match o.op with
  | .move y=>Ze n x y
  | .assign y=>Ze n x y
  | _=>false)
 | .stc m x v=>(match o.dst with
  | none=>true
  | some _=>false)&&(match o.op with
  | .store t x' v'=>Za3 P t m&&Ze n x x'&&Ze n v v'
  | _=>false)
 | .emp d=>Zp n o.dst d&&(match o.op with
  | .buildSlice t 0 ps=>ps.isEmpty&&Zag P t (fun e=>(P.info? e).isSome)
  | _=>false)
 | .junk d=>Zp n o.dst d&&(match o.op with
  | .move (.const _)=>true
  | .assign (.const _)=>true
  | _=>false)
/-! ### What the small checks say -/
variable {base:Nat} {σ0:Sig} {X:Nat→Prop} {w0 w:World} {σ:Sig} {M:Nat→Prop} {a:Act} {st:St} {P:Program} {n:Nat} {o:Oper}
theorem Zdj {s t:ByteArray} (h:s.data.toList=t.data.toList):s=t:=by
 cases s; cases t
 simp only at h
 congr 1
 exact Array.toList_inj.1 h
theorem Zes {u:U} {v:Value} (h:uOk u v=true):RepU w M u v:=by
 unfold uOk at h
 split at h
 ·simp only[Bool.and_eq_true,beq_iff_eq,decide_eq_true_eq] at h
  obtain ⟨rfl,rfl⟩:=h
  exact .int ..
 ·simp only[beq_iff_eq] at h
  subst h; exact .bool ..
 ·rename_i s s'
  have h1:s=s'.data.toList:=by simpa using h
  have h2:(⟨s.toArray⟩:ByteArray)=s':=Zdj (by simp [h1])
  rw [←h2]; exact .str ..
 ·exact .nil
 ·exact .sl0 _
 ·cases h
theorem Zch:∀ {us:List U} {vs:List Value},ZaB us vs=true→us.length=vs.length∧∀ (j:Nat) u,us[j]?=some u→∃ v,vs[j]?=some v∧RepU w M u v
 | [],[],_=>⟨rfl,fun j u hj=>by simp at hj⟩
 | u::us,v::vs,h=>by
  simp only[ZaB,Bool.and_eq_true] at h
  obtain ⟨h1,h2⟩:=Zch (us:=us) (vs:=vs) h.2
  refine ⟨by simp [h1],fun j u' hj=>?_⟩
  cases j with
  | zero=>simp only[List.getElem?_cons_zero,Option.some.injEq] at hj ⊢; subst hj; exact ⟨v,rfl,Zes h.1⟩
  | succ j=>simp only[List.getElem?_cons_succ] at hj ⊢; exact h2 j u' hj
 | [],_::_,h=>by simp [ZaB] at h
 | _::_,[],h=>by simp [ZaB] at h
theorem Zf (h:Rel base σ0 X w0 σ M w a st) (hn:a.tmps.size=n) {x:Arg} {y:Operand} (hx:Ze n x y=true):RepD w M σ st.o (st.get x) (a.eval y):=by
 unfold Ze at hx
 split at hx
 ·simp only[Bool.and_eq_true,beq_iff_eq,decide_eq_true_eq] at hx
  obtain ⟨rfl,hlt⟩:=hx
  exact h.slot _ (by omega)
 ·exact Zes hx
 ·simp only[beq_iff_eq] at hx
  subst hx
  exact RepU.fn _ [] #[] rfl (fun j x v h _=>by simp at h)
 ·cases hx
theorem Rel.putAny (h:Rel base σ0 X w0 σ M w a st) (hn:a.tmps.size=n) {d:Nat} {od:Option Tmp} (hd:Zp n od d=true) {x:D} {v:Value} (hx:RepD w M σ st.o x v):Rel base σ0 X w0 σ M w (a.put od v) (st.put d x):=by
 cases od with
 | some t=>
  simp only[Zp,beq_iff_eq] at hd
  subst hd
  exact h.put hx
 | none=>
  simp only[Zp,decide_eq_true_eq] at hd
  refine ⟨fun t ht=>?_,h.obj,h.inj,h.live,h.mine,h.par,h.sup,h.os,h.tape,h.output,h.size,h.same,h.lone⟩
  show RepD w M σ st.o (if t=d then x else st.s t) _
  have ht':t<a.tmps.size:=ht
  rw [if_neg (by omega)]
  exact h.slot t ht'
/-- An operation that goes on to a state. -/
def Goes (base:Nat) (σ0:Sig) (X:Nat→Prop) (w0:World) (P:Program) (o:Oper) (a:Act) (w:World) (st':St):Prop:=
 ∃ x v w' σ' M',(execOp a.eval o).run P w=.ok x w'∧(x=.value v∨(x=.skip∧v=undef))∧Rel base σ0 X w0 σ' M' w' (a.put o.dst v) st'
theorem Goes.val {w':World} {σ':Sig} {M':Nat→Prop} {st':St} (h:Rel base σ0 X w0 σ' M' w' a st') (hn:a.tmps.size=n) {d:Nat} (hd:Zp n o.dst d=true) {x:D} {v:Value}
  (hrun:(execOp a.eval o).run P w=.ok (.value v) w') (hx:RepD w' M' σ' st'.o x v):Goes base σ0 X w0 P o a w (st'.put d x):=
 ⟨_,v,w',σ',M',hrun,.inl rfl,h.putAny hn hd hx⟩
theorem Zc7 {t:TypeId} {m:Nat} {agg:Bool} (h:ZaU P t m agg=true):(sizeOf t).run P w=.ok m w∧(isAgg t).run P w=.ok agg w:=by
 unfold ZaU at h
 split at h
 ·rename_i i d hi hd
  simp only[Bool.and_eq_true,beq_iff_eq] at h
  obtain ⟨rfl,rfl⟩:=h
  refine ⟨by simp [sizeOf,typeInfo,hi],?_⟩
  unfold isAgg
  rw [Sem.run_bind,run_underlying hd w]
  cases d<;>rfl
 ·cases h
theorem Za4 {t:TypeId} {m:Nat} (h:Za3 P t m=true):(sizeOf t).run P w=.ok m w:=by
 unfold Za3 at h
 split at h
 ·rename_i i hi
  simp only[beq_iff_eq] at h
  subst h
  simp [sizeOf,typeInfo,hi]
 ·cases h
theorem Zo {t:TypeId} {p:TypeId→Bool} (h:Zag P t p=true):∃ e,P.underlying t=some (.slice e)∧p e=true:=by
 unfold Zag at h
 split at h
 ·exact ⟨_,by assumption,h⟩
 ·cases h
theorem Zab {t:TypeId} (h:Zaw P t=true):P.underlying t=some .string:=by
 unfold Zaw at h
 split at h
 ·assumption
 ·cases h
theorem ZeI {t:TypeId} (h:Zfg P t=true):P.underlying t=some .bool:=by
 unfold Zfg at h
 split at h
 ·assumption
 ·cases h
theorem Zcd {t:TypeId} {k:IntKind} (h:ZfD P t k=true):P.underlying t=some (.int k):=by
 unfold ZfD at h
 split at h
 ·rename_i k' hk
  simp only[beq_iff_eq] at h
  subst h; exact hk
 ·cases h
theorem Zcr {s:TypeId} {f:Nat} {p:Field→Bool} (h:Zdb P s f p=true):∃ fs fd,P.underlying s=some (.struct fs)∧fs[f]?=some fd∧p fd=true:=by
 unfold Zdb at h
 split at h
 ·rename_i fs hfs
  split at h
  ·rename_i fd hfd
   exact ⟨fs,fd,hfs,hfd,h⟩
  ·cases h
 ·cases h
theorem Zau {t:TypeId} {zero:List U} (h:ZbS P t zero=true):∃ i z,P.info? t=some i∧i.zero=some z∧i.size=zero.length∧ZaB zero z.cells.toList=true:=by
 unfold ZbS at h
 split at h
 ·rename_i i hi
  split at h
  ·rename_i z hz
   simp only[Bool.and_eq_true,beq_iff_eq] at h
   exact ⟨i,z,hi,hz,h.1,h.2⟩
  ·cases h
 ·cases h
end Go.Proofs.YtfajcehhcjmofaaV
