/- Code: what the evaluator's code says of the program's. No conditions but those that the lemmas state. -/
import Derived.Test.YtfajcehhcjmofaaV21
namespace Go.Proofs.YtfajcehhcjmofaaV
open Go Go.RowKit
set_option linter.unusedVariables false
set_option linter.unusedSimpArgs false
variable {base:Nat} {σ0:Sig} {X:Nat→Prop} {w0 w w':World} {σ σ':Sig} {M M':Nat→Prop} {a:Act} {st st':St} {P:Program} {n:Nat} {o:Oper} {E:Zb}
def ZcV (P:Program) (n:Nat) (ops:Array Oper) (o:Oper) (g:GOp):Bool:=okOp P n o g.op&&(match o.guard,g.g with
 | none,none=>true
 | some (j,b),some (t,b')=>b==b'&&decide (t<n)&&(match ops[j]? with
  | some oj=>(match oj.dst with
   | some t'=>t'==t
   | none=>false)
  | none=>false)
 | _,_=>false)
def ZaD (P:Program) (n:Nat) (ops:Array Oper):List Oper→List GOp→Bool
 | [],[]=>true
 | o::os,g::gs=>ZcV P n ops o g&&ZaD P n ops os gs
 | _,_=>false
theorem ZgA {i:IOp} (h:okOp P n o i=true):match i.dst with
  | some d=>Zp n o.dst d=true
  | none=>o.dst=none:=by
 cases i with
 | st m x v=>
  simp only[okOp,Bool.and_eq_true] at h
  simp only[IOp.dst]
  cases hq:o.dst with
  | none=>rfl
  | some t=>rw [hq] at h; cases h.1
 | stc m x v=>
  simp only[okOp,Bool.and_eq_true] at h
  simp only[IOp.dst]
  cases hq:o.dst with
  | none=>rfl
  | some t=>rw [hq] at h; cases h.1
 | std m x v=>
  simp only[okOp,Bool.and_eq_true] at h
  simp only[IOp.dst]
  cases hq:o.dst with
  | none=>rfl
  | some t=>rw [hq] at h; cases h.1
 | _=>simp only[okOp,Bool.and_eq_true] at h; exact h.1
theorem Zdp (hE:Zad P E) {ops:Array Oper} (h:Rel base σ0 X w0 σ M w a st) (hn:a.tmps.size=n) {g:GOp} (hok:ZcV P n ops o g=true) (hs:Zaf E st g=some st') :
  (Region.wanted o (yielded ops a.tmps)=true∧Does base σ0 X w0 P o a w st')∨(Region.wanted o (yielded ops a.tmps)=false∧Rel base σ0 X w0 σ M w (a.put o.dst undef) st'):=by
 simp only[ZcV,Bool.and_eq_true] at hok
 obtain ⟨hop,hg⟩:=hok
 unfold Zaf at hs
 split at hg
 ·rename_i h1 h2
  rw [h2] at hs
  exact .inl ⟨by simp [Region.wanted,h1],ZfH hE h hn hop hs⟩
 ·rename_i j b t b' h1 h2
  rw [h2] at hs
  simp only[Option.bind_eq_some_iff] at hs
  obtain ⟨x,hx,hs⟩:=hs
  simp only[Bool.and_eq_true,beq_iff_eq,decide_eq_true_eq] at hg
  obtain ⟨⟨rfl,ht⟩,hj⟩:=hg
  have hy : yielded ops a.tmps j=x:=by
   split at hj
   ·rename_i oj hoj
    split at hj
    ·rename_i t' ht'
     simp only[beq_iff_eq] at hj
     subst hj
     have hr:=h.slot t' (by omega)
     have hget:a.tmps[t']?=some (a.tmps.getD t' undef):=by
      rw [Array.getD_eq_getD_getElem?,Array.getElem?_eq_getElem (by omega)]; rfl
     unfold ZaJ at hx
     split at hx
     ·rename_i hu
      cases hx
      rw [hu] at hr
      obtain ⟨vs,hv,hsz,_⟩:=hr
      rw [hv] at hget
      simp [yielded,hoj,ht',hget]
     ·simp only[Option.map_eq_some_iff] at hx
      obtain ⟨y,hy,rfl⟩:=hx
      rw [ZdT hy] at hr
      have hv:=RepU.bool_inv hr
      rw [hv] at hget
      simp [yielded,hoj,ht',hget]
    ·cases hj
   ·cases hj
  split at hs
  ·rename_i he
   subst he
   exact .inl ⟨by simp [Region.wanted,h1,hy],ZfH hE h hn hop hs⟩
  ·rename_i he
   cases hs
   refine .inr ⟨by simp [Region.wanted,h1,hy]; exact he,?_⟩
   have hd:=ZgA hop
   cases hq:g.op.dst with
   | none=>rw [hq] at hd; rw [hd]; exact h
   | some d=>rw [hq] at hd; exact h.putAny hn hd (x:=DUnd) ⟨#[],rfl,rfl,fun j x hj=>by simp at hj⟩
 ·cases hg
/-- After an operation: a relation, and the frame's shape. -/
def Good (base:Nat) (σ0:Sig) (X:Nat→Prop) (w0:World) (n:Nat) (st:St) (a:Act) (w:World):Prop:=(∃ σ M,Rel base σ0 X w0 σ M w a st)∧a.tmps.size=n∧a.defers=[]
theorem ZaH (a:Act) (d:Option Tmp) (v:Value):(a.put d v).defers=a.defers:=by cases d<;>rfl
theorem ZeN (hE:Zad P E) {ops:Array Oper} {Q:Exit→Act→World→Prop}:∀ (l:List Oper) (gs:List GOp) (st st':St) (a:Act) (w:World),ZaD P n ops l gs=true→Zaq E gs st=some st'→Good base σ0 X w0 n st a w→(∀ a' w',Good base σ0 X w0 n st' a' w'→Q .normal a' w')→wpList P ops Q l a w
 | [],[],st,st',a,w,_,hs,hg,hQ=>by
  simp only[Zaq,Option.some.injEq] at hs
  subst hs
  exact hQ a w hg
 | o :: os,g::gs,st,st',a,w,hok,hs,hg,hQ=>by
  simp only[ZaD,Bool.and_eq_true] at hok
  simp only[Zaq,Option.bind_eq_some_iff] at hs
  obtain ⟨st1,hs1,hs2⟩:=hs
  obtain ⟨⟨σ,M,hR⟩,hn,hd⟩:=hg
  have next:∀ a' w',Good base σ0 X w0 n st1 a' w'→wpList P ops Q os a' w':=fun a' w' h'=>ZeN hE os gs st1 st' a' w' hok.2 hs2 h' hQ
  rcases Zdp hE hR hn hok.1 hs1 with ⟨hw,hdo⟩|⟨hw,hR'⟩
  ·simp only[wpList,hw,if_true]
   exact .inl (hdo _ _ (fun σ' M' w' v hR'=>next _ _ ⟨⟨σ',M',hR'⟩,by rw [Zaz]; exact hn,by rw [ZaH]; exact hd⟩))
  ·simp only[wpList,hw,Bool.false_eq_true,if_false]
   exact next _ _ ⟨⟨σ,M,hR'⟩,by rw [Zaz]; exact hn,by rw [ZaH]; exact hd⟩
 | [],_::_,_,_,_,_,hok,_,_,_=>by simp [ZaD] at hok
 | _::_,[],_,_,_,_,hok,_,_,_=>by simp [ZaD] at hok
/-- An order that is drawn: see the texts behind this one; here none. -/
def Zbh (Zi:Array Oper→List (GOp×List Nat)→Bool) (P:Program) (n:Nat):Code→IC→Bool
 | .skip,.skip=>true
 | .region _ ops draw,.region gs=>ZaD P n ops ops.toList gs&&!draw
 | .region _ ops draw,.draw gs=>ZaD P n ops ops.toList (gs.map (·.1))&&(draw&&Zi ops gs)
 | .seq x y,.seq x' y'=>Zbh Zi P n x x'&&Zbh Zi P n y y'
 | .cond c x y,.cond c' x' y'=>Ze n c' c&&Zbh Zi P n x x'&&Zbh Zi P n y y'
 | .block id x,.block id' x'=>id==id'&&Zbh Zi P n x x'
 | .loop x,.loop x'=>Zbh Zi P n x x'
 | .exit id,.exit id'=>id==id'
 | .ret,.ret=>true
 | _,_=>false
/-- What has to be shown of a region whose order is drawn. -/
def ZbT (P:Program) (Zi:Array Oper→List (GOp×List Nat)→Bool):Prop:=∀ (E:Zb),Zad P E→∀ (base:Nat) (σ0:Sig) (X:Nat→Prop) (w0:World) (n:Nat) (id:Nat) (ops:Array Oper) (gs:List (GOp×List Nat)) (st st':St) (a:Act) (w:World) (Q:Exit→Act→World→Prop),
 ZaD P n ops ops.toList (gs.map (·.1))=true→Zi ops gs=true→Zy E gs [] (coolDsts st gs)=some st'→Good base σ0 X w0 n st a w→(∀ a' w',Good base σ0 X w0 n st' a' w'→Q .normal a' w')→(Code.region id ops true).wp P Q a w
inductive Zav (Zi:Array Oper→List (GOp×List Nat)→Bool) (P:Program) (n:Nat):List Item→List Za→Prop
 | nil:Zav Zi P n [] []
 | code {c:Code} {c':IC} {is:List Item} {js:List Za} (h:Zbh Zi P n c c'=true) (hs:Zav Zi P n is js):Zav Zi P n (.code c::is) (.code c'::js)
 | inBlock {id:Nat} {is:List Item} {js:List Za} (hs:Zav Zi P n is js):Zav Zi P n (.inBlock id::is) (.inBlock id::js)
 | inLoop {c:Code} {c':IC} {is:List Item} {js:List Za} (h:Zbh Zi P n c c'=true) (hs:Zav Zi P n is js):Zav Zi P n (.inLoop c::is) (.inLoop c'::js)
theorem ZbV {Zi:Array Oper→List (GOp×List Nat)→Bool} {id:Nat}:∀ {is:List Item} {js js':List Za},Zav Zi P n is js→exitTo id js=some js'→∃ is',Go.exitTo id is=some is'∧Zav Zi P n is' js'
 | _,_,js',.nil,h=>by simp [exitTo] at h
 | _,_,js',.code hc hs,h=>by
  obtain ⟨is',h1,h2⟩:=ZbV hs (by simpa [exitTo] using h)
  exact ⟨is',by simpa [Go.exitTo] using h1,h2⟩
 | _,_,js',.inLoop hc hs,h=>by
  obtain ⟨is',h1,h2⟩:=ZbV hs (by simpa [exitTo] using h)
  exact ⟨is',by simpa [Go.exitTo] using h1,h2⟩
 | .inBlock j::is,_,js',.inBlock hs,h=>by
  simp only[exitTo] at h
  split at h
  ·rename_i e
   cases h
   exact ⟨is,by simp [Go.exitTo,e],hs⟩
  ·rename_i e
   obtain ⟨is',h1,h2⟩:=ZbV hs h
   exact ⟨is',by simp [Go.exitTo,e,h1],h2⟩
def Runs (P:Program) (F:Nat→Option IFn) (Zi:Array Oper→List (GOp×List Nat)→Bool) (k:Nat):Prop:=∀ (items:List Za) (st st':St),Zu F k items st=some st'→∀ (base:Nat) (σ0:Sig) (X:Nat→Prop) (w0:World) (n:Nat) (its:List Item) (a:Act) (w:World) (b:Frame) (cs:List Frame),Zav Zi P n its items→Good base σ0 X w0 n st a w→
 ∃ a' w' todo,Good base σ0 X w0 n st' a' w'∧Steps P (lone (b.at a its) cs w) (lone { b.at a' todo with mode:=.returning } cs w')
theorem ZfY {F:Nat→Option IFn} {Zi:Array Oper→List (GOp×List Nat)→Bool} (hdraw:ZbT P Zi) {k:Nat} (hE:Zad P (ZaM F (Zu F k))) (ih:Runs P F Zi k):Runs P F Zi (k+1):=by
 intro items st st' hev base σ0 X w0 n its a w b cs hits hg
 have go:∀ {its':List Item} {items':List Za} {st1:St} {a1:Act} {w1:World},Zu F k items' st1=some st'→Zav Zi P n its' items'→Good base σ0 X w0 n st1 a1 w1→Steps P (lone (b.at a its) cs w) (lone (b.at a1 its') cs w1)→∃ a' w' todo,Good base σ0 X w0 n st' a' w'∧Steps P (lone (b.at a its) cs w) (lone { b.at a' todo with mode:=.returning } cs w'):=by
  intro its' items' st1 a1 w1 h1 h2 h3 h4
  obtain ⟨a',w',todo,h5,h6⟩:=ih items' st1 st' h1 base σ0 X w0 n its' a1 w1 b cs h2 h3
  exact ⟨a',w',todo,h5,h4.trans h6⟩
 cases hits with
 | nil=>
  simp only[Zu,Option.some.injEq] at hev
  subst hev
  exact ⟨a,w,[],hg,.one step_end⟩
 | inBlock hs=>exact go (by simpa [Zu] using hev) hs hg (.one step_inBlock)
 | inLoop hc hs=>exact go (by simpa [Zu] using hev) (.code hc (.inLoop hc hs)) hg (.one step_inLoop)
 | @code c c' is js hc hs=>
  unfold Zbh at hc
  split at hc
  ·exact go (by simpa [Zu] using hev) hs hg (.one step_skip)
  ·rename_i id ops draw gs
   simp only[Bool.and_eq_true,Bool.not_eq_true'] at hc
   obtain ⟨hc,rfl⟩:=hc
   simp only[Zu,Option.bind_eq_some_iff] at hev
   obtain ⟨st1,hrun,hev⟩:=hev
   have hwp:(Code.region id ops false).wp P (fun e a' w'=>e=.normal∧Good base σ0 X w0 n st1 a' w') a w:=wp_region_list (ZeN hE ops.toList gs st st1 a w hc hrun hg (fun a' w' h=>⟨rfl,h⟩))
   obtain ⟨e,a1,w1,⟨rfl,h1⟩,h2⟩:=hwp b is cs
   exact go hev hs h1 h2
  ·rename_i id ops draw gs
   simp only[Bool.and_eq_true] at hc
   obtain ⟨hc,rfl,hdr⟩:=hc
   simp only[Zu,Option.bind_eq_some_iff] at hev
   obtain ⟨st1,hrun,hev⟩:=hev
   have hwp:(Code.region id ops true).wp P (fun e a' w'=>e=.normal∧Good base σ0 X w0 n st1 a' w') a w:=hdraw _ hE base σ0 X w0 n id ops gs st st1 a w _ hc hdr hrun hg (fun a' w' h=>⟨rfl,h⟩)
   obtain ⟨e,a1,w1,⟨rfl,h1⟩,h2⟩:=hwp b is cs
   exact go hev hs h1 h2
  ·simp only[Bool.and_eq_true] at hc
   exact go (by simpa [Zu] using hev) (.code hc.1 (.code hc.2 hs)) hg (.one step_seq)
  ·simp only[Bool.and_eq_true] at hc
   simp only[Zu,Option.bind_eq_some_iff] at hev
   obtain ⟨x,hx,hev⟩:=hev
   obtain ⟨⟨σ,M,hR⟩,hn,hd⟩:=hg
   have hv:=ZbO hR hn hc.1.1 hx
   refine go hev (.code ?_ hs) ⟨⟨σ,M,hR⟩,hn,hd⟩ (.one (step_cond hv))
   cases x
   ·exact hc.2
   ·exact hc.1.2
  ·simp only[Bool.and_eq_true,beq_iff_eq] at hc
   obtain ⟨rfl,hc⟩:=hc
   exact go (by simpa [Zu] using hev) (.code hc (.inBlock hs)) hg (.one step_block)
  ·exact go (by simpa [Zu] using hev) (.code hc (.inLoop hc hs)) hg (.one step_loop)
  ·simp only[beq_iff_eq] at hc
   subst hc
   simp only[Zu,Option.bind_eq_some_iff] at hev
   obtain ⟨js',hj,hev⟩:=hev
   obtain ⟨is',h1,h2⟩:=ZbV hs hj
   exact go hev h2 hg (.one (step_exit h1))
  ·simp only[Zu,Option.some.injEq] at hev
   subst hev
   exact ⟨a,w,_,hg,.one step_ret⟩
  ·cases hc
/-- A function of the program and its form for the evaluator. -/
def Zfx (Zi:Array Oper→List (GOp×List Nat)→Bool) (P:Program) (f:Nat) (ifn:IFn):Bool:=match P.funcs[pf f]? with
 | some fn=>decide (ifn.np≤fn.ntmps)&&ZbF P fn.ntmps ifn.res fn.results.toList&&(match fn.body with
  | some c=>Zbh Zi P fn.ntmps c ifn.body
  | none=>false)
 | none=>false
theorem Zex {F:Nat→Option IFn} {Zi:Array Oper→List (GOp×List Nat)→Bool} (hF:∀ f ifn,F f=some ifn→Zfx Zi P f ifn=true) {k:Nat} (ih:Runs P F Zi k):Zad P (ZaM F (Zu F k)):=by
 intro f args ins r hr w X σ0 M0 vs hIn
 simp only[ZaM,Option.bind_eq_some_iff] at hr
 obtain ⟨ifn,hf,hr⟩:=hr
 split at hr
 ·rename_i hnp
  simp only[Option.bind_eq_some_iff] at hr
  obtain ⟨st',hev,hfin⟩:=hr
  have hok:=hF f ifn hf
  unfold Zfx at hok
  split at hok
  ·rename_i fn hfn
   simp only[Bool.and_eq_true,decide_eq_true_eq] at hok
   obtain ⟨⟨hle,hres⟩,hbody⟩:=hok
   split at hbody
   ·rename_i c hc
    intro cs
    have hsz:(vs++Array.replicate (fn.ntmps - vs.size) undef).size=fn.ntmps:=by simp [hIn.size]; omega
    let b:Frame:={ (default:Frame) with fn:=pf f,kind:=.normal }
    have henter:Frame.enter P (pf f) vs .normal=b.at { tmps:=vs++Array.replicate (fn.ntmps - vs.size) undef,defers:=[] } [.code c]:=by
     simp [Frame.enter,Frame.at,hfn,hc,b]
    obtain ⟨a',w',todo,⟨⟨σ,M,hR⟩,hn,hd⟩,hsteps⟩:=ih [.code ifn.body] ⟨Zbn args,Zj ins⟩ st' hev w.heap.size σ0 X w fn.ntmps [.code c] ⟨vs++Array.replicate (fn.ntmps - vs.size) undef,[]⟩ w b cs (.code hbody .nil) ⟨⟨σ0,M0,hIn.rel fn.ntmps⟩,hsz,rfl⟩
    obtain ⟨σn,N,M1,ys,hrun,hOut⟩:=Zfe (P:=P) hR hn hres hIn.dom hfin
    refine ⟨.returned (retV ys),w',_,⟨σn,N,M1,ys,rfl,hOut⟩,by rw [henter]; exact hsteps,rfl,rfl,hd,rfl,fn,hfn,hrun⟩
   ·cases hbody
  ·cases hok
 ·cases hr
theorem Zef {F:Nat→Option IFn} {Zi:Array Oper→List (GOp×List Nat)→Bool} (hdraw:ZbT P Zi) (hF:∀ f ifn,F f=some ifn→Zfx Zi P f ifn=true):∀ k,Runs P F Zi k
 | 0=>fun items st st' h=>by simp [Zu] at h
 | k+1=>ZfY hdraw (Zex hF (Zef hdraw hF k)) (Zef hdraw hF k)
/-- What the evaluator says of a call, the program does. -/
theorem Zhw {F:Nat→Option IFn} {Zi:Array Oper→List (GOp×List Nat)→Bool} (hdraw:ZbT P Zi) (hF:∀ f ifn,F f=some ifn→Zfx Zi P f ifn=true):Zad P (EE F):=by
 intro f args ins r hr
 obtain ⟨k,hk⟩:=ZgN F hr
 exact Zex hF (Zef hdraw hF k) f args ins r hk
end Go.Proofs.YtfajcehhcjmofaaV
