/- What the evaluator's data says of the machine's memory: definitions, and how it is kept while memory changes elsewhere. No conditions but those that the lemmas state. -/
import Derived.Test.YtfajcehhcjmofaaV3
import Derived.Below
import Derived.Laws.CopyRow
namespace Go.Proofs.YtfajcehhcjmofaaV
open Go Go.RowKit
set_option linter.unusedVariables false
/-- Where an object lies: its block, the cells of an element, how many elements it has room for, its elements' type. -/
structure Loc0 where
 g:Nat
 sz:Nat
 cap:Nat
 e:TypeId
/-- With the blocks of the slices that stand in a deep row's cells, by their places. -/
structure Loc extends Loc0 where
 kid:List (Nat×Nat)→Option Loc0
abbrev Loc.one (g sz cap:Nat) (e:TypeId):Loc:=⟨⟨g,sz,cap,e⟩,fun _=>none⟩
def Loc.has (L:Loc) (b:Nat):Prop:=L.g=b∨∃ p K,L.kid p=some K∧K.g=b
def Loc.lone (L:Loc):Prop:=∀ p,L.kid p=none
theorem Loc.has_g (L:Loc):L.has L.g:=.inl rfl
theorem Loc.lone.has {L:Loc} (h:L.lone) {b:Nat} (hb:L.has b):L.g=b:=by
 rcases hb with e|⟨p,K,hK,_⟩
 ·exact e
 ·rw [h p] at hK; cases hK
/-- Data in memory, outside of the blocks M that may be written. -/
inductive RepU (w:World) (M:Nat→Prop):U→Value→Prop
 | int (k:IntKind) (n:Int):RepU w M (.int k n) (.int k n)
 | bool (b:Bool):RepU w M (.bool b) (.bool b)
 | str (s:List UInt8):RepU w M (.str s) (.string ⟨s.toArray⟩)
 | nil:RepU w M .nil (.slice none 0 0)
 | sl0 (sz:Nat):RepU w M (.sl sz []) (.slice none 0 0)
 | sl (sz:Nat) (rows:List (List U)) (a:Addr) (c:Nat) (V:Nat→Nat→Value) (hn:rows.length≤c) (hb:rows≠[]→0<sz→¬M a.block∧a.block<w.heap.size) (hsz:∀ row,row∈rows→row.length=sz)
   (hcell:∀ i j,i<rows.length→j<sz→w.cell? (a.add (i*sz+j))=some (V i j)) (hrep:∀ i j row x,rows[i]?=some row→row[j]?=some x→RepU w M x (V i j)):RepU w M (.sl sz rows) (.slice (some a) rows.length c)
 | fn (f:Nat) (caps:List U) (vs:Array Value) (hs:vs.size=caps.length) (hrep:∀ (j:Nat) x v,caps[j]?=some x→vs[j]?=some v→RepU w M x v):RepU w M (.fn f caps) (.func (.func f) #[] vs)
 | rp (cells:List U) (a:Addr) (V:Nat→Value) (hb:cells≠[]→¬M a.block∧a.block<w.heap.size) (hcell:∀ j,j<cells.length→w.cell? (a.add j)=some (V j)) (hrep:∀ (j:Nat) x,cells[j]?=some x→RepU w M x (V j)):RepU w M (.rp cells) (.pointer (some a))
theorem RepU.one {w:World} {M:Nat→Prop} {x:U} {v:Value} (h:RepU w M x v):v.oneCell'=true:=by cases h<;>rfl
theorem ZaI {w w':World} {M M':Nat→Prop} {x:U} {v:Value} (hs:x.scal=true) (h:RepU w M x v):RepU w' M' x v:=by
 cases h with
 | int k n=>exact .int k n
 | bool b=>exact .bool b
 | str s=>exact .str s
 | _=>cases hs
/-- A cell of a deep row: what is no slice is data; a slice has a block of its own. -/
inductive Own (w:World):(List (Nat×Nat)→Option Loc0)→U→Value→Prop
 | scal (kid:List (Nat×Nat)→Option Loc0) (x:U) (v:Value) (hk:∀ p,kid p=none) (hs:x.scal=true) (hr:RepU w (fun _=>False) x v):Own w kid x v
 | sl0 (kid:List (Nat×Nat)→Option Loc0) (z:Nat) (b:Option Addr) (hk:∀ p,kid p=none):Own w kid (.sl z []) (.slice b 0 0)
 | sl (kid:List (Nat×Nat)→Option Loc0) (K:Loc0) (rows:List (List U)) (cur:Array Value) (V:Nat→Nat→Value) (hk:kid []=some K) (hh:w.heap[K.g]?=some (.cells cur K.e (0,0))) (hs:cur.size=K.cap*K.sz)
   (hn:rows.length≤K.cap) (hm:K.cap≤maxLen) (h0:0<K.sz) (hl:∀ row,row∈rows→row.length=K.sz) (hj:∀ i j p,kid ((i,j)::p)≠none→i<rows.length∧j<K.sz)
   (hc:∀ (i j:Nat) row x,rows[i]?=some row→row[j]?=some x→cur[i*K.sz+j]?=some (V i j)) (hr:∀ (i j:Nat) row x,rows[i]?=some row→row[j]?=some x→Own w (fun p=>kid ((i,j)::p)) x (V i j)) :
   Own w kid (.sl K.sz rows) (.slice (some ⟨K.g,0,none⟩) rows.length K.cap)
theorem Own.one {w:World} {kid:List (Nat×Nat)→Option Loc0} {x:U} {v:Value} (h:Own w kid x v):v.oneCell'=true:=by
 cases h with
 | scal kid x v hk hs hr=>exact hr.one
 | sl0=>rfl
 | sl=>rfl
theorem Own.keep {w w':World} {kid:List (Nat×Nat)→Option Loc0} {x:U} {v:Value} (h:Own w kid x v) (hb:∀ p K,kid p=some K→w'.heap[K.g]?=w.heap[K.g]?):Own w' kid x v:=by
 induction h with
 | scal kid x v hk hs hr=>exact .scal kid x v hk hs (ZaI hs hr)
 | sl0 kid z b hk=>exact .sl0 kid z b hk
 | sl kid K rows cur V hk hh hs hn hm h0 hl hj hc hr ih=>
  exact .sl kid K rows cur V hk ((hb [] K hk).trans hh) hs hn hm h0 hl hj hc (fun i j row x hi hx=>ih i j row x hi hx (fun p K' hp=>hb _ K' hp))
/-- Memory keeps what lies outside of M, and M has no old block more. -/
structure Zaa (w w':World) (M M':Nat→Prop):Prop where
 size:w.heap.size≤w'.heap.size
 same:∀ b,b<w.heap.size→¬M b→w'.heap[b]?=w.heap[b]?
 less:∀ b,b<w.heap.size→M' b→M b
theorem Za7 {w w':World} {a:Addr} (h:w'.heap[a.block]?=w.heap[a.block]?):w'.cell? a=w.cell? a:=by unfold World.cell?; rw [h]
theorem Za6 (a:Addr) (n:Nat):(a.add n).block=a.block:=by
 unfold Addr.add
 split<;>rfl
theorem RepU.keep {w w':World} {M M':Nat→Prop} (k:Zaa w w' M M') {x:U} {v:Value} (h:RepU w M x v):RepU w' M' x v:=by
 induction h with
 | int=>exact .int ..
 | bool=>exact .bool ..
 | str=>exact .str ..
 | nil=>exact .nil
 | sl0=>exact .sl0 _
 | sl sz rows a c V hn hb hsz hcell hrep ih=>
  refine .sl sz rows a c V hn (fun h0 h1=>?_) hsz (fun i j hi hj=>?_) ih
  ·have:=hb h0 h1
   exact ⟨fun hm=>this.1 (k.less _ this.2 hm),Nat.lt_of_lt_of_le this.2 k.size⟩
  ·have:=hb (fun e=>by rw [e] at hi; simp at hi) (by omega)
   exact (Za7 (by rw [Za6]; exact k.same _ this.2 this.1)).trans (hcell i j hi hj)
 | fn f caps vs hs hrep ih=>exact .fn f caps vs hs ih
 | rp cells a V hb hcell hrep ih=>
  refine .rp cells a V (fun h0=>?_) (fun j hj=>?_) ih
  ·have:=hb h0
   exact ⟨fun hm=>this.1 (k.less _ this.2 hm),Nat.lt_of_lt_of_le this.2 k.size⟩
  ·have:=hb (fun e=>by rw [e] at hj; simp at hj)
   exact (Za7 (by rw [Za6]; exact k.same _ this.2 this.1)).trans (hcell j hj)
abbrev Sig:=Id→Option Loc
def RepC (w:World) (M:Nat→Prop) (σ:Sig) (o:Id→Option Obj):C→Value→Prop
 | .u x,v=>RepU w M x v
 | .own id n,v=>∃ sz rows,o id=some (.row sz rows)∧n≤rows.length∧((n=0∧∃ b,v=.slice b 0 0)∨∃ L,σ id=some L∧v=.slice (some ⟨L.g,0,none⟩) n L.cap)
 | .ptr id i p,v=>∃ L,(o id).isSome=true∧σ id=some L∧v=.pointer (some ⟨L.g,i*L.sz+p,none⟩)
 | .bad,v=>v.oneCell'=true
 | .down id n,v=>∃ sz rows,o id=some (.deep sz rows)∧n≤rows.length∧((n=0∧∃ b,v=.slice b 0 0)∨∃ L,σ id=some L∧v=.slice (some ⟨L.g,0,none⟩) n L.cap)
 | .sub id i c n,v=>∃ sz rows L,o id=some (.deep sz rows)∧σ id=some L∧((n=0∧L.kid [(i,c)]=none∧∃ b,v=.slice b 0 0)∨∃ K,L.kid [(i,c)]=some K∧v=.slice (some ⟨K.g,0,none⟩) n K.cap)
theorem RepC.one {w:World} {M:Nat→Prop} {σ:Sig} {o:Id→Option Obj} {c:C} {v:Value} (h:RepC w M σ o c v):v.oneCell'=true:=by
 cases c with
 | u x=>exact RepU.one h
 | own id n=>obtain ⟨_,_,_,_,⟨_,_,rfl⟩|⟨_,_,rfl⟩⟩:=h<;>rfl
 | ptr id i p=>obtain ⟨_,_,_,rfl⟩:=h; rfl
 | bad=>exact h
 | down id n=>obtain ⟨_,_,_,_,⟨_,_,rfl⟩|⟨_,_,rfl⟩⟩:=h<;>rfl
 | sub id i c n=>obtain ⟨_,_,_,_,_,⟨_,_,_,rfl⟩|⟨_,_,rfl⟩⟩:=h<;>rfl
def RepT (w:World) (M:Nat→Prop) (σ:Sig) (o:Id→Option Obj):T→Value→Prop
 | .sc c,v=>RepC w M σ o c v
 | .ag cs,v=>∃ vs:Array Value,v=.agg vs∧vs.size=cs.length∧∀ (j:Nat) c,cs[j]?=some c→∃ x,vs[j]?=some x∧RepC w M σ o c x
def RepD (w:World) (M:Nat→Prop) (σ:Sig) (o:Id→Option Obj):D→Value→Prop
 | .t x,v=>RepT w M σ o x v
 | .rptr us,v=>∃ a:Addr,v=.pointer (some a)∧(us≠[]→¬M a.block∧a.block<w.heap.size)∧∀ (j:Nat) x,us[j]?=some x→∃ y,w.cell? (a.add j)=some y∧RepU w M x y
 | .tup xs,v=>∃ vs:Array Value,v=.tuple vs∧vs.size=xs.length∧∀ (j:Nat) x,xs[j]?=some x→∃ y,vs[j]?=some y∧RepT w M σ o x y
 | .bad,_=>True
 | .emp,v=>∃ b,v=.slice b 0 0
/-- The blocks of a deep row's cells: each has one of its own, in M. -/
structure Kids (L:Loc) (n:Nat) (M:Nat→Prop):Prop where
 nil:L.kid []=none
 at_:∀ i j p,L.kid ((i,j)::p)≠none→i<n∧j<L.sz
 inM:∀ p K,L.kid p=some K→M K.g
 ne:∀ p K,L.kid p=some K→K.g≠L.g
 inj:∀ p p' K K',L.kid p=some K→L.kid p'=some K'→K.g=K'.g→p=p'
def RepO (w:World) (M:Nat→Prop) (σ:Sig) (o:Id→Option Obj) (id:Id):Obj→Prop
 | .box cs=>∃ L cur,σ id=some L∧M L.g∧w.heap[L.g]?=some (.cells cur L.e (0,0))∧cur.size=cs.length∧∀ (j:Nat) c,cs[j]?=some c→∃ x,cur[j]?=some x∧RepC w M σ o c x
 | .row sz rows=>(rows=[]∧σ id=none)∨∃ L cur,σ id=some L∧L.sz=sz∧M L.g∧w.heap[L.g]?=some (.cells cur L.e (0,0))∧cur.size=L.cap*L.sz∧rows.length≤L.cap∧L.cap≤maxLen∧0<L.sz∧
   (∀ row,row∈rows→row.length=L.sz)∧∀ (i j:Nat) row x,rows[i]?=some row→row[j]?=some x→∃ y,cur[i*L.sz+j]?=some y∧RepU w M x y
 | .deep sz rows=>(rows=[]∧σ id=none)∨∃ L cur,σ id=some L∧L.sz=sz∧M L.g∧w.heap[L.g]?=some (.cells cur L.e (0,0))∧cur.size=L.cap*L.sz∧rows.length≤L.cap∧L.cap≤maxLen∧0<L.sz∧
   (∀ row,row∈rows→row.length=L.sz)∧(∀ (i j:Nat) row x,rows[i]?=some row→row[j]?=some x→∃ y,cur[i*L.sz+j]?=some y∧Own w (fun p=>L.kid ((i,j)::p)) x y)∧
   Kids L rows.length M
/-- Blocks that are new, or were handed in. -/
def From (base:Nat) (σ0:Sig) (b:Nat):Prop:=base≤b∨∃ j L,σ0 (.par j)=some L∧L.has b
/-- The machine's state and the evaluator's: blocks from base on are the call's own; σ0: where the objects lie that were handed in; X: others' blocks, out of reach. -/
structure Rel (base:Nat) (σ0:Sig) (X:Nat→Prop) (w0:World) (σ:Sig) (M:Nat→Prop) (w:World) (a:Act) (st:St):Prop where
 slot:∀ t,t<a.tmps.size→RepD w M σ st.o (st.s t) (a.tmps.getD t undef)
 obj:∀ id x,st.o id=some x→RepO w M σ st.o id x
 inj:∀ id id' L L' b,(st.o id).isSome=true→(st.o id').isSome=true→σ id=some L→σ id'=some L'→L.has b→L'.has b→id=id'
 live:∀ b,M b→X b∨∃ id L,(st.o id).isSome=true∧σ id=some L∧L.has b
 mine:∀ id L b,(st.o id).isSome=true→σ id=some L→L.has b→¬X b∧From base σ0 b
 par:∀ j,σ (.par j)=σ0 (.par j)
 sup:∀ b,X b→M b∧b<w.heap.size
 os:w.os=w0.os
 tape:w.tape=w0.tape
 output:w.output=w0.output
 size:base≤w.heap.size
 same:∀ b,b<base→(∀ j L,σ0 (.par j)=some L→¬L.has b)→w.heap[b]?=w0.heap[b]?
 lone:∀ id x L,st.o id=some x→x.isDeep=false→σ id=some L→L.lone
section
variable {w w':World} {M M':Nat→Prop} {σ σ':Sig} {o o':Id→Option Obj}
/-- References go on to mean the same. -/
structure Refs (σ σ':Sig) (o o':Id→Option Obj):Prop where
 sig:∀ id,(o id).isSome=true→∀ L,σ id=some L→σ' id=some L
 row:∀ id sz rows,o id=some (.row sz rows)→∃ sz' rows',o' id=some (.row sz' rows')∧rows.length≤rows'.length
 deep:∀ id sz rows,o id=some (.deep sz rows)→∃ sz' rows',o' id=some (.deep sz' rows')∧rows.length≤rows'.length
 some_:∀ id,(o id).isSome=true→(o' id).isSome=true
theorem Refs.refl (σ:Sig) (o:Id→Option Obj):Refs σ σ o o:=⟨fun _ _ _ h=>h,fun _ z r h=>⟨z,r,h,Nat.le_refl _⟩,fun _ z r h=>⟨z,r,h,Nat.le_refl _⟩,fun _ h=>h⟩
theorem RepC.keep (k:Zaa w w' M M') (r:Refs σ σ' o o') {c:C} {v:Value} (h:RepC w M σ o c v):RepC w' M' σ' o' c v:=by
 cases c with
 | u x=>exact RepU.keep k h
 | own id n=>
  obtain ⟨sz,rows,ho,hn,hv⟩:=h
  obtain ⟨sz',rows',ho',hl⟩:=r.row id sz rows ho
  refine ⟨sz',rows',ho',Nat.le_trans hn hl,?_⟩
  rcases hv with hv|⟨L,hL,hv⟩
  ·exact .inl hv
  ·exact .inr ⟨L,r.sig id (by rw [ho]; rfl) L hL,hv⟩
 | ptr id i p=>
  obtain ⟨L,ho,hL,hv⟩:=h
  exact ⟨L,r.some_ id ho,r.sig id ho L hL,hv⟩
 | bad=>exact h
 | down id n=>
  obtain ⟨sz,rows,ho,hn,hv⟩:=h
  obtain ⟨sz',rows',ho',hl⟩:=r.deep id sz rows ho
  refine ⟨sz',rows',ho',Nat.le_trans hn hl,?_⟩
  rcases hv with hv|⟨L,hL,hv⟩
  ·exact .inl hv
  ·exact .inr ⟨L,r.sig id (by rw [ho]; rfl) L hL,hv⟩
 | sub id i c n=>
  obtain ⟨sz,rows,L,ho,hL,hv⟩:=h
  obtain ⟨sz',rows',ho',hl⟩:=r.deep id sz rows ho
  exact ⟨sz',rows',L,ho',r.sig id (by rw [ho]; rfl) L hL,hv⟩
theorem RepT.keep (k:Zaa w w' M M') (r:Refs σ σ' o o') {x:T} {v:Value} (h:RepT w M σ o x v):RepT w' M' σ' o' x v:=by
 cases x with
 | sc c=>exact RepC.keep k r h
 | ag cs=>
  obtain ⟨vs,rfl,hs,hc⟩:=h
  refine ⟨vs,rfl,hs,fun j c hj=>?_⟩
  obtain ⟨x,hx,hr⟩:=hc j c hj
  exact ⟨x,hx,hr.keep k r⟩
theorem RepD.keep (k:Zaa w w' M M') (r:Refs σ σ' o o') {x:D} {v:Value} (h:RepD w M σ o x v):RepD w' M' σ' o' x v:=by
 cases x with
 | t x=>exact RepT.keep k r h
 | rptr us=>
  obtain ⟨a,rfl,hb,hc⟩:=h
  refine ⟨a,rfl,fun h0=>?_,fun j x hj=>?_⟩
  ·have:=hb h0
   exact ⟨fun hm=>this.1 (k.less _ this.2 hm),Nat.lt_of_lt_of_le this.2 k.size⟩
  ·obtain ⟨y,hy,hr⟩:=hc j x hj
   have:=hb (fun e=>by rw [e] at hj; simp at hj)
   exact ⟨y,(Za7 (by rw [Za6]; exact k.same _ this.2 this.1)).trans hy,hr.keep k⟩
 | tup xs=>
  obtain ⟨vs,rfl,hs,hc⟩:=h
  refine ⟨vs,rfl,hs,fun j c hj=>?_⟩
  obtain ⟨x,hx,hr⟩:=hc j c hj
  exact ⟨x,hx,hr.keep k r⟩
 | bad=>trivial
 | emp=>exact h
/-- An object whose blocks are as they were. -/
theorem RepO.keep (k:Zaa w w' M M') (r:Refs σ σ' o o') {id:Id} {x:Obj} (hx:o id=some x) (hn:σ id=none→σ' id=none) (hb:∀ L b,σ id=some L→L.has b→w'.heap[b]?=w.heap[b]?∧M' b) (h:RepO w M σ o id x):RepO w' M' σ' o' id x:=by
 cases x with
 | box cs=>
  obtain ⟨L,cur,hL,hM,hh,hs,hc⟩:=h
  refine ⟨L,cur,r.sig id (by rw [hx]; rfl) L hL,(hb L _ hL L.has_g).2,(hb L _ hL L.has_g).1.trans hh,hs,fun j c hj=>?_⟩
  obtain ⟨y,hy,hr⟩:=hc j c hj
  exact ⟨y,hy,hr.keep k r⟩
 | row sz rows=>
  rcases h with ⟨h1,h2⟩|⟨L,cur,hL,hz,hM,hh,hs,hn,hm,h0,hl,hc⟩
  ·exact .inl ⟨h1,hn h2⟩
  ·refine .inr ⟨L,cur,r.sig id (by rw [hx]; rfl) L hL,hz,(hb L _ hL L.has_g).2,(hb L _ hL L.has_g).1.trans hh,hs,hn,hm,h0,hl,fun i j row x hi hj=>?_⟩
   obtain ⟨y,hy,hr⟩:=hc i j row x hi hj
   exact ⟨y,hy,hr.keep k⟩
 | deep sz rows=>
  rcases h with ⟨h1,h2⟩|⟨L,cur,hL,hz,hM,hh,hs,hn,hm,h0,hl,hc,hk⟩
  ·exact .inl ⟨h1,hn h2⟩
  ·refine .inr ⟨L,cur,r.sig id (by rw [hx]; rfl) L hL,hz,(hb L _ hL L.has_g).2,(hb L _ hL L.has_g).1.trans hh,hs,hn,hm,h0,hl,fun i j row x hi hj=>?_,⟨hk.nil,hk.at_,fun p K hp=>(hb L K.g hL (.inr ⟨p,K,hp,rfl⟩)).2,hk.ne,hk.inj⟩⟩
   obtain ⟨y,hy,hr⟩:=hc i j row x hi hj
   exact ⟨y,hy,hr.keep (fun p K hp=>(hb L K.g hL (.inr ⟨_,K,hp,rfl⟩)).1)⟩
/-- An object's blocks are in M. -/
theorem RepO.inM {id:Id} {x:Obj} (h:RepO w M σ o id x) {L:Loc} (hL:σ id=some L) (hl:x.isDeep=false→L.lone) {b:Nat} (hb:L.has b):M b:=by
 cases x with
 | box cs=>obtain ⟨L',_,hL',hM,_⟩:=h; rw [hL] at hL'; cases hL'; rw [←(hl rfl).has hb]; exact hM
 | row z r=>
  rcases h with ⟨_,h2⟩|⟨L',_,hL',_,hM,_⟩
  ·rw [hL] at h2; cases h2
  ·rw [hL] at hL'; cases hL'; rw [←(hl rfl).has hb]; exact hM
 | deep z r=>
  rcases h with ⟨_,h2⟩|⟨L',_,hL',_,hM,_,_,_,_,_,_,_,hk⟩
  ·rw [hL] at h2; cases h2
  ·rw [hL] at hL'; cases hL'
   rcases hb with rfl|⟨p,K,hp,rfl⟩
   ·exact hM
   ·exact hk.inM p K hp
/-- An object's block is there. -/
theorem RepO.block {id:Id} {x:Obj} (h:RepO w M σ o id x) {L:Loc} (hL:σ id=some L):L.g<w.heap.size:=by
 have key:∀ cur,w.heap[L.g]?=some (.cells cur L.e (0,0))→L.g<w.heap.size:=fun cur hc=>(Array.getElem?_eq_some_iff.1 hc).1
 cases x with
 | box cs=>obtain ⟨L',cur,hL',hM,hh,_⟩:=h; rw [hL] at hL'; cases hL'; exact key _ hh
 | row z r=>
  rcases h with ⟨_,h2⟩|⟨L',cur,hL',_,hM,hh,_⟩
  ·rw [hL] at h2; cases h2
  ·rw [hL] at hL'; cases hL'; exact key _ hh
 | deep z r=>
  rcases h with ⟨_,h2⟩|⟨L',cur,hL',_,hM,hh,_⟩
  ·rw [hL] at h2; cases h2
  ·rw [hL] at hL'; cases hL'; exact key _ hh
theorem Own.block {kid:List (Nat×Nat)→Option Loc0} {x:U} {v:Value} (h:Own w kid x v):∀ p K,kid p=some K→K.g<w.heap.size:=by
 induction h with
 | scal kid x v hk hs hr=>intro p K hp; rw [hk p] at hp; cases hp
 | sl0 kid z b hk=>intro p K hp; rw [hk p] at hp; cases hp
 | sl kid K rows cur V hk hh hs hn hm h0 hl hj hc hr ih=>
  intro p K' hp
  match p with
  | []=>rw [hk] at hp; cases hp; exact (Array.getElem?_eq_some_iff.1 hh).1
  | (i,j)::p=>
   obtain ⟨h1,h2⟩:=hj i j p (by rw [hp]; simp)
   have hi:rows[i]?=some rows[i]:=by simp [h1]
   have hlen:=hl _ (List.mem_of_getElem? hi)
   exact ih i j rows[i] (rows[i][j]'(by omega)) hi (by simp [hlen,h2]) p K' hp
/-- All of an object's blocks are there. -/
theorem RepO.blocks {id:Id} {x:Obj} (h:RepO w M σ o id x) {L:Loc} (hL:σ id=some L) (hl:x.isDeep=false→L.lone) {b:Nat} (hb:L.has b):b<w.heap.size:=by
 rcases hb with rfl|⟨p,K,hp,rfl⟩
 ·exact h.block hL
 ·cases x with
  | box cs=>rw [hl rfl p] at hp; cases hp
  | row z r=>rw [hl rfl p] at hp; cases hp
  | deep z r=>
   rcases h with ⟨_,h2⟩|⟨L',cur,hL',_,hM,hh,_,_,_,_,hlen,hc,hk⟩
   ·rw [hL] at h2; cases h2
   ·rw [hL] at hL'; cases hL'
    match p with
    | []=>rw [hk.nil] at hp; cases hp
    | (i,j)::p=>
     obtain ⟨h1,h2⟩:=hk.at_ i j p (by rw [hp]; simp)
     have hi:r[i]?=some r[i]:=by simp [h1]
     have hl2:=hlen _ (List.mem_of_getElem? hi)
     obtain ⟨y,_,hO⟩:=hc i j r[i] (r[i][j]'(by omega)) hi (by simp [hl2,h2])
     exact hO.block p K hp
end
end Go.Proofs.YtfajcehhcjmofaaV
