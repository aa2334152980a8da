/- What a call takes and gives. No conditions but those that the lemmas state. -/
import Derived.Test.YtfajcehhcjmofaaV15
namespace Go.Proofs.YtfajcehhcjmofaaV
open Go Go.RowKit
set_option linter.unusedVariables false
set_option linter.unusedSimpArgs false
variable {base:Nat} {σ0:Sig} {X:Nat→Prop} {w0 w w':World} {σ σ':Sig} {M M':Nat→Prop} {a:Act} {st st':St} {P:Program} {n:Nat} {o:Oper} {E:Zb}
variable {ob ob':Id→Option Obj}
/-- The arguments of a call; the objects that it is handed. -/
structure In (w:World) (X:Nat→Prop) (σ0:Sig) (M0:Nat→Prop) (args:List T) (ins:List Obj) (vs:Array Value):Prop where
 size:vs.size=args.length
 arg:∀ (j:Nat) x,args[j]?=some x→∃ v,vs[j]?=some v∧RepT w M0 σ0 (Zj ins) x v
 obj:∀ id x,Zj ins id=some x→RepO w M0 σ0 (Zj ins) id x
 inj:∀ id id' L L' b,(Zj ins id).isSome=true→(Zj ins id').isSome=true→σ0 id=some L→σ0 id'=some L'→L.has b→L'.has b→id=id'
 live:∀ b,M0 b→X b∨∃ id L,(Zj ins id).isSome=true∧σ0 id=some L∧L.has b
 notX:∀ id L b,(Zj ins id).isSome=true→σ0 id=some L→L.has b→¬X b
 sup:∀ b,X b→M0 b∧b<w.heap.size
 lone:∀ id x L,Zj ins id=some x→x.isDeep=false→σ0 id=some L→L.lone
 dom:∀ j,ins.length≤j→σ0 (.par j)=none
theorem In.rel {M0:Nat→Prop} {args:List T} {ins:List Obj} {vs:Array Value} (h:In w X σ0 M0 args ins vs) (nt:Nat):Rel w.heap.size σ0 X w σ0 M0 w ⟨vs++Array.replicate (nt - vs.size) undef,[]⟩ ⟨Zbn args,Zj ins⟩:=by
 refine ⟨fun t ht=>?_,h.obj,h.inj,h.live,fun id L b hid hL hb=>⟨h.notX id L b hid hL hb,?_⟩,fun j=>rfl,h.sup,rfl,rfl,rfl,Nat.le_refl _,fun b hb _=>rfl,h.lone⟩
 ·show RepD w M0 σ0 (Zj ins) (Zbn args t) _
  unfold Zbn
  cases ha:args[t]? with
  | none=>trivial
  | some x=>
   obtain ⟨v,hv,hr⟩:=h.arg t x ha
   have hlt:t<vs.size:=(Array.getElem?_eq_some_iff.1 hv).1
   have:(vs++Array.replicate (nt - vs.size) undef).getD t undef=v:=by
    rw [Array.getD_eq_getD_getElem?,Array.getElem?_append_left hlt,hv]; rfl
   rw [this]
   exact hr
 ·cases id with
  | par j=>exact .inr ⟨j,L,hL,hb⟩
  | loc t j=>cases hid
def retV (vs:List Value):Value:=match vs with
 | [v]=>v
 | vs=>.tuple vs.toArray
structure Out (w:World) (X:Nat→Prop) (σ0:Sig) (nout:Nat) (r:Ret) (σn:Sig) (N M1:Nat→Prop) (vs:List Value) (w':World):Prop where
 new_:∀ b,N b↔∃ j L,j<r.new.length∧σn (.par j)=some L∧L.has b
 all_:∀ b,M1 b↔X b∨N b∨∃ j L,j<r.out.length∧σ0 (.par j)=some L∧L.has b
 high:∀ b,N b→(w.heap.size≤b∨(r.out.length≠nout∧∃ j L,σ0 (.par j)=some L∧L.has b))∧b<w'.heap.size
 inj:∀ j j' L L' b,j<r.new.length→j'<r.new.length→σn (.par j)=some L→σn (.par j')=some L'→L.has b→L'.has b→j=j'
 nobj:∀ (j:Nat) x,r.new[j]?=some x→x.data=true∧RepO w' M1 σn (Zj r.new) (.par j) x
 oobj:∀ (j:Nat) x,r.out[j]?=some x→x.data=true∧RepO w' M1 σ0 (Zj r.out) (.par j) x
 outl:r.out.length=nout∨r.out=[]
 len:vs.length=r.res.length
 res:∀ (j:Nat) x,r.res[j]?=some x→∃ y,vs[j]?=some y∧RepT w' M1 σn (Zj r.new) x y
 os:w'.os=w.os
 tape:w'.tape=w.tape
 output:w'.output=w.output
 size:w.heap.size≤w'.heap.size
 same:∀ b,b<w.heap.size→(∀ j L,σ0 (.par j)=some L→¬L.has b)→w'.heap[b]?=w.heap[b]?
 lone:∀ (j:Nat) x L,r.new[j]?=some x→x.isDeep=false→σn (.par j)=some L→L.lone
/-- What a call gives back beside the objects that it was handed is new. -/
theorem Out.fresh {nout:Nat} {r:Ret} {σn:Sig} {N M1:Nat→Prop} {vs:List Value} (h:Out w X σ0 nout r σn N M1 vs w') (hl:r.out.length=nout):∀ b,N b→w.heap.size≤b∧b<w'.heap.size:=fun b hb=>⟨(h.high b hb).1.resolve_right fun e=>e.1 hl,(h.high b hb).2⟩
/-- The objects under other names. -/
theorem ZeY {f:Id→Option Id} (k:Zaa w w M M') (hf:∀ i j,f i=some j→(ob i).isSome=true→ob' j=ob i∧σ' j=σ i) {c:C} {v:Value} (h:RepC w M σ ob c v):RepC w M' σ' ob' (C.ren f c) v:=by
  have h1:=h.one
  cases c with
  | u x=>exact RepU.keep k h
  | own i m=>
    simp only[C.ren]
    split
    · rename_i j hj
      obtain ⟨z,rows,ho,hm,hv⟩:=h
      obtain ⟨e1,e2⟩:=hf i j hj (by rw [ho]; rfl)
      refine ⟨z,rows,by rw [e1]; exact ho,hm,?_⟩
      rw [e2]; exact hv
    · exact h1
  | ptr i p q=>
    simp only[C.ren]
    split
    · rename_i j hj
      obtain ⟨L,ho,hL,hv⟩:=h
      obtain ⟨e1,e2⟩:=hf i j hj ho
      exact ⟨L,by rw [e1]; exact ho,by rw [e2]; exact hL,hv⟩
    · exact h1
  | bad=>exact h1
  | down i m=>
    simp only[C.ren]
    split
    · rename_i j hj
      obtain ⟨z,rows,ho,hm,hv⟩:=h
      obtain ⟨e1,e2⟩:=hf i j hj (by rw [ho]; rfl)
      refine ⟨z,rows,by rw [e1]; exact ho,hm,?_⟩
      rw [e2]; exact hv
    · exact h1
  | sub i p q m=>
    simp only[C.ren]
    split
    · rename_i j hj
      obtain ⟨z,rows,L,ho,hL,hv⟩:=h
      obtain ⟨e1,e2⟩:=hf i j hj (by rw [ho]; rfl)
      exact ⟨z,rows,L,by rw [e1]; exact ho,by rw [e2]; exact hL,hv⟩
    · exact h1
theorem ZcC {f:Id→Option Id} (k:Zaa w w M M') (hf:∀ i j,f i=some j→(ob i).isSome=true→ob' j=ob i∧σ' j=σ i) {x:T} {v:Value} (h:RepT w M σ ob x v):RepT w M' σ' ob' (x.mapC (C.ren f)) v:=by
 cases x with
 | sc c=>exact ZeY k hf h
 | ag cs=>
  obtain ⟨vs,rfl,hs,hc⟩:=h
  refine ⟨vs,rfl,by rw [List.length_map]; exact hs,fun j c hj=>?_⟩
  rw [List.getElem?_map] at hj
  obtain ⟨c0,hc0,rfl⟩:=Option.map_eq_some_iff.1 hj
  obtain ⟨x,hx,hr⟩:=hc j c0 hc0
  exact ⟨x,hx,ZeY k hf hr⟩
/-- An object that holds data alone, under another name. -/
theorem ZaV {id id':Id} {x:Obj} (hd:x.data=true) (k:Zaa w w M M') (hσ:σ' id'=σ id) (hM:∀ L b,σ id=some L→L.has b→M' b) (h:RepO w M σ ob id x):RepO w M' σ' ob' id' x:=by
 cases x with
 | box cs=>
  obtain ⟨L,cur,hL,hm,hh,hs,hc⟩:=h
  refine ⟨L,cur,by rw [hσ]; exact hL,hM L _ hL L.has_g,hh,hs,fun j c hj=>?_⟩
  obtain ⟨y,hy,hr⟩:=hc j c hj
  refine ⟨y,hy,?_⟩
  have:c.u?.isSome=true:=by
   simp only[Obj.data,List.all_eq_true] at hd
   exact hd c (List.mem_of_getElem? hj)
  cases c with
  | u x=>exact RepU.keep k hr
  | _=>simp [C.u?] at this
 | row z rows=>
  rcases h with ⟨h1,h2⟩|⟨L,cur,hL,hz,hm,hh,hs,hn,hcm,h0,hl,hc⟩
  ·exact .inl ⟨h1,by rw [hσ]; exact h2⟩
  ·refine .inr ⟨L,cur,by rw [hσ]; exact hL,hz,hM L _ hL L.has_g,hh,hs,hn,hcm,h0,hl,fun i j row x hi hj=>?_⟩
   obtain ⟨y,hy,hr⟩:=hc i j row x hi hj
   exact ⟨y,hy,hr.keep k⟩
 | deep z rows=>
  rcases h with ⟨h1,h2⟩|⟨L,cur,hL,hz,hm,hh,hs,hn,hcm,h0,hl,hc,hk⟩
  ·exact .inl ⟨h1,by rw [hσ]; exact h2⟩
  ·exact .inr ⟨L,cur,by rw [hσ]; exact hL,hz,hM L _ hL L.has_g,hh,hs,hn,hcm,h0,hl,hc,⟨hk.nil,hk.at_,fun p K hp=>hM L _ hL (.inr ⟨p,K,hp,rfl⟩),hk.ne,hk.inj⟩⟩
theorem Zbp {w:World} {M1 M2:Nat→Prop} {u:U} {v:Value} (hf:u.flat=true) (h:RepU w M1 u v):RepU w M2 u v:=by
 cases u with
 | int k m=>rw [RepU.int_inv h]; exact .int ..
 | bool b=>rw [RepU.bool_inv h]; exact .bool _
 | str s=>rw [RepU.str_inv h]; exact .str _
 | nil=>rw [RepU.nil_inv h]; exact .nil
 | sl z r=>
  simp only[U.flat,List.isEmpty_iff] at hf
  subst hf
  cases h with
  | sl0=>exact .sl0 _
  | sl sz rows a c V hn hb hsz hcell hrep=>exact .sl _ _ a c V hn (fun h0=>absurd rfl h0) hsz hcell (fun i j row x hi=>by simp at hi)
 | fn=>simp [U.flat] at hf
 | rp=>simp [U.flat] at hf
/-- An object that holds no addresses, under another name. -/
theorem ZfX {id id':Id} {x:Obj} (hd:x.data=true) (hf:x.flat=true) (hσ:σ' id'=σ id) (hM:∀ L b,σ id=some L→L.has b→M' b) (h:RepO w M σ ob id x):RepO w M' σ' ob' id' x:=by
 cases x with
 | box cs=>
  obtain ⟨L,cur,hL,hm,hh,hs,hc⟩:=h
  refine ⟨L,cur,by rw [hσ]; exact hL,hM L _ hL L.has_g,hh,hs,fun j c hj=>?_⟩
  obtain ⟨y,hy,hr⟩:=hc j c hj
  refine ⟨y,hy,?_⟩
  have h1:c.u?.isSome=true:=by
   simp only[Obj.data,List.all_eq_true] at hd
   exact hd c (List.mem_of_getElem? hj)
  have h2:c.isSl=false:=by
   simp only[Obj.flat,List.all_eq_true,Bool.not_eq_true'] at hf
   exact hf c (List.mem_of_getElem? hj)
  cases c with
  | u x=>exact Zbp (by simpa [C.isSl] using h2) hr
  | _=>simp [C.u?] at h1
 | row z rows=>
  rcases h with ⟨h1,h2⟩|⟨L,cur,hL,hz,hm,hh,hs,hn,hcm,h0,hl,hc⟩
  ·exact .inl ⟨h1,by rw [hσ]; exact h2⟩
  ·refine .inr ⟨L,cur,by rw [hσ]; exact hL,hz,hM L _ hL L.has_g,hh,hs,hn,hcm,h0,hl,fun i j row x hi hj=>?_⟩
   obtain ⟨y,hy,hr⟩:=hc i j row x hi hj
   refine ⟨y,hy,Zbp ?_ hr⟩
   simp only[Obj.flat,List.all_eq_true] at hf
   exact hf row (List.mem_of_getElem? hi) x (List.mem_of_getElem? hj)
 | deep z rows=>
  rcases h with ⟨h1,h2⟩|⟨L,cur,hL,hz,hm,hh,hs,hn,hcm,h0,hl,hc,hk⟩
  ·exact .inl ⟨h1,by rw [hσ]; exact h2⟩
  ·exact .inr ⟨L,cur,by rw [hσ]; exact hL,hz,hM L _ hL L.has_g,hh,hs,hn,hcm,h0,hl,hc,⟨hk.nil,hk.at_,fun p K hp=>hM L _ hL (.inr ⟨p,K,hp,rfl⟩),hk.ne,hk.inj⟩⟩
theorem Zea {c:C} {f:Id→Option Id} (hq:c.isSl=false) (hf:∀ i j,f i=some j→(ob i).isSome=true→ob' j=ob i∧σ' j=σ i) {v:Value} (h:RepC w M σ ob c v):RepC w M' σ' ob' (C.ren f c) v:=by
  have h1:=h.one
  cases c with
  | u x=>exact Zbp (by simpa [C.isSl] using hq) h
  | own i m=>
    simp only[C.ren]
    split
    · rename_i j hj
      obtain ⟨z,rows,ho,hm,hv⟩:=h
      obtain ⟨e1,e2⟩:=hf i j hj (by rw [ho]; rfl)
      refine ⟨z,rows,by rw [e1]; exact ho,hm,?_⟩
      rw [e2]; exact hv
    · exact h1
  | ptr i p q=>
    simp only[C.ren]
    split
    · rename_i j hj
      obtain ⟨L,ho,hL,hv⟩:=h
      obtain ⟨e1,e2⟩:=hf i j hj ho
      exact ⟨L,by rw [e1]; exact ho,by rw [e2]; exact hL,hv⟩
    · exact h1
  | bad=>exact h1
  | down i m=>
    simp only[C.ren]
    split
    · rename_i j hj
      obtain ⟨z,rows,ho,hm,hv⟩:=h
      obtain ⟨e1,e2⟩:=hf i j hj (by rw [ho]; rfl)
      refine ⟨z,rows,by rw [e1]; exact ho,hm,?_⟩
      rw [e2]; exact hv
    · exact h1
  | sub i p q m=>
    simp only[C.ren]
    split
    · rename_i j hj
      obtain ⟨z,rows,L,ho,hL,hv⟩:=h
      obtain ⟨e1,e2⟩:=hf i j hj (by rw [ho]; rfl)
      exact ⟨z,rows,L,by rw [e1]; exact ho,by rw [e2]; exact hL,hv⟩
    · exact h1
theorem Zf1 {f:Id→Option Id} {x:T} (hq:∀ c,c∈x.cells→c.isSl=false) (hf:∀ i j,f i=some j→(ob i).isSome=true→ob' j=ob i∧σ' j=σ i) {v:Value} (h:RepT w M σ ob x v):RepT w M' σ' ob' (x.mapC (C.ren f)) v:=by
 cases x with
 | sc c=>exact Zea (hq c (by simp [T.cells])) hf h
 | ag cs=>
  obtain ⟨vs,rfl,hs,hc⟩:=h
  refine ⟨vs,rfl,by rw [List.length_map]; exact hs,fun j c hj=>?_⟩
  rw [List.getElem?_map] at hj
  obtain ⟨c0,hc0,rfl⟩:=Option.map_eq_some_iff.1 hj
  obtain ⟨x,hx,hr⟩:=hc j c0 hc0
  exact ⟨x,hx,Zea (hq c0 (List.mem_of_getElem? hc0)) hf hr⟩
theorem ZdA {ids:List Id} {id j:Id} (h:Zat ids id=some j):∃ k,j=.par k∧ids[k]?=some id:=by
 unfold Zat at h
 obtain ⟨k,hk,rfl⟩:=Option.map_eq_some_iff.1 h
 refine ⟨k,rfl,?_⟩
 rw [List.idxOf?,List.findIdx?_eq_some_iff_getElem] at hk
 obtain ⟨hlt,he,_⟩:=hk
 simp only[beq_iff_eq] at he
 simp [hlt,he]
def ZbF (P:Program) (n:Nat):List IRes→List ResultVar→Bool
 | [],[]=>true
 | .tmp t::is,.tmp t'::rs=>t==t'&&decide (t<n)&&ZbF P n is rs
 | .cell t m agg::is,.cell t' ty::rs=>t==t'&&decide (t<n)&&ZaU P ty m agg&&ZbF P n is rs
 | .tmpd t::is,.tmp t'::rs=>t==t'&&decide (t<n)&&ZbF P n is rs
 | .celld t m agg::is,.cell t' ty::rs=>t==t'&&decide (t<n)&&ZaU P ty m agg&&ZbF P n is rs
 | _,_=>false
theorem ZfL (h:Rel base σ0 X w0 σ M w a st) (hn:a.tmps.size=n):∀ (is:List IRes) (rs:List ResultVar) (xs:List T),ZbF P n is rs=true→is.mapM st.raw=some xs→
  ∃ vs:List Value,(rs.mapM (fun r=>match r with
   | .tmp t=>pure (a.tmps.getD t undef)
   | .cell q t=>do loadVar t (←asAddr (a.tmps.getD q undef)):ResultVar→Sem Value)).run P w=.ok vs w∧vs.length=xs.length∧∀ (j:Nat) x,xs[j]?=some x→∃ y,vs[j]?=some y∧RepT w M σ st.o x y
 | [],[],xs,_,hx=>by
  simp at hx; subst hx
  exact ⟨[],rfl,rfl,fun j x hj=>by simp at hj⟩
 | i :: is,r::rs,xs,hok,hx=>by
  simp only[List.mapM_cons,Option.bind_eq_bind,Option.bind_eq_some_iff,Option.pure_def,Option.some.injEq] at hx
  obtain ⟨y,hy,ys,hys,rfl⟩:=hx
  have key:∃ v,((match r with
   | .tmp t=>pure (a.tmps.getD t undef)
   | .cell q t=>do loadVar t (←asAddr (a.tmps.getD q undef)):Sem Value)).run P w=.ok v w∧RepT w M σ st.o y v∧ZbF P n is rs=true:=by
   unfold ZbF at hok
   split at hok
   ·rename_i heq _; cases heq
   ·rename_i t is' t' rs' heq1 heq2
    cases heq1; cases heq2
    simp only[Bool.and_eq_true,beq_iff_eq,decide_eq_true_eq] at hok
    obtain ⟨⟨rfl,ht⟩,hrest⟩:=hok
    refine ⟨_,rfl,?_,hrest⟩
    have hr:=h.slot t (by omega)
    rw [Zfl (show (st.s t).t?=some y from hy)] at hr
    exact hr
   ·rename_i t m agg is' t' ty rs' heq1 heq2
    cases heq1; cases heq2
    simp only[Bool.and_eq_true,beq_iff_eq,decide_eq_true_eq] at hok
    obtain ⟨⟨⟨rfl,ht⟩,hty⟩,hrest⟩:=hok
    have hr:=h.slot t (by omega)
    simp only[St.raw,St.rawCell] at hy
    split at hy
    ·rename_i id0 i p hm
     simp only[Option.bind_eq_some_iff] at hy
     obtain ⟨cs,hcs,hy⟩:=hy
     rw [hm] at hr
     obtain ⟨L,h1,h2,hv⟩:=hr
     obtain ⟨h3,h4⟩:=ZdD h hcs h2
     obtain ⟨v,hrun,hrep⟩:=Zdt hty _ cs h3 h4 hy
     refine ⟨v,?_,hrep,hrest⟩
     simp only[Sem.run_bind,hv,asAddr,Sem.run_pure,Result.andThen_ok,hrun]
    ·cases hy
   ·rename_i t is' t' rs' heq1 heq2
    cases heq1; cases heq2
    simp only[Bool.and_eq_true,beq_iff_eq,decide_eq_true_eq] at hok
    obtain ⟨⟨rfl,ht⟩,hrest⟩:=hok
    refine ⟨_,rfl,?_,hrest⟩
    have hr:=h.slot t (by omega)
    rw [Zfl (show (st.s t).t?=some y from hy)] at hr
    exact hr
   ·rename_i t m agg is' t' ty rs' heq1 heq2
    cases heq1; cases heq2
    simp only[Bool.and_eq_true,beq_iff_eq,decide_eq_true_eq] at hok
    obtain ⟨⟨⟨rfl,ht⟩,hty⟩,hrest⟩:=hok
    have hr:=h.slot t (by omega)
    simp only[St.raw,St.rawCell] at hy
    split at hy
    ·rename_i id0 i p hm
     simp only[Option.bind_eq_some_iff] at hy
     obtain ⟨cs,hcs,hy⟩:=hy
     rw [hm] at hr
     obtain ⟨L,h1,h2,hv⟩:=hr
     obtain ⟨h3,h4⟩:=ZdD h hcs h2
     obtain ⟨v,hrun,hrep⟩:=Zdt hty _ cs h3 h4 hy
     refine ⟨v,?_,hrep,hrest⟩
     simp only[Sem.run_bind,hv,asAddr,Sem.run_pure,Result.andThen_ok,hrun]
    ·cases hy
   ·cases hok
  obtain ⟨v,hrun,hrep,hrest⟩:=key
  obtain ⟨vs,h1,h2,h3⟩:=ZfL h hn is rs ys hrest hys
  refine ⟨v::vs,?_,by simp [h2],fun j x hj=>?_⟩
  ·rw [List.mapM_cons,Sem.run_bind,hrun,Result.andThen_ok,Sem.run_bind,h1]
   rfl
  ·cases j with
   | zero=>simp at hj; subst hj; exact ⟨v,rfl,hrep⟩
   | succ j=>simp at hj; obtain ⟨y',h4,h5⟩:=h3 j x hj; exact ⟨y',by simpa using h4,h5⟩
 | [],_::_,xs,hok,_=>by simp [ZbF] at hok
 | _::_,[],xs,hok,_=>by simp [ZbF] at hok
theorem ZeZ (h:Rel base σ0 X w0 σ M w a st) (hn:a.tmps.size=n) {fn:Func} {is:List IRes} {xs:List T} (hok:ZbF P n is fn.results.toList=true) (hx:is.mapM st.raw=some xs) :
  ∃ vs:List Value,(results fn a.tmps).run P w=.ok (retV vs) w∧vs.length=xs.length∧∀ (j:Nat) x,xs[j]?=some x→∃ y,vs[j]?=some y∧RepT w M σ st.o x y:=by
 obtain ⟨vs,h1,h2,h3⟩:=ZfL (P:=P) h hn is _ xs hok hx
 refine ⟨vs,?_,h2,h3⟩
 unfold results
 rw [Sem.run_bind,Array.mapM_eq_mapM_toList,Sem.run_map]
 have:∀ f:ResultVar→Sem Value,(f=fun r=>match r with
   | .tmp t=>pure (a.tmps.getD t undef)
   | .cell q t=>do loadVar t (←asAddr (a.tmps.getD q undef)))→(fn.results.toList.mapM f).run P w=.ok vs w:=fun f hf=>by subst hf; exact h1
 rw [this _ (by funext r; cases r<;>rfl)]
 simp only[Result.andThen_ok,Sem.run_pure]
 congr 1
 match vs with
 | []=>rfl
 | [v]=>rfl
 | _::_::_=>simp [retV]
end Go.Proofs.YtfajcehhcjmofaaV
