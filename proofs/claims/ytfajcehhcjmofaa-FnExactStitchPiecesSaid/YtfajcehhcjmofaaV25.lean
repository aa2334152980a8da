/- Effects are what the program does. No conditions but those that the lemmas state. -/
import Derived.Test.YtfajcehhcjmofaaV24
namespace Go.Proofs.YtfajcehhcjmofaaV
open Go Go.RowKit
set_option linter.unusedVariables false
set_option linter.unusedSimpArgs false
variable {base:Nat} {σ0:Sig} {X:Nat→Prop} {w0 w w':World} {σ σ':Sig} {M M':Nat→Prop} {a:Act} {st st2 st':St} {P:Program} {n:Nat} {o:Oper} {E:Zb}
theorem Rel.congr (h:Rel base σ0 X w0 σ M w a st) (hs:∀ t,t<a.tmps.size→st2.s t=st.s t) (ho:∀ i,st2.o i=st.o i):Rel base σ0 X w0 σ M w a st2:=by
 have e:st2.o=st.o:=funext ho
 refine ⟨fun t ht=>?_,?_,?_,?_,?_,h.par,h.sup,h.os,h.tape,h.output,h.size,h.same,by rw [e]; exact h.lone⟩
 ·rw [hs t ht,e]; exact h.slot t ht
 ·rw [e]; exact h.obj
 ·rw [e]; exact h.inj
 ·rw [e]; exact h.live
 ·rw [e]; exact h.mine
/-- Cooling what is not there changes nothing that counts. -/
theorem Zd4 {ob:Id→Option Obj} {id:Id} (hid:ob id=none) {c:C} {v:Value} (h:RepC w M σ ob c v):C.kill id c=c:=by
 cases c with
 | own i m=>
  obtain ⟨z,rows,ho,_⟩:=h
  have:i≠id:=fun e=>by rw [e,hid] at ho; cases ho
  simp [C.kill,this]
 | ptr i p q=>
  obtain ⟨L,ho,_⟩:=h
  have:i≠id:=fun e=>by rw [e,hid] at ho; cases ho
  simp [C.kill,this]
 | down i m=>
  obtain ⟨z,rows,ho,_⟩:=h
  have:i≠id:=fun e=>by rw [e,hid] at ho; cases ho
  simp [C.kill,this]
 | sub i p q m=>
  obtain ⟨z,rows,L,ho,_⟩:=h
  have:i≠id:=fun e=>by rw [e,hid] at ho; cases ho
  simp [C.kill,this]
 | _=>rfl
theorem ZeQ {ob:Id→Option Obj} {id:Id} (hid:ob id=none) {cs:List C} {vs:Array Value} (h:Zal w M σ ob cs vs):cs.map (C.kill id)=cs:=by
 apply List.ext_getElem?
 intro j
 rw [List.getElem?_map]
 cases hj:cs[j]? with
 | none=>rfl
 | some c=>
  obtain ⟨v,_,hr⟩:=h.2 j c hj
  simp [Zd4 hid hr]
theorem Zd8 {ob:Id→Option Obj} {id:Id} (hid:ob id=none) {x:T} {v:Value} (h:RepT w M σ ob x v):x.mapC (C.kill id)=x:=by
 cases x with
 | sc c=>simp only[T.mapC]; rw [Zd4 hid h]
 | ag cs=>
  obtain ⟨vs,rfl,hs,hc⟩:=h
  simp only[T.mapC]
  rw [ZeQ hid ⟨hs,hc⟩]
theorem Zf0 {ob:Id→Option Obj} {id:Id} (hid:ob id=none) {x:D} {v:Value} (h:RepD w M σ ob x v):x.mapC (C.kill id)=x:=by
 cases x with
 | t x=>simp only[D.mapC]; rw [Zd8 hid h]
 | tup xs=>
  obtain ⟨vs,rfl,hs,hc⟩:=h
  simp only[D.mapC]
  congr 1
  apply List.ext_getElem?
  intro j
  rw [List.getElem?_map]
  cases hj:xs[j]? with
  | none=>rfl
  | some c=>
   obtain ⟨v,_,hr⟩:=hc j c hj
   simp [Zd8 hid hr]
 | _=>rfl
def Same (n:Nat) (st st2:St):Prop:=(∀ t,t<n→st2.s t=st.s t)∧∀ i,st2.o i=st.o i
theorem Same.refl (n:Nat) (st:St):Same n st st:=⟨fun _ _=>rfl,fun _=>rfl⟩
theorem Same.trans {st st2 st3:St} (h:Same n st st2) (k:Same n st2 st3):Same n st st3:=⟨fun t ht=>(k.1 t ht).trans (h.1 t ht),fun i=>(k.2 i).trans (h.2 i)⟩
theorem Same.symm {st st2:St} (h:Same n st st2):Same n st2 st:=⟨fun t ht=>(h.1 t ht).symm,fun i=>(h.2 i).symm⟩
theorem Same.put {st st2:St} (h:Same n st st2) (d:Nat) (x:D):Same n (st.put d x) (st2.put d x):=⟨fun t ht=>by simp only[St.put]; split; rfl; exact h.1 t ht,h.2⟩
theorem Same.obj {st st2:St} (h:Same n st st2) (id:Id) (x:Option Obj):Same n (st.obj id x) (st2.obj id x):=⟨h.1,fun i=>by simp only[St.obj]; split; rfl; exact h.2 i⟩
theorem Same.get {st st2:St} (h:Same n st st2) {x:Arg} {y:Operand} (hx:Ze n x y=true):st2.get x=st.get x:=by
 unfold Ze at hx
 split at hx
 ·simp only[Bool.and_eq_true,beq_iff_eq,decide_eq_true_eq] at hx
  exact h.1 _ hx.2
 ·rfl
 ·rfl
 ·cases hx
/-- Nothing refers to an object that is not there. -/
structure NoRef (n:Nat) (st:St) (id:Id):Prop where
 none:st.o id=none
 slot:∀ t,t<n→(st.s t).mapC (C.kill id)=st.s t
 obj:∀ i x,st.o i=some x→x.mapC (C.kill id)=x
theorem Rel.noRef (h:Rel base σ0 X w0 σ M w a st) (hn:a.tmps.size=n) {id:Id} (hid:st.o id=none):NoRef n st id:=by
 refine ⟨hid,fun t ht=>Zf0 hid (h.slot t (by omega)),fun i x hx=>?_⟩
 cases x with
 | box cs=>
  obtain ⟨L,cur,_,_,_,hs,hcc⟩:=h.obj i _ hx
  simp only[Obj.mapC]
  rw [ZeQ hid ⟨hs,hcc⟩]
 | row z rows=>rfl
 | deep z rows=>rfl
theorem NoRef.cool {id:Id} (h:NoRef n st id):Same n st (st.cool id):=by
 have hc:st.coolC id=C.kill id:=by simp only[St.coolC,h.none]
 unfold St.cool
 rw [hc]
 refine ⟨fun t ht=>h.slot t ht,fun i=>?_⟩
 simp only[St.mapC,St.obj]
 by_cases e:i=id
 ·subst e; rw [if_pos rfl,h.none]; rfl
 ·rw [if_neg e]
  cases hi:st.o i with
  | none=>rfl
  | some x=>rw [Option.map_some,h.obj i x hi]
theorem NoRef.same {st st2:St} {id:Id} (h:NoRef n st id) (hs:Same n st st2):NoRef n st2 id:=⟨(hs.2 id).trans h.none,fun t ht=>by rw [hs.1 t ht]; exact h.slot t ht,fun i x hx=>h.obj i x (by rw [←hs.2 i]; exact hx)⟩
theorem ZfW {x:Obj} (hx:x.data=true) (id:Id):x.mapC (C.kill id)=x:=by
 cases x with
 | row=>rfl
 | deep=>rfl
 | box cs=>
  simp only[Obj.data,List.all_eq_true] at hx
  simp only[Obj.mapC]
  congr 1
  apply List.ext_getElem?
  intro j
  rw [List.getElem?_map]
  cases hj:cs[j]? with
  | none=>rfl
  | some c=>
   have:=hx c (List.mem_of_getElem? hj)
   cases c with
   | u u=>rfl
   | _=>simp [C.u?] at this
theorem NoRef.objs {id i:Id} {x:Obj} (h:NoRef n st id) (hi:i≠id) (hx:x.data=true):NoRef n (st.obj i (some x)) id:=by
 refine ⟨by simp only[St.obj]; rw [if_neg (fun e=>hi e.symm)]; exact h.none,h.slot,fun k y hy=>?_⟩
 simp only[St.obj] at hy
 split at hy
 ·cases hy; exact ZfW hx id
 ·exact h.obj k y hy
theorem Zbu:∀ (ids:List Id) {st:St},(∀ id,id∈ids→NoRef n st id)→Same n st (st.coolAll ids)
 | [],st,_=>Same.refl n st
 | id::ids,st,hd=>by
  have h1:=(hd id (List.mem_cons_self ..)).cool
  exact h1.trans (Zbu ids (fun i hi=>(hd i (List.mem_cons_of_mem _ hi)).same h1))
theorem ZcL {d k:Nat} (h:st.dead d k=true):∀ j,j<k→st.o (.loc d j)=none:=by
 intro j hj
 simp only[St.dead,List.all_eq_true,List.mem_range] at h
 have:=h j hj
 cases hq:st.o (.loc d j) with
 | none=>rfl
 | some x=>rw [hq] at this; cases this
theorem Zas (h:Rel base σ0 X w0 σ M w a st) (hn:a.tmps.size=n) {d:Nat} (hd:st.dead d 1=true):Same n st (st.cool (.loc d 0)):=(h.noRef hn (ZcL hd 0 (by omega))).cool
theorem Rel.sameN (h:Rel base σ0 X w0 σ M w a st) (hn:a.tmps.size=n) (hs:Same n st st2):Rel base σ0 X w0 σ M w a st2:=h.congr (fun t ht=>hs.1 t (by omega)) hs.2
theorem ZbN (d:Nat):∀ (xs:List Obj) (j:Nat) (st:St),ZaP d j xs st=st.objs (Zw d j xs)
 | [],_,_=>rfl
 | x::xs,j,st=>ZbN d xs (j+1) (st.obj (.loc d j) (some x))
theorem Same.objs {st st2:St}:∀ (l:List (Id×Obj)) {st st2:St},Same n st st2→Same n (st.objs l) (st2.objs l)
 | [],_,_,h=>h
 | (i,x)::l,_,_,h=>Same.objs (st:=st) (st2:=st2) l (h.obj i (some x))
theorem ZeT (st:St):∀ (l m:List (Id×Obj)),st.objs (l++m)=(st.objs l).objs m:=fun l m=>List.foldl_append
theorem Zc3:∀ (ids:List Id) (xs:List Obj) {st st':St},Zz ids xs st=some st'→st'=st.objs (ids.zip xs)
 | [],[],st,st',h=>by simp only[Zz,Option.some.injEq] at h; exact h.symm
 | id::ids,x::xs,st,st',h=>by
  simp only[Zz] at h
  split at h
  ·exact Zc3 ids xs h
  ·cases h
 | [],_::_,_,_,h=>by simp [Zz] at h
 | _::_,[],_,_,h=>by simp [Zz] at h
theorem Zdw {id:Id}:∀ (ids:List Id) (xs:List Obj) {st:St},NoRef n st id→(∀ i,i∈ids→i≠id)→xs.all Obj.data=true→NoRef n (st.objs (ids.zip xs)) id
 | [],xs,st,h,_,_=>by simpa [St.objs] using h
 | i::ids,[],st,h,_,_=>by simpa [St.objs] using h
 | i::ids,x::xs,st,h,hi,hx=>by
  simp only[List.all_cons,Bool.and_eq_true] at hx
  exact Zdw ids xs (h.objs (hi i (List.mem_cons_self ..)) hx.1) (fun k hk=>hi k (List.mem_cons_of_mem _ hk)) hx.2
theorem Zf2 {id:Id} {i p:Nat} {cs:List C} {s:St} (h:st.write id i p cs=some s):∃ ob,s=st.obj id (some ob):=by
 unfold St.write at h
 split at h
 ·split at h
  ·simp only[Option.map_eq_some_iff] at h
   obtain ⟨c,_,rfl⟩:=h
   exact ⟨_,rfl⟩
  ·cases h
 ·simp only[Option.bind_eq_some_iff,Option.map_eq_some_iff] at h
  obtain ⟨us,_,row,_,c,_,rfl⟩:=h
  exact ⟨_,rfl⟩
 ·simp only[Option.bind_eq_some_iff] at h
  obtain ⟨us,_,row,_,old,_,h⟩:=h
  split at h
  ·simp only[Option.map_eq_some_iff] at h
   obtain ⟨c,_,rfl⟩:=h
   exact ⟨_,rfl⟩
  ·cases h
 ·cases h
theorem ZeB {op:IOp} {e:Fx} (hF:op.isF=true) (h:fxF E st op=some e):∃ s,step E st op=some s∧Same n s (e.app st):=by
 simp only[fxF,Option.bind_eq_some_iff,Option.map_eq_some_iff] at h
 obtain ⟨s,hs,d,hd,rfl⟩:=h
 obtain ⟨h1,_⟩:=Zej hF hd ⟨fun _ _=>rfl,fun _ _=>rfl⟩ s hs
 refine ⟨s,hs,?_⟩
 simp only[Fx.app,St.objs,List.foldl_nil,St.putO]
 rw [←h1]
 exact Same.refl n s
theorem Zbj {st st2:St} {m:Nat} (hs:Same n st st2):∀ (ps:List (Nat×Arg)) (os:List (Nat×Operand)) (rows:List (List U)),Zar n ps os=true→st2.fillRows m rows ps=st.fillRows m rows ps∧st2.partIds ps=st.partIds ps
 | [],[],_,_=>⟨rfl,rfl⟩
 | (i,x)::ps,(j,y)::os,rows,h=>by
  simp only[Zar,Bool.and_eq_true] at h
  have hg:=hs.get h.1.2
  refine ⟨?_,?_⟩
  ·simp only[St.fillRows,hg]
   congr 1; funext t; congr 1; funext us
   split
   ·exact (Zbj hs ps os _ h.2).1
   ·rfl
  ·have:=(Zbj (m:=m) hs ps os rows h.2).2
   simp only[St.partIds,List.flatMap_cons] at this ⊢
   rw [hg,this]
 | [],_::_,_,h=>by simp [Zar] at h
 | _::_,[],_,h=>by simp [Zar] at h
theorem Zfy (h:Rel base σ0 X w0 σ M w a st) (hn:a.tmps.size=n) {op:IOp} {e:Fx} (hok:okOp P n o op=true) (hf:fx E st op=some e):∃ s,step E st op=some s∧Same n s (e.app st):=by
 cases op
 case alloc d zero=>
  simp only[fx] at hf
  split at hf
  ·rename_i h1
   cases hf
   exact ⟨_,rfl,(((Zas h hn h1).obj _ _).put d _).symm⟩
  ·cases hf
 case nilr d sz=>
  simp only[fx] at hf
  split at hf
  ·rename_i h1
   cases hf
   exact ⟨_,rfl,(((Zas h hn h1).obj _ _).put d _).symm⟩
  ·cases hf
 case box d x=>
  simp only[fx] at hf
  split at hf
  ·rename_i h1
   simp only[Option.bind_eq_some_iff] at hf
   obtain ⟨t,ht,hf⟩:=hf
   split at hf
   ·cases hf
    simp only[okOp,Bool.and_eq_true] at hok
    have hg:(st.cool (.loc d 0)).get x=st.get x:=by
     have:=hok.2
     split at this
     ·exact (Zas h hn h1).get this
     ·cases this
    refine ⟨((st.cool (.loc d 0)).make d (.box t.cells) (.ptr (.loc d 0) 0 0)),by simp only[step,hg,ht,Option.map_some],(((Zas h hn h1).obj _ _).put d _).symm⟩
   ·cases hf
  ·cases hf
 case lit d m zero ps=>
  simp only[fx] at hf
  split at hf
  ·rename_i h1
   simp only[Option.map_eq_some_iff] at hf
   obtain ⟨r,hr,rfl⟩:=hf
   simp only[okOp,Bool.and_eq_true] at hok
   have hro:∃ os,Zar n ps os=true:=by
    have:=hok.2
    split at this
    ·simp only[Bool.and_eq_true] at this
     exact ⟨_,this.2⟩
    ·cases this
   obtain ⟨os,hro⟩:=hro
   have hf2:=Zbj (m:=zero.length) (Zas h hn h1.1) ps os (List.replicate m zero) hro
   refine ⟨(st.cool (.loc d 0)).make d (.row zero.length r) (.own (.loc d 0) m),by simp only[step,hf2.2,h1.2,St.coolAll,List.foldl_nil,hf2.1,hr,Option.map_some],(((Zas h hn h1.1).obj _ _).put d _).symm⟩
  ·cases hf
 case mk d m c zero bytes=>
  simp only[fx] at hf
  split at hf
  ·rename_i h1
   simp only[Option.bind_eq_some_iff] at hf
   obtain ⟨m',hm,k,hk,hf⟩:=hf
   split at hf
   ·rename_i h2
    cases hf
    exact ⟨_,by simp only[step,hm,hk,Option.bind_some]; rw [if_pos h2]; rfl,(((Zas h hn h1).obj _ _).put d _).symm⟩
   ·cases hf
  ·cases hf
 case app d sz x y bytes=>
  simp only[fx] at hf
  split at hf
  ·rename_i h1
   simp only[Option.bind_eq_some_iff] at hf
   obtain ⟨ys,hys,hf⟩:=hf
   split at hf
   ·rename_i h2
    cases hf
    have hb:(st.get x).base?=some (.u .nil):=by
     have:=h1.1
     unfold D.isNil at this
     split at this
     ·rename_i hm; rw [hm]; rfl
     ·rename_i hm; rw [hm]; rfl
     ·cases this
    exact ⟨_,by simp only[step,hb,hys,Option.bind_some,h2.1,if_true]; rw [if_pos h2.2]; rfl,(((Zas h hn h1.2).obj _ _).put d _).symm⟩
   ·cases hf
  ·cases hf
 case callv=>cases hf
 case cl=>cases hf
 case stc=>cases hf
 case slp=>cases hf
 case mkd=>cases hf
 case litd=>cases hf
 case appd=>cases hf
 case std=>cases hf
 case callk=>cases hf
 case mkf=>cases hf
 case callc=>cases hf
 case slc d sz x lo hi=>
  simp only[fx] at hf
  split at hf
  ·simp only[fxF,Option.bind_eq_some_iff,Option.map_eq_some_iff] at hf
   obtain ⟨s,hs,d',hd,rfl⟩:=hf
   rename_i h1
   obtain ⟨u,hu⟩:=Option.isSome_iff_exists.1 h1
   have hcx:(st.get x).c?=some (.u u):=by rw [Zer hu]; rfl
   refine ⟨s,hs,?_⟩
   simp only[IOp.dst,Option.some.injEq] at hd
   subst hd
   simp only[step,hcx,Option.bind_some] at hs
   split at hs
   ·rename_i hc1
    cases hc1
    split at hs
    ·simp only[Option.map_eq_some_iff] at hs
     obtain ⟨p,_,rfl⟩:=hs
     simp only[Fx.app,St.objs,List.foldl_nil,St.putO,Zc]
     exact Same.refl n _
    ·cases hs
   ·rename_i hc1; cases hc1
   ·cases hs
  ·cases hf
 case st m x v=>
  simp only[fx] at hf
  split at hf
  ·rename_i id i p h1
   simp only[Option.bind_eq_some_iff] at hf
   obtain ⟨t,ht,hf⟩:=hf
   split at hf
   ·rename_i h2
    simp only[Option.bind_eq_some_iff,Option.map_eq_some_iff] at hf
    obtain ⟨s,hs,ob,hob,rfl⟩:=hf
    obtain ⟨ob',he⟩:=Zf2 hs
    have:ob'=ob:=by rw [he] at hob; simpa [St.obj] using hob
    subst this
    refine ⟨s,?_,by rw [he]; exact Same.refl n _⟩
    simp only[step,h1,ht,Option.bind_some]
    split
    ·rename_i hr
     have h0:t.ids=[]:=h2.2.resolve_right (by simp [hr])
     simp only[h0,St.coolAll,List.foldl_nil,ht,Option.bind_some,h2.1,if_true]
     exact hs
    ·simp only[h2.1,if_true]
     exact hs
   ·cases hf
  ·cases hf
 case call d f xs=>
  simp only[fx,Option.bind_eq_some_iff] at hf
  obtain ⟨vs,hvs,args,hargs,r,hr,hf⟩:=hf
  split at hf
  ·rename_i h1
   cases hf
   have hids:(if r.quiet then [] else vs.flatMap T.ids)=[]:=by
    rcases h1.2.1 with h|h
    ·rw [h]; rfl
    ·rw [h]; split<;>rfl
   have hdead:∀ id,id∈(List.range r.new.length).map (Id.loc d ·)→NoRef n st id:=by
    intro id hid
    obtain ⟨j,hj,rfl⟩:=List.mem_map.1 hid
    exact h.noRef hn (ZcL h1.2.2 j (List.mem_range.1 hj))
   refine ⟨(st.coolAll ((List.range r.new.length).map (.loc d ·))).ofRet d r,?_,?_⟩
   ·simp only[step,hvs,hargs,hr,Option.bind_some,h1.1,List.isEmpty_nil,if_true,hids,St.coolAll,List.foldl_nil]
   ·simp only[St.ofRet,ZbN,Fx.app,St.putO]
    exact ((Same.objs (st:=st) (st2:=st) _ (Zbu _ hdead)).put d _).symm
  ·cases hf
 case callr d f xs=>
  simp only[fx,Option.bind_eq_some_iff] at hf
  obtain ⟨vs,hvs,ins,hins,hf⟩:=hf
  split at hf
  ·rename_i h1
   simp only[Option.bind_eq_some_iff] at hf
   obtain ⟨r,hr,hf⟩:=hf
   split at hf
   ·rename_i h2
    cases hf
    obtain ⟨s1,hs1⟩:=Option.isSome_iff_exists.1 h2.1
    have he:=Zc3 _ _ hs1
    have hlive:∀ id,id∈(vs.flatMap T.ids).eraseDups→(st.o id).isSome=true:=by
     intro id hid
     have:∀ (l:List Id) (ys:List Obj),l.mapM st.o=some ys→∀ id,id∈l→(st.o id).isSome=true:=by
      intro l
      induction l with
      | nil=>intro _ _ id h; cases h
      | cons i l ih=>
       intro ys hy id hid
       simp only[List.mapM_cons,Option.bind_eq_bind,Option.bind_eq_some_iff,Option.pure_def,Option.some.injEq] at hy
       obtain ⟨y,hy1,ys',hy2,_⟩:=hy
       rcases List.mem_cons.1 hid with rfl|hm
       ·rw [hy1]; rfl
       ·exact ih ys' hy2 id hm
     exact this _ _ hins id hid
    have hdead:∀ id,id∈(List.range r.new.length).map (Id.loc d ·)→NoRef n s1 id:=by
     intro id hid
     obtain ⟨j,hj,rfl⟩:=List.mem_map.1 hid
     have hno:=ZcL h2.2.1 j (List.mem_range.1 hj)
     rw [he]
     exact Zdw _ _ (h.noRef hn hno) (fun i hi e=>by have:=hlive i hi; rw [e,hno] at this; cases this) h2.2.2
    refine ⟨(s1.coolAll ((List.range r.new.length).map (.loc d ·))).ofRet d r,?_,?_⟩
    ·simp only[step,hvs,hins,Option.bind_some,h1,if_true,hr,hs1,Option.map_some]
    ·simp only[St.ofRet,ZbN,Fx.app,St.putO,ZeT]
     rw [←he]
     exact ((Same.objs (st:=st) (st2:=st) _ (Zbu _ hdead)).put d _).symm
   ·cases hf
  ·cases hf
 case mv d a=>
  simp only[fx] at hf
  split at hf
  ·cases hf
   exact ⟨st.put d (st.get a),rfl,Same.refl n _⟩
  ·exact ZeB rfl hf
 all_goals exact ZeB rfl hf
theorem Zgn (h:Rel base σ0 X w0 σ M w a st) (hn:a.tmps.size=n) {ops:Array Oper} {g:GOp} {e:Fx} (hok:ZcV P n ops o g=true) (hf:gfx E st g=some e):∃ s,Zaf E st g=some s∧Same n s (e.app st):=by
 simp only[ZcV,Bool.and_eq_true] at hok
 cases hg:g.g with
 | none=>
  simp only[gfx,hg] at hf
  simp only[Zaf,hg]
  exact Zfy h hn hok.1 hf
 | some p=>
  obtain ⟨t,b⟩:=p
  simp only[gfx,hg,Option.bind_eq_some_iff] at hf
  obtain ⟨x,hx,hf⟩:=hf
  simp only[Zaf,hg,hx,Option.bind_some]
  split at hf
  ·rename_i hb
   obtain ⟨s,h1,h2⟩:=Zfy h hn hok.1 hf
   exact ⟨s,by rw [if_pos hb]; exact h1,h2⟩
  ·rename_i hb
   cases hf
   exact ⟨_,by rw [if_neg hb]; rfl,Same.refl n _⟩
/-- What an effect says of an operation, the program does. -/
theorem Zgm (hE:Zad P E) {ops:Array Oper} (h:Rel base σ0 X w0 σ M w a st) (hn:a.tmps.size=n) {g:GOp} {e:Fx} (hok:ZcV P n ops o g=true) (hf:gfx E st g=some e) :
  (Region.wanted o (yielded ops a.tmps)=true∧Does base σ0 X w0 P o a w (e.app st))∨(Region.wanted o (yielded ops a.tmps)=false∧Rel base σ0 X w0 σ M w (a.put o.dst undef) (e.app st)):=by
 obtain ⟨s,hs,hS⟩:=Zgn h hn hok hf
 rcases Zdp hE h hn hok hs with ⟨h1,h2⟩|⟨h1,h2⟩
 ·exact .inl ⟨h1,fun next Q hnext=>h2 next Q (fun σ' M' w' v hR=>hnext σ' M' w' v (hR.sameN (by rw [Zaz]; exact hn) hS))⟩
 ·exact .inr ⟨h1,h2.sameN (by rw [Zaz]; exact hn) hS⟩
end Go.Proofs.YtfajcehhcjmofaaV
