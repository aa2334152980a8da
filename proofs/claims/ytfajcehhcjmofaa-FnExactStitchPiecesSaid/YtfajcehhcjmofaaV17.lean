/- A call's end. No conditions but those that the lemmas state. -/
import Derived.Test.YtfajcehhcjmofaaV16
namespace Go.Proofs.YtfajcehhcjmofaaV
open Go Go.RowKit
set_option linter.unusedVariables false
set_option linter.unusedSimpArgs false
variable {base:Nat} {σ0:Sig} {X:Nat→Prop} {w0 w w':World} {σ σ':Sig} {M M':Nat→Prop} {a:Act} {st st':St} {P:Program} {n:Nat} {o:Oper} {E:Zb}
theorem Zd9 {α:Type} {l:List α} (h:l.Nodup) {i j:Nat} {x:α} (hi:l[i]?=some x) (hj:l[j]?=some x):i=j:=by
 have h1:=(List.getElem?_eq_some_iff.1 hi).1
 exact (List.getElem?_inj h1 h).1 (hi.trans hj.symm)
theorem ZeM (h:Rel base σ0 X w0 σ M w a st) {M1:Nat→Prop} (hM:∀ b,M1 b→M b) {c c':C} {v:Value} (hid:∀ id,c.id?=some id→(st.o id).isSome=true→∀ L b,σ id=some L→L.has b→¬M1 b) (hl:st.lend c=some c') (hc:RepC w M σ st.o c v) {σ2:Sig} {o2:Id→Option Obj}:RepC w M1 σ2 o2 c' v:=by
 unfold St.lend at hl
 split at hl
 ·rename_i id0 m
  simp only[Option.map_eq_some_iff] at hl
  obtain ⟨r,hr,rfl⟩:=hl
  unfold St.rowsOf at hr
  simp only at hr
  split at hr
  ·rename_i z rows ho
   split at hr
   ·cases hr
    exact ZcD h hM hc ho (fun L hL=>hid id0 rfl (by rw [ho]; rfl) L _ hL L.has_g)
   ·cases hr
  ·cases hr
 ·cases hl
  exact RepU.keep (M:=M) ⟨Nat.le_refl _,fun _ _ _=>rfl,fun b _ h=>hM b h⟩ hc
 ·rename_i id0 m
  split at hl
  ·rename_i z rows ho
   split at hl
   ·cases hl
    exact ZdW h hc ho (fun L b hL hb=>hid id0 rfl (by rw [ho]; rfl) L b hL hb)
   ·cases hl
  ·cases hl
 ·rename_i id0 i q m
  split at hl
  ·rename_i z rows ho
   simp only[Option.map_eq_some_iff] at hl
   obtain ⟨x,hx,rfl⟩:=hl
   obtain ⟨L,hL,hO⟩:=ZfQ h hc ho hx
   exact ZbM hO (fun p K hp=>hid id0 rfl (by rw [ho]; rfl) L K.g hL (.inr ⟨_,K,hp,rfl⟩))
  ·cases hl
 ·cases hl
theorem ZcO (h:Rel base σ0 X w0 σ M w a st) {M1:Nat→Prop} (hM:∀ b,M1 b→M b) {x x':T} {v:Value} (hid:∀ id,id∈x.ids→(st.o id).isSome=true→∀ L b,σ id=some L→L.has b→¬M1 b) (hl:st.lendT x=some x') (hc:RepT w M σ st.o x v) {σ2:Sig} {o2:Id→Option Obj}:RepT w M1 σ2 o2 x' v:=by
 cases x with
 | sc c=>
  simp only[St.lendT,Option.map_eq_some_iff] at hl
  obtain ⟨c',hc',rfl⟩:=hl
  exact ZeM h hM (fun id hi=>hid id (by simp [T.ids,T.cells,hi])) hc' hc
 | ag cs=>
  simp only[St.lendT,Option.map_eq_some_iff] at hl
  obtain ⟨cs',hcs',rfl⟩:=hl
  obtain ⟨vs,rfl,hs,hg⟩:=hc
  obtain ⟨h1,h2⟩:=Zr hcs'
  refine ⟨vs,rfl,by rw [h1]; exact hs,fun j c' hj=>?_⟩
  have hlt:j<cs.length:=by rw [←h1]; exact (List.getElem?_eq_some_iff.1 hj).1
  have hcj:cs[j]?=some cs[j]:=by simp [hlt]
  obtain ⟨y,hy,hf⟩:=h2 j cs[j] hcj
  rw [hj] at hy; cases hy
  obtain ⟨u,hu,hr⟩:=hg j cs[j] hcj
  exact ⟨u,hu,ZeM h hM (fun id hi=>hid id (List.mem_filterMap.2 ⟨_,List.mem_of_getElem? hcj,hi⟩)) hf hr⟩
theorem ZgE {st:St}:∀ {rs:List IRes} {xs:List T},rs.mapM st.result=some xs→∃ ys,rs.mapM st.raw=some ys∧∀ (j:Nat) x,xs[j]?=some x→∃ r y,rs[j]?=some r∧ys[j]?=some y∧st.raw r=some y∧((r.isD=false∧x=y)∨(r.isD=true∧st.lendT y=some x))
 | [],xs,h=>by simp at h; subst h; exact ⟨[],rfl,fun j x hj=>by simp at hj⟩
 | r :: rs,xs,h=>by
  simp only[List.mapM_cons,Option.bind_eq_bind,Option.bind_eq_some_iff,Option.pure_def,Option.some.injEq] at h
  obtain ⟨x,hx,xs',hxs,rfl⟩:=h
  obtain ⟨ys,h1,h2⟩:=ZgE hxs
  have key:∃ y,st.raw r=some y∧((r.isD=false∧x=y)∨(r.isD=true∧st.lendT y=some x)):=by
   unfold St.result at hx
   cases hd:r.isD with
   | false=>rw [hd] at hx; exact ⟨x,hx,.inl ⟨rfl,rfl⟩⟩
   | true=>
    rw [hd,if_pos rfl] at hx
    obtain ⟨y,hy,hl⟩:=Option.bind_eq_some_iff.1 hx
    exact ⟨y,hy,.inr ⟨rfl,hl⟩⟩
  obtain ⟨y,hy,hk⟩:=key
  refine ⟨y::ys,by simp [List.mapM_cons,hy,h1],fun j z hj=>?_⟩
  cases j with
  | zero=>simp at hj; subst hj; exact ⟨r,y,rfl,rfl,hy,hk⟩
  | succ j=>simpa using h2 j z (by simpa using hj)
theorem Zfe (h:Rel w.heap.size σ0 X w σ M w' a st) (hn:a.tmps.size=n) {ifn:IFn} {fn:Func} {nout:Nat} {r:Ret} (hok:ZbF P n ifn.res fn.results.toList=true) (hdom:∀ j,nout≤j→σ0 (.par j)=none) (hf:Zcb ifn nout st=some r) :
  ∃ σn N M1 vs,(results fn a.tmps).run P w'=.ok (retV vs) w'∧Out w X σ0 nout r σn N M1 vs w':=by
 unfold Zcb at hf
 generalize htk:(ifn.tk&&nout != 0)=tk at hf
 simp only at hf
 simp only[Option.bind_eq_some_iff] at hf
 obtain ⟨xs,hxs,new,hnew,out,hout,hf⟩:=hf
 split at hf
 ·rename_i hc
  cases hf
  simp only[Bool.and_eq_true,Bool.or_eq_true (a:=tk),List.all_eq_true,decide_eq_true_eq] at hc
  obtain ⟨⟨⟨⟨⟨hloc,hnd⟩,_⟩,hnd2⟩,hod⟩,hlent,hle⟩:=hc
  obtain ⟨ys,hys,hxy⟩:=ZgE hxs
  generalize hids:xs.flatMap T.ids=ids at *
  obtain ⟨hnl,hng⟩:=Zr hnew
  obtain ⟨hol,hog⟩:=Zr hout
  have hol':out.length=if tk=true then 0 else nout:=by rw [hol]; simp
  have hol2:out.length=nout∨out=[]:=by
   cases tk
   ·exact .inl (by simpa using hol')
   ·exact .inr (List.eq_nil_of_length_eq_zero (by simpa using hol'))
  have hne:tk=true→out.length≠nout:=by
   intro e
   subst e
   simp only[Bool.and_eq_true,bne_iff_ne,ne_eq] at htk
   rw [hol',if_pos rfl]
   exact fun h=>htk.2 h.symm
  obtain ⟨vs,hrun,hvl,hvr⟩:=ZeZ (P:=P) h hn hok hys
  have hxl:xs.length=ys.length:=by rw [(Zr hxs).1,(Zr hys).1]
  let σn:Sig:=fun i=>match i with
   | .par j=>(ids[j]?).bind σ
   | .loc ..=>none
  have hσn:∀ (j:Nat) id,ids[j]?=some id→σn (.par j)=σ id:=fun j id hj=>by show (ids[j]?).bind σ=_; rw [hj]; rfl
  have hnget:∀ (j:Nat),j<new.length→∃ id x,ids[j]?=some id∧new[j]?=some x∧st.o id=some x:=by
   intro j hj
   have hj':j<ids.length:=by omega
   obtain ⟨y,h1,h2⟩:=hng j ids[j] (by simp [hj'])
   exact ⟨ids[j],y,by simp [hj'],h1,h2⟩
  have hoget:∀ (j:Nat),j<out.length→∃ x,out[j]?=some x∧st.o (.par j)=some x:=by
   intro j hj
   obtain ⟨y,h1,h2⟩:=hog j (.par j) (by rw [List.getElem?_map,List.getElem?_range (show j<(if tk=true then 0 else nout) by omega)]; rfl)
   exact ⟨y,h1,h2⟩
  let N:Nat→Prop:=fun b=>∃ j L,j<new.length∧σn (.par j)=some L∧L.has b
  let M1:Nat→Prop:=fun b=>X b∨N b∨∃ j L,j<out.length∧σ0 (.par j)=some L∧L.has b
  have hN:∀ b,N b→∃ id L,id∈ids∧(st.o id).isSome=true∧σ id=some L∧L.has b:=by
   rintro b ⟨j,L,hj,hL,hb⟩
   obtain ⟨id,x,h1,h2,h3⟩:=hnget j hj
   rw [hσn j id h1] at hL
   exact ⟨id,L,List.mem_of_getElem? h1,by rw [h3]; rfl,hL,hb⟩
  have hO:∀ j L b,j<out.length→σ0 (.par j)=some L→L.has b→M b:=by
   intro j L b hj hL hb
   obtain ⟨x,h1,h2⟩:=hoget j hj
   exact h.inMb (id:=.par j) (by rw [h2]; rfl) (by rw [h.par]; exact hL) hb
  have k:Zaa w' w' M M1:=by
   refine ⟨Nat.le_refl _,fun _ _ _=>rfl,fun b _ hb=>?_⟩
   rcases hb with hX|hNb|⟨j,L,hj,hL,hb⟩
   ·exact (h.sup b hX).1
   ·obtain ⟨id,L,_,h1,h2,hb⟩:=hN b hNb
    exact h.inMb h1 h2 hb
   ·exact hO j L b hj hL hb
  refine ⟨σn,N,M1,vs,hrun,fun b=>Iff.rfl,fun b=>Iff.rfl,fun b hb=>?_,fun j j' L L' b hj hj' hL hL' e e'=>?_,fun j x hj=>?_,fun j x hj=>?_,hol2,by simpa [hxl] using hvl,fun j x hj=>?_,h.os,h.tape,h.output,h.size,h.same,fun j x L hj hd hL=>?_⟩
  ·obtain ⟨id,L,hid,h1,h2,hLb⟩:=hN b hb
   refine ⟨?_,h.ltM (h.inMb h1 h2 hLb)⟩
   rcases (h.mine id L b h1 h2 hLb).2 with h3|⟨j,L0,h3,h4⟩
   ·exact .inl h3
   ·rcases hloc with e|hloc
    ·exact .inr ⟨hne e,j,L0,h3,h4⟩
    ·rcases hol2 with e|e
     ·have hj:j<out.length:=by
       rw [e]
       exact Nat.lt_of_not_le fun hle=>by rw [hdom j hle] at h3; cases h3
      obtain ⟨x,h5,h6⟩:=hoget j hj
      have:=h.inj id (.par j) L L0 b h1 (by rw [h6]; rfl) h2 (by rw [h.par]; exact h3) hLb h4
      subst this
      have:=hloc _ hid
      cases this
     ·cases tk
      ·have e0:nout=0:=by rw [e] at hol'; simpa using hol'.symm
       rw [hdom j (by omega)] at h3; cases h3
      ·exact .inr ⟨hne rfl,j,L0,h3,h4⟩
  ·obtain ⟨id,x,h1,h2,h3⟩:=hnget j hj
   obtain ⟨id',x',h1',h2',h3'⟩:=hnget j' hj'
   rw [hσn j id h1] at hL
   rw [hσn j' id' h1'] at hL'
   have:=h.inj id id' L L' b (by rw [h3]; rfl) (by rw [h3']; rfl) hL hL' e e'
   subst this
   exact Zd9 hnd h1 h1'
  ·have hlt:j<new.length:=(List.getElem?_eq_some_iff.1 hj).1
   obtain ⟨id,x',h1,h2,h3⟩:=hnget j hlt
   have:x'=x:=by
    have h2':new[j]?=some x:=hj
    rw [h2] at h2'; cases h2'; rfl
   subst this
   have hd:=hnd2 x' (List.mem_of_getElem? h2)
   refine ⟨hd,ZaV hd k (hσn j id h1) (fun L b hL hb=>.inr (.inl ⟨j,L,hlt,by rw [hσn j id h1]; exact hL,hb⟩)) (h.obj id x' h3)⟩
  ·have hlt:j<out.length:=(List.getElem?_eq_some_iff.1 hj).1
   obtain ⟨x',h1,h2⟩:=hoget j hlt
   have:x'=x:=by
    have h2':out[j]?=some x:=hj
    rw [h1] at h2'; cases h2'; rfl
   subst this
   have hd:=hod x' (List.mem_of_getElem? h1)
   refine ⟨hd,ZaV hd k (h.par j).symm (fun L b hL hb=>.inr (.inr ⟨j,L,hlt,by rw [←h.par]; exact hL,hb⟩)) (h.obj _ x' h2)⟩
  ·rw [List.getElem?_map] at hj
   obtain ⟨x0,hx0,rfl⟩:=Option.map_eq_some_iff.1 hj
   obtain ⟨rr,y0,hrr,hy0,hraw,hcase⟩:=hxy j x0 hx0
   obtain ⟨y,hy,hr⟩:=hvr j y0 hy0
   refine ⟨y,hy,?_⟩
   rcases hcase with ⟨_,rfl⟩|⟨hd,hl⟩
   ·refine ZcC k (fun i q hi hs=>?_) hr
    obtain ⟨m,rfl,hm⟩:=ZdA hi
    have hml:m<new.length:=by rw [hnl]; exact (List.getElem?_eq_some_iff.1 hm).1
    obtain ⟨id,x',h1,h2,h3⟩:=hnget m hml
    rw [hm] at h1; cases h1
    exact ⟨by show new[m]?=_; rw [h2,h3],hσn m i hm⟩
   ·have hin:∀ id,id∈y0.ids→id∈ifn.res.flatMap st.lent:=fun id hid=>List.mem_flatMap.2 ⟨rr,List.mem_of_getElem? hrr,by simp only[St.lent,hd,if_true,hraw]; exact hid⟩
    have hM1:∀ id,id∈y0.ids→(st.o id).isSome=true→∀ L b,σ id=some L→L.has b→¬M1 b:=by
     intro id hid hsome L b hL hb hm
     have hids:ids=[]:=by
      simp only[Bool.or_eq_true,List.isEmpty_iff] at hle
      rcases hle with he|he
      ·have:=hin id hid; rw [he] at this; cases this
      ·exact he
     rcases hm with hX|hNb|⟨j',L',hj',hL',e⟩
     ·exact (h.mine id L b hsome hL hb).1 hX
     ·obtain ⟨i',_,hi',_⟩:=hN b hNb
      rw [hids] at hi'; cases hi'
     ·obtain ⟨x',h1,h2⟩:=hoget j' hj'
      have:=h.inj id (.par j') L L' b hsome (by rw [h2]; rfl) hL (by rw [h.par]; exact hL') hb e
      subst this
      rcases hlent with e|hlent
      ·subst e; rw [hol',if_pos rfl] at hj'; omega
      ·cases hlent _ (hin _ hid)
    have hr2:=ZcO h (M1:=M1) (fun b hb=>k.less b (by
     rcases hb with hX|hNb|⟨j',L',hj',hL',e⟩
     ·exact (h.sup b hX).2
     ·obtain ⟨id,L,_,h1,h2,hLb⟩:=hN b hNb
      exact h.ltM (h.inMb h1 h2 hLb)
     ·exact h.ltM (hO j' L' b hj' hL' e)) hb) hM1 hl hr (σ2:=σ) (o2:=fun _=>none)
    exact ZcC (σ:=σ) (ob:=fun _=>none) ⟨Nat.le_refl _,fun _ _ _=>rfl,fun _ _ h=>h⟩ (fun i q hi hs=>by cases hs) hr2
  ·have hlt:j<new.length:=(List.getElem?_eq_some_iff.1 hj).1
   obtain ⟨id,x',h1,h2,h3⟩:=hnget j hlt
   have:x'=x:=by
    have h2':new[j]?=some x:=hj
    rw [h2] at h2'; cases h2'; rfl
   subst this
   exact h.lone id x' L h3 hd (by rw [←hσn j id h1]; exact hL)
 ·cases hf
end Go.Proofs.YtfajcehhcjmofaaV
