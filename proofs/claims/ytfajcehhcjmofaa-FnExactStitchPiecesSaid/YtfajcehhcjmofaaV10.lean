/- Cuts, parts, structs. No conditions but those that the lemmas state. -/
import Derived.Test.YtfajcehhcjmofaaV9
namespace Go.Proofs.YtfajcehhcjmofaaV
open Go Go.RowKit
set_option linter.unusedVariables false
set_option linter.unusedSimpArgs false
variable {base:Nat} {σ0:Sig} {X:Nat→Prop} {w0 w:World} {σ:Sig} {M:Nat→Prop} {a:Act} {st st':St} {P:Program} {n:Nat} {o:Oper} {E:Zb}
variable {ob:Id→Option Obj}
/-- A slice's elements, one by one. -/
theorem Zh4 {z m cap:Nat} {rows:List (List U)} {A:Option Addr} (hr:RepU w M (.sl z rows) (.slice A m cap)) {l q:Nat} (hlq:l≤q) (hq:q≤m) :
  RepU w M (.sl z ((rows.take q).drop l)) (.slice (if cap=l then A else A.map (·.add (l*z))) (q - l) (cap - l)):=by
 generalize hv:Value.slice A m cap=v at hr
 cases hr with
 | sl0=>
  cases hv
  have:l=0:=by omega
  subst this
  have:q=0:=by omega
  subst this
  exact .sl0 _
 | sl _ _ B c V hle hb hrow hcell hrep=>
  cases hv
  have hlen:((rows.take q).drop l).length=q - l:=by rw [List.length_drop,List.length_take]; omega
  have hget:∀ i row,((rows.take q).drop l)[i]?=some row→rows[l+i]?=some row:=by
   intro i row hi
   rw [List.getElem?_drop,List.getElem?_take] at hi
   split at hi
   ·exact hi
   ·cases hi
  by_cases hc:cap=l
  ·rw [if_pos hc]
   have h0:(rows.take q).drop l=[]:=List.eq_nil_of_length_eq_zero (by omega)
   have:=RepU.sl (w:=w) (M:=M) z ((rows.take q).drop l) B (cap - l) V (by omega) (fun h=>absurd h0 h) (fun row hm=>by rw [h0] at hm; cases hm) (fun i j hi=>by rw [h0] at hi; simp at hi) (fun i j row x hi=>by rw [h0] at hi; simp at hi)
   rw [hlen] at this
   exact this
  ·rw [if_neg hc]
   have:=RepU.sl (w:=w) (M:=M) z ((rows.take q).drop l) (B.add (l*z)) (cap - l) (fun i j=>V (l+i) j) (by omega)
    (fun h h0=>by rw [Za6]; exact hb (fun e=>h (by rw [e]; simp)) h0)
    (fun row hm=>hrow row (List.mem_of_mem_take (List.mem_of_mem_drop hm)))
    (fun i j hi hj=>by rw [Addr.add_add,show l*z + (i*z+j)=(l+i)*z+j by rw [Nat.add_mul]; omega]; exact hcell (l+i) j (by omega) hj)
    (fun i j row x hi hj=>hrep (l+i) j row x (hget i row hi) hj)
   rw [hlen] at this
   exact this
theorem Zed {t e:TypeId} (he:P.underlying t=some (.slice e)) {sz:Nat} (hsz:Za3 P e sz=true) {A:Option Addr} {m cap:Nat} {lo hi:Option Value} {p:Nat×Nat}
  (hc:(Instr.sliceBounds true m cap lo hi none).run P w=.ok (p.1,p.2,cap) w):(Instr.sliceAt t (.slice A m cap) lo hi none).run P w=.ok (.slice (if cap=p.1 then A else A.map (·.add (p.1*sz))) (p.2 - p.1) (cap - p.1)) w:=by
 simp only[Instr.sliceAt,Instr.slice,Sem.run_bind,Sem.run_pure,run_underlying he,Result.andThen_ok,hc,Za4 hsz]
theorem ZhT (h:Rel base σ0 X w0 σ M w a st) (hn:a.tmps.size=n) {d sz:Nat} {x:Arg} {lo hi:Option Arg} (hok:okOp P n o (.slc d sz x lo hi)=true) (hs:step E st (.slc d sz x lo hi)=some st'):Goes base σ0 X w0 P o a w st':=by
 simp only[okOp,Bool.and_eq_true] at hok
 obtain ⟨hd,hok⟩:=hok
 simp only[step,Option.bind_eq_some_iff] at hs
 obtain ⟨c,hc,hs⟩:=hs
 split at hok
 ·rename_i t y lo' hi' ho
  simp only[Bool.and_eq_true] at hok
  obtain ⟨⟨⟨hx,hlo⟩,hhi⟩,ht⟩:=hok
  obtain ⟨e,he,hsz⟩:=Zo ht
  have hr:=Zeb h hn hx hc
  -- the cut of a slice that is data, in memory's view M2
  have key:∀ (M2:Nat→Prop) (rows:List (List U)) (m:Nat) (p:Nat×Nat),rows.length=m→RepU w M2 (.sl sz rows) (a.eval y)→ZaR st m lo hi=some p→∃ v,(execOp a.eval o).run P w=.ok (.value v) w∧RepU w M2 (.sl sz ((rows.take p.2).drop p.1)) v:=by
   intro M2 rows m p hl hr hp
   have:∃ A cap,a.eval y=.slice A m cap∧m≤cap:=by
    generalize a.eval y=v at hr
    cases hr with
    | sl0=>exact ⟨_,_,by rw [←hl]; rfl,by rw [←hl]; exact Nat.le_refl _⟩
    | sl _ _ B c V hle=>exact ⟨some B,c,by rw [hl],by rw [←hl]; exact hle⟩
   obtain ⟨A,cap,hv,hcap⟩:=this
   obtain ⟨hcut,h1,h2⟩:=Zei (P:=P) h hn hlo hhi hp hcap true
   rw [hv] at hr
   refine ⟨_,?_,Zh4 hr h1 h2⟩
   ·simp only[execOp,ho,hv,Option.map_none,Sem.run_bind,Zed he hsz hcut,Result.andThen_ok,Sem.run_pure]
  split at hs
  ·rename_i z rows
   split at hs
   ·rename_i hz
    subst hz
    simp only[Option.map_eq_some_iff] at hs
    obtain ⟨p,hp,rfl⟩:=hs
    obtain ⟨v,hrun,hrep⟩:=key M rows rows.length p rfl hr hp
    exact Goes.val h hn hd hrun hrep
   ·cases hs
  ·rename_i id0 m
   simp only[Option.bind_eq_some_iff] at hs
   obtain ⟨r,hro,hs⟩:=hs
   split at hs
   ·rename_i hz
    simp only[Option.map_eq_some_iff] at hs
    obtain ⟨p,hp,rfl⟩:=hs
    unfold St.rowsOf at hro
    simp only at hro
    split at hro
    ·rename_i z rows ho2
     split at hro
     ·rename_i hle
      cases hro
      simp only at hz
      subst hz
      have hu:=ZcD h (M2:=less st σ M id0) (fun b hb=>hb.1) hr ho2 (fun L hL hl=>hl.2 (by rw [ho2]; rfl) L hL L.has_g)
      obtain ⟨v,hrun,hrep⟩:=key _ (rows.take m) m p (by rw [List.length_take]; omega) hu hp
      exact Goes.val (h.cool id0) hn hd hrun hrep
     ·cases hro
    ·cases hro
   ·cases hs
  ·cases hs
 ·cases hok
theorem ZhU (h:Rel base σ0 X w0 σ M w a st) (hn:a.tmps.size=n) {d sz:Nat} {x hi:Arg} (hok:okOp P n o (.slp d sz x hi)=true) (hs:step E st (.slp d sz x hi)=some st'):Goes base σ0 X w0 P o a w st':=by
 simp only[okOp,Bool.and_eq_true] at hok
 obtain ⟨hd,hok⟩:=hok
 simp only[step,Option.bind_eq_some_iff] at hs
 obtain ⟨c,hc,hs⟩:=hs
 split at hok
 ·rename_i t y hi' ho
  simp only[Bool.and_eq_true] at hok
  obtain ⟨⟨hx,hhi⟩,ht⟩:=hok
  obtain ⟨e,he,hsz⟩:=Zo ht
  have hr:=Zeb h hn hx hc
  split at hs
  ·rename_i id m
   split at hs
   ·rename_i z r hid
    split at hs
    ·rename_i hz
     obtain ⟨rfl,hle⟩:=hz
     simp only[Option.map_eq_some_iff] at hs
     obtain ⟨p,hp,rfl⟩:=hs
     have hp1:p.1=0∧p.2≤m:=by
      unfold ZaR at hp
      simp only[Option.bind_eq_some_iff,Option.some.injEq] at hp
      obtain ⟨q,_,l,rfl,hp⟩:=hp
      split at hp
      ·cases hp; exact ⟨rfl,by simp only; omega⟩
      ·cases hp
     obtain ⟨z',rows',ho',hm,hv⟩:=hr
     rw [hid] at ho'; cases ho'
     have hO:=h.obj id _ hid
     obtain ⟨A,cap,hA,hcap,hnew⟩:∃ A cap,a.eval y=.slice A m cap∧m≤cap∧((p.2=0∧cap=0)∨∃ L,σ id=some L∧(if cap=0 then A else A.map (·.add (0*z)))=some ⟨L.g,0,none⟩∧cap=L.cap):=by
      rcases hv with ⟨h0,b0,hv⟩|⟨L,hL,hv⟩
      ·refine ⟨b0,0,by rw [hv,h0],by omega,.inl ⟨by omega,rfl⟩⟩
      ·refine ⟨_,L.cap,hv,?_,.inr ⟨L,hL,?_,rfl⟩⟩
       ·rcases hO with ⟨h1,h2⟩|⟨L',cur,hL',_,_,_,_,hn',_⟩
        ·rw [hL] at h2; cases h2
        ·rw [hL] at hL'; cases hL'; omega
       ·split
        ·rfl
        ·simp [Addr.add]
     have hcut:=(Zei (P:=P) h hn (lo:=none) (lo':=none) (hi:=some hi) (hi':=some hi') rfl hhi hp hcap true).1
     have hrun:=Zed (P:=P) (w:=w) he hsz (A:=A) hcut
     rw [hp1.1,Nat.sub_zero,Nat.sub_zero] at hrun
     have hR:Rel base σ0 X w0 σ M w a ((st.mapC (C.kill id)).obj id (some (.row z (r.take p.2)))):=by
      refine h.weakTo hid rfl ?_
      rcases hO with ⟨h1,h2⟩|⟨L,cur,hL,hz,hM,hh,hs,hn',hm',h0,hl,hc'⟩
      ·exact .inl ⟨by rw [h1]; simp,h2⟩
      ·refine .inr ⟨L,cur,hL,hz,hM,hh,hs,by rw [List.length_take]; omega,hm',h0,fun row hrow=>hl row (List.mem_of_mem_take hrow),fun i j row u hi hj=>?_⟩
       rw [List.getElem?_take] at hi
       split at hi
       ·exact hc' i j row u hi hj
       ·cases hi
     refine Goes.val (v:=.slice (if cap=0 then A else A.map (·.add (0*z))) p.2 cap) hR hn hd ?_ ?_
     ·simp only[execOp,ho,hA,Option.map_none,Option.map_some,Sem.run_bind]
      have:(Instr.sliceAt t (.slice A m cap) none (some (a.eval hi')) none).run P w=.ok (.slice (if cap=0 then A else A.map (·.add (0*z))) p.2 cap) w:=hrun
      rw [this]; rfl
     ·refine ⟨z,r.take p.2,by simp [St.obj],by rw [List.length_take]; omega,?_⟩
      rcases hnew with ⟨h1,h3⟩|⟨L,hL,h2,h3⟩
      ·exact .inl ⟨h1,A,by rw [h1,h3]; rfl⟩
      ·exact .inr ⟨L,hL,by rw [h2,h3]⟩
    ·cases hs
   ·cases hs
  ·cases hs
 ·cases hok
theorem ZgC {t:TypeId} {m:Nat} {agg:Bool} (ht:ZaU P t m agg=true) {off:Nat} {vs:Array Value} {cs ds:List C} (hsz:vs.size=cs.length) (hc:∀ (j:Nat) c,cs[j]?=some c→∃ v,vs[j]?=some v∧RepC w M σ ob c v) (hseg:seg cs off m=some ds) {x:T} (hx:Zl agg ds=some x) :
  ∃ v,(part t vs off).run P w=.ok v w∧RepT w M σ ob x v:=by
 obtain ⟨h1,h2⟩:=Zc7 (w:=w) ht
 obtain ⟨hle,hl,hget⟩:=Za0 hseg
 cases agg with
 | true=>
  simp only[Zl,if_true,Option.some.injEq] at hx
  subst hx
  refine ⟨.agg (vs.extract off (off+m)),by simp only[part,Sem.run_bind,h2,Result.andThen_ok,if_true,h1,Sem.run_pure],_,rfl,by simp; omega,fun j c hj=>?_⟩
  obtain ⟨hj1,hj2⟩:=hget j c hj
  obtain ⟨v,hv,hr⟩:=hc _ c hj2
  refine ⟨v,?_,hr⟩
  rw [Array.getElem?_extract,if_pos (by omega)]
  exact hv
 | false=>
  simp only[Zl,Bool.false_eq_true,if_false] at hx
  split at hx
  ·rename_i c
   cases hx
   obtain ⟨_,hj2⟩:=hget 0 c rfl
   obtain ⟨v,hv,hr⟩:=hc _ c hj2
   rw [Nat.add_zero] at hv
   exact ⟨v,by simp only[part,Sem.run_bind,h2,Result.andThen_ok,Bool.false_eq_true,if_false,hv,Sem.run_pure],hr⟩
  ·cases hx
theorem ZhL (h:Rel base σ0 X w0 σ M w a st) (hn:a.tmps.size=n) {d off m:Nat} {x:Arg} {agg:Bool} (hok:okOp P n o (.fld d x off m agg)=true) (hs:step E st (.fld d x off m agg)=some st'):Goes base σ0 X w0 P o a w st':=by
 simp only[okOp,Bool.and_eq_true] at hok
 obtain ⟨hd,hok⟩:=hok
 split at hok
 ·rename_i t y f ho
  simp only[Bool.and_eq_true] at hok
  obtain ⟨fs,fd,hu,hf,hp⟩:=Zcr hok.2
  simp only[Bool.and_eq_true,beq_iff_eq] at hp
  obtain ⟨rfl,hp⟩:=hp
  have hr:=Zf h hn hok.1
  simp only[step] at hs
  split at hs
  ·rename_i cs hm
   simp only[Option.bind_eq_some_iff,Option.map_eq_some_iff] at hs
   obtain ⟨ds,hds,q,hq,rfl⟩:=hs
   rw [hm] at hr
   obtain ⟨vs,hv,hsz,hc⟩:=hr
   obtain ⟨v,hrun,hrep⟩:=ZgC (P:=P) hp hsz hc hds hq
   refine Goes.val (v:=v) h hn hd ?_ hrep
   simp only[execOp,ho,hv,Instr.field,asAgg,Sem.run_bind,Sem.run_pure,run_underlying hu,Result.andThen_ok,hf,hrun]
  ·cases hs
 ·cases hok
/-! ### Building a struct -/
theorem ZdX (off:Nat):∀ (l:List Value) (k:Nat) (cells:Array Value),off+k+l.length≤cells.size→
  ((l.zipIdx k).foldl (fun (cs:Array Value) (p:Value×Nat)=>cs.setIfInBounds (off+p.2) p.1) cells).size=cells.size∧
  ∀ j,((l.zipIdx k).foldl (fun (cs:Array Value) (p:Value×Nat)=>cs.setIfInBounds (off+p.2) p.1) cells)[j]?=if off+k≤j∧j<off+k+l.length then l[j - (off+k)]? else cells[j]?
 | [],k,cells,_=>⟨rfl,fun j=>by simp; intro h1 h2; omega⟩
 | x :: l,k,cells,hle=>by
  simp only[List.zipIdx_cons,List.foldl_cons]
  obtain ⟨h1,h2⟩:=ZdX off l (k+1) (cells.setIfInBounds (off+k) x) (by simp at hle ⊢; omega)
  refine ⟨by rw [h1]; simp,fun j=>?_⟩
  rw [h2]
  simp only[List.length_cons] at hle ⊢
  by_cases hj:off+k≤j∧j<off+k + (l.length+1)
  ·rw [if_pos hj]
   by_cases hj2:j=off+k
   ·subst hj2
    rw [if_neg (by omega)]
    simp [Array.getElem?_setIfInBounds]
    omega
   ·rw [if_pos (by omega)]
    rw [show j - (off+k)=(j - (off + (k+1)))+1 by omega]
    simp
  ·rw [if_neg hj,if_neg (by omega),Array.getElem?_setIfInBounds,if_neg (by omega)]
theorem Zca (off:Nat) (v cells:Array Value) (hle:off+v.size≤cells.size) :
  (v.zipIdx.foldl (fun (cs:Array Value) (p:Value×Nat)=>cs.setIfInBounds (off+p.2) p.1) cells).size=cells.size∧
  ∀ j,(v.zipIdx.foldl (fun (cs:Array Value) (p:Value×Nat)=>cs.setIfInBounds (off+p.2) p.1) cells)[j]?=if off≤j∧j<off+v.size then v[j - off]? else cells[j]?:=by
 obtain ⟨h1,h2⟩:=ZdX off v.toList 0 cells (by simpa using hle)
 rw [←Array.foldl_toList,Array.toList_zipIdx]
 refine ⟨h1,fun j=>?_⟩
 rw [h2 j]
 simp
def Zal (w:World) (M:Nat→Prop) (σ:Sig) (ob:Id→Option Obj) (cs:List C) (vs:Array Value):Prop:=vs.size=cs.length∧∀ (j:Nat) c,cs[j]?=some c→∃ v,vs[j]?=some v∧RepC w M σ ob c v
theorem RepT.cells {x:T} {v:Value} (h:RepT w M σ ob x v):Zal w M σ ob x.cells v.cells:=by
 cases x with
 | sc c=>
  have h1:v.cells=#[v]:=by have:=RepC.one h; cases v<;>first|rfl|(simp [Value.oneCell'] at this)
  rw [h1]
  refine ⟨rfl,fun j c' hj=>?_⟩
  cases j with
  | zero=>simp only[T.cells,List.getElem?_cons_zero,Option.some.injEq] at hj; subst hj; exact ⟨v,rfl,h⟩
  | succ j=>simp [T.cells] at hj
 | ag cs=>
  obtain ⟨vs,rfl,hs,hc⟩:=h
  exact ⟨hs,hc⟩
theorem Zfd {cells cs xs:List C} {vcells vx:Array Value} {off:Nat} (h:Zal w M σ ob cells vcells) (hx:Zal w M σ ob xs vx) (hf:Zek cells off xs=some cs) :
  off+vx.size≤vcells.size∧Zal w M σ ob cs (vx.zipIdx.foldl (fun (cs:Array Value) (p:Value×Nat)=>cs.setIfInBounds (off+p.2) p.1) vcells):=by
 unfold Zek at hf
 split at hf
 ·rename_i hle
  cases hf
  have hle':off+vx.size≤vcells.size:=by rw [h.1,hx.1]; exact hle
  obtain ⟨h1,h2⟩:=Zca off vx vcells hle'
  refine ⟨hle',by rw [h1,h.1]; simp; omega,fun j c hj=>?_⟩
  rw [h2]
  by_cases h3:off≤j∧j<off+vx.size
  ·rw [if_pos h3]
   rw [List.append_assoc,List.getElem?_append_right (by simp; omega),List.getElem?_append_left (by simp; rw [←hx.1]; omega)] at hj
   have:j - (cells.take off).length=j - off:=by simp; omega
   rw [this] at hj
   exact hx.2 _ c hj
  ·rw [if_neg h3]
   refine h.2 j c ?_
   rw [←hj]
   by_cases h4:j<off
   ·rw [List.append_assoc,List.getElem?_append_left (by simp; omega),List.getElem?_take,if_pos h4]
   ·have hx1:=hx.1
    rw [List.getElem?_append_right (by simp; omega),List.getElem?_drop]
    congr 1
    simp
    omega
 ·cases hf
theorem ZeA (h:Rel base σ0 X w0 σ M w a st) (hn:a.tmps.size=n) {place:Nat→Option (Nat×Nat)}:∀ (parts:List (Nat×Nat×Arg)) (ps:List (Nat×Operand)) (cells cs:List C) (vcells:Array Value),ZbX n place parts ps=true→Zal w M σ st.o cells vcells→st.fill cells parts=some cs→
  ∃ vs,Instr.fill place vcells (ps.map fun p=>(p.1,a.eval p.2))=some vs∧Zal w M σ st.o cs vs
 | [],[],cells,cs,vcells,_,hc,hf=>by
  simp only[St.fill,Option.some.injEq] at hf
  subst hf
  exact ⟨vcells,rfl,hc⟩
 | (off, m,x)::parts,(i,y)::ps,cells,cs,vcells,hok,hc,hf=>by
  simp only[ZbX,Bool.and_eq_true] at hok
  obtain ⟨⟨hp,hx⟩,hrest⟩:=hok
  split at hp
  ·rename_i off' m' hpl
   simp only[Bool.and_eq_true,beq_iff_eq] at hp
   obtain ⟨rfl,rfl⟩:=hp
   simp only[St.fill,Option.bind_eq_some_iff] at hf
   obtain ⟨t,ht,hf⟩:=hf
   split at hf
   ·rename_i hm
    simp only[Option.bind_eq_some_iff] at hf
    obtain ⟨cs1,hcs1,hf⟩:=hf
    have hrx:=RepT.cells (ZdE h hn hx ht)
    obtain ⟨h1,h2⟩:=Zfd hc hrx hcs1
    obtain ⟨vs,h3,h4⟩:=ZeA h hn parts ps cs1 cs _ hrest h2 hf
    refine ⟨vs,?_,h4⟩
    have hsz:(a.eval y).cells.size=m:=by rw [hrx.1]; exact hm
    have hc1:¬(decide ((a.eval y).cells.size≠m)||decide (off + (a.eval y).cells.size > vcells.size))=true:=by
     simp only[Bool.or_eq_true,decide_eq_true_eq,not_or]
     omega
    simp only[List.map_cons,Instr.fill,hpl]
    rw [if_neg hc1]
    exact h3
   ·cases hf
  ·cases hp
 | [],_::_,_,_,_,hok,_,_=>by simp [ZbX] at hok
 | _::_,[],_,_,_,hok,_,_=>by simp [ZbX] at hok
theorem ZdO {zero:List U} {z:Value} (h:ZaB zero z.cells.toList=true):Zal w M σ ob (zero.map .u) z.cells:=by
 obtain ⟨h1,h2⟩:=Zch (w:=w) (M:=M) h
 refine ⟨by rw [List.length_map,h1]; simp,fun j c hj=>?_⟩
 rw [List.getElem?_map] at hj
 obtain ⟨u,hu,rfl⟩:=Option.map_eq_some_iff.1 hj
 obtain ⟨v,hv,hr⟩:=h2 j u hu
 exact ⟨v,by simpa using hv,hr⟩
theorem Zdz (w:World):∀ (fs:List Field),fs.all (fun f=>(P.info? f.type).isSome)=true→∃ l:List (Nat×Nat),(fs.mapM fun f=>do pure (f.offset,←sizeOf f.type):Sem (List (Nat×Nat))).run P w=.ok l w∧∀ (i:Nat),l[i]?=(fs[i]?).bind fun (f:Field)=>(P.info? f.type).map fun i=>(f.offset,i.size)
 | [],_=>⟨[],rfl,fun i=>by simp⟩
 | f :: fs,h=>by
  simp only[List.all_cons,Bool.and_eq_true] at h
  obtain ⟨l,h1,h2⟩:=Zdz w fs h.2
  obtain ⟨i,hi⟩:=Option.isSome_iff_exists.1 h.1
  refine ⟨(f.offset,i.size)::l,?_,fun j=>?_⟩
  ·simp only[List.mapM_cons,Sem.run_bind,sizeOf,typeInfo,run_program,Result.andThen_ok,hi,Sem.run_pure]
   simp only[sizeOf,typeInfo,Sem.run_bind,run_program,Result.andThen_ok] at h1
   rw [h1]
   rfl
  ·cases j with
   | zero=>simp [hi]
   | succ j=>simp [h2]
theorem Zgq (h:Rel base σ0 X w0 σ M w a st) (hn:a.tmps.size=n) {d:Nat} {zero:List U} {parts:List (Nat×Nat×Arg)} (hok:okOp P n o (.build d zero parts)=true) (hs:step E st (.build d zero parts)=some st'):Goes base σ0 X w0 P o a w st':=by
 simp only[okOp,Bool.and_eq_true] at hok
 obtain ⟨hd,hok⟩:=hok
 simp only[step,Option.map_eq_some_iff] at hs
 obtain ⟨cs,hcs,rfl⟩:=hs
 split at hok
 ·rename_i t ps ho
  simp only[Bool.and_eq_true] at hok
  obtain ⟨hz,hok⟩:=hok
  split at hok
  ·rename_i fs hu
   simp only[Bool.and_eq_true] at hok
   obtain ⟨i,z,hi,hiz,_,hzero⟩:=Zau hz
   obtain ⟨l,hl,hpl⟩:=Zdz (P:=P) w fs.toList hok.1
   have hplace:(fun (i:Nat)=>(fs[i]?).bind fun (f:Field)=>(P.info? f.type).map fun i=>(f.offset,i.size))=(fun i=>l.toArray[i]?):=by
    funext j
    have:=hpl j
    simp only[Array.getElem?_toList] at this
    simp [this]
   rw [hplace] at hok
   obtain ⟨vs,hfill,hrep⟩:=ZeA h hn parts ps.toList _ cs z.cells hok.2 (ZdO hzero) hcs
   refine Goes.val (v:=.agg vs) h hn hd ?_ ⟨vs,rfl,hrep.1,hrep.2⟩
   have hm:(fs.mapM fun f=>do pure (f.offset,←sizeOf f.type):Sem (Array (Nat×Nat))).run P w=.ok l.toArray w:=by
    rw [Array.mapM_eq_mapM_toList,Sem.run_map,hl]
    rfl
   have hps:(ps.map fun p=>(p.1,a.eval p.2)).toList=ps.toList.map fun p=>(p.1,a.eval p.2):=by simp
   simp only[execOp,ho,Instr.build,zeroValue,typeInfo,hi,hiz,Sem.run_bind,run_program,Sem.run_pure,Result.andThen_ok,run_underlying hu,hm,hps,hfill]
  ·cases hok
 ·cases hok
end Go.Proofs.YtfajcehhcjmofaaV
