/- Operations that read memory. No conditions but those that the lemmas state. -/
import Derived.Test.YtfajcehhcjmofaaV8
namespace Go.Proofs.YtfajcehhcjmofaaV
open Go Go.RowKit
set_option linter.unusedVariables false
set_option linter.unusedSimpArgs false
variable {base:Nat} {σ0:Sig} {X:Nat→Prop} {w0 w:World} {σ:Sig} {M:Nat→Prop} {a:Act} {st st':St} {P:Program} {n:Nat} {o:Oper} {E:Zb}
variable {ob:Id→Option Obj}
theorem Za0 {α:Type} {cs xs:List α} {p m:Nat} (h:seg cs p m=some xs):p+m≤cs.length∧xs.length=m∧∀ j c,xs[j]?=some c→j<m∧cs[p+j]?=some c:=by
 unfold seg at h
 split at h
 ·rename_i hle
  cases h
  refine ⟨hle,by simp; omega,fun j c hj=>?_⟩
  rw [List.getElem?_take] at hj
  split at hj
  ·rw [List.getElem?_drop] at hj; exact ⟨by assumption,hj⟩
  ·cases hj
 ·cases h
theorem ZeO {t:TypeId} {m:Nat} {agg:Bool} (ht:ZaU P t m agg=true) (A:Addr) (vs:List Value) (hl:vs.length=m) (hc:∀ (j:Nat) v,vs[j]?=some v→w.cell? (A.add j)=some v) :
  (agg=true→(loadVar t A).run P w=.ok (.agg vs.toArray) w)∧(agg=false→∀ v,vs=[v]→(loadVar t A).run P w=.ok v w):=by
 obtain ⟨h1,h2⟩:=Zc7 (w:=w) ht
 have h3:=run_loadCells_list (P:=P) w A vs hc
 rw [hl] at h3
 refine ⟨fun he=>?_,fun he v hv=>?_⟩
 ·subst he
  simp only[loadVar,Sem.run_bind,h2,Result.andThen_ok,if_true,h1,h3,Sem.run_pure]
 ·subst he
  have h0:=hc 0 v (by rw [hv]; rfl)
  rw [show A.add 0=A by simp [Addr.add]] at h0
  simp only[loadVar,Sem.run_bind,h2,Result.andThen_ok,Bool.false_eq_true,if_false,run_load,h0]
theorem Zdt {t:TypeId} {m:Nat} {agg:Bool} (ht:ZaU P t m agg=true) (A:Addr) (cs:List C) (hl:cs.length=m) (hc:∀ (j:Nat) c,cs[j]?=some c→∃ v,w.cell? (A.add j)=some v∧RepC w M σ ob c v) {x:T} (hx:Zl agg cs=some x) :
  ∃ v,(loadVar t A).run P w=.ok v w∧RepT w M σ ob x v:=by
 let vs:List Value:=(List.range m).map fun j=>(w.cell? (A.add j)).getD undef
 have hvl:vs.length=m:=by simp [vs]
 have hv:∀ (j:Nat) v,vs[j]?=some v→w.cell? (A.add j)=some v∧∀ c,cs[j]?=some c→RepC w M σ ob c v:=by
  intro j v hj
  have hjm:j<m:=by rw [←hvl]; exact (List.getElem?_eq_some_iff.1 hj).1
  simp only[vs,List.getElem?_map,List.getElem?_range hjm,Option.map_some,Option.some.injEq] at hj
  obtain ⟨u,hu,hr⟩:=hc j cs[j] (by simp [hl,hjm])
  rw [hu,Option.getD_some] at hj
  subst hj
  refine ⟨hu,fun c hc'=>?_⟩
  have:cs[j]?=some cs[j]:=by simp [hl,hjm]
  rw [this] at hc'; cases hc'; exact hr
 have hrun:=ZeO ht A vs hvl (fun j v hj=>(hv j v hj).1)
 cases agg with
 | true=>
  simp only[Zl,if_true,Option.some.injEq] at hx
  subst hx
  refine ⟨_,hrun.1 rfl,vs.toArray,rfl,by simp [hvl,hl],fun j c hj=>?_⟩
  have hjm:j<m:=by rw [←hl]; exact (List.getElem?_eq_some_iff.1 hj).1
  have:vs[j]?=some vs[j]:=by simp [hvl,hjm]
  exact ⟨vs[j],by simp only[List.getElem?_toArray]; exact this,(hv j _ this).2 c hj⟩
 | false=>
  simp only[Zl,Bool.false_eq_true,if_false] at hx
  split at hx
  ·rename_i c
   cases hx
   simp only[List.length_cons,List.length_nil,Nat.zero_add] at hl
   obtain ⟨v,hv'⟩:∃ v,vs=[v]:=by
    match vs,hvl with
    | [v],_=>exact ⟨v,rfl⟩
    | [],hq=>simp at hq; omega
    | _::_::_,hq=>simp at hq; omega
   exact ⟨v,hrun.2 rfl v hv',(hv 0 v (by rw [hv']; rfl)).2 c rfl⟩
  ·cases hx
theorem Zbg (g p j:Nat):(⟨g,p,none⟩:Addr).add j=⟨g,p+j,none⟩:=Addr.add_lit g p j
theorem Ze4 (id:Id) (i:Nat):∀ (xs:List U) (c:Nat),(toCs id i c xs).length=xs.length
 | [],_=>rfl
 | x::xs,c=>by simp [toCs,Ze4 id i xs (c+1)]
theorem Ze3 (id:Id) (i:Nat):∀ (xs:List U) (c j:Nat) (q:C),(toCs id i c xs)[j]?=some q→∃ x,xs[j]?=some x∧q=toC id i (c+j) x
 | [],c,j,q,h=>by simp [toCs] at h
 | x::xs,c,0,q,h=>by simp [toCs] at h; exact ⟨x,rfl,by rw [←h]; rfl⟩
 | x::xs,c,j+1,q,h=>by
  simp only[toCs,List.getElem?_cons_succ] at h
  obtain ⟨y,h1,h2⟩:=Ze3 id i xs (c+1) j q h
  exact ⟨y,by simpa using h1,by rw [h2]; congr 1; omega⟩
/-- A deep row's cell, as it is told. -/
theorem Zha {id:Id} {i c:Nat} {x:U} {v:Value} {z:Nat} {rows:List (List U)} {L:Loc} (ho:ob id=some (.deep z rows)) (hL:σ id=some L) (h:Own w (fun p=>L.kid ((i,c)::p)) x v):RepC w M σ ob (toC id i c x) v:=by
 cases h with
 | scal kid x v hk hs hr=>
  cases x with
  | sl=>cases hs
  | _=>exact ZaI hs hr
 | sl0 kid z b hk=>exact ⟨_,_,L,ho,hL,.inl ⟨rfl,hk [],b,rfl⟩⟩
 | sl kid K rs cur V hk=>exact ⟨_,_,L,ho,hL,.inr ⟨K,hk,rfl⟩⟩
/-- What is read through a pointer into an own object. -/
theorem ZdD (h:Rel base σ0 X w0 σ M w a st) {id:Id} {i p m:Nat} {cs:List C} (hr:st.read id i p m=some cs) {L:Loc} (hL:σ id=some L) :
  cs.length=m∧∀ (j:Nat) c,cs[j]?=some c→∃ v,w.cell? ((⟨L.g,i*L.sz+p,none⟩:Addr).add j)=some v∧RepC w M σ st.o c v:=by
 unfold St.read at hr
 split at hr
 ·rename_i bs ho
  split at hr
  ·rename_i hi
   subst hi
   obtain ⟨h1,h2,h3⟩:=Za0 hr
   obtain ⟨L',cur,hL',_,hh,hs,hc⟩:=h.obj id _ ho
   rw [hL] at hL'; cases hL'
   refine ⟨h2,fun j c hj=>?_⟩
   obtain ⟨v,hv,hrep⟩:=hc (p+j) c (h3 j c hj).2
   refine ⟨v,?_,hrep⟩
   rw [Zbg,cell_of_row w L.g _ cur L.e (0,0) hh,Nat.zero_mul,Nat.zero_add]
   exact hv
  ·cases hr
 ·rename_i z rows ho
  simp only[Option.bind_eq_some_iff,Option.map_eq_some_iff] at hr
  obtain ⟨row,hrow,us,hus,rfl⟩:=hr
  obtain ⟨h1,h2,h3⟩:=Za0 hus
  rcases h.obj id _ ho with ⟨_,h4⟩|⟨L',cur,hL',hz,_,hh,_,_,_,_,hsz,hc⟩
  ·rw [hL] at h4; cases h4
  ·rw [hL] at hL'; cases hL'
   refine ⟨by simp [h2],fun j c hj=>?_⟩
   rw [List.getElem?_map] at hj
   obtain ⟨u,hu,rfl⟩:=Option.map_eq_some_iff.1 hj
   obtain ⟨v,hv,hrep⟩:=hc i (p+j) row u hrow (h3 j u hu).2
   refine ⟨v,?_,hrep⟩
   rw [Zbg,cell_of_row w L.g _ cur L.e (0,0) hh,Nat.add_assoc]
   exact hv
 ·rename_i z rows ho
  simp only[Option.bind_eq_some_iff,Option.map_eq_some_iff] at hr
  obtain ⟨row,hrow,us,hus,rfl⟩:=hr
  obtain ⟨h1,h2,h3⟩:=Za0 hus
  rcases h.obj id _ ho with ⟨_,h4⟩|⟨L',cur,hL',hz,_,hh,_,_,_,_,hsz,hc,hk⟩
  ·rw [hL] at h4; cases h4
  ·rw [hL] at hL'; cases hL'
   refine ⟨by rw [Ze4,h2],fun j c hj=>?_⟩
   obtain ⟨u,hu,rfl⟩:=Ze3 id i us p j c hj
   obtain ⟨v,hv,hrep⟩:=hc i (p+j) row u hrow (h3 j u hu).2
   refine ⟨v,?_,Zha ho hL hrep⟩
   rw [Zbg,cell_of_row w L.g _ cur L.e (0,0) hh,Nat.add_assoc]
   exact hv
 ·cases hr
theorem Zjg (h:Rel base σ0 X w0 σ M w a st) (hn:a.tmps.size=n) {d m:Nat} {x:Arg} {agg:Bool} (hok:okOp P n o (.ld d x m agg)=true) (hs:step E st (.ld d x m agg)=some st'):Goes base σ0 X w0 P o a w st':=by
 simp only[okOp,Bool.and_eq_true] at hok
 obtain ⟨hd,hok⟩:=hok
 split at hok
 ·rename_i t y ho
  simp only[Bool.and_eq_true] at hok
  have hr:=Zf h hn hok.2
  have key:∀ (A:Addr) (cs:List C) (q:T),a.eval y=.pointer (some A)→cs.length=m→(∀ (j:Nat) c,cs[j]?=some c→∃ v,w.cell? (A.add j)=some v∧RepC w M σ st.o c v)→Zl agg cs=some q→st'=st.put d (.t q)→Goes base σ0 X w0 P o a w st':=by
   intro A cs q hv hl hc hq hst
   subst hst
   obtain ⟨v,hrun,hrep⟩:=Zdt hok.1 A cs hl hc hq
   refine Goes.val (v:=v) h hn hd ?_ hrep
   simp only[execOp,ho,hv,Instr.loadAt,Instr.sureAddr,Sem.run_bind,Sem.run_pure,Result.andThen_ok,hrun]
  simp only[step] at hs
  split at hs
  ·rename_i id0 i p hm
   simp only[Option.bind_eq_some_iff,Option.map_eq_some_iff] at hs
   obtain ⟨cs,hcs,q,hq,rfl⟩:=hs
   rw [hm] at hr
   obtain ⟨L,h1,h2,hv⟩:=hr
   obtain ⟨h3,h4⟩:=ZdD h hcs h2
   exact key _ cs q hv h3 h4 hq rfl
  ·rename_i us hm
   simp only[Option.bind_eq_some_iff,Option.map_eq_some_iff] at hs
   obtain ⟨cs,hcs,q,hq,rfl⟩:=hs
   rw [hm] at hr
   obtain ⟨A,hv,_,hc⟩:=hr
   obtain ⟨h1,h2,h3⟩:=Za0 hcs
   refine key A (cs.map .u) q hv (by simp [h2]) (fun j c hj=>?_) hq rfl
   rw [List.getElem?_map] at hj
   obtain ⟨u,hu,rfl⟩:=Option.map_eq_some_iff.1 hj
   have:=(h3 j u hu).2
   rw [Nat.zero_add] at this
   exact hc j u this
  ·rename_i us hm
   simp only[Option.bind_eq_some_iff,Option.map_eq_some_iff] at hs
   obtain ⟨cs,hcs,q,hq,rfl⟩:=hs
   rw [hm] at hr
   have hr':RepU w M (.rp us) (a.eval y):=hr
   generalize hv:a.eval y=v at hr'
   cases hr' with
   | rp _ A V hb hcell hrep=>
    obtain ⟨h1,h2,h3⟩:=Za0 hcs
    refine key A (cs.map .u) q hv (by simp [h2]) (fun j c hj=>?_) hq rfl
    rw [List.getElem?_map] at hj
    obtain ⟨u,hu,rfl⟩:=Option.map_eq_some_iff.1 hj
    have:=(h3 j u hu).2
    rw [Nat.zero_add] at this
    have hlt:j<us.length:=(List.getElem?_eq_some_iff.1 this).1
    exact ⟨V j,hcell j hlt,hrep j u this⟩
  ·cases hs
 ·cases hok
theorem Zjd (h:Rel base σ0 X w0 σ M w a st) (hn:a.tmps.size=n) {d off:Nat} {x:Arg} (hok:okOp P n o (.fa d x off)=true) (hs:step E st (.fa d x off)=some st'):Goes base σ0 X w0 P o a w st':=by
 simp only[okOp,Bool.and_eq_true] at hok
 obtain ⟨hd,hok⟩:=hok
 split at hok
 ·rename_i s y f ho
  simp only[Bool.and_eq_true] at hok
  obtain ⟨fs,fd,hu,hf,hp⟩:=Zcr hok.2
  simp only[Bool.and_eq_true,beq_iff_eq] at hp
  obtain ⟨rfl,hp⟩:=hp
  have hr:=Zf h hn hok.1
  have hrun:∀ A:Addr,a.eval y=.pointer (some A)→(execOp a.eval o).run P w=.ok (.value (.pointer (some (A.add fd.offset)))) w:=by
   intro A hv
   split at hp
   ·rename_i i hi
    simp only[decide_eq_true_eq] at hp
    have h0:¬i.size=0:=by omega
    simp only[execOp,ho,hv,Instr.fieldAt,Instr.sureAddr,fieldPlace,sizeOf,typeInfo,Sem.run_bind,run_underlying hu,run_program,hi,hf,Sem.run_pure,Result.andThen_ok,h0,if_false,Sem.run_ite]
   ·cases hp
  simp only[step] at hs
  split at hs
  ·rename_i id0 i p hm
   cases hs
   rw [hm] at hr
   obtain ⟨L,h1,h2,hv⟩:=hr
   refine Goes.val h hn hd (hrun _ hv) ⟨L,h1,h2,?_⟩
   rw [Zbg,Nat.add_assoc]
  ·rename_i us hm
   cases hs
   rw [hm] at hr
   obtain ⟨A,hv,hb,hc⟩:=hr
   refine Goes.val h hn hd (hrun _ hv) ⟨_,rfl,fun h0=>?_,fun j u hj=>?_⟩
   ·rw [Za6]; exact hb (fun e=>h0 (by rw [e]; simp))
   ·rw [List.getElem?_drop] at hj
    rw [Addr.add_add]
    exact hc _ u hj
  ·cases hs
 ·cases hok
theorem ZeH {t e:TypeId} (he:P.underlying t=some (.slice e)) {sz:Nat} (hsz:Za3 P e sz=true) (A:Addr) (len cap:Nat) (k:IntKind) (i:Int) (h0:0≤i) (h1:i<(len:Int)) :
  (Instr.indexAt t (.slice (some A) len cap) (.int k i)).run P w=.ok (.pointer (some (A.add (i.toNat*sz)))) w:=by
 simp only[Instr.indexAt,asIntOf,Sem.run_bind,Sem.run_pure,Result.andThen_ok,run_underlying he,h0,h1,and_self,if_true,Za4 hsz,Sem.run_ite]
theorem Zje (h:Rel base σ0 X w0 σ M w a st) (hn:a.tmps.size=n) {d sz:Nat} {x i:Arg} (hok:okOp P n o (.ia d sz x i)=true) (hs:step E st (.ia d sz x i)=some st'):Goes base σ0 X w0 P o a w st':=by
 simp only[okOp,Bool.and_eq_true] at hok
 obtain ⟨hd,hok⟩:=hok
 split at hok
 ·rename_i t y j ho
  simp only[Bool.and_eq_true] at hok
  obtain ⟨⟨hx,hi⟩,ht⟩:=hok
  obtain ⟨e,he,hsz⟩:=Zo ht
  have hr:=Zf h hn hx
  simp only[step,Option.bind_eq_some_iff] at hs
  obtain ⟨q,hq,hs⟩:=hs
  have hiv:=ZaT h hn hi hq
  have hrun:∀ (A:Addr) (len cap:Nat),a.eval y=.slice (some A) len cap→0≤q→q<(len:Int)→(execOp a.eval o).run P w=.ok (.value (.pointer (some (A.add (q.toNat*sz))))) w:=by
   intro A len cap hv h0 h1
   simp only[execOp,ho,hv,hiv,Sem.run_bind,ZeH he hsz A len cap .i64 q h0 h1,Result.andThen_ok,Sem.run_pure]
  split at hs
  ·rename_i z rows hm
   split at hs
   ·rename_i hc
    obtain ⟨h0,rfl⟩:=hc
    simp only[Option.map_eq_some_iff] at hs
    obtain ⟨cs,hcs,rfl⟩:=hs
    rw [hm] at hr
    have hlt:q.toNat<rows.length:=(List.getElem?_eq_some_iff.1 hcs).1
    have hr':RepU w M (.sl z rows) (a.eval y):=hr
    generalize hv:a.eval y=v at hr'
    cases hr' with
    | sl0=>simp at hlt
    | sl _ _ A c V hle hb hrow hcell hrep=>
     have hlen:=hrow cs (List.mem_of_getElem? hcs)
     refine Goes.val h hn hd (hrun A rows.length c hv h0 (by omega)) ⟨_,rfl,fun hne=>?_,fun j u hj=>?_⟩
     ·rw [Za6]
      exact hb (fun e=>by rw [e] at hlt; simp at hlt) (by rw [←hlen]; exact List.length_pos_iff.2 hne)
     ·have hjl:j<z:=by rw [←hlen]; exact (List.getElem?_eq_some_iff.1 hj).1
      rw [Addr.add_add]
      exact ⟨_,hcell q.toNat j hlt hjl,hrep q.toNat j cs u hcs hj⟩
   ·cases hs
  ·rename_i id0 m hm
   split at hs
   ·rename_i z rows ho2
    split at hs
    ·rename_i hc
     obtain ⟨h0,h1,rfl⟩:=hc
     cases hs
     rw [hm] at hr
     obtain ⟨z',rows',ho3,hle,hv⟩:=hr
     rw [ho2] at ho3; cases ho3
     rcases hv with ⟨rfl,_⟩|⟨L,hL,hv⟩
     ·omega
     ·have hzL:L.sz=z:=by
       rcases h.obj id0 _ ho2 with ⟨_,h4⟩|⟨L',cur,hL',hz,_⟩
       ·rw [hL] at h4; cases h4
       ·rw [hL] at hL'; cases hL'; exact hz
      refine Goes.val h hn hd (hrun _ m L.cap hv h0 h1) ⟨L,by rw [ho2]; rfl,hL,?_⟩
      rw [Zbg,hzL,Nat.zero_add,Nat.add_zero]
    ·cases hs
   ·cases hs
  ·rename_i id0 m hm
   split at hs
   ·rename_i z rows ho2
    split at hs
    ·rename_i hc
     obtain ⟨h0,h1,rfl⟩:=hc
     cases hs
     rw [hm] at hr
     obtain ⟨z',rows',ho3,hle,hv⟩:=hr
     rw [ho2] at ho3; cases ho3
     rcases hv with ⟨rfl,_⟩|⟨L,hL,hv⟩
     ·omega
     ·have hzL:L.sz=z:=by
       rcases h.obj id0 _ ho2 with ⟨_,h4⟩|⟨L',cur,hL',hz,_⟩
       ·rw [hL] at h4; cases h4
       ·rw [hL] at hL'; cases hL'; exact hz
      refine Goes.val h hn hd (hrun _ m L.cap hv h0 h1) ⟨L,by rw [ho2]; rfl,hL,?_⟩
      rw [Zbg,hzL,Nat.zero_add,Nat.add_zero]
    ·cases hs
   ·cases hs
  ·cases hs
 ·cases hok
theorem Zjf (h:Rel base σ0 X w0 σ M w a st) (hn:a.tmps.size=n) {d:Nat} {x i:Arg} (hok:okOp P n o (.ix d x i)=true) (hs:step E st (.ix d x i)=some st'):Goes base σ0 X w0 P o a w st':=by
 simp only[okOp,Bool.and_eq_true] at hok
 obtain ⟨hd,hok⟩:=hok
 split at hok
 ·rename_i t y j ho
  simp only[Bool.and_eq_true] at hok
  obtain ⟨⟨hx,hi⟩,ht⟩:=hok
  have hr:=Zf h hn hx
  simp only[step,Option.bind_eq_some_iff] at hs
  obtain ⟨q,hq,hs⟩:=hs
  have hiv:=ZaT h hn hi hq
  split at hs
  ·rename_i s hm
   split at hs
   ·rename_i h0
    simp only[Option.map_eq_some_iff] at hs
    obtain ⟨b,hb,rfl⟩:=hs
    rw [hm] at hr
    have hv:=RepU.str_inv hr
    have hlt:q.toNat<(⟨s.toArray⟩:ByteArray).size:=by simpa [ByteArray.size] using (List.getElem?_eq_some_iff.1 hb).1
    have hbs:(⟨s.toArray⟩:ByteArray)[q.toNat]?=some b:=by
     have h2:(⟨s.toArray⟩:ByteArray).data[q.toNat]'hlt=b:=by simpa using (List.getElem?_eq_some_iff.1 hb).2
     rw [getElem?_pos (⟨s.toArray⟩:ByteArray) q.toNat hlt]
     exact congrArg some h2
    refine Goes.val (v:=.int .u8 b.toNat) h hn hd ?_ (RepU.int ..)
    simp only[execOp,ho,hv,hiv,Instr.index,asIntOf,Sem.run_bind,Sem.run_pure,run_underlying (Zab ht),Result.andThen_ok,h0,if_true,hbs]
   ·cases hs
  ·cases hs
 ·cases hok
theorem ZhN (h:Rel base σ0 X w0 σ M w a st) (hn:a.tmps.size=n) {d:Nat} {x:Arg} (hok:okOp P n o (.len d x)=true) (hs:step E st (.len d x)=some st'):Goes base σ0 X w0 P o a w st':=by
 simp only[okOp,Bool.and_eq_true] at hok
 obtain ⟨hd,hok⟩:=hok
 simp only[step,Option.bind_eq_some_iff,Option.map_eq_some_iff] at hs
 obtain ⟨c,hc,m,hm,rfl⟩:=hs
 split at hok
 ·rename_i cl ho
  split at hok
  ·rename_i y t hcal hargs hty
   simp only[Bool.and_eq_true] at hok
   have ha:cl.args=#[y]:=by rw [←Array.toArray_toList (xs:=cl.args),hargs]
   have hta:cl.argTypes=#[t]:=by rw [←Array.toArray_toList (xs:=cl.argTypes),hty]
   obtain ⟨e,he,_⟩:=Zo hok.2
   have hr:=Zeb h hn hok.1 hc
   have:∃ A cap,a.eval y=.slice A m cap:=by
    generalize a.eval y=v at hr
    unfold lenOf at hm
    split at hm
    ·cases hm
     cases (show RepU w M _ v from hr) with
     | sl0=>exact ⟨_,_,rfl⟩
     | sl=>exact ⟨_,_,rfl⟩
    ·cases hm
     cases (show RepU w M _ v from hr)
     exact ⟨_,_,rfl⟩
    ·cases hm
     obtain ⟨_,_,_,_,⟨rfl,_,rfl⟩|⟨L,_,rfl⟩⟩:=hr
     ·exact ⟨_,_,rfl⟩
     ·exact ⟨_,_,rfl⟩
    ·cases hm
     obtain ⟨_,_,_,_,⟨rfl,_,rfl⟩|⟨L,_,rfl⟩⟩:=hr
     ·exact ⟨_,_,rfl⟩
     ·exact ⟨_,_,rfl⟩
    ·cases hm
     obtain ⟨_,_,_,_,_,⟨rfl,_,_,rfl⟩|⟨K,_,rfl⟩⟩:=hr
     ·exact ⟨_,_,rfl⟩
     ·exact ⟨_,_,rfl⟩
    ·cases hm
   obtain ⟨A,cap,hv⟩:=this
   refine Goes.val (v:=goInt m) h hn hd ?_ (RepU.int ..)
   simp only[execOp,ho,resolve,hcal,ha,hta,List.map_toArray,List.map_cons,List.map_nil,invoke,builtin,Builtin.len_,hv,Sem.run_bind,Sem.run_pure,Result.andThen_ok,List.getElem?_toArray,List.getElem?_cons_zero,run_underlying he]
  ·cases hok
 ·cases hok
theorem Zg7 (h:Rel base σ0 X w0 σ M w a st) (hn:a.tmps.size=n) {d:Nat} {x:Arg} (hok:okOp P n o (.slen d x)=true) (hs:step E st (.slen d x)=some st'):Goes base σ0 X w0 P o a w st':=by
 simp only[okOp,Bool.and_eq_true] at hok
 obtain ⟨hd,hok⟩:=hok
 simp only[step] at hs
 split at hs
 ·rename_i s hm
  cases hs
  split at hok
  ·rename_i cl ho
   split at hok
   ·rename_i y t hcal hargs hty
    simp only[Bool.and_eq_true] at hok
    have ha:cl.args=#[y]:=by rw [←Array.toArray_toList (xs:=cl.args),hargs]
    have hta:cl.argTypes=#[t]:=by rw [←Array.toArray_toList (xs:=cl.argTypes),hty]
    have hv:=RepU.str_inv (Zb7 h hn hok.1 hm)
    have hsz:(⟨s.toArray⟩:ByteArray).size=s.length:=by simp [ByteArray.size]
    refine Goes.val (v:=goInt s.length) h hn hd ?_ (RepU.int ..)
    rw [←hsz]
    simp only[execOp,ho,resolve,hcal,ha,hta,List.map_toArray,List.map_cons,List.map_nil,invoke,builtin,Builtin.len_,hv,Sem.run_bind,Sem.run_pure,Result.andThen_ok,List.getElem?_toArray,List.getElem?_cons_zero,run_underlying (Zab hok.2)]
   ·cases hok
  ·cases hok
 ·cases hs
theorem Zei (h:Rel base σ0 X w0 σ M w a st) (hn:a.tmps.size=n) {lo hi:Option Arg} {lo' hi':Option Operand} (hlo:Zb6 n lo lo'=true) (hhi:Zb6 n hi hi'=true) {m cap:Nat} {p:Nat×Nat} (hc:ZaR st m lo hi=some p) (hm:m≤cap) (isS:Bool) :
  (Instr.sliceBounds isS m cap (lo'.map a.eval) (hi'.map a.eval) none).run P w=.ok (p.1,p.2,cap) w∧p.1≤p.2∧p.2≤m:=by
 unfold ZaR at hc
 simp only[Option.bind_eq_some_iff] at hc
 obtain ⟨q,hq,l,hl,hc⟩:=hc
 split at hc
 ·rename_i hb
  cases hc
  obtain ⟨h0,h1,h2⟩:=hb
  refine ⟨?_,by simp only; omega,by simp only; omega⟩
  have hbound:∀ (i:Int) (y:Nat) (code:BoundsCode),0≤i→i≤(y:Int)→(Instr.sliceBound (.int .i64 i) y code).run P w=.ok i.toNat w:=by
   intro i y code hi0 hi1
   simp only[Instr.sliceBound,asIntOf,Sem.run_bind,Sem.run_pure,Result.andThen_ok,hi0,hi1,and_self,if_true]
  have hqv:∀ y,hi'=some y→a.eval y=.int .i64 q:=by
   intro y hy
   subst hy
   cases hi with
   | none=>simp [Zb6] at hhi
   | some x=>exact ZaT h hn hhi hq
  have hlv:∀ y,lo'=some y→a.eval y=.int .i64 l:=by
   intro y hy
   subst hy
   cases lo with
   | none=>simp [Zb6] at hlo
   | some x=>exact ZaT h hn hlo hl
  have hqn:hi'=none→q.toNat=m:=by
   intro hy
   subst hy
   cases hi with
   | none=>simp only[Option.some.injEq] at hq; omega
   | some x=>simp [Zb6] at hhi
  have hln:lo'=none→l.toNat=0:=by
   intro hy
   subst hy
   cases lo with
   | none=>simp only[Option.some.injEq] at hl; omega
   | some x=>simp [Zb6] at hlo
  cases hi' with
  | none=>
   have e1:=hqn rfl
   cases lo' with
   | none=>
    have e2:=hln rfl
    simp only[Instr.sliceBounds,Option.map_none,Sem.run_bind,Sem.run_pure,Result.andThen_ok,e1,e2]
   | some y=>
    have e2:=hbound l q.toNat (if (none:Option Value).isSome=true then .slice3C else .sliceB) (by omega) (by omega)
    rw [e1] at e2
    simp only[Instr.sliceBounds,Option.map_none,Option.map_some,Sem.run_bind,Sem.run_pure,Result.andThen_ok,e1,hlv y rfl,e2]
  | some z=>
   have e1:=hbound q cap (if isS=true then .sliceAcap else .sliceAlen) (by omega) (by omega)
   cases lo' with
   | none=>
    have e2:=hln rfl
    simp only[Instr.sliceBounds,Option.map_none,Option.map_some,Sem.run_bind,Sem.run_pure,Result.andThen_ok,hqv z rfl,e1,e2]
   | some y=>
    have e2:=hbound l q.toNat (if (none:Option Value).isSome=true then .slice3C else .sliceB) (by omega) (by omega)
    simp only[Instr.sliceBounds,Option.map_none,Option.map_some,Sem.run_bind,Sem.run_pure,Result.andThen_ok,hqv z rfl,hlv y rfl,e1,e2]
 ·cases hc
theorem ZhV (h:Rel base σ0 X w0 σ M w a st) (hn:a.tmps.size=n) {d:Nat} {x:Arg} {lo hi:Option Arg} (hok:okOp P n o (.ssl d x lo hi)=true) (hs:step E st (.ssl d x lo hi)=some st'):Goes base σ0 X w0 P o a w st':=by
 simp only[okOp,Bool.and_eq_true] at hok
 obtain ⟨hd,hok⟩:=hok
 simp only[step] at hs
 split at hs
 ·rename_i s hm
  simp only[Option.map_eq_some_iff] at hs
  obtain ⟨p,hp,rfl⟩:=hs
  split at hok
  ·rename_i t y lo' hi' ho
   simp only[Bool.and_eq_true] at hok
   obtain ⟨⟨⟨hx,hlo⟩,hhi⟩,ht⟩:=hok
   have hv:=RepU.str_inv (Zb7 h hn hx hm)
   obtain ⟨hcut,_,_⟩:=Zei (P:=P) h hn hlo hhi hp (Nat.le_refl _) false
   have hsz:(⟨s.toArray⟩:ByteArray).size=s.length:=by simp [ByteArray.size]
   have hx:(⟨((s.take p.2).drop p.1).toArray⟩:ByteArray)=(⟨s.toArray⟩:ByteArray).extract p.1 p.2:=Zdj (by simp [ByteArray.data_extract,List.drop_take])
   rw [←hsz] at hcut
   refine Goes.val (v:=.string ⟨((s.take p.2).drop p.1).toArray⟩) h hn hd ?_ (RepU.str _)
   rw [hx]
   simp only[execOp,ho,hv,Instr.sliceAt,Instr.slice,Option.map_none,Option.isSome_none,Bool.false_eq_true,if_false,Sem.run_bind,Sem.run_pure,run_underlying (Zab ht),Result.andThen_ok,hcut]
  ·cases hok
 ·cases hs
end Go.Proofs.YtfajcehhcjmofaaV
