/- Stores and appends. No conditions but those that the lemmas state. -/
import Derived.Test.YtfajcehhcjmofaaV12
namespace Go.Proofs.YtfajcehhcjmofaaV
open Go Go.RowKit
set_option linter.unusedVariables false
set_option linter.unusedSimpArgs false
variable {base:Nat} {σ0:Sig} {X:Nat→Prop} {w0 w w':World} {σ:Sig} {M:Nat→Prop} {a:Act} {st st':St} {P:Program} {n:Nat} {o:Oper} {E:Zb}
variable {ob:Id→Option Obj}
theorem ZdG {α:Type} (l vs:List α) (p:Nat) (h:p+vs.length≤l.length):(l.take p++vs++l.drop (p+vs.length)).length=l.length∧∀ (j:Nat),(l.take p++vs++l.drop (p+vs.length))[j]?=if p≤j∧j<p+vs.length then vs[j - p]? else l[j]?:=by
  have hp:(l.take p).length=p:=by rw [List.length_take]; omega
  refine ⟨by simp; omega,fun j=>?_⟩
  by_cases h1:j<p
  · rw [if_neg (by omega),List.append_assoc,List.getElem?_append_left (by omega),List.getElem?_take,if_pos h1]
  · by_cases h2:j<p+vs.length
    · rw [if_pos ⟨by omega,h2⟩,List.append_assoc,List.getElem?_append_right (by omega),hp,List.getElem?_append_left (by omega)]
    · rw [if_neg (by omega),List.getElem?_append_right (by rw [List.length_append]; omega),List.length_append,hp,List.getElem?_drop]
      congr 1
      omega
theorem ZbA {α:Type} {cs xs cs':List α} {p:Nat} (h:Zx cs p xs=some cs'):p+xs.length≤cs.length∧cs'.length=cs.length∧∀ (j:Nat),cs'[j]?=if p≤j∧j<p+xs.length then xs[j - p]? else cs[j]?:=by
 unfold Zx at h
 split at h
 ·rename_i hle
  cases h
  exact ⟨hle,ZdG cs xs p hle⟩
 ·cases h
theorem Zbl {g:Nat} (hMg:M g) (hsz:w.heap.size=w'.heap.size) (hsame:∀ b,b≠g→w'.heap[b]?=w.heap[b]?):Zaa w w' M M:=⟨Nat.le_of_eq hsz,fun b hb hm=>hsame b (fun e=>hm (e▸hMg)),fun b hb hm=>hm⟩
theorem Zeo {id:Id} {old x:Obj} (hid:st.o id=some old) (hrow:∀ z rows,old=.row z rows→∃ z' rows',x=.row z' rows'∧rows.length≤rows'.length) (hdeep:∀ z rows,old=.deep z rows→∃ z' rows',x=.deep z' rows'∧rows.length≤rows'.length):Refs σ σ st.o (st.obj id (some x)).o:=by
  have ho':∀ i,i≠id→(st.obj id (some x)).o i=st.o i:=fun i e=>by simp [St.obj,e]
  have hoid:(st.obj id (some x)).o id=some x:=by simp [St.obj]
  refine ⟨fun i hi L hl=>hl,fun i z rows hi=>?_,fun i z rows hi=>?_,fun i hi=>?_⟩
  · by_cases e:i=id
    · subst e
      rw [hid] at hi; cases hi
      obtain ⟨z',rows',h1,h2⟩:=hrow z rows rfl
      exact ⟨z',rows',by rw [hoid,h1],h2⟩
    · exact ⟨z,rows,by rw [ho' i e]; exact hi,Nat.le_refl _⟩
  · by_cases e:i=id
    · subst e
      rw [hid] at hi; cases hi
      obtain ⟨z',rows',h1,h2⟩:=hdeep z rows rfl
      exact ⟨z',rows',by rw [hoid,h1],h2⟩
    · exact ⟨z,rows,by rw [ho' i e]; exact hi,Nat.le_refl _⟩
  · by_cases e:i=id
    · subst e; rw [hoid]; rfl
    · rw [ho' i e]; exact hi
theorem Zap (g:Nat) (cur':Array Value) {cur:Array Value} {e:TypeId} (hh:w.heap[g]?=some (.cells cur e (0,0))):(w.setRow g cur').heap[g]?=some (.cells cur' e (0,0))∧w.heap.size=(w.setRow g cur').heap.size∧(∀ b,b≠g→(w.setRow g cur').heap[b]?=w.heap[b]?)∧(w.setRow g cur').os=w.os∧(w.setRow g cur').tape=w.tape∧(w.setRow g cur').output=w.output:=
 ⟨setRow_heap w g cur cur' e (0,0) hh,by simp [World.setRow],fun b hb=>setRow_other w g b cur' hb,rfl,rfl,rfl⟩
theorem ZdV {cs:List C} {vs:Array Value} (h:Zal w M σ ob cs vs):∀ v,v∈vs.toList→v.oneCell'=true:=by
 intro v hv
 obtain ⟨j,hj⟩:=List.mem_iff_getElem?.1 hv
 have hlt:j<cs.length:=by rw [←h.1]; have:=(List.getElem?_eq_some_iff.1 hj).1; simpa using this
 obtain ⟨v',hv',hr⟩:=h.2 j cs[j] (by simp [hlt])
 have:v'=v:=by
  simp only[Array.getElem?_toList] at hj
  rw [hj] at hv'; cases hv'; rfl
 subst this
 exact hr.one
theorem ZbR {g off:Nat} {e:TypeId} {vs cur:Array Value} (hh:w.heap[g]?=some (.cells cur e (0,0))) (hfit:off+vs.size≤cur.size) (h1:∀ v,v∈vs.toList→v.oneCell'=true) :
  ∃ cur2:Array Value,(storeCells ⟨g,off,none⟩ vs.toList).run P w=.ok () (w.setRow g cur2)∧cur2.size=cur.size∧∀ (j:Nat),cur2[j]?=if off≤j∧j<off+vs.size then vs[j - off]? else cur[j]?:=by
 have hst:=run_storeCells_at P g off e vs.toList 0 cur w hh (by simpa using hfit) h1
 rw [Nat.add_zero] at hst
 obtain ⟨s1,s2⟩:=ZdG cur.toList vs.toList off (by simpa using hfit)
 refine ⟨_,hst,by simpa using s1,fun j=>?_⟩
 rw [List.getElem?_toArray,s2]
 simp
/-- A write into an own object. -/
theorem Zf3 (h:Rel base σ0 X w0 σ M w a st) {id:Id} {i p:Nat} {xs:List C} {st2:St} (hw:st.write id i p xs=some st2) {L:Loc} (hL:σ id=some L) {vs:Array Value} (hv:Zal w M σ st.o xs vs) :
  ∃ w',(storeCells ⟨L.g,i*L.sz+p,none⟩ vs.toList).run P w=.ok () w'∧Rel base σ0 X w0 σ M w' a st2:=by
 have h1:=ZdV hv
 have hvl:vs.toList.length=xs.length:=by simp [hv.1]
 unfold St.write at hw
 split at hw
 ·rename_i cs ho
  split at hw
  ·rename_i hi
   subst hi
   simp only[Option.map_eq_some_iff] at hw
   obtain ⟨cs',hcs',rfl⟩:=hw
   obtain ⟨hp1,hp2,hp3⟩:=ZbA hcs'
   obtain ⟨L',cur,hL',hm,hh,hs,hc⟩:=h.obj id _ ho
   rw [hL] at hL'; cases hL'
   obtain ⟨cur2,hst,c1,c2⟩:=ZbR (P:=P) (off:=0*L.sz+p) (vs:=vs) hh (by rw [hv.1,hs]; omega) h1
   obtain ⟨f1,f2,f3,f4,f5,f6⟩:=Zap L.g cur2 hh
   refine ⟨_,hst,h.rewrite ho hL (fun z rows e=>by cases e) (fun z rows e=>by cases e) rfl f2 (fun b hb=>f3 b (fun e=>hb (.inl e.symm))) f4 f5 f6 ⟨L,_,hL,hm,f1,by rw [c1,hs,hp2],fun j c hj=>?_⟩⟩
   have hk:=Zbl (w:=w) hm f2 f3
   have hrf:=Zeo (σ:=σ) (x:=.box cs') ho (fun z rows e=>by cases e) (fun z rows e=>by cases e)
   rw [hp3] at hj
   rw [c2,hv.1]
   simp only[Nat.zero_mul,Nat.zero_add]
   by_cases hb:p≤j∧j<p+xs.length
   ·rw [if_pos hb] at hj ⊢
    obtain ⟨y,hy,hr⟩:=hv.2 _ c hj
    exact ⟨y,hy,hr.keep hk hrf⟩
   ·rw [if_neg hb] at hj ⊢
    obtain ⟨y,hy,hr⟩:=hc j c hj
    exact ⟨y,hy,hr.keep hk hrf⟩
  ·cases hw
 ·rename_i z rows ho
  simp only[Option.bind_eq_some_iff,Option.map_eq_some_iff] at hw
  obtain ⟨us,hus,row,hrow,row',hrow',rfl⟩:=hw
  obtain ⟨hp1,hp2,hp3⟩:=ZbA hrow'
  obtain ⟨hu1,hu2⟩:=Zeq hus
  rcases h.obj id _ ho with ⟨_,h4⟩|⟨L',cur,hL',hz,hm,hh,hs,hcap,hcm,h0,hall,hc⟩
  ·rw [hL] at h4; cases h4
  ·rw [hL] at hL'; cases hL'
   have hi:i<rows.length:=(List.getElem?_eq_some_iff.1 hrow).1
   have hrl:row.length=L.sz:=hall row (List.mem_of_getElem? hrow)
   have hfit:i*L.sz+p+vs.size≤cur.size:=by
    have:(i+1)*L.sz≤L.cap*L.sz:=Nat.mul_le_mul_right _ (by omega)
    rw [Nat.add_mul] at this
    rw [hv.1,←hu1,hs]
    omega
   obtain ⟨cur2,hst,c1,c2⟩:=ZbR (P:=P) (off:=i*L.sz+p) (vs:=vs) hh hfit h1
   obtain ⟨f1,f2,f3,f4,f5,f6⟩:=Zap L.g cur2 hh
   have hk:=Zbl (w:=w) hm f2 f3
   refine ⟨_,hst,h.rewrite ho hL (fun z rows e=>by cases e; exact ⟨_,_,rfl,by simp⟩) (fun z rows e=>by cases e) rfl f2 (fun b hb=>f3 b (fun e=>hb (.inl e.symm))) f4 f5 f6 (.inr ⟨L,_,hL,hz,hm,f1,by rw [c1,hs],by simpa using hcap,hcm,h0,Zba hall (by rw [hp2,hrl]),fun i' j r x hi' hj=>?_⟩)⟩
   rw [c2,hv.1,←hu1]
   by_cases e:i'=i
   ·subst e
    rw [List.getElem?_set_self hi] at hi'
    cases hi'
    rw [hp3] at hj
    by_cases hb:p≤j∧j<p+us.length
    ·rw [if_pos hb] at hj
     rw [if_pos (by omega)]
     obtain ⟨y,hy,hr⟩:=hv.2 _ _ (hu2 _ x hj)
     refine ⟨y,?_,RepU.keep hk hr⟩
     rw [show i'*L.sz+j - (i'*L.sz+p)=j - p by omega]
     exact hy
    ·rw [if_neg hb] at hj
     rw [if_neg (by omega)]
     obtain ⟨y,hy,hr⟩:=hc i' j row x hrow hj
     exact ⟨y,hy,hr.keep hk⟩
   ·rw [List.getElem?_set_ne (fun h=>e h.symm)] at hi'
    obtain ⟨y,hy,hr⟩:=hc i' j r x hi' hj
    have hjl:j<L.sz:=by rw [←hall r (List.mem_of_getElem? hi')]; exact (List.getElem?_eq_some_iff.1 hj).1
    refine ⟨y,?_,hr.keep hk⟩
    rw [if_neg ?_]
    ·exact hy
    ·intro hb
     rcases Nat.lt_or_gt_of_ne e with hlt|hlt
     ·have:(i'+1)*L.sz≤i*L.sz:=Nat.mul_le_mul_right _ hlt
      rw [Nat.add_mul] at this
      omega
     ·have:(i+1)*L.sz≤i'*L.sz:=Nat.mul_le_mul_right _ hlt
      rw [Nat.add_mul] at this
      omega
 ·rename_i z rows ho
  simp only[Option.bind_eq_some_iff] at hw
  obtain ⟨us,hus,row,hrow,old,hold,hw⟩:=hw
  split at hw
  ·rename_i hsc
   obtain ⟨hsc1,hsc2⟩:=hsc
   simp only[List.all_eq_true] at hsc1 hsc2
   simp only[Option.map_eq_some_iff] at hw
   obtain ⟨row',hrow',rfl⟩:=hw
   obtain ⟨hp1,hp2,hp3⟩:=ZbA hrow'
   obtain ⟨hu1,hu2⟩:=Zeq hus
   obtain ⟨hg1,hg2,hg3⟩:=Za0 hold
   rcases h.obj id _ ho with ⟨_,h4⟩|⟨L',cur,hL',hz,hm,hh,hs,hcap,hcm,h0,hall,hc,hkd⟩
   ·rw [hL] at h4; cases h4
   ·rw [hL] at hL'; cases hL'
    have hi:i<rows.length:=(List.getElem?_eq_some_iff.1 hrow).1
    have hrl:row.length=L.sz:=hall row (List.mem_of_getElem? hrow)
    have hfit:i*L.sz+p+vs.size≤cur.size:=by
     have:(i+1)*L.sz≤L.cap*L.sz:=Nat.mul_le_mul_right _ (by omega)
     rw [Nat.add_mul] at this
     rw [hv.1,←hu1,hs]
     omega
    obtain ⟨cur2,hst,c1,c2⟩:=ZbR (P:=P) (off:=i*L.sz+p) (vs:=vs) hh hfit h1
    obtain ⟨f1,f2,f3,f4,f5,f6⟩:=Zap L.g cur2 hh
    refine ⟨_,hst,h.rewrite ho hL (fun z rows e=>by cases e) (fun z rows e=>by cases e; exact ⟨_,_,rfl,by simp⟩) rfl f2 (fun b hb=>f3 b (fun e=>hb (.inl e.symm))) f4 f5 f6 (.inr ⟨L,_,hL,hz,hm,f1,by rw [c1,hs],by simpa using hcap,hcm,h0,Zba hall (by rw [hp2,hrl]),fun i' j r x hi' hj=>?_,?_⟩)⟩
    ·rw [c2, hv.1,←hu1]
     have hkeep:∀ {q:List (Nat×Nat)→Option Loc0} {x:U} {v:Value},(∀ p K,q p=some K→∃ p',L.kid p'=some K)→Own w q x v→Own (w.setRow L.g cur2) q x v:=by
      intro q x v hq hO
      exact hO.keep (fun p K hp=>by obtain ⟨p',hp'⟩:=hq p K hp; exact f3 _ (hkd.ne p' K hp'))
     by_cases e:i'=i
     ·subst e
      rw [List.getElem?_set_self hi] at hi'
      cases hi'
      rw [hp3] at hj
      by_cases hb:p≤j∧j<p+us.length
      ·rw [if_pos hb] at hj
       rw [if_pos (by omega)]
       obtain ⟨y,hy,hr⟩:=hv.2 _ _ (hu2 _ x hj)
       refine ⟨y,?_,?_⟩
       ·rw [show i'*L.sz+j - (i'*L.sz+p)=j - p by omega]
        exact hy
       ·have hxs:=hsc1 x (List.mem_of_getElem? hj)
        have hjo:j - p<old.length:=by omega
        have hold2:old[j - p]?=some old[j - p]:=by simp [hjo]
        obtain ⟨_,hor⟩:=hg3 _ _ hold2
        rw [show p + (j - p)=j by omega] at hor
        obtain ⟨yo,_,hOo⟩:=hc i' j row _ hrow hor
        have hos:=hsc2 _ (List.mem_of_getElem? hold2)
        have hnone:∀ q,L.kid ((i',j)::q)=none:=by
         generalize old[j - p]=xo at hOo hos
         cases hOo with
         | scal kid x v hk=>exact hk
         | sl0=>cases hos
         | sl=>cases hos
        exact .scal _ x y hnone hxs (ZaI hxs hr)
      ·rw [if_neg hb] at hj
       rw [if_neg (by omega)]
       obtain ⟨y,hy,hr⟩:=hc i' j row x hrow hj
       exact ⟨y,hy,hkeep (fun p K hp=>⟨_,hp⟩) hr⟩
     ·rw [List.getElem?_set_ne (fun h=>e h.symm)] at hi'
      obtain ⟨y,hy,hr⟩:=hc i' j r x hi' hj
      have hjl:j<L.sz:=by rw [←hall r (List.mem_of_getElem? hi')]; exact (List.getElem?_eq_some_iff.1 hj).1
      refine ⟨y,?_,hkeep (fun p K hp=>⟨_,hp⟩) hr⟩
      rw [if_neg ?_]
      ·exact hy
      ·intro hb
       rcases Nat.lt_or_gt_of_ne e with hlt|hlt
       ·have:(i'+1)*L.sz≤i*L.sz:=Nat.mul_le_mul_right _ hlt
        rw [Nat.add_mul] at this
        omega
       ·have:(i+1)*L.sz≤i'*L.sz:=Nat.mul_le_mul_right _ hlt
        rw [Nat.add_mul] at this
        omega
    ·rw [List.length_set]; exact hkd
  ·cases hw
 ·cases hw
theorem Zhh (h:Rel base σ0 X w0 σ M w a st) (hn:a.tmps.size=n) {m:Nat} {x v:Arg} (hok:okOp P n o (.st m x v)=true) (hs:step E st (.st m x v)=some st'):Goes base σ0 X w0 P o a w st':=by
 simp only[okOp,Bool.and_eq_true] at hok
 obtain ⟨hd,hok⟩:=hok
 have hdn:o.dst=none:=by
  cases hq:o.dst with
  | none=>rfl
  | some t=>rw [hq] at hd; cases hd
 split at hok
 ·rename_i t x' v' ho
  simp only[Bool.and_eq_true] at hok
  obtain ⟨⟨ht,hx⟩,hv⟩:=hok
  simp only[step] at hs
  split at hs
  ·rename_i id0 i p hm
   have hr:=Zf h hn hx
   rw [hm] at hr
   obtain ⟨L,hlive,hL,hxv⟩:=hr
   simp only[Option.bind_eq_some_iff] at hs
   obtain ⟨y,hy,hs⟩:=hs
   -- the store in a state that keeps where the objects lie
   have key:∀ (M1:Nat→Prop) (st1:St) (q:T),Rel base σ0 X w0 σ M1 w a st1→(st1.get v).t?=some q→q.cells.length=m→st1.write id0 i p q.cells=some st'→Goes base σ0 X w0 P o a w st':=by
    intro M1 st1 q h1 hq hl hw
    have hrep:=RepT.cells (ZdE h1 hn hv hq)
    obtain ⟨w',hrun,hR⟩:=Zf3 (P:=P) h1 hw hL hrep
    refine ⟨.skip,undef,w',σ,M1,?_,.inr ⟨rfl,rfl⟩,by rw [hdn]; exact hR⟩
    have hsz:¬(a.eval v').cells.size≠m:=by rw [hrep.1]; omega
    simp only[execOp,ho,hxv,Instr.storeAt,Instr.sureAddr,storeVar,Sem.run_bind,Sem.run_pure,Result.andThen_ok,Za4 ht,hsz,if_false,hrun,Sem.run_ite]
   split at hs
   ·simp only[Option.bind_eq_some_iff] at hs
    obtain ⟨q,hq,hs⟩:=hs
    split at hs
    ·rename_i hl
     obtain ⟨M1,hR,_,_⟩:=h.coolAll y.ids
     exact key M1 _ q hR hq hl hs
    ·cases hs
   ·split at hs
    ·rename_i hl
     exact key M st y h hy hl hs
    ·cases hs
  ·cases hs
 ·cases hok
end Go.Proofs.YtfajcehhcjmofaaV
