/- Objects: cooled, killed, made, written. No conditions but those that the lemmas state. -/
import Derived.Test.YtfajcehhcjmofaaV5
namespace Go.Proofs.YtfajcehhcjmofaaV
open Go Go.RowKit
set_option linter.unusedVariables false
set_option linter.unusedSimpArgs false
variable {base:Nat} {σ0:Sig} {X:Nat→Prop} {w0 w:World} {σ:Sig} {M:Nat→Prop} {a:Act} {st:St}
theorem Zby (id:Id):Zaa w w M (less st σ M id):=⟨Nat.le_refl _,fun _ _ _=>rfl,fun b _ h=>h.1⟩
theorem Zbc {id i:Id} (f:C→C) (h:i≠id):((st.obj id none).mapC f).o i=(st.o i).map (Obj.mapC f):=by simp [St.mapC,St.obj,h]
/-- What refers to other objects than id goes on. -/
theorem RepC.other {id:Id} {f:C→C} {c:C} {v:Value} (hc:∀ i,c.id?=some i→i≠id) (h:RepC w M σ st.o c v):RepC w (less st σ M id) σ ((st.obj id none).mapC f).o c v:=by
 cases c with
 | u x=>exact RepU.keep (Zby id) h
 | own i n=>
  obtain ⟨sz,rows,ho,hn,hv⟩:=h
  refine ⟨sz,rows,?_,hn,hv⟩
  rw [Zbc f (hc i rfl),ho]; rfl
 | ptr i a b=>
  obtain ⟨L,ho,hL,hv⟩:=h
  refine ⟨L,?_,hL,hv⟩
  rw [Zbc f (hc i rfl)]; simpa using ho
 | bad=>exact h
 | down i n=>
  obtain ⟨sz,rows,ho,hn,hv⟩:=h
  refine ⟨sz,rows,?_,hn,hv⟩
  rw [Zbc f (hc i rfl),ho]; rfl
 | sub i a b n=>
  obtain ⟨sz,rows,L,ho,hL,hv⟩:=h
  refine ⟨sz,rows,L,?_,hL,hv⟩
  rw [Zbc f (hc i rfl),ho]; rfl
theorem Zd3 (id:Id) (f:C→C) (c:C) (v:Value) (h:RepC w M σ st.o c v):RepC w (less st σ M id) σ ((st.obj id none).mapC f).o (C.kill id c) v:=by
 have h1:=h.one
 cases c with
 | u x=>exact RepC.other (fun i hi=>by cases hi) h
 | own i n=>
  simp only[C.kill]
  by_cases e:i=id
  ·rw [if_pos e]; exact h1
  ·rw [if_neg e]; exact RepC.other (fun j hj=>by cases hj; exact e) h
 | ptr i a b=>
  simp only[C.kill]
  by_cases e:i=id
  ·rw [if_pos e]; exact h1
  ·rw [if_neg e]; exact RepC.other (fun j hj=>by cases hj; exact e) h
 | bad=>exact h1
 | down i n=>
  simp only[C.kill]
  by_cases e:i=id
  ·rw [if_pos e]; exact h1
  ·rw [if_neg e]; exact RepC.other (fun j hj=>by cases hj; exact e) h
 | sub i a b n=>
  simp only[C.kill]
  by_cases e:i=id
  ·rw [if_pos e]; exact h1
  ·rw [if_neg e]; exact RepC.other (fun j hj=>by cases hj; exact e) h
theorem Rel.kill (h:Rel base σ0 X w0 σ M w a st) (id:Id):Rel base σ0 X w0 σ (less st σ M id) w a (st.kill id):=h.forget id (C.kill id) (fun c v hc=>Zd3 id _ c v hc)
theorem RepU.sl0' (sz:Nat) (b:Option Addr):RepU w M (.sl sz []) (.slice b 0 0):=by
 cases b with
 | none=>exact .sl0 _
 | some A=>exact .sl sz [] A 0 (fun _ _=>undef) (Nat.le_refl _) (fun h=>absurd rfl h) (fun row h=>by cases h) (fun i j h=>by simp at h) (fun i j row x h=>by simp at h)
/-- A whole row as data. -/
theorem ZcD (h:Rel base σ0 X w0 σ M w a st) {M2:Nat→Prop} (hM2:∀ b,M2 b→M b) {id:Id} {sz:Nat} {rows:List (List U)} {n:Nat} {v:Value} (hr:RepC w M σ st.o (.own id n) v) (ho:st.o id=some (.row sz rows)) (hg:∀ L,σ id=some L→¬M2 L.g):RepU w M2 (.sl sz (rows.take n)) v:=by
 have k:Zaa w w M M2:=⟨Nat.le_refl _,fun _ _ _=>rfl,fun b _ h=>hM2 b h⟩
 obtain ⟨sz',rows',ho',hn,hv⟩:=hr
 rw [ho] at ho'
 cases ho'
 rcases hv with ⟨rfl,b,rfl⟩|⟨L,hL,rfl⟩
 ·rw [List.take_zero]; exact RepU.sl0' sz b
 ·have hobj:=h.obj id _ ho
  rcases hobj with ⟨_,h2⟩|⟨L',cur,hL',hz,hm,hh,hs,hcap,hcm,h0,hsz,hc⟩
  ·rw [hL] at h2; cases h2
  ·rw [hL] at hL'
   cases hL'
   subst hz
   have hlen:(rows.take n).length=n:=by rw [List.length_take]; omega
   have hlt:L.g<w.heap.size:=(Array.getElem?_eq_some_iff.1 hh).1
   have hadd:∀ k,(⟨L.g,0,none⟩:Addr).add k=⟨L.g,k,none⟩:=fun k=>by unfold Addr.add; split<;>simp_all
   have:=RepU.sl (w:=w) (M:=M2) L.sz (rows.take n) ⟨L.g,0,none⟩ L.cap (fun i j=>(cur[i*L.sz+j]?).getD undef) (by omega) (fun _ _=>⟨hg L hL,hlt⟩)
    (fun row hr=>hsz row (List.mem_of_mem_take hr)) (fun i j hi hj=>?_) (fun i j row x hi hj=>?_)
   ·rw [hlen] at this; exact this
   ·rw [hadd,cell_of_row w L.g _ cur L.e (0,0) hh]
    have hi':i<rows.length:=by omega
    obtain ⟨y,hy,_⟩:=hc i j rows[i] (rows[i][j]'(by rw [hsz _ (List.getElem_mem hi')]; exact hj)) (by simp [hi']) (by simp)
    simp [hy]
   ·rw [List.getElem?_take] at hi
    split at hi
    ·obtain ⟨y,hy,hr⟩:=hc i j row x hi hj
     simp only[hy,Option.getD_some]
     exact hr.keep k
    ·cases hi
theorem add_lit (g k:Nat):(⟨g,0,none⟩:Addr).add k=⟨g,k,none⟩:=by unfold Addr.add; split<;>simp_all
/-- A deep row's slices as data. -/
theorem ZbM {M2:Nat→Prop} {kid:List (Nat×Nat)→Option Loc0} {x:U} {v:Value} (h:Own w kid x v):(∀ p K,kid p=some K→¬M2 K.g)→RepU w M2 x v:=by
 induction h with
 | scal kid x v hk hs hr=>exact fun _=>ZaI hs hr
 | sl0 kid z b hk=>exact fun _=>RepU.sl0' z b
 | sl kid K rows cur V hk hh hs hn hm h0 hl hj hc hr ih=>
  intro hM
  have hlt:K.g<w.heap.size:=(Array.getElem?_eq_some_iff.1 hh).1
  refine RepU.sl K.sz rows ⟨K.g,0,none⟩ K.cap V hn (fun _ _=>⟨hM [] K hk,hlt⟩) hl (fun i j hi hj2=>?_) (fun i j row x hi hx=>ih i j row x hi hx (fun p K' hp=>hM _ K' hp))
  have hi2:rows[i]?=some rows[i]:=by simp [hi]
  have hlen:=hl _ (List.mem_of_getElem? hi2)
  have:=hc i j rows[i] (rows[i][j]'(by omega)) hi2 (by simp [hlen,hj2])
  rw [add_lit,cell_of_row w K.g _ cur K.e (0,0) hh,this]
/-- A whole deep row as data. -/
theorem ZdW (h:Rel base σ0 X w0 σ M w a st) {M2:Nat→Prop} {id:Id} {sz:Nat} {rows:List (List U)} {n:Nat} {v:Value} (hr:RepC w M σ st.o (.down id n) v) (ho:st.o id=some (.deep sz rows)) (hg:∀ L b,σ id=some L→L.has b→¬M2 b):RepU w M2 (.sl sz (rows.take n)) v:=by
 obtain ⟨sz',rows',ho',hn,hv⟩:=hr
 rw [ho] at ho'
 cases ho'
 rcases hv with ⟨rfl,b,rfl⟩|⟨L,hL,rfl⟩
 ·rw [List.take_zero]; exact RepU.sl0' sz b
 ·rcases h.obj id _ ho with ⟨_,h2⟩|⟨L',cur,hL',hz,hm,hh,hs,hcap,hcm,h0,hsz,hc,hk⟩
  ·rw [hL] at h2; cases h2
  ·rw [hL] at hL'
   cases hL'
   subst hz
   have hlen:(rows.take n).length=n:=by rw [List.length_take]; omega
   have hlt:L.g<w.heap.size:=(Array.getElem?_eq_some_iff.1 hh).1
   have:=RepU.sl (w:=w) (M:=M2) L.sz (rows.take n) ⟨L.g,0,none⟩ L.cap (fun i j=>(cur[i*L.sz+j]?).getD undef) (by omega) (fun _ _=>⟨hg L _ hL L.has_g,hlt⟩)
    (fun row hr=>hsz row (List.mem_of_mem_take hr)) (fun i j hi hj=>?_) (fun i j row x hi hj=>?_)
   ·rw [hlen] at this; exact this
   ·rw [add_lit,cell_of_row w L.g _ cur L.e (0,0) hh]
    have hi':i<rows.length:=by omega
    obtain ⟨y,hy,_⟩:=hc i j rows[i] (rows[i][j]'(by rw [hsz _ (List.getElem_mem hi')]; exact hj)) (by simp [hi']) (by simp)
    simp [hy]
   ·rw [List.getElem?_take] at hi
    split at hi
    ·obtain ⟨y,hy,hr⟩:=hc i j row x hi hj
     simp only[hy,Option.getD_some]
     exact ZbM hr (fun p K hp=>hg L K.g hL (.inr ⟨_,K,hp,rfl⟩))
    ·cases hi
theorem Zdr {rows:List (List U)} {i c n:Nat} {x:U} (h:ZaY rows i c n=some x):∃ row z r,rows[i]?=some row∧row[c]?=some (.sl z r)∧r.length=n∧x=.sl z r:=by
 unfold ZaY at h
 simp only[Option.bind_eq_some_iff] at h
 obtain ⟨row,hrow,y,hy,h⟩:=h
 split at h
 ·split at h
  ·rename_i z r hl
   cases h
   exact ⟨row,z,r,hrow,hy,hl,rfl⟩
  ·cases h
 ·cases h
/-- A slice in a deep row's cell: what its block holds. -/
theorem ZfQ (h:Rel base σ0 X w0 σ M w a st) {id:Id} {sz:Nat} {rows:List (List U)} {i c n:Nat} {v:Value} {x:U} (hr:RepC w M σ st.o (.sub id i c n) v) (ho:st.o id=some (.deep sz rows)) (hk:ZaY rows i c n=some x) :
  ∃ L,σ id=some L∧Own w (fun p=>L.kid ((i,c)::p)) x v:=by
 obtain ⟨row,z,r,hrow,hx,hl,rfl⟩:=Zdr hk
 obtain ⟨_,_,L,ho',hL,hv⟩:=hr
 rw [ho] at ho'; cases ho'
 refine ⟨L,hL,?_⟩
 rcases h.obj id _ ho with ⟨h1,_⟩|⟨L',cur,hL',hz,hm,hh,hs,hcap,hcm,h0,hsz,hc,hks⟩
 ·rw [h1] at hrow; simp at hrow
 ·rw [hL] at hL'; cases hL'
  obtain ⟨y,hy,hO⟩:=hc i c row _ hrow hx
  generalize hU:U.sl z r=u at hO
  cases hO with
  | scal kid x v hk0 hs0 hr0=>subst hU; cases hs0
  | sl0 kid z' b' hk0=>
   cases hU
   rcases hv with ⟨_,_,b,rfl⟩|⟨K,hK,_⟩
   ·exact .sl0 _ _ b hk0
   ·have:=hk0 []; simp only at this; rw [hK] at this; cases this
  | sl kid K rs cur2 V hk0 hh0 hs0 hn0 hm0 h00 hl0 hj0 hc0 hr0=>
   cases hU
   rcases hv with ⟨_,hK,b,rfl⟩|⟨K',hK,rfl⟩
   ·exact absurd (hk0.symm.trans hK) (by simp)
   ·have e:=hk0.symm.trans hK
    cases e
    rw [←hl]
    exact .sl _ K r cur2 V hk0 hh0 hs0 hn0 hm0 h00 hl0 hj0 hc0 hr0
theorem ZfV (h:Rel base σ0 X w0 σ M w a st) (id:Id) (c:C) (v:Value) (hc:RepC w M σ st.o c v):RepC w (less st σ M id) σ ((st.obj id none).mapC (st.coolC id)).o (st.coolC id c) v:=by
  have hk:=Zd3 id (st.coolC id) c v hc
  have h1:=hc.one
  have e:∀ z rows,st.o id=some (.row z rows)→st.coolC id=C.cool id z rows:=fun z rows ho=>by simp only[St.coolC,ho]
  have e2:∀ z rows,st.o id=some (.deep z rows)→st.coolC id=C.coolD id z rows:=fun z rows ho=>by simp only[St.coolC,ho]
  cases ho:st.o id with
  | none => have:st.coolC id=C.kill id:=by simp only[St.coolC,ho]
            rw [this] at hk ⊢; exact hk
  | some x=>
    cases x with
    | box cs => have:st.coolC id=C.kill id:=by simp only[St.coolC,ho]
                rw [this] at hk ⊢; exact hk
    | row z rows=>
      rw [e z rows ho] at hk ⊢
      cases c with
      | own i n=>
        simp only[C.cool]
        simp only[C.kill] at hk
        by_cases ei:i=id
        · subst ei; rw [if_pos rfl]; exact ZcD h (fun b hb=>hb.1) hc ho (fun L hL hl=>hl.2 (by rw [ho]; rfl) L hL L.has_g)
        · rw [if_neg ei] at hk ⊢; exact hk
      | _=>exact hk
    | deep z rows=>
      rw [e2 z rows ho] at hk ⊢
      cases c with
      | down i n=>
        simp only[C.coolD]
        simp only[C.kill] at hk
        by_cases ei:i=id
        · subst ei; rw [if_pos rfl]; exact ZdW h hc ho (fun L b hL hb hl=>hl.2 (by rw [ho]; rfl) L hL hb)
        · rw [if_neg ei] at hk ⊢; exact hk
      | sub i a b n=>
        simp only[C.coolD]
        simp only[C.kill] at hk
        by_cases ei:i=id
        · subst ei
          rw [if_pos rfl]
          split
          · rename_i x hx
            obtain ⟨L,hL,hO⟩:=ZfQ h hc ho hx
            exact ZbM hO (fun p K hp hl=>hl.2 (by rw [ho]; rfl) L hL (.inr ⟨_,K,hp,rfl⟩))
          · exact h1
        · rw [if_neg ei] at hk ⊢; exact hk
      | _=>exact hk
theorem Rel.cool (h:Rel base σ0 X w0 σ M w a st) (id:Id):Rel base σ0 X w0 σ (less st σ M id) w a (st.cool id):=h.forget id (st.coolC id) (fun c v hc=>ZfV h id c v hc)
theorem Zaj (id:Id):(st.cool id).o id=none:=by simp [St.cool,St.mapC,St.obj]
theorem ZaE (id:Id):(st.kill id).o id=none:=by simp [St.kill,St.mapC,St.obj]
theorem Zey {id i:Id} (h:i≠id):((st.cool id).o i).isSome=(st.o i).isSome:=by simp [St.cool,St.mapC,St.obj,h]
theorem Rel.coolAll:∀ (ids:List Id) {M:Nat→Prop} {st:St},Rel base σ0 X w0 σ M w a st→∃ M',Rel base σ0 X w0 σ M' w a (st.coolAll ids)∧(∀ b,M' b→M b)∧∀ id,id∈ids→(st.o id).isSome=true→∀ L b,σ id=some L→L.has b→¬M' b
 | [],M,_,h=>⟨M,h,fun _ h=>h,fun id hid=>by cases hid⟩
 | id::ids,M,st,h=>by
  obtain ⟨M',h1,h2,h3⟩:=Rel.coolAll ids (h.cool id)
  refine ⟨M',h1,fun b hb=>(h2 b hb).1,fun i hi hs L b hL hb hm=>?_⟩
  by_cases e:i=id
  ·subst e; exact (h2 _ hm).2 hs L hL hb
  ·rcases List.mem_cons.1 hi with e2|hi
   ·exact e e2
   ·exact h3 i hi (by rw [Zey e]; exact hs) L b hL hb hm
/-- A new object: in a new block, or without one. -/
theorem Rel.fresh (h:Rel base σ0 X w0 σ M w a st) {id:Id} (hloc:∀ j,id≠.par j) (hid:st.o id=none) {w':World} {x:Obj} {σ':Sig} {M':Nat→Prop}
    (hσ:∀ i,i≠id→σ' i=σ i) (hL:∀ L,σ' id=some L→w.heap.size≤L.g) (hlone:∀ L,σ' id=some L→L.lone) (hM:∀ b,M' b↔M b∨∃ L,σ' id=some L∧L.g=b)
    (hsz:w.heap.size≤w'.heap.size) (hsame:∀ b,b<w.heap.size→w'.heap[b]?=w.heap[b]?) (hos:w'.os=w.os) (ht:w'.tape=w.tape) (hout:w'.output=w.output)
    (hx:RepO w' M' σ' (st.obj id (some x)).o id x):Rel base σ0 X w0 σ' M' w' a (st.obj id (some x)):=by
  have k:Zaa w w' M M':=⟨hsz,fun b hb _=>hsame b hb,fun b hb hm=>by
    rcases (hM b).1 hm with h1|⟨L,h1,rfl⟩
    · exact h1
    · have:=hL L h1; omega⟩
  have hne:∀ i,(st.o i).isSome=true→i≠id:=fun i hi e=>by subst e; rw [hid] at hi; cases hi
  have ho':∀ i,i≠id→(st.obj id (some x)).o i=st.o i:=fun i e=>by simp [St.obj,e]
  have hnew:∀ L b,σ' id=some L→L.has b→w.heap.size≤b:=fun L b hl hb=>by rw [←(hlone L hl).has hb]; exact hL L hl
  have r:Refs σ σ' st.o (st.obj id (some x)).o:=⟨fun i hi L hl=>by rw [hσ i (hne i hi)]; exact hl,fun i z rows hi=>⟨z,rows,by rw [ho' i (hne i (by rw [hi]; rfl))]; exact hi,Nat.le_refl _⟩,fun i z rows hi=>⟨z,rows,by rw [ho' i (hne i (by rw [hi]; rfl))]; exact hi,Nat.le_refl _⟩,fun i hi=>by rw [ho' i (hne i hi)]; exact hi⟩
  have hold:∀ i L b,(st.o i).isSome=true→σ i=some L→L.has b→b<w.heap.size:=fun i L b hi hl hb=>h.ltM (h.inMb hi hl hb)
  refine ⟨fun t hlt=>(h.slot t hlt).keep k r,fun i y hy=>?_,fun i i' L L' b hi hi' hl hl' e e'=>?_,fun b hb=>?_,fun i L b hi hl hb=>?_,fun j=>by rw [hσ _ (fun e=>hloc j e.symm)]; exact h.par j,fun b hb=>⟨(hM b).2 (.inl (h.sup b hb).1),Nat.lt_of_lt_of_le (h.sup b hb).2 hsz⟩,hos.trans h.os,ht.trans h.tape,hout.trans h.output,Nat.le_trans h.size hsz,fun b hb hp=>(hsame b (Nat.lt_of_lt_of_le hb h.size)).trans (h.same b hb hp),fun i y L hy hd hl=>?_⟩
  · by_cases e:i=id
    · subst e
      have:y=x:=by simp [St.obj] at hy; exact hy.symm
      subst this; exact hx
    · rw [ho' i e] at hy
      refine (h.obj i y hy).keep k r hy (fun e2=>(hσ i e).trans e2) (fun L b hl hb=>⟨hsame _ (hold i L b (by rw [hy]; rfl) hl hb),(hM _).2 (.inl (h.inMb (by rw [hy]; rfl) hl hb))⟩)
  · by_cases e1:i=id
    · by_cases e2:i'=id
      · exact e1.trans e2.symm
      · rw [ho' i' e2] at hi'
        rw [hσ i' e2] at hl'
        subst e1
        have:=hnew L b hl e; have:=hold i' L' b hi' hl' e'; omega
    · by_cases e2:i'=id
      · rw [ho' i e1] at hi
        rw [hσ i e1] at hl
        subst e2
        have:=hnew L' b hl' e'; have:=hold i L b hi hl e; omega
      · rw [ho' i e1] at hi
        rw [ho' i' e2] at hi'
        rw [hσ i e1] at hl
        rw [hσ i' e2] at hl'
        exact h.inj i i' L L' b hi hi' hl hl' e e'
  · rcases (hM b).1 hb with h1|⟨L,h1,e⟩
    · rcases h.live b h1 with hX|⟨i,L,hi,hl,e⟩
      · exact .inl hX
      exact .inr ⟨i,L,by rw [ho' i (hne i hi)]; exact hi,by rw [hσ i (hne i hi)]; exact hl,e⟩
    · exact .inr ⟨id,L,by simp [St.obj],h1,.inl e⟩
  · by_cases e:i=id
    · subst e; have:=hnew L b hl hb; exact ⟨fun hX=>by have:=(h.sup _ hX).2; omega,.inl (Nat.le_trans h.size this)⟩
    · rw [ho' i e] at hi
      rw [hσ i e] at hl
      exact h.mine i L b hi hl hb
  · by_cases e:i=id
    · subst e; exact hlone L hl
    · rw [ho' i e] at hy
      rw [hσ i e] at hl
      exact h.lone i y L hy hd hl
/-- An object is written. -/
theorem Rel.rewrite (h:Rel base σ0 X w0 σ M w a st) {id:Id} {old x:Obj} {L:Loc} (hid:st.o id=some old) (hL:σ id=some L) {w':World}
    (hrow:∀ z rows,old=.row z rows→∃ z' rows',x=.row z' rows'∧rows.length≤rows'.length) (hdeep:∀ z rows,old=.deep z rows→∃ z' rows',x=.deep z' rows'∧rows.length≤rows'.length) (hkind:x.isDeep=old.isDeep)
    (hsz:w.heap.size=w'.heap.size) (hsame:∀ b,¬L.has b→w'.heap[b]?=w.heap[b]?) (hos:w'.os=w.os) (ht:w'.tape=w.tape) (hout:w'.output=w.output)
    (hx:RepO w' M σ (st.obj id (some x)).o id x):Rel base σ0 X w0 σ M w' a (st.obj id (some x)):=by
  have hMg:∀ b,L.has b→M b:=fun b hb=>h.inMb (by rw [hid]; rfl) hL hb
  have k:Zaa w w' M M:=⟨Nat.le_of_eq hsz,fun b hb hm=>hsame b (fun e=>hm (hMg b e)),fun b hb hm=>hm⟩
  have ho':∀ i,i≠id→(st.obj id (some x)).o i=st.o i:=fun i e=>by simp [St.obj,e]
  have hoid:(st.obj id (some x)).o id=some x:=by simp [St.obj]
  have hsome:∀ i,((st.obj id (some x)).o i).isSome=(st.o i).isSome:=fun i=>by
    by_cases e:i=id
    · subst e; rw [hoid,hid]; rfl
    · rw [ho' i e]
  have r:Refs σ σ st.o (st.obj id (some x)).o:=by
    refine ⟨fun i hi L hl=>hl,fun i z rows hi=>?_,fun i z rows hi=>?_,fun i hi=>by rw [hsome]; exact hi⟩
    · by_cases e:i=id
      · subst e
        rw [hid] at hi; cases hi
        obtain ⟨z',rows',h1,h2⟩:=hrow z rows rfl
        exact ⟨z',rows',by rw [hoid,h1],h2⟩
      · exact ⟨z,rows,by rw [ho' i e]; exact hi,Nat.le_refl _⟩
    · by_cases e:i=id
      · subst e
        rw [hid] at hi; cases hi
        obtain ⟨z',rows',h1,h2⟩:=hdeep z rows rfl
        exact ⟨z',rows',by rw [hoid,h1],h2⟩
      · exact ⟨z,rows,by rw [ho' i e]; exact hi,Nat.le_refl _⟩
  refine ⟨fun t hlt=>(h.slot t hlt).keep k r,fun i y hy=>?_,fun i i' L L' b hi hi'=>h.inj i i' L L' b (by rw [←hsome]; exact hi) (by rw [←hsome]; exact hi'),fun b hb=>?_,fun i L b hi hl=>h.mine i L b (by rw [←hsome]; exact hi) hl,h.par,fun b hb=>⟨(h.sup b hb).1,by rw [←hsz]; exact (h.sup b hb).2⟩,hos.trans h.os,ht.trans h.tape,hout.trans h.output,by rw [←hsz]; exact h.size,fun b hb hp=>?_,fun i y L' hy hd hl=>?_⟩
  · by_cases e:i=id
    · subst e
      rw [hoid] at hy; cases hy; exact hx
    · rw [ho' i e] at hy
      refine (h.obj i y hy).keep k r hy (fun e2=>e2) (fun L' b hl hb=>⟨hsame _ (fun e2=>e (h.inj i id L' L b (by rw [hy]; rfl) (by rw [hid]; rfl) hl hL hb e2)),h.inMb (by rw [hy]; rfl) hl hb⟩)
  · rcases h.live b hb with hX|⟨i,L',hi,hl,e⟩
    · exact .inl hX
    exact .inr ⟨i,L',by rw [hsome]; exact hi,hl,e⟩
  · refine (hsame b (fun e=>?_)).trans (h.same b hb hp)
    rcases (h.mine id L b (by rw [hid]; rfl) hL e).2 with h1|⟨j,L0,h1,h2⟩
    · omega
    · exact hp j L0 h1 h2
  · by_cases e:i=id
    · subst e
      rw [hoid] at hy; cases hy
      exact h.lone i old L' hid (by rw [←hkind]; exact hd) hl
    · rw [ho' i e] at hy
      exact h.lone i y L' hy hd hl
/-- References are forgotten; the objects stay. -/
theorem Rel.weak (h:Rel base σ0 X w0 σ M w a st) (f:C→C) (hf:∀ c v,RepC w M σ st.o c v→RepC w M σ (st.mapC f).o (f c) v):Rel base σ0 X w0 σ M w a (st.mapC f):=by
 have hs:∀ i,((st.mapC f).o i).isSome=(st.o i).isSome:=fun i=>by simp [St.mapC]
 refine ⟨fun t ht=>RepD.mapC hf (fun _ h=>h) (h.slot t ht),fun i x hx=>?_,fun i i' L L' b hi hi'=>h.inj i i' L L' b (by rw [←hs]; exact hi) (by rw [←hs]; exact hi'),fun b hb=>?_,fun i L b hi=>h.mine i L b (by rw [←hs]; exact hi),h.par,h.sup,h.os,h.tape,h.output,h.size,h.same,fun i x L hx hd hl=>?_⟩
 ·simp only[St.mapC] at hx
  obtain ⟨x0,hx0,rfl⟩:=Option.map_eq_some_iff.1 hx
  have hr:=h.obj i x0 hx0
  cases x0 with
  | box cs=>
   obtain ⟨L,cur,hL,hm,hh,hsz,hc⟩:=hr
   refine ⟨L,cur,hL,hm,hh,by rw [List.length_map]; exact hsz,fun j c hj=>?_⟩
   rw [List.getElem?_map] at hj
   obtain ⟨c0,hc0,rfl⟩:=Option.map_eq_some_iff.1 hj
   obtain ⟨y,hy,hr⟩:=hc j c0 hc0
   exact ⟨y,hy,hf c0 y hr⟩
  | row z rows=>exact hr
  | deep z rows=>exact hr
 ·rcases h.live b hb with hX|⟨i,L,hi,hL,e⟩
  ·exact .inl hX
  exact .inr ⟨i,L,by rw [hs]; exact hi,hL,e⟩
 ·simp only[St.mapC] at hx
  obtain ⟨x0,hx0,rfl⟩:=Option.map_eq_some_iff.1 hx
  exact h.lone i x0 L hx0 (by cases x0<;>first|rfl|exact hd) hl
/-- References to an object are forgotten; the object is seen as another one. -/
theorem Rel.weakTo (h:Rel base σ0 X w0 σ M w a st) {id:Id} {y x:Obj} (hid:st.o id=some y) (hkind:x.isDeep=y.isDeep) (hx:RepO w M σ ((st.mapC (C.kill id)).obj id (some x)).o id x):Rel base σ0 X w0 σ M w a ((st.mapC (C.kill id)).obj id (some x)):=by
  have hne:∀ i,i≠id→((st.mapC (C.kill id)).obj id (some x)).o i=(st.o i).map (Obj.mapC (C.kill id)):=fun i e=>by simp [St.obj,St.mapC,e]
  have hoid:((st.mapC (C.kill id)).obj id (some x)).o id=some x:=by simp [St.obj]
  have hs:∀ i,(((st.mapC (C.kill id)).obj id (some x)).o i).isSome=(st.o i).isSome:=fun i=>by
    by_cases e:i=id
    · subst e; rw [hoid,hid]; rfl
    · rw [hne i e]; simp
  have hf:∀ c v,RepC w M σ st.o c v→RepC w M σ ((st.mapC (C.kill id)).obj id (some x)).o (C.kill id c) v:=by
    intro c v hc
    have h1:=hc.one
    cases c with
    | u u=>exact hc
    | own i n=>
      simp only[C.kill]
      split
      · exact h1
      · rename_i e
        obtain ⟨z,rows,ho,hn,hv⟩:=hc
        exact ⟨z,rows,by rw [hne i e,ho]; rfl,hn,hv⟩
    | ptr i p q=>
      simp only[C.kill]
      split
      · exact h1
      · rename_i e
        obtain ⟨L,ho,hL,hv⟩:=hc
        exact ⟨L,by rw [hs]; exact ho,hL,hv⟩
    | bad=>exact h1
    | down i n=>
      simp only[C.kill]
      split
      · exact h1
      · rename_i e
        obtain ⟨z,rows,ho,hn,hv⟩:=hc
        exact ⟨z,rows,by rw [hne i e,ho]; rfl,hn,hv⟩
    | sub i a b n=>
      simp only[C.kill]
      split
      · exact h1
      · rename_i e
        obtain ⟨z,rows,L,ho,hL,hv⟩:=hc
        exact ⟨z,rows,L,by rw [hne i e,ho]; rfl,hL,hv⟩
  refine ⟨fun t ht=>RepD.mapC hf (fun _ h=>h) (h.slot t ht),fun i u hu=>?_,fun i i' L L' b hi hi'=>h.inj i i' L L' b (by rw [←hs]; exact hi) (by rw [←hs]; exact hi'),fun b hb=>?_,fun i L b hi=>h.mine i L b (by rw [←hs]; exact hi),h.par,h.sup,h.os,h.tape,h.output,h.size,h.same,fun i x' L hx hd hl=>?_⟩
  · by_cases e:i=id
    · subst e
      rw [hoid] at hu; cases hu; exact hx
    · rw [hne i e] at hu
      obtain ⟨x0,hx0,rfl⟩:=Option.map_eq_some_iff.1 hu
      have hr:=h.obj i x0 hx0
      cases x0 with
      | box cs=>
        obtain ⟨L,cur,hL,hm,hh,hsz,hc⟩:=hr
        refine ⟨L,cur,hL,hm,hh,by rw [List.length_map]; exact hsz,fun j c hj=>?_⟩
        rw [List.getElem?_map] at hj
        obtain ⟨c0,hc0,rfl⟩:=Option.map_eq_some_iff.1 hj
        obtain ⟨y,hy,hr⟩:=hc j c0 hc0
        exact ⟨y,hy,hf c0 y hr⟩
      | row z rows=>exact hr
      | deep z rows=>exact hr
  · rcases h.live b hb with hX|⟨i,L,hi,hL,e⟩
    · exact .inl hX
    exact .inr ⟨i,L,by rw [hs]; exact hi,hL,e⟩
  · by_cases e:i=id
    · subst e
      rw [hoid] at hx; cases hx
      exact h.lone i y L hid (by rw [←hkind]; exact hd) hl
    · rw [hne i e] at hx
      obtain ⟨x0,hx0,rfl⟩:=Option.map_eq_some_iff.1 hx
      exact h.lone i x0 L hx0 (by cases x0<;>first|rfl|exact hd) hl
theorem Zd5 (id:Id) (c:C) (v:Value) (h:RepC w M σ st.o c v):RepC w M σ (st.mapC (C.kill id)).o (C.kill id c) v:=by
 have h1:=h.one
 have r:Refs σ σ st.o (st.mapC (C.kill id)).o:=⟨fun _ _ _ h=>h,fun i z rows hi=>⟨z,rows,by simp [St.mapC,hi,Obj.mapC],Nat.le_refl _⟩,fun i z rows hi=>⟨z,rows,by simp [St.mapC,hi,Obj.mapC],Nat.le_refl _⟩,fun i hi=>by simpa [St.mapC] using hi⟩
 have k:Zaa w w M M:=⟨Nat.le_refl _,fun _ _ _=>rfl,fun _ _ h=>h⟩
 have hk:=h.keep k r
 cases c with
 | own i n=>
  simp only[C.kill]
  split
  ·exact h1
  ·exact hk
 | ptr i a b=>
  simp only[C.kill]
  split
  ·exact h1
  ·exact hk
 | down i n=>
  simp only[C.kill]
  split
  ·exact h1
  ·exact hk
 | sub i a b n=>
  simp only[C.kill]
  split
  ·exact h1
  ·exact hk
 | _=>exact hk
end Go.Proofs.YtfajcehhcjmofaaV
