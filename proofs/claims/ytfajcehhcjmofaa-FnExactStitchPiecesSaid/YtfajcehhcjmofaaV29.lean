/- Objects that are gathered into deep rows: reserved, gathered, grown. No conditions but those that the lemmas state. -/
import Derived.Test.YtfajcehhcjmofaaV20
namespace Go.Proofs.YtfajcehhcjmofaaV
open Go Go.RowKit
set_option linter.unusedVariables false
set_option linter.unusedSimpArgs false
variable {base:Nat} {σ0:Sig} {X X1:Nat→Prop} {w0 w w':World} {σ σ':Sig} {M M':Nat→Prop} {a:Act} {st st':St} {P:Program} {n:Nat} {o:Oper} {E:Zb}
variable {ob:Id→Option Obj}
def Zae (st:St) (σ:Sig) (id:Id) (b:Nat):Prop:=(st.o id).isSome=true∧∃ L,σ id=some L∧L.has b
/-- An object's references are forgotten; its blocks are reserved. -/
theorem Rel.reserve (h:Rel base σ0 X w0 σ M w a st) (id:Id):Rel base σ0 (fun b=>X b∨Zae st σ id b) w0 σ M w a (st.kill id):=by
  have hk:=h.kill id
  have k:Zaa w w (less st σ M id) M→True:=fun _=>trivial
  have hsome:∀ i,i≠id→((st.kill id).o i).isSome=(st.o i).isSome:=fun i e=>by simp [St.kill,St.mapC,St.obj,e]
  have hne:∀ i,((st.kill id).o i).isSome=true→i≠id:=fun i hi e=>by subst e; rw [ZaE] at hi; cases hi
  have hf:∀ c v,RepC w M σ st.o c v→RepC w M σ (st.kill id).o (C.kill id c) v:=by
    intro c v hc
    have h1:=hc.one
    have hrow:∀ i z rows,i≠id→st.o i=some (.row z rows)→(st.kill id).o i=some (.row z rows):=fun i z rows e ho=>by simp [St.kill,St.mapC,St.obj,e,ho,Obj.mapC]
    have hdeep:∀ i z rows,i≠id→st.o i=some (.deep z rows)→(st.kill id).o i=some (.deep z rows):=fun i z rows e ho=>by simp [St.kill,St.mapC,St.obj,e,ho,Obj.mapC]
    cases c with
    | u x=>exact hc
    | own i n=>
      simp only[C.kill]
      split
      · exact h1
      · rename_i e
        obtain ⟨z,rows,ho,hn,hv⟩:=hc
        exact ⟨z,rows,hrow i z rows e ho,hn,hv⟩
    | ptr i p q=>
      simp only[C.kill]
      split
      · exact h1
      · rename_i e
        obtain ⟨L,ho,hL,hv⟩:=hc
        exact ⟨L,by rw [hsome i e]; exact ho,hL,hv⟩
    | bad=>exact h1
    | down i n=>
      simp only[C.kill]
      split
      · exact h1
      · rename_i e
        obtain ⟨z,rows,ho,hn,hv⟩:=hc
        exact ⟨z,rows,hdeep i z rows e ho,hn,hv⟩
    | sub i p q n=>
      simp only[C.kill]
      split
      · exact h1
      · rename_i e
        obtain ⟨z,rows,L,ho,hL,hv⟩:=hc
        exact ⟨z,rows,L,hdeep i z rows e ho,hL,hv⟩
  refine ⟨fun t ht=>RepD.mapC hf (fun _ h=>h) (h.slot t ht),fun i x hx=>?_,fun i i' L L' b hi hi'=>h.inj i i' L L' b (by rw [←hsome i (hne i hi)]; exact hi) (by rw [←hsome i' (hne i' hi')]; exact hi'),fun b hb=>?_,fun i L b hi hL hb=>?_,h.par,fun b hb=>?_,h.os,h.tape,h.output,h.size,h.same,hk.lone⟩
  · have e:=hne i (by rw [hx]; rfl)
    simp only[St.kill,St.mapC,St.obj,if_neg e] at hx
    obtain ⟨x0,hx0,rfl⟩:=Option.map_eq_some_iff.1 hx
    have hr:=h.obj i x0 hx0
    cases x0 with
    | box cs=>
      obtain ⟨L,cur,hL,hm,hh,hsz,hc⟩:=hr
      refine ⟨L,cur,hL,hm,hh,by rw [List.length_map]; exact hsz,fun j c hj=>?_⟩
      rw [List.getElem?_map] at hj
      obtain ⟨c0,hc0,rfl⟩:=Option.map_eq_some_iff.1 hj
      obtain ⟨y,hy,hr⟩:=hc j c0 hc0
      exact ⟨y,hy,hf c0 y hr⟩
    | row z rows=>exact hr
    | deep z rows=>exact hr
  · rcases h.live b hb with hX|⟨i,L,hi,hL,hb2⟩
    · exact .inl (.inl hX)
    · by_cases e:i=id
      · subst e; exact .inl (.inr ⟨hi,L,hL,hb2⟩)
      · exact .inr ⟨i,L,by rw [hsome i e]; exact hi,hL,hb2⟩
  · have e:=hne i hi
    have hi':(st.o i).isSome=true:=by rw [←hsome i e]; exact hi
    refine ⟨fun hx=>?_,(h.mine i L b hi' hL hb).2⟩
    rcases hx with hX|⟨h1,L',hL',hb'⟩
    · exact (h.mine i L b hi' hL hb).1 hX
    · exact e (h.inj i id L L' b hi' h1 hL hL' hb hb')
  · rcases hb with hX|⟨h1,L,hL,hb⟩
    · exact h.sup b hX
    · exact ⟨h.inMb h1 hL hb,h.ltM (h.inMb h1 hL hb)⟩
theorem ZcN:∀ (ids:List Id) (st:St) (i:Id),((st.killAll ids).o i).isSome=true→i∉ids∧(st.o i).isSome=true
 | [],st,i,h=>⟨by simp,h⟩
 | id::ids,st,i,h=>by
  obtain ⟨h1,h2⟩:=ZcN ids (st.kill id) i h
  have e:i≠id:=fun e=>by subst e; rw [ZaE] at h2; cases h2
  refine ⟨by simp [e,h1],?_⟩
  simpa [St.kill,St.mapC,St.obj,e] using h2
theorem Zcv:∀ (ids:List Id) (st:St) (i:Id),i∉ids→(∀ z r,st.o i=some (.row z r)→(st.killAll ids).o i=some (.row z r))∧(∀ z r,st.o i=some (.deep z r)→(st.killAll ids).o i=some (.deep z r))∧(st.o i=none→(st.killAll ids).o i=none)
 | [],st,i,_=>⟨fun _ _ h=>h,fun _ _ h=>h,fun h=>h⟩
 | id::ids,st,i,h=>by
  simp only[List.mem_cons,not_or] at h
  obtain ⟨h1,h2,h3⟩:=Zcv ids (st.kill id) i h.2
  refine ⟨fun z r ho=>h1 z r ?_,fun z r ho=>h2 z r ?_,fun ho=>h3 ?_⟩<;>simp [St.kill,St.mapC,St.obj,h.1,ho,Obj.mapC]
theorem Rel.reserveAll:∀ (ids:List Id) {X:Nat→Prop} {st:St},Rel base σ0 X w0 σ M w a st→∃ X1,Rel base σ0 X1 w0 σ M w a (st.killAll ids)∧(∀ b,X b→X1 b)∧∀ id b,id∈ids→Zae st σ id b→X1 b
 | [],X,st,h=>⟨X,h,fun _ h=>h,fun id b hid=>by cases hid⟩
 | id::ids,X,st,h=>by
  obtain ⟨X1,h1,h2,h3⟩:=Rel.reserveAll ids (h.reserve id)
  refine ⟨X1,h1,fun b hb=>h2 b (.inl hb),fun i b hi hb=>?_⟩
  by_cases e:i=id
  ·subst e; exact h2 b (.inr hb)
  ·rcases List.mem_cons.1 hi with e2|hi
   ·exact absurd e2 e
   ·refine h3 i b hi ⟨?_,hb.2⟩
    simpa [St.kill,St.mapC,St.obj,e] using hb.1
/-- A new object out of blocks that were reserved, or a new one. -/
theorem Rel.gather (h:Rel base σ0 X1 w0 σ M w a st) {id:Id} (hloc:∀ j,id≠.par j) (hid:st.o id=none) {x:Obj} {L:Loc} (hX:∀ b,X b→X1 b) (hlone:x.isDeep=false→L.lone)
    (hL:∀ b,L.has b→(X1 b∨w.heap.size≤b)∧b<w'.heap.size∧¬X b∧From base σ0 b) (hsz:w.heap.size≤w'.heap.size) (hsame:∀ b,b<w.heap.size→b≠L.g→w'.heap[b]?=w.heap[b]?) (hos:w'.os=w.os) (ht:w'.tape=w.tape) (hout:w'.output=w.output)
    (hx:∀ M':Nat→Prop,(∀ b,b<w.heap.size→M' b→M b)→(∀ b,L.has b→M' b)→RepO w' M' (upd σ id (some L)) (st.obj id (some x)).o id x) :
    ∃ M',Rel base σ0 X w0 (upd σ id (some L)) M' w' a (st.obj id (some x))∧(∀ b,b<w.heap.size→M' b→M b)∧∀ b,L.has b→M' b:=by
  have hne:∀ i,(st.o i).isSome=true→i≠id:=fun i hi e=>by subst e; rw [hid] at hi; cases hi
  have ho':∀ i,i≠id→(st.obj id (some x)).o i=st.o i:=fun i e=>by simp [St.obj,e]
  have hoid:(st.obj id (some x)).o id=some x:=by simp [St.obj]
  let M':Nat→Prop:=fun b=>(M b∨L.has b)∧(X b∨∃ i Li,((st.obj id (some x)).o i).isSome=true∧upd σ id (some L) i=some Li∧Li.has b)
  have hLM:∀ b,L.has b→M' b:=fun b hb=>⟨.inr hb,.inr ⟨id,L,by rw [hoid]; rfl,Zd ..,hb⟩⟩
  have hlow:∀ b,b<w.heap.size→M' b→M b:=fun b hb hm=>hm.1.elim (fun h=>h) (fun hh=>((hL b hh).1.elim (fun hx1=>(h.sup b hx1).1) (fun h2=>by omega)))
  have k:Zaa w w' M M':=⟨hsz,fun b hb hm=>hsame b hb (fun e=>by
    have:=(hL b (e▸L.has_g)).1
    rcases this with h1|h1
    · exact hm (h.sup b h1).1
    · omega),hlow⟩
  have hxid:∀ i Li b,(st.o i).isSome=true→σ i=some Li→Li.has b→¬X1 b:=fun i Li b hi hl hb=>(h.mine i Li b hi hl hb).1
  have r:Refs σ (upd σ id (some L)) st.o (st.obj id (some x)).o:=Zcc hid _ _
  refine ⟨M',⟨fun t hlt=>(h.slot t hlt).keep k r,fun i y hy=>?_,fun i i' L1 L2 b hi hi' hl hl' e e'=>?_,fun b hb=>?_,fun i L1 b hi hl hb=>?_,fun j=>by rw [Zn σ _ (fun e=>hloc j e.symm)]; exact h.par j,fun b hb=>?_,hos.trans h.os,ht.trans h.tape,hout.trans h.output,Nat.le_trans h.size hsz,fun b hb hp=>?_,fun i y L1 hy hd hl=>?_⟩,hlow,hLM⟩
  · by_cases e:i=id
    · subst e
      rw [hoid] at hy; cases hy
      exact hx M' hlow hLM
    · rw [ho' i e] at hy
      have hi:(st.o i).isSome=true:=by rw [hy]; rfl
      refine (h.obj i y hy).keep k r hy (fun e2=>(Zn σ _ e).trans e2) (fun Li b hl hb=>⟨hsame b (h.ltM (h.inMb hi hl hb)) (fun e2=>?_),.inl (h.inMb hi hl hb),.inr ⟨i,Li,by rw [ho' i e]; exact hi,(Zn σ _ e).trans hl,hb⟩⟩)
      rcases (hL b (e2▸L.has_g)).1 with h1|h1
      · exact hxid i Li b hi hl hb h1
      · have:=h.ltM (h.inMb hi hl hb); omega
  · have hcl:∀ i L1,i≠id→((st.obj id (some x)).o i).isSome=true→upd σ id (some L) i=some L1→L1.has b→¬L.has b:=by
      intro i L1 e hi hl hb hb2
      rw [ho' i e] at hi
      rw [Zn σ _ e] at hl
      rcases (hL b hb2).1 with h1|h1
      · exact hxid i L1 b hi hl hb h1
      · have:=h.ltM (h.inMb hi hl hb); omega
    by_cases e1:i=id
    · by_cases e2:i'=id
      · exact e1.trans e2.symm
      · subst e1
        rw [Zd] at hl; cases hl
        exact absurd e (hcl i' L2 e2 hi' hl' e')
    · by_cases e2:i'=id
      · subst e2
        rw [Zd] at hl'; cases hl'
        exact absurd e' (hcl i L1 e1 hi hl e)
      · rw [ho' i e1] at hi
        rw [ho' i' e2] at hi'
        rw [Zn σ _ e1] at hl
        rw [Zn σ _ e2] at hl'
        exact h.inj i i' L1 L2 b hi hi' hl hl' e e'
  · exact hb.2
  · by_cases e:i=id
    · subst e
      rw [Zd] at hl; cases hl
      exact ⟨(hL b hb).2.2.1,(hL b hb).2.2.2⟩
    · rw [ho' i e] at hi
      rw [Zn σ _ e] at hl
      exact ⟨fun hX'=>(h.mine i L1 b hi hl hb).1 (hX b hX'),(h.mine i L1 b hi hl hb).2⟩
  · have:=h.sup b (hX b hb)
    exact ⟨⟨.inl this.1,.inl hb⟩,Nat.lt_of_lt_of_le this.2 hsz⟩
  · refine (hsame b (Nat.lt_of_lt_of_le hb h.size) (fun e=>?_)).trans (h.same b hb hp)
    rcases (hL b (e▸L.has_g)).2.2.2 with h1|⟨j,L0,h1,h2⟩
    · omega
    · exact hp j L0 h1 h2
  · by_cases e:i=id
    · subst e
      rw [Zd] at hl; cases hl
      rw [hoid] at hy; cases hy
      exact hlone hd
    · rw [ho' i e] at hy
      rw [Zn σ _ e] at hl
      exact h.lone i y L1 hy hd hl
/-- A deep row takes slices in. -/
theorem Rel.regrow (h:Rel base σ0 X1 w0 σ M w a st) {id:Id} (hloc:∀ j,id≠.par j) {z:Nat} {rows rows':List (List U)} (hid:st.o id=some (.deep z rows)) {L L':Loc} (hL:σ id=some L) (hg:L'.g=L.g) (hcap:L'.cap=L.cap) (hszL:L'.sz=L.sz) (hlen:rows.length≤rows'.length)
    (hX:∀ b,X b→X1 b) (hb:∀ b,L'.has b→(L.has b∨X1 b)∧¬X b∧From base σ0 b) (hsz:w.heap.size=w'.heap.size) (hsame:∀ b,b≠L.g→w'.heap[b]?=w.heap[b]?) (hos:w'.os=w.os) (ht:w'.tape=w.tape) (hout:w'.output=w.output)
    (hx:∀ M':Nat→Prop,(∀ b,M' b→M b)→(∀ b,L'.has b→M' b)→RepO w' M' (upd σ id (some L')) ((st.mapC (C.unsub id)).obj id (some (.deep z rows'))).o id (.deep z rows')) :
    ∃ M',Rel base σ0 X w0 (upd σ id (some L')) M' w' a ((st.mapC (C.unsub id)).obj id (some (.deep z rows'))):=by
  have hidS:(st.o id).isSome=true:=by rw [hid]; rfl
  have ho':∀ i,i≠id→((st.mapC (C.unsub id)).obj id (some (.deep z rows'))).o i=(st.o i).map (Obj.mapC (C.unsub id)):=fun i e=>by simp [St.obj,St.mapC,e]
  have hoid:((st.mapC (C.unsub id)).obj id (some (.deep z rows'))).o id=some (.deep z rows'):=by simp [St.obj]
  have hsome:∀ i,(((st.mapC (C.unsub id)).obj id (some (.deep z rows'))).o i).isSome=(st.o i).isSome:=fun i=>by
    by_cases e:i=id
    · subst e; rw [hoid,hid]; rfl
    · rw [ho' i e]; simp
  let M':Nat→Prop:=fun b=>M b∧(X b∨∃ i Li,(st.o i).isSome=true∧upd σ id (some L') i=some Li∧Li.has b)
  have hLM0:∀ b,L'.has b→M b:=fun b hb'=>(hb b hb').1.elim (fun h1=>h.inMb hidS hL h1) (fun h1=>(h.sup b h1).1)
  have hLM:∀ b,L'.has b→M' b:=fun b hb'=>⟨hLM0 b hb',.inr ⟨id,L',hidS,Zd ..,hb'⟩⟩
  have k:Zaa w w' M M':=⟨Nat.le_of_eq hsz,fun b _ hm=>hsame b (fun e=>hm (e▸h.inM hidS hL)),fun b _ hm=>hm.1⟩
  have hf : ∀ c v,RepC w M σ st.o c v→RepC w' M' (upd σ id (some L')) ((st.mapC (C.unsub id)).obj id (some (.deep z rows'))).o (C.unsub id c) v:=by
    intro c v hc
    have h1:=hc.one
    cases c with
    | u x=>exact RepU.keep k hc
    | own i n=>
      obtain ⟨z1,r1,ho,hn,hv⟩:=hc
      have e:i≠id:=fun e=>by subst e; rw [hid] at ho; cases ho
      refine ⟨z1,r1,by rw [ho' i e,ho]; rfl,hn,?_⟩
      rw [Zn σ _ e]; exact hv
    | ptr i p q=>
      obtain ⟨L1,ho,hL1,hv⟩:=hc
      by_cases e:i=id
      · subst e
        rw [hL] at hL1; cases hL1
        exact ⟨L',by rw [hoid]; rfl,Zd ..,by rw [hg,hszL]; exact hv⟩
      · exact ⟨L1,by rw [hsome]; exact ho,by rw [Zn σ _ e]; exact hL1,hv⟩
    | bad=>exact h1
    | down i n=>
      obtain ⟨z1,r1,ho,hn,hv⟩:=hc
      by_cases e:i=id
      · subst e
        rw [hid] at ho; cases ho
        refine ⟨z,rows',hoid,Nat.le_trans hn hlen,?_⟩
        rcases hv with hv|⟨L1,hL1,hv⟩
        · exact .inl hv
        · rw [hL] at hL1; cases hL1
          exact .inr ⟨L',Zd ..,by rw [hg,hcap]; exact hv⟩
      · refine ⟨z1,r1,by rw [ho' i e,ho]; rfl,hn,?_⟩
        rw [Zn σ _ e]; exact hv
    | sub i p q n=>
      simp only[C.unsub]
      split
      · exact h1
      · rename_i e
        obtain ⟨z1,r1,L1,ho,hL1,hv⟩:=hc
        exact ⟨z1,r1,L1,by rw [ho' i e,ho]; rfl,by rw [Zn σ _ e]; exact hL1,hv⟩
  have hcl:∀ i Li b,i≠id→(st.o i).isSome=true→σ i=some Li→Li.has b→¬L'.has b:=by
    intro i Li b e hi hl hb1 hb2
    rcases (hb b hb2).1 with h1|h1
    · exact e (h.inj i id Li L b hi hidS hl hL hb1 h1)
    · exact (h.mine i Li b hi hl hb1).1 h1
  refine ⟨M',⟨fun t hlt=>RepD.mapC' hf k (h.slot t hlt),fun i y hy=>?_,fun i i' L1 L2 b hi hi' hl hl' e e'=>?_,fun b hb'=>?_,fun i L1 b hi hl hb1=>?_,fun j=>by rw [Zn σ _ (fun e=>hloc j e.symm)]; exact h.par j,fun b hb'=>?_,hos.trans h.os,ht.trans h.tape,hout.trans h.output,by rw [←hsz]; exact h.size,fun b hb' hp=>?_,fun i y L1 hy hd hl=>?_⟩⟩
  · by_cases e:i=id
    · subst e
      rw [hoid] at hy; cases hy
      exact hx M' (fun b hm=>hm.1) hLM
    · rw [ho' i e] at hy
      obtain ⟨x0,hx0,rfl⟩:=Option.map_eq_some_iff.1 hy
      have hi:(st.o i).isSome=true:=by rw [hx0]; rfl
      have hr:=h.obj i x0 hx0
      have hacc:∀ Li b,σ i=some Li→Li.has b→w'.heap[b]?=w.heap[b]?∧M' b:=fun Li b hl hb1=>
        ⟨hsame b (fun e2=>hcl i Li b e hi hl hb1 (.inl (hg.trans e2.symm))),h.inMb hi hl hb1,.inr ⟨i,Li,hi,by rw [Zn σ _ e]; exact hl,hb1⟩⟩
      cases x0 with
      | box cs=>
        obtain ⟨L1,cur,hl,hm,hh,hs,hc⟩:=hr
        refine ⟨L1,cur,by rw [Zn σ _ e]; exact hl,(hacc L1 _ hl L1.has_g).2,(hacc L1 _ hl L1.has_g).1.trans hh,by rw [List.length_map]; exact hs,fun j c hj=>?_⟩
        rw [List.getElem?_map] at hj
        obtain ⟨c0,hc0,rfl⟩:=Option.map_eq_some_iff.1 hj
        obtain ⟨y,hy,hr⟩:=hc j c0 hc0
        exact ⟨y,hy,hf c0 y hr⟩
      | row z1 r1=>
        rcases hr with ⟨h1,h2⟩|⟨L1,cur,hl,hz,hm,hh,hs,hn,hcm,h0,hall,hc⟩
        · exact .inl ⟨h1,by rw [Zn σ _ e]; exact h2⟩
        · refine .inr ⟨L1,cur,by rw [Zn σ _ e]; exact hl,hz,(hacc L1 _ hl L1.has_g).2,(hacc L1 _ hl L1.has_g).1.trans hh,hs,hn,hcm,h0,hall,fun i j row x hi hj=>?_⟩
          obtain ⟨y,hy,hr⟩:=hc i j row x hi hj
          exact ⟨y,hy,hr.keep k⟩
      | deep z1 r1=>
        rcases hr with ⟨h1,h2⟩|⟨L1,cur,hl,hz,hm,hh,hs,hn,hcm,h0,hall,hc,hk⟩
        · exact .inl ⟨h1,by rw [Zn σ _ e]; exact h2⟩
        · refine .inr ⟨L1,cur,by rw [Zn σ _ e]; exact hl,hz,(hacc L1 _ hl L1.has_g).2,(hacc L1 _ hl L1.has_g).1.trans hh,hs,hn,hcm,h0,hall,fun i j row x hi hj=>?_,⟨hk.nil,hk.at_,fun p K hp=>(hacc L1 _ hl (.inr ⟨p,K,hp,rfl⟩)).2,hk.ne,hk.inj⟩⟩
          obtain ⟨y,hy,hr⟩:=hc i j row x hi hj
          exact ⟨y,hy,hr.keep (fun p K hp=>(hacc L1 _ hl (.inr ⟨_,K,hp,rfl⟩)).1)⟩
  · rw [hsome] at hi hi'
    by_cases e1:i=id
    · by_cases e2:i'=id
      · exact e1.trans e2.symm
      · subst e1
        rw [Zd] at hl; cases hl
        rw [Zn σ _ e2] at hl'
        exact absurd e (hcl i' L2 b e2 hi' hl' e')
    · by_cases e2:i'=id
      · subst e2
        rw [Zd] at hl'; cases hl'
        rw [Zn σ _ e1] at hl
        exact absurd e' (hcl i L1 b e1 hi hl e)
      · rw [Zn σ _ e1] at hl
        rw [Zn σ _ e2] at hl'
        exact h.inj i i' L1 L2 b hi hi' hl hl' e e'
  · rcases hb'.2 with h1|⟨i,Li,hi,hl,h2⟩
    · exact .inl h1
    · exact .inr ⟨i,Li,by rw [hsome]; exact hi,hl,h2⟩
  · rw [hsome] at hi
    by_cases e:i=id
    · subst e
      rw [Zd] at hl; cases hl
      exact ⟨(hb b hb1).2.1,(hb b hb1).2.2⟩
    · rw [Zn σ _ e] at hl
      exact ⟨fun hX'=>(h.mine i L1 b hi hl hb1).1 (hX b hX'),(h.mine i L1 b hi hl hb1).2⟩
  · have:=h.sup b (hX b hb')
    exact ⟨⟨this.1,.inl hb'⟩,by rw [←hsz]; exact this.2⟩
  · refine (hsame b (fun e=>?_)).trans (h.same b hb' hp)
    rcases (hb L'.g L'.has_g).2.2 with h1|⟨j,L0,h1,h2⟩
    · rw [hg] at h1; omega
    · exact hp j L0 h1 (by rw [e,←hg]; exact h2)
  · by_cases e:i=id
    · subst e
      rw [hoid] at hy; cases hy; cases hd
    · rw [ho' i e] at hy
      obtain ⟨x0,hx0,rfl⟩:=Option.map_eq_some_iff.1 hy
      rw [Zn σ _ e] at hl
      exact h.lone i x0 L1 hx0 (by cases x0<;>first|rfl|exact hd) hl
end Go.Proofs.YtfajcehhcjmofaaV
