/- After a call: the caller's state. No conditions but those that the lemmas state. -/
import Derived.Test.YtfajcehhcjmofaaV17
namespace Go.Proofs.YtfajcehhcjmofaaV
open Go Go.RowKit
set_option linter.unusedVariables false
set_option linter.unusedSimpArgs false
variable {base:Nat} {σ0:Sig} {X:Nat→Prop} {w0 w w':World} {σ σ':Sig} {M M':Nat→Prop} {a:Act} {st st':St} {P:Program} {n:Nat} {o:Oper} {E:Zb}
theorem Rel.called (h:Rel base σ0 X w0 σ M w a st) {N:Nat→Prop} (hN:∀ b,N b→w.heap.size≤b∧b<w'.heap.size) (hsz:w.heap.size≤w'.heap.size) (hos:w'.os=w.os) (ht:w'.tape=w.tape) (hout:w'.output=w.output) {ids:List Id}
    (hsame:∀ b,b<w.heap.size→(∀ id,id∈ids→∀ L,σ id=some L→¬L.has b)→w'.heap[b]?=w.heap[b]?) (hlive:∀ id,id∈ids→(st.o id).isSome=true) {st2:St} (hs:st2.s=st.s) (ho:∀ i,i∉ids→st2.o i=st.o i)
    (hk:∀ id,id∈ids→∃ x,st2.o id=some x∧ZaL (st.o id) x=true∧RepO w' (fun b=>M b∨N b) σ st2.o id x):Rel base σ0 (fun b=>X b∨N b) w0 σ (fun b=>M b∨N b) w' a st2:=by
  have hin:∀ id,id∈ids→∀ L b,σ id=some L→L.has b→M b:=fun id hid L b hL hb=>h.inMb (hlive id hid) hL hb
  have k:Zaa w w' M (fun b=>M b∨N b):=⟨hsz,fun b hb hm=>hsame b hb (fun id hid L hL e=>hm (hin id hid L b hL e)),fun b hb hm=>hm.resolve_right (fun hn=>by have:=(hN b hn).1; omega)⟩
  have hsome:∀ i,(st2.o i).isSome=(st.o i).isSome:=by
    intro i
    by_cases hi:i∈ids
    · obtain ⟨x,h1,_,_⟩:=hk i hi
      rw [h1,hlive i hi]; rfl
    · rw [ho i hi]
  have r:Refs σ σ st.o st2.o:=by
    refine ⟨fun i hi L hl=>hl,fun i z rows hi=>?_,fun i z rows hi=>?_,fun i hi=>by rw [hsome]; exact hi⟩
    · by_cases hm:i∈ids
      · obtain ⟨x,h1,h2,_⟩:=hk i hm
        rw [hi] at h2
        cases x with
        | box cs=>cases h2
        | row z' rows'=>exact ⟨z',rows',h1,by simpa [ZaL] using h2⟩
        | deep z' rows'=>cases h2
      · exact ⟨z,rows,by rw [ho i hm]; exact hi,Nat.le_refl _⟩
    · by_cases hm:i∈ids
      · obtain ⟨x,h1,h2,_⟩:=hk i hm
        rw [hi] at h2
        cases x with
        | box cs=>cases h2
        | row z' rows'=>cases h2
        | deep z' rows'=>exact ⟨z',rows',h1,by simpa [ZaL] using h2⟩
      · exact ⟨z,rows,by rw [ho i hm]; exact hi,Nat.le_refl _⟩
  have hkind:∀ i x,st2.o i=some x→∃ x0,st.o i=some x0∧x.isDeep=x0.isDeep:=by
    intro i x hx
    by_cases hm:i∈ids
    · obtain ⟨x',h1,h2,_⟩:=hk i hm
      rw [hx] at h1; cases h1
      obtain ⟨x0,hx0⟩:=Option.isSome_iff_exists.1 (hlive i hm)
      rw [hx0] at h2
      refine ⟨x0,hx0,?_⟩
      cases x0<;>cases x<;>first|rfl|cases h2
    · exact ⟨x,by rw [←ho i hm]; exact hx,rfl⟩
  refine ⟨fun t hlt=>by rw [hs]; exact (h.slot t hlt).keep k r,fun i x hx=>?_,fun i i' L L' b hi hi'=>h.inj i i' L L' b (by rw [←hsome]; exact hi) (by rw [←hsome]; exact hi'),fun b hb=>?_,fun i L b hi hL hb=>?_,h.par,fun b hb=>?_,hos.trans h.os,ht.trans h.tape,hout.trans h.output,Nat.le_trans h.size hsz,fun b hb hp=>?_,fun i x L hx hd hL=>?_⟩
  · by_cases hm:i∈ids
    · obtain ⟨x',h1,_,h3⟩:=hk i hm
      rw [hx] at h1; cases h1
      exact h3
    · have hx':st.o i=some x:=by rw [←ho i hm]; exact hx
      refine (h.obj i x hx').keep k r hx' (fun e=>e) (fun L b hL hb=>?_)
      have hML:=h.inMb (by rw [hx']; rfl) hL hb
      exact ⟨hsame b (h.ltM hML) (fun id hid L' hL' e=>hm (h.inj id i L' L b (hlive id hid) (by rw [hx']; rfl) hL' hL e hb▸hid)),.inl hML⟩
  · rcases hb with hb|hb
    · rcases h.live b hb with hX|⟨i,L,hi,hL,e⟩
      · exact .inl (.inl hX)
      · exact .inr ⟨i,L,by rw [hsome]; exact hi,hL,e⟩
    · exact .inl (.inr hb)
  · have hi':(st.o i).isSome=true:=by rw [←hsome]; exact hi
    refine ⟨fun hb2=>?_,(h.mine i L b hi' hL hb).2⟩
    rcases hb2 with hX|hn
    · exact (h.mine i L b hi' hL hb).1 hX
    · have:=h.ltM (h.inMb hi' hL hb); have:=(hN _ hn).1; omega
  · rcases hb with hX|hn
    · exact ⟨.inl (h.sup b hX).1,Nat.lt_of_lt_of_le (h.sup b hX).2 hsz⟩
    · exact ⟨.inr hn,(hN b hn).2⟩
  · refine (hsame b (Nat.lt_of_lt_of_le hb h.size) (fun id hid L hL e=>?_)).trans (h.same b hb hp)
    rcases (h.mine id L b (hlive id hid) hL e).2 with h1|⟨j,L0,h1,h2⟩
    · omega
    · exact hp j L0 h1 h2
  · obtain ⟨x0,h1,h2⟩:=hkind i x hx
    exact h.lone i x0 L h1 (by rw [←h2]; exact hd) hL
/-- Blocks that were reserved become an object. -/
theorem Rel.adopt (h:Rel base σ0 X w0 σ M w a st) {id:Id} (hloc:∀ j,id≠.par j) (hid:st.o id=none) {L:Loc} (hX:∀ b,L.has b→X b) (hb:∀ b,L.has b→From base σ0 b) {x:Obj} (hlone:x.isDeep=false→L.lone) (hx:RepO w M (upd σ id (some L)) (st.obj id (some x)).o id x) :
    Rel base σ0 (fun b=>X b∧¬L.has b) w0 (upd σ id (some L)) M w a (st.obj id (some x)):=by
  have hne:∀ i,(st.o i).isSome=true→i≠id:=fun i hi e=>by subst e; rw [hid] at hi; cases hi
  have ho':∀ i,i≠id→(st.obj id (some x)).o i=st.o i:=fun i e=>by simp [St.obj,e]
  have k:Zaa w w M M:=⟨Nat.le_refl _,fun _ _ _=>rfl,fun _ _ h=>h⟩
  have r:=Zcc (σ:=σ) hid (some L) x
  refine ⟨fun t hlt=>(h.slot t hlt).keep k r,fun i y hy=>?_,fun i i' L1 L2 b hi hi' hl hl' e e'=>?_,fun b hm=>?_,fun i L1 b hi hl hb1=>?_,fun j=>by rw [Zn σ _ (fun e=>hloc j e.symm)]; exact h.par j,fun b hb=>h.sup b hb.1,h.os,h.tape,h.output,h.size,h.same,fun i y L1 hy hd hl=>?_⟩
  · by_cases e:i=id
    · subst e
      have:y=x:=by simp [St.obj] at hy; exact hy.symm
      subst this; exact hx
    · rw [ho' i e] at hy
      exact (h.obj i y hy).keep k r hy (fun e2=>(Zn σ _ e).trans e2) (fun L' b hl hb=>⟨rfl,h.inMb (by rw [hy]; rfl) hl hb⟩)
  · by_cases e1:i=id
    · by_cases e2:i'=id
      · exact e1.trans e2.symm
      · rw [ho' i' e2] at hi'
        rw [Zn σ _ e2] at hl'
        subst e1
        rw [Zd] at hl; cases hl
        exact absurd (hX b e) (h.mine i' L2 b hi' hl' e').1
    · by_cases e2:i'=id
      · rw [ho' i e1] at hi
        rw [Zn σ _ e1] at hl
        subst e2
        rw [Zd] at hl'; cases hl'
        exact absurd (hX b e') (h.mine i L1 b hi hl e).1
      · rw [ho' i e1] at hi
        rw [ho' i' e2] at hi'
        rw [Zn σ _ e1] at hl
        rw [Zn σ _ e2] at hl'
        exact h.inj i i' L1 L2 b hi hi' hl hl' e e'
  · by_cases e:L.has b
    · exact .inr ⟨id,L,by simp [St.obj],Zd ..,e⟩
    · rcases h.live b hm with hX|⟨i,L1,hi,hl,e1⟩
      · exact .inl ⟨hX,e⟩
      · exact .inr ⟨i,L1,by rw [ho' i (hne i hi)]; exact hi,by rw [Zn σ _ (hne i hi)]; exact hl,e1⟩
  · by_cases e:i=id
    · subst e
      rw [Zd] at hl; cases hl
      exact ⟨fun h=>h.2 hb1,hb b hb1⟩
    · rw [ho' i e] at hi
      rw [Zn σ _ e] at hl
      exact ⟨fun h2=>(h.mine i L1 b hi hl hb1).1 h2.1,(h.mine i L1 b hi hl hb1).2⟩
  · by_cases e:i=id
    · subst e
      rw [Zd] at hl; cases hl
      have:y=x:=by simp [St.obj] at hy; exact hy.symm
      subst this
      exact hlone hd
    · rw [ho' i e] at hy
      rw [Zn σ _ e] at hl
      exact h.lone i y L1 hy hd hl
theorem ZeW (d:Nat):∀ (xs:List Obj) (j:Nat) (st:St),(ZaP d j xs st).s=st.s∧(∀ (k:Nat) x,xs[k]?=some x→(ZaP d j xs st).o (.loc d (j+k))=some x)∧∀ i,(∀ k,k<xs.length→i≠.loc d (j+k))→(ZaP d j xs st).o i=st.o i
 | [],j,st=>⟨rfl,fun k x hk=>by simp at hk,fun i _=>rfl⟩
 | y :: ys,j,st=>by
  obtain ⟨h1,h2,h3⟩:=ZeW d ys (j+1) (st.obj (.loc d j) (some y))
  refine ⟨h1,fun k x hk=>?_,fun i hi=>?_⟩
  ·cases k with
   | zero=>
    simp at hk; subst hk
    have:=h3 (.loc d j) (fun k _ e=>by injection e; omega)
    rw [show j+0=j by omega]
    show (ZaP d (j+1) ys _).o _=_
    rw [this]; simp [St.obj]
   | succ k=>
    simp at hk
    have:=h2 k x hk
    rw [show j + (k+1)=j+1+k by omega]
    exact this
  ·show (ZaP d (j+1) ys _).o i=_
   rw [h3 i (fun k hk e=>hi (k+1) (by simp; omega) (by rw [e]; congr 1; omega))]
   have:=hi 0 (by simp)
   rw [show j+0=j by omega] at this
   simp [St.obj,this]
theorem Rel.adoptAll {σn:Sig} {oN:Id→Option Obj} {d:Nat}:∀ (xs:List Obj) (j:Nat) {X:Nat→Prop} {σ:Sig} {st:St},Rel base σ0 X w0 σ M w a st→(∀ (k:Nat),k<xs.length→st.o (.loc d (j+k))=none)→(∀ (k:Nat) x,xs[k]?=some x→(x.data=true∧RepO w M σn oN (.par (j+k)) x)∧∀ L,x.isDeep=false→σn (.par (j+k))=some L→L.lone)→
  (∀ (k:Nat) L b,k<xs.length→σn (.par (j+k))=some L→L.has b→X b∧From base σ0 b)→(∀ (k k':Nat) L L' b,k<xs.length→k'<xs.length→σn (.par (j+k))=some L→σn (.par (j+k'))=some L'→L.has b→L'.has b→k=k')→
  ∃ σ',Rel base σ0 (fun b=>X b∧∀ (k:Nat) L,k<xs.length→σn (.par (j+k))=some L→¬L.has b) w0 σ' M w a (ZaP d j xs st)∧(∀ k,k<xs.length→σ' (.loc d (j+k))=σn (.par (j+k)))∧∀ i,(∀ k,k<xs.length→i≠.loc d (j+k))→σ' i=σ i
 | [],j,X,σ,st,h,_,_,_,_=>by
  have:(fun b=>X b∧∀ (k:Nat) L,k<([]:List Obj).length→σn (.par (j+k))=some L→¬L.has b)=X:=by funext b; simp
  exact ⟨σ,by rw [this]; exact h,fun k hk=>by simp at hk,fun i _=>rfl⟩
 | y :: ys,j,X,σ,st,h,hnone,hobj,hres,hinj=>by
  obtain ⟨⟨hd,hr⟩,hlone⟩:=hobj 0 y rfl
  rw [Nat.add_zero] at hr hlone
  have hid:st.o (.loc d j)=none:=hnone 0 (by simp)
  have hM:∀ L b,σn (.par j)=some L→L.has b→M b:=fun L b hL hb=>(h.sup _ (hres 0 L b (by simp) hL hb).1).1
  have k0:Zaa w w M M:=⟨Nat.le_refl _,fun _ _ _=>rfl,fun _ _ h=>h⟩
  -- the first object
  have key:Rel base σ0 (fun b=>X b∧∀ L,σn (.par j)=some L→¬L.has b) w0 (upd σ (.loc d j) (σn (.par j))) M w a (st.obj (.loc d j) (some y)):=by
   have hx:RepO w M (upd σ (.loc d j) (σn (.par j))) (st.obj (.loc d j) (some y)).o (.loc d j) y:=ZaV hd k0 (Zd ..) hM hr
   cases hL:σn (.par j) with
   | none=>
    rw [hL] at hx
    have e:(fun b=>X b∧∀ L,(none:Option Loc)=some L→¬L.has b)=X:=by funext b; simp
    rw [e]
    exact h.fresh (ZaZ d j) hid (fun i hi=>Zn σ _ hi) (fun L hL=>by rw [Zd] at hL; cases hL) (fun L hL=>by rw [Zd] at hL; cases hL) (fun b=>by rw [Zd]; exact ⟨.inl,fun hb=>hb.elim (fun h=>h) (fun ⟨L,hL,_⟩=>by cases hL)⟩) (Nat.le_refl _) (fun _ _=>rfl) rfl rfl rfl hx
   | some L=>
    rw [hL] at hx
    have:=h.adopt (ZaZ d j) hid (fun b hb=>(hres 0 L b (by simp) hL hb).1) (fun b hb=>(hres 0 L b (by simp) hL hb).2) (fun hd=>hlone L hd hL) hx
    have e:(fun b=>X b∧∀ L',(some L:Option Loc)=some L'→¬L'.has b)=(fun b=>X b∧¬L.has b):=by
     funext b
     exact propext ⟨fun h=>⟨h.1,h.2 L rfl⟩,fun h=>⟨h.1,fun L' e=>by cases e; exact h.2⟩⟩
    rw [e]; exact this
  obtain ⟨σ',h1,h2,h3⟩:=Rel.adoptAll ys (j+1) key
   (fun k hk=>by
    have:=hnone (k+1) (by simp; omega)
    rw [show j + (k+1)=j+1+k by omega] at this
    simp only[St.obj]
    rw [if_neg (by intro e; injection e; omega)]
    exact this)
   (fun k x hk=>by
    have:=hobj (k+1) x (by simpa using hk)
    rw [show j + (k+1)=j+1+k by omega] at this
    exact this)
   (fun k L b hk hL hb=>by
    have h5:=hres (k+1) L b (by simp; omega) (by rw [show j + (k+1)=j+1+k by omega]; exact hL) hb
    refine ⟨⟨h5.1,fun L' hL' e=>?_⟩,h5.2⟩
    have:=hinj (k+1) 0 L L' b (by simp; omega) (by simp) (by rw [show j + (k+1)=j+1+k by omega]; exact hL) hL' hb e
    omega)
   (fun k k' L L' b hk hk' hL hL' e e'=>by
    have:=hinj (k+1) (k'+1) L L' b (by simp; omega) (by simp; omega) (by rw [show j + (k+1)=j+1+k by omega]; exact hL) (by rw [show j + (k'+1)=j+1+k' by omega]; exact hL') e e'
    omega)
  refine ⟨σ',?_,fun k hk=>?_,fun i hi=>?_⟩
  ·have e:(fun b=>X b∧∀ (k:Nat) L,k<(y::ys).length→σn (.par (j+k))=some L→¬L.has b)=(fun b=>(X b∧∀ L,σn (.par j)=some L→¬L.has b)∧∀ (k:Nat) L,k<ys.length→σn (.par (j+1+k))=some L→¬L.has b):=by
    funext b
    refine propext ⟨fun h=>⟨⟨h.1,fun L hL=>h.2 0 L (by simp) hL⟩,fun k L hk hL=>h.2 (k+1) L (by simp; omega) (by rw [show j + (k+1)=j+1+k by omega]; exact hL)⟩,fun h=>⟨h.1.1,fun k L hk hL=>?_⟩⟩
    cases k with
    | zero=>exact h.1.2 L hL
    | succ k=>exact h.2 k L (by simp at hk; omega) (by rw [show j+1+k=j + (k+1) by omega]; exact hL)
   rw [e]; exact h1
  ·cases k with
   | zero=>
    rw [Nat.add_zero,h3 (.loc d j) (fun k _ e=>by injection e; omega),Zd]
   | succ k=>
    have:=h2 k (by simp at hk; omega)
    rw [show j + (k+1)=j+1+k by omega]
    exact this
  ·rw [h3 i (fun k hk e=>hi (k+1) (by simp; omega) (by rw [e]; congr 1; omega))]
   exact Zn σ _ (hi 0 (by simp))
end Go.Proofs.YtfajcehhcjmofaaV
