/- How the machine's state and the evaluator's go on together: slots, objects that are forgotten, made, written. No conditions but those that the lemmas state. -/
import Derived.Test.YtfajcehhcjmofaaV4
namespace Go.Proofs.YtfajcehhcjmofaaV
open Go Go.RowKit
set_option linter.unusedVariables false
variable {base:Nat} {σ0:Sig} {X:Nat→Prop} {w0 w:World} {σ:Sig} {M:Nat→Prop} {a:Act} {st:St}
theorem Zaz (a:Act) (d:Option Tmp) (v:Value):(a.put d v).tmps.size=a.tmps.size:=by
 cases d with
 | none=>rfl
 | some d=>simp [Act.put]
theorem Zg8 (a:Act) (d t:Nat) (v:Value) (ht:t<a.tmps.size):(a.put (some d) v).tmps.getD t undef=if t=d then v else a.tmps.getD t undef:=by
 simp only[Act.put]
 by_cases h:t=d
 ·subst h; simp [Array.getD,ht]
 ·rw [if_neg h]
  have:¬d=t:=fun e=>h e.symm
  simp [Array.getD,ht,this]
theorem Rel.put (h:Rel base σ0 X w0 σ M w a st) {d:Nat} {x:D} {v:Value} (hx:RepD w M σ st.o x v):Rel base σ0 X w0 σ M w (a.put (some d) v) (st.put d x):=by
 refine ⟨fun t ht=>?_,h.obj,h.inj,h.live,h.mine,h.par,h.sup,h.os,h.tape,h.output,h.size,h.same,h.lone⟩
 rw [Zaz] at ht
 rw [Zg8 a d t v ht]
 show RepD w M σ st.o (if t=d then x else st.s t) _
 by_cases e:t=d
 ·rw [if_pos e,if_pos e]; exact hx
 ·rw [if_neg e,if_neg e]; exact h.slot t ht
theorem Rel.putNone (h:Rel base σ0 X w0 σ M w a st) (v:Value):Rel base σ0 X w0 σ M w (a.put none v) st:=h
theorem Rel.inMb (h:Rel base σ0 X w0 σ M w a st) {id:Id} {L:Loc} (ho:(st.o id).isSome=true) (hL:σ id=some L) {b:Nat} (hb:L.has b):M b:=by
 obtain ⟨x,hx⟩:=Option.isSome_iff_exists.1 ho
 exact (h.obj id x hx).inM hL (fun hd=>h.lone id x L hx hd hL) hb
theorem Rel.inM (h:Rel base σ0 X w0 σ M w a st) {id:Id} {L:Loc} (ho:(st.o id).isSome=true) (hL:σ id=some L):M L.g:=h.inMb ho hL L.has_g
/-- More answers have been drawn. -/
theorem Rel.drawn (h:Rel base σ0 X w0 σ M w a st) {w':World} (hh:w'.heap=w.heap) (ho:w'.os=w.os) (ht:w'.tape=w.tape) (hp:w'.output=w.output):Rel base σ0 X w0 σ M w' a st:=by
 have k:Zaa w w' M M:=⟨by rw [hh]; exact Nat.le_refl _,fun b _ _=>by rw [hh],fun b _ h=>h⟩
 exact ⟨fun t hlt=>(h.slot t hlt).keep k (Refs.refl σ st.o),fun id x hx=>(h.obj id x hx).keep k (Refs.refl σ st.o) hx (fun e=>e) (fun L b hL hb=>⟨by rw [hh],h.inMb (by rw [hx]; rfl) hL hb⟩),h.inj,h.live,h.mine,h.par,fun b hb=>⟨(h.sup b hb).1,by rw [hh]; exact (h.sup b hb).2⟩,ho.trans h.os,ht.trans h.tape,hp.trans h.output,by rw [hh]; exact h.size,fun b hb hp=>by rw [hh]; exact h.same b hb hp,h.lone⟩
theorem Rel.ltM (h:Rel base σ0 X w0 σ M w a st) {b:Nat} (hb:M b):b<w.heap.size:=by
 rcases h.live b hb with hX|⟨id,L,ho,hL,hb⟩
 ·exact (h.sup b hX).2
 obtain ⟨x,hx⟩:=Option.isSome_iff_exists.1 ho
 exact (h.obj id x hx).blocks hL (fun hd=>h.lone id x L hx hd hL) hb
/-! ### An object is forgotten -/
/-- The blocks that are left when an object goes. -/
def less (st:St) (σ:Sig) (M:Nat→Prop) (id:Id):Nat→Prop:=fun b=>M b∧((st.o id).isSome=true→∀ L,σ id=some L→¬L.has b)
theorem ZiF {f:C→C} {cs:List C}:(cs.map f).length=cs.length:=List.length_map ..
section
variable {f:C→C} {M':Nat→Prop} {o':Id→Option Obj}
theorem RepT.mapC (hf:∀ c v,RepC w M σ st.o c v→RepC w M' σ o' (f c) v) {x:T} {v:Value} (h:RepT w M σ st.o x v):RepT w M' σ o' (x.mapC f) v:=by
 cases x with
 | sc c=>exact hf c v h
 | ag cs=>
  obtain ⟨vs,rfl,hs,hc⟩:=h
  refine ⟨vs,rfl,by rw [List.length_map]; exact hs,fun j c hj=>?_⟩
  rw [List.getElem?_map] at hj
  obtain ⟨c0,hc0,rfl⟩:=Option.map_eq_some_iff.1 hj
  obtain ⟨x,hx,hr⟩:=hc j c0 hc0
  exact ⟨x,hx,hf c0 x hr⟩
theorem RepD.mapC (hf:∀ c v,RepC w M σ st.o c v→RepC w M' σ o' (f c) v) (hM:∀ b,M' b→M b) {x:D} {v:Value} (h:RepD w M σ st.o x v):RepD w M' σ o' (x.mapC f) v:=by
 have k:Zaa w w M M':=⟨Nat.le_refl _,fun _ _ _=>rfl,fun b _ h=>hM b h⟩
 cases x with
 | t x=>exact RepT.mapC hf h
 | rptr us=>
  obtain ⟨a,rfl,hb,hc⟩:=h
  exact ⟨a,rfl,fun h0=>⟨fun hm=>(hb h0).1 (hM _ hm),(hb h0).2⟩,fun j x hj=>by obtain ⟨y,hy,hr⟩:=hc j x hj; exact ⟨y,hy,hr.keep k⟩⟩
 | tup xs=>
  obtain ⟨vs,rfl,hs,hc⟩:=h
  refine ⟨vs,rfl,by rw [List.length_map]; exact hs,fun j c hj=>?_⟩
  rw [List.getElem?_map] at hj
  obtain ⟨c0,hc0,rfl⟩:=Option.map_eq_some_iff.1 hj
  obtain ⟨x,hx,hr⟩:=hc j c0 hc0
  exact ⟨x,hx,RepT.mapC hf hr⟩
 | bad=>trivial
 | emp=>exact h
end
theorem RepD.mapC' {w':World} {σ':Sig} {f:C→C} {M':Nat→Prop} {o':Id→Option Obj} (hf:∀ c v,RepC w M σ st.o c v→RepC w' M' σ' o' (f c) v) (k:Zaa w w' M M') {x:D} {v:Value} (h:RepD w M σ st.o x v):RepD w' M' σ' o' (x.mapC f) v:=by
 have hT:∀ {x:T} {v:Value},RepT w M σ st.o x v→RepT w' M' σ' o' (x.mapC f) v:=by
  intro x v h
  cases x with
  | sc c=>exact hf c v h
  | ag cs=>
   obtain ⟨vs,rfl,hs,hc⟩:=h
   refine ⟨vs,rfl,by rw [List.length_map]; exact hs,fun j c hj=>?_⟩
   rw [List.getElem?_map] at hj
   obtain ⟨c0,hc0,rfl⟩:=Option.map_eq_some_iff.1 hj
   obtain ⟨x,hx,hr⟩:=hc j c0 hc0
   exact ⟨x,hx,hf c0 x hr⟩
 cases x with
 | t x=>exact hT h
 | rptr us=>
  obtain ⟨a,rfl,hb,hc⟩:=h
  refine ⟨a,rfl,fun h0=>?_,fun j x hj=>?_⟩
  ·have:=hb h0
   exact ⟨fun hm=>this.1 (k.less _ this.2 hm),Nat.lt_of_lt_of_le this.2 k.size⟩
  ·obtain ⟨y,hy,hr⟩:=hc j x hj
   have:=hb (fun e=>by rw [e] at hj; simp at hj)
   exact ⟨y,(Za7 (by rw [Za6]; exact k.same _ this.2 this.1)).trans hy,hr.keep k⟩
 | tup xs=>
  obtain ⟨vs,rfl,hs,hc⟩:=h
  refine ⟨vs,rfl,by rw [List.length_map]; exact hs,fun j c hj=>?_⟩
  rw [List.getElem?_map] at hj
  obtain ⟨c0,hc0,rfl⟩:=Option.map_eq_some_iff.1 hj
  obtain ⟨x,hx,hr⟩:=hc j c0 hc0
  exact ⟨x,hx,hT hr⟩
 | bad=>trivial
 | emp=>exact h
theorem Rel.forget (h:Rel base σ0 X w0 σ M w a st) (id:Id) (f:C→C) (hf:∀ c v,RepC w M σ st.o c v→RepC w (less st σ M id) σ ((st.obj id none).mapC f).o (f c) v):Rel base σ0 X w0 σ (less st σ M id) w a ((st.obj id none).mapC f):=by
 have hM:∀ b,less st σ M id b→M b:=fun b hb=>hb.1
 have k:Zaa w w M (less st σ M id):=⟨Nat.le_refl _,fun _ _ _=>rfl,fun b _ h=>hM b h⟩
 have ho:∀ i,(((st.obj id none).mapC f).o i).isSome=true→i≠id∧(st.o i).isSome=true:=by
  intro i hi
  simp only[St.mapC,St.obj] at hi
  by_cases e:i=id
  ·rw [if_pos e] at hi; simp at hi
  ·rw [if_neg e] at hi; exact ⟨e,by simpa using hi⟩
 have hdeep:∀ x:Obj,(x.mapC f).isDeep=x.isDeep:=fun x=>by cases x<;>rfl
 refine ⟨fun t ht=>RepD.mapC hf hM (h.slot t ht),fun i x hx=>?_,fun i i' L L' b hi hi'=>h.inj i i' L L' b (ho i hi).2 (ho i' hi').2,fun b hb=>?_,fun i L b hi=>h.mine i L b (ho i hi).2,h.par,fun b hb=>⟨⟨(h.sup b hb).1,fun hid L hL e=>(h.mine id L b hid hL e).1 hb⟩,(h.sup b hb).2⟩,h.os,h.tape,h.output,h.size,h.same,fun i x L hx hd hL=>?_⟩
 ·have hi:=ho i (by rw [hx]; rfl)
  simp only[St.mapC,St.obj,if_neg hi.1] at hx
  obtain ⟨x0,hx0,rfl⟩:=Option.map_eq_some_iff.1 hx
  have hr:=h.obj i x0 hx0
  have hl:∀ L b,σ i=some L→L.has b→M b→less st σ M id b:=by
   intro L b hL hb hM
   exact ⟨hM,fun hid L' hL' e=>hi.1 (h.inj i id L L' b hi.2 hid hL hL' hb e)⟩
  cases x0 with
  | box cs=>
   obtain ⟨L,cur,hL,hm,hh,hs,hc⟩:=hr
   refine ⟨L,cur,hL,hl L _ hL L.has_g hm,hh,by rw [List.length_map]; exact hs,fun j c hj=>?_⟩
   rw [List.getElem?_map] at hj
   obtain ⟨c0,hc0,rfl⟩:=Option.map_eq_some_iff.1 hj
   obtain ⟨y,hy,hr⟩:=hc j c0 hc0
   exact ⟨y,hy,hf c0 y hr⟩
  | row sz rows=>
   rcases hr with h1|⟨L,cur,hL,hz,hm,hh,hs,hn,hcm,h0,hsz,hc⟩
   ·exact .inl h1
   ·refine .inr ⟨L,cur,hL,hz,hl L _ hL L.has_g hm,hh,hs,hn,hcm,h0,hsz,fun i j row x hi hj=>?_⟩
    obtain ⟨y,hy,hr⟩:=hc i j row x hi hj
    exact ⟨y,hy,hr.keep k⟩
  | deep sz rows=>
   rcases hr with h1|⟨L,cur,hL,hz,hm,hh,hs,hn,hcm,h0,hsz,hc,hk⟩
   ·exact .inl h1
   ·exact .inr ⟨L,cur,hL,hz,hl L _ hL L.has_g hm,hh,hs,hn,hcm,h0,hsz,hc,⟨hk.nil,hk.at_,fun p K hp=>hl L _ hL (.inr ⟨p,K,hp,rfl⟩) (hk.inM p K hp),hk.ne,hk.inj⟩⟩
 ·rcases h.live b hb.1 with hX|⟨i,L,hi,hL,e⟩
  ·exact .inl hX
  have:i≠id:=fun e2=>hb.2 (e2▸hi) L (e2▸hL) e
  refine .inr ⟨i,L,?_,hL,e⟩
  simp only[St.mapC,St.obj,if_neg this]
  simpa using hi
 ·have hi:=ho i (by rw [hx]; rfl)
  simp only[St.mapC,St.obj,if_neg hi.1] at hx
  obtain ⟨x0,hx0,rfl⟩:=Option.map_eq_some_iff.1 hx
  exact h.lone i x0 L hx0 (by rw [←hdeep]; exact hd) hL
end Go.Proofs.YtfajcehhcjmofaaV
