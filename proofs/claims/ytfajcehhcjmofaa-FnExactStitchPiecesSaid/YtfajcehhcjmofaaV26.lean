/- Regions whose order is drawn: any order leads to the same. No conditions but those that the lemmas state. -/
import Derived.Test.YtfajcehhcjmofaaV25
import Derived.Orders
namespace Go.Proofs.YtfajcehhcjmofaaV
open Go Go.RowKit
set_option linter.unusedVariables false
set_option linter.unusedSimpArgs false
variable {base:Nat} {σ0:Sig} {X:Nat→Prop} {w0 w w':World} {σ σ':Sig} {M M':Nat→Prop} {a:Act} {st st2 st':St} {P:Program} {n:Nat} {o:Oper} {E:Zb}
/-! ### Effects that are apart may come in either order -/
def ZgT:Arg→Option Nat
 | .t k=>some k
 | .k _=>none
def GOp.looks (g:GOp):List Nat:=g.op.args.filterMap ZgT++(match g.g with
 | some (t,_)=>[t]
 | none=>[])
def Zco (a b:GOp):Bool:=match a.op.dst with
 | some d=>!(b.looks.contains d)&&b.op.dst != some d
 | none=>true
def Za1 (a b:GOp):Bool:=Zco a b&&Zco b a
theorem Zfz {g:GOp} {e:Fx} (h:gfx E st g=some e):e.d=g.op.dst:=by
 have key:∀ op,fx E st op=some e→e.d=op.dst:=by
  intro op hf
  have hF:∀ {op},fxF E st op=some e→e.d=op.dst:=by
   intro op hf
   simp only[fxF,Option.bind_eq_some_iff,Option.map_eq_some_iff] at hf
   obtain ⟨s,_,d,hd,rfl⟩:=hf
   exact hd.symm
  cases op
  case alloc=>simp only[fx] at hf; split at hf; cases hf; rfl; cases hf
  case nilr=>simp only[fx] at hf; split at hf; cases hf; rfl; cases hf
  case box=>
   simp only[fx] at hf; split at hf
   ·simp only[Option.bind_eq_some_iff] at hf
    obtain ⟨t,_,hf⟩:=hf
    split at hf; cases hf; rfl; cases hf
   ·cases hf
  case lit=>
   simp only[fx] at hf; split at hf
   ·simp only[Option.map_eq_some_iff] at hf
    obtain ⟨t,_,rfl⟩:=hf
    rfl
   ·cases hf
  case mk=>
   simp only[fx] at hf; split at hf
   ·simp only[Option.bind_eq_some_iff] at hf
    obtain ⟨t,_,k,_,hf⟩:=hf
    split at hf; cases hf; rfl; cases hf
   ·cases hf
  case app=>
   simp only[fx] at hf; split at hf
   ·simp only[Option.bind_eq_some_iff] at hf
    obtain ⟨t,_,hf⟩:=hf
    split at hf; cases hf; rfl; cases hf
   ·cases hf
  case callv=>cases hf
  case cl=>cases hf
  case stc=>cases hf
  case slp=>cases hf
  case mkd=>cases hf
  case litd=>cases hf
  case appd=>cases hf
  case std=>cases hf
  case callk=>cases hf
  case mkf=>cases hf
  case callc=>cases hf
  case slc=>
   simp only[fx] at hf; split at hf
   ·exact hF hf
   ·cases hf
  case st=>
   simp only[fx] at hf; split at hf
   ·simp only[Option.bind_eq_some_iff] at hf
    obtain ⟨t,_,hf⟩:=hf
    split at hf
    ·simp only[Option.bind_eq_some_iff,Option.map_eq_some_iff] at hf
     obtain ⟨s,_,ob,_,rfl⟩:=hf
     rfl
    ·cases hf
   ·cases hf
  case call=>
   simp only[fx,Option.bind_eq_some_iff] at hf
   obtain ⟨vs,_,args,_,r,_,hf⟩:=hf
   split at hf; cases hf; rfl; cases hf
  case callr=>
   simp only[fx,Option.bind_eq_some_iff] at hf
   obtain ⟨vs,_,ins,_,hf⟩:=hf
   split at hf
   ·simp only[Option.bind_eq_some_iff] at hf
    obtain ⟨r,_,hf⟩:=hf
    split at hf; cases hf; rfl; cases hf
   ·cases hf
  case mv=>
   simp only[fx] at hf; split at hf
   ·cases hf; rfl
   ·exact hF hf
  all_goals exact hF hf
 unfold gfx at h
 cases hg:g.g with
 | none=>simp only[hg] at h; exact key _ h
 | some p=>
  obtain ⟨t,b⟩:=p
  simp only[hg,Option.bind_eq_some_iff] at h
  obtain ⟨x,_,h⟩:=h
  split at h
  ·exact key _ h
  ·cases h; rfl
theorem ZdZ {g:GOp} {e:Fx} (h:gfx E st g=some e) (hs:∀ t,t∈g.looks→st2.s t=st.s t) (ho:∀ id,id∈e.rd++e.set.map (·.1)→st2.o id=st.o id):gfx E st2 g=some e:=by
 have hg:∀ x,x∈g.op.args→st2.get x=st.get x:=by
  intro x hx
  cases x with
  | k c=>rfl
  | t k=>exact hs k (List.mem_append.2 (.inl (List.mem_filterMap.2 ⟨_,hx,rfl⟩)))
 unfold gfx at h ⊢
 cases hgg:g.g with
 | none=>simp only[hgg] at h ⊢; exact ZeC h hg ho
 | some p=>
  obtain ⟨t,b⟩:=p
  simp only[hgg,Option.bind_eq_some_iff] at h ⊢
  obtain ⟨x,hx,h⟩:=h
  have ht:st2.s t=st.s t:=hs t (List.mem_append.2 (.inr (by rw [hgg]; simp)))
  refine ⟨x,by rw [ht]; exact hx,?_⟩
  split at h
  ·rename_i hb; rw [if_pos hb]; exact ZeC h hg ho
  ·rename_i hb; rw [if_neg hb]; exact h
theorem Zgz (l:List (Id×Obj)):∀ (st:St),(st.objs l).s=st.s:=by
 induction l with
 | nil=>intro st; rfl
 | cons p l ih=>intro st; exact ih _
theorem Zbz (l:List (Id×Obj)):∀ (st:St) (i:Id),i∉l.map (·.1)→(st.objs l).o i=st.o i:=by
 induction l with
 | nil=>intro st i _; rfl
 | cons p l ih=>
  intro st i hi
  simp only[List.map_cons,List.mem_cons,not_or] at hi
  refine (ih _ i hi.2).trans ?_
  simp only[St.obj]
  rw [if_neg hi.1]
theorem ZfF (l:List (Id×Obj)):∀ (st st2:St) (i:Id),i∈l.map (·.1)→(st.objs l).o i=(st2.objs l).o i:=by
 induction l with
 | nil=>intro st st2 i hi; cases hi
 | cons p l ih=>
  intro st st2 i hi
  by_cases hm:i∈l.map (·.1)
  ·exact ih _ _ i hm
  ·have:i=p.1:=by
    rcases List.mem_cons.1 (by simpa using hi:i∈p.1::l.map (·.1)) with h|h
    ·exact h
    ·exact absurd h hm
   subst this
   refine ((Zbz l _ _ hm).trans ?_).trans (Zbz l (st2.obj p.1 (some p.2)) _ hm).symm
   simp [St.obj]
theorem ZdS (e:Fx) (st:St) (t:Nat):(e.app st).s t=if e.d=some t then e.v else st.s t:=by
 unfold Fx.app St.putO
 cases hd:e.d with
 | none=>simp only[Zgz]; simp
 | some d=>
  simp only[St.put,Zgz,Option.some.injEq]
  by_cases h:t=d
  ·rw [if_pos h,if_pos h.symm]
  ·rw [if_neg h,if_neg (fun e=>h e.symm)]
theorem Zdg (e:Fx) (st:St):(e.app st).o=(st.objs e.set).o:=by
 unfold Fx.app St.putO
 cases e.d<;>rfl
theorem St.ext {st st2:St} (h1:st.s=st2.s) (h2:st.o=st2.o):st=st2:=by cases st; cases st2; simp_all
theorem Zb2 {a b:List Id} (h:ZaW a b=true):∀ i,i∈a→i∉b:=by
 intro i hi hb
 simp only[ZaW,List.all_eq_true] at h
 have:=h i hi
 simp only[Bool.not_eq_true',List.contains_eq_mem,decide_eq_false_iff_not] at this
 exact this hb
theorem Zbi {a b:GOp} (h:Zco a b=true):∀ d,a.op.dst=some d→d∉b.looks∧b.op.dst≠some d:=by
 intro d hd
 simp only[Zco,hd,Bool.and_eq_true,Bool.not_eq_true',bne_iff_ne] at h
 exact ⟨fun hm=>by simp [List.contains_eq_mem,hm] at h,h.2⟩
/-- Neighbours change places. -/
theorem swap {b x:GOp} {eb ex:Fx} (hb:gfx E st b=some eb) (hx:gfx E (eb.app st) x=some ex) (hs:Za1 b x=true) (he:eb.apart ex=true):gfx E st x=some ex∧gfx E (ex.app st) b=some eb∧eb.app (ex.app st)=ex.app (eb.app st):=by
 simp only[Za1,Bool.and_eq_true] at hs
 simp only[Fx.apart,Bool.and_eq_true] at he
 have hdb:=Zfz hb
 have hdx:=Zfz hx
 have h1:∀ t,t∈x.looks→(eb.app st).s t=st.s t:=by
  intro t ht
  rw [ZdS,if_neg]
  intro e
  exact (Zbi hs.1 t (hdb▸e)).1 ht
 have h2:∀ t,t∈b.looks→(ex.app st).s t=st.s t:=by
  intro t ht
  rw [ZdS,if_neg]
  intro e
  exact (Zbi hs.2 t (hdx▸e)).1 ht
 have a1:=Zb2 he.1
 have a2:=Zb2 he.2
 have o1:∀ id,id∈ex.rd++ex.set.map (·.1)→(eb.app st).o id=st.o id:=by
  intro id hid
  rw [Zdg]
  exact Zbz _ _ _ (fun hm=>a1 id hm hid)
 have o2:∀ id,id∈eb.rd++eb.set.map (·.1)→(ex.app st).o id=st.o id:=by
  intro id hid
  rw [Zdg]
  refine Zbz _ _ _ (fun hm=>?_)
  rcases List.mem_append.1 hid with h|h
  ·exact a2 id hm h
  ·exact a1 id h (List.mem_append.2 (.inr hm))
 refine ⟨ZdZ hx (fun t ht=>(h1 t ht).symm) (fun id hid=>(o1 id hid).symm),ZdZ hb h2 o2,St.ext ?_ ?_⟩
 ·funext t
  rw [ZdS,ZdS,ZdS,ZdS]
  by_cases e1:eb.d=some t
  ·by_cases e2:ex.d=some t
   ·exact absurd (hdx▸e2) (Zbi hs.1 t (hdb▸e1)).2
   ·rw [if_pos e1,if_neg e2,if_pos e1]
  ·rw [if_neg e1,if_neg e1]
 ·funext i
  rw [Zdg,Zdg]
  by_cases m1:i∈eb.set.map (·.1)
  ·have m2:i∉ex.set.map (·.1):=fun h=>a1 i m1 (List.mem_append.2 (.inr h))
   rw [Zbz _ (eb.app st) i m2,Zdg]
   exact ZfF _ _ _ i m1
  ·rw [Zbz _ _ i m1,Zdg]
   by_cases m2:i∈ex.set.map (·.1)
   ·exact ZfF _ _ _ i m2
   ·rw [Zbz _ _ i m2,Zbz _ _ i m2,Zdg,Zbz _ _ i m1]
/-- What is left to do, in the order of the text. -/
def Tr (E:Zb):St→List (Nat×GOp×Option Fx)→St→Prop
 | st,[],st'=>st=st'
 | st,(_,g,some e)::tr,st'=>gfx E st g=some e∧Tr E (e.app st) tr st'
 | st,(_,g,none)::tr,st'=>∃ s,Zaf E st g=some s∧Tr E s tr st'
def Zf9 (b:Option Fx) (e:Fx):Prop:=∃ f,b=some f∧f.apart e=true
theorem Zhd {j0:Nat} {g0:GOp} {e0:Fx} {post:List (Nat×GOp×Option Fx)}:∀ (pre:List (Nat×GOp×Option Fx)) {st:St},Tr E st (pre++(j0,g0,some e0)::post) st'→(∀ b,b∈pre→Za1 b.2.1 g0=true∧Zf9 b.2.2 e0)→gfx E st g0=some e0∧Tr E (e0.app st) (pre++post) st'
 | [],st,h,_=>h
 | (j,b,none)::pre,st,h,hp=>by
  obtain ⟨_,f,hf,_⟩:=hp _ (List.mem_cons_self ..)
  cases hf
 | (j,b,some eb)::pre,st,h,hp=>by
  obtain ⟨h1,h2⟩:=h
  obtain ⟨h3,h4⟩:=Zhd pre h2 (fun c hc=>hp c (List.mem_cons_of_mem _ hc))
  obtain ⟨hb1,f,hf,hb2⟩:=hp _ (List.mem_cons_self ..)
  cases hf
  obtain ⟨s1,s2,s3⟩:=swap h1 h3 hb1 hb2
  refine ⟨s1,?_⟩
  show gfx E (e0.app st) b=some eb∧Tr E (eb.app (e0.app st)) (pre++post) st'
  exact ⟨s2,by rw [s3]; exact h4⟩
end Go.Proofs.YtfajcehhcjmofaaV
