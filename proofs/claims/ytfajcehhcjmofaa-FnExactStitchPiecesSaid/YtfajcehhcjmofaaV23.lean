/- Effects depend on what is read alone. No conditions but those that the lemmas state. -/
import Derived.Test.YtfajcehhcjmofaaV22
namespace Go.Proofs.YtfajcehhcjmofaaV
open Go Go.RowKit
set_option linter.unusedVariables false
set_option linter.unusedSimpArgs false
variable {E:Zb} {st st2 st':St}
/-- Two states that agree on what an operation reads. -/
structure ZiK (op:IOp) (ids:List Id) (st st2:St):Prop where
 get:∀ x,x∈op.args→st2.get x=st.get x
 obj:∀ id,id∈ids→st2.o id=st.o id
theorem Zfi {id:Id} (h:st2.o id=st.o id) (i p n:Nat):st2.read id i p n=st.read id i p n:=by unfold St.read; rw [h]
theorem ZbB {c:C} (h:∀ id,c.id?=some id→st2.o id=st.o id):st2.rowsOf c=st.rowsOf c:=by
 unfold St.rowsOf
 cases c with
 | own id n=>simp only; rw [h id rfl]
 | u x=>cases x<;>rfl
 | _=>rfl
theorem Zbq {op:IOp} {a:Arg} {id:Id} (ha:a∈op.args) (hi:id∈(st.get a).ids):id∈Zt st op:=List.mem_flatMap.2 ⟨a,ha,hi⟩
theorem Zhu {x:D} {c:C} {id:Id} (h:x.c?=some c) (hi:c.id?=some id):id∈x.ids:=by
 rw [Zgb h]
 simp [D.ids,T.ids,T.cells,hi]
theorem Zdn:∀ (ps:List (Nat×Nat×Arg)) (cells:List C),(∀ p,p∈ps→st2.get p.2.2=st.get p.2.2)→st2.fill cells ps=st.fill cells ps
 | [],_,_=>rfl
 | (off,n,a)::ps,cells,h=>by
  simp only[St.fill]
  rw [h (off,n,a) (List.mem_cons_self ..)]
  congr 1; funext x; split
  ·congr 1; funext cs
   exact Zdn ps cs (fun p hp=>h p (List.mem_cons_of_mem _ hp))
  ·rfl
theorem ZbI {n:Nat}:∀ (ps:List (Nat×Arg)) (rows:List (List U)),(∀ p,p∈ps→st2.get p.2=st.get p.2)→st2.fillRows n rows ps=st.fillRows n rows ps
 | [],_,_=>rfl
 | (i,a)::ps,rows,h=>by
  simp only[St.fillRows]
  rw [h (i,a) (List.mem_cons_self ..)]
  congr 1; funext x; congr 1; funext cs; split
  ·exact ZbI ps _ (fun p hp=>h p (List.mem_cons_of_mem _ hp))
  ·rfl
theorem ZcS {n:Nat} {lo hi:Option Arg} (h:∀ x,x∈lo.toList++hi.toList→st2.get x=st.get x):ZaR st2 n lo hi=ZaR st n lo hi:=by
 unfold ZaR
 cases lo<;>cases hi<;>simp only[Option.toList,List.mem_append,List.mem_cons,List.not_mem_nil,or_false,false_or] at h
 ·rfl
 ·simp only[h _ rfl]
 ·simp only[h _ rfl]
 ·simp only[h _ (.inl rfl),h _ (.inr rfl)]
/-- Operations that only read. -/
def IOp.isF:IOp→Bool
 | .alloc ..|.box ..|.lit ..|.cl ..|.stc ..|.st ..|.mk ..|.app ..|.nilr ..|.call ..|.callr ..|.callv ..|.slc ..|.slp ..|.mkd ..|.litd ..|.appd ..|.std ..|.callk ..|.mkf ..|.callc ..=>false
 | _=>true
theorem Zc (st:St) (d:Nat) (v:D):(st.put d v).s d=v:=by simp [St.put]
theorem Zej {op:IOp} {d:Nat} (hF:op.isF=true) (hd:op.dst=some d) (h:ZiK op (Zt st op) st st2):∀ s,step E st op=some s→s=st.put d (s.s d)∧step E st2 op=some (st2.put d (s.s d)):=by
 intro s hs
 have hg:=h.get
 have fin:∀ {x:Option D},step E st op=x.map (st.put d)→step E st2 op=x.map (st2.put d)→s=st.put d (s.s d)∧step E st2 op=some (st2.put d (s.s d)):=by
  intro x h1 h2
  rw [h1,Option.map_eq_some_iff] at hs
  obtain ⟨v,hv,rfl⟩:=hs
  rw [h2,hv]
  have:(st.put d v).s d=v:=by simp [St.put]
  rw [this]
  exact ⟨rfl,rfl⟩
 cases op<;>simp only[IOp.isF,Bool.false_eq_true] at hF<;>simp only[IOp.dst,Option.some.injEq] at hd<;>subst hd<;>simp only[IOp.args,List.mem_cons,List.not_mem_nil,or_false,forall_eq_or_imp,forall_eq] at hg
 case emp d=>
  simp only[step,Option.some.injEq] at hs
  subst hs
  exact ⟨by rw [Zc],by rw [Zc]; rfl⟩
 case junk d=>
  simp only[step,Option.some.injEq] at hs
  subst hs
  exact ⟨by rw [Zc],by rw [Zc]; rfl⟩
 case mv d a=>exact fin (x:=some (st.get a)) rfl (by simp only[step,hg]; rfl)
 case pick d c a b=>exact fin (x:=(st.get c).bool?.map fun x=>if x then st.get a else st.get b) (by simp only[step]; cases (st.get c).bool?<;>rfl) (by simp only[step,hg]; cases (st.get c).bool?<;>rfl)
 case build d zero ps=>exact fin (x:=(st.fill (zero.map .u) ps).map fun cs=>.t (.ag cs)) (by simp only[step]; cases st.fill (zero.map .u) ps<;>rfl) (by simp only[step]; rw [Zdn ps _ (fun p hp=>h.get _ (List.mem_map.2 ⟨p,hp,rfl⟩))]; cases st.fill (zero.map .u) ps<;>rfl)
 case bin d b x y=>
  simp only[step,Option.bind_eq_some_iff,Option.map_eq_some_iff] at hs
  obtain ⟨u,hu,v,hv,r,hr,rfl⟩:=hs
  exact ⟨by rw [Zc],by rw [Zc]; simp [step,hg,hu,hv,hr]⟩
 case beq d ne x y=>
  simp only[step,Option.bind_eq_some_iff,Option.map_eq_some_iff] at hs
  obtain ⟨u,hu,v,hv,rfl⟩:=hs
  exact ⟨by rw [Zc],by rw [Zc]; simp [step,hg,hu,hv]⟩
 case not d x=>
  simp only[step,Option.map_eq_some_iff] at hs
  obtain ⟨u,hu,rfl⟩:=hs
  exact ⟨by rw [Zc],by rw [Zc]; simp [step,hg,hu]⟩
 case neg d x=>
  simp only[step,Option.map_eq_some_iff] at hs
  obtain ⟨u,hu,rfl⟩:=hs
  exact ⟨by rw [Zc],by rw [Zc]; simp [step,hg,hu]⟩
 case mnmx d mx x y=>
  simp only[step,Option.bind_eq_some_iff,Option.map_eq_some_iff] at hs
  obtain ⟨u,hu,v,hv,r,hr,rfl⟩:=hs
  exact ⟨by rw [Zc],by rw [Zc]; simp [step,hg,hu,hv,hr]⟩
 case conv d k x=>
  simp only[step] at hs
  split at hs
  ·rename_i h1; cases hs; exact ⟨by rw [Zc],by rw [Zc]; simp [step,hg,h1]⟩
  ·cases hs
 case cstr d x=>
  simp only[step] at hs
  split at hs
  ·rename_i h1; cases hs; exact ⟨by rw [Zc],by rw [Zc]; simp [step,hg,h1]⟩
  ·cases hs
 case slen d x=>
  simp only[step] at hs
  split at hs
  ·rename_i h1; cases hs; exact ⟨by rw [Zc],by rw [Zc]; simp [step,hg,h1]⟩
  ·cases hs
 case len d x=>
  simp only[step,Option.bind_eq_some_iff,Option.map_eq_some_iff] at hs
  obtain ⟨c,hc,m,hm,rfl⟩:=hs
  exact ⟨by rw [Zc],by rw [Zc]; simp [step,hg,hc,hm]⟩
 case ext d x i=>
  simp only[step] at hs
  split at hs
  ·rename_i h1
   simp only[Option.map_eq_some_iff] at hs
   obtain ⟨u,hu,rfl⟩:=hs
   exact ⟨by rw [Zc],by rw [Zc]; simp [step,hg,h1,hu]⟩
  ·cases hs
 case nilc d x=>
  simp only[step] at hs
  split at hs
  ·rename_i h1; cases hs; exact ⟨by rw [Zc],by rw [Zc]; simp [step,hg,h1]⟩
  ·rename_i h1; cases hs; exact ⟨by rw [Zc],by rw [Zc]; simp [step,hg,h1]⟩
  ·cases hs
 case fa d x off=>
  simp only[step] at hs
  split at hs
  ·rename_i h1; cases hs; exact ⟨by rw [Zc],by rw [Zc]; simp [step,hg,h1]⟩
  ·rename_i h1; cases hs; exact ⟨by rw [Zc],by rw [Zc]; simp [step,hg,h1]⟩
  ·cases hs
 case eqs d ks ne x y=>
  simp only[step] at hs
  split at hs
  ·rename_i h1 h2
   simp only[Option.map_eq_some_iff] at hs
   obtain ⟨u,hu,rfl⟩:=hs
   exact ⟨by rw [Zc],by rw [Zc]; simp [step,hg,h1,h2,hu]⟩
  ·cases hs
 case isn d ne x=>
  simp only[step] at hs
  split at hs
  ·rename_i h1; cases hs; exact ⟨by rw [Zc],by rw [Zc]; simp [step,hg,h1]⟩
  ·rename_i h1; cases hs; exact ⟨by rw [Zc],by rw [Zc]; simp [step,hg,h1]⟩
  ·rename_i h1; cases hs; exact ⟨by rw [Zc],by rw [Zc]; simp [step,hg,h1]⟩
  ·cases hs
 case ix d x i=>
  simp only[step,Option.bind_eq_some_iff] at hs
  obtain ⟨q,hq,hs⟩:=hs
  split at hs
  ·rename_i h1
   split at hs
   ·rename_i h2
    simp only[Option.map_eq_some_iff] at hs
    obtain ⟨u,hu,rfl⟩:=hs
    exact ⟨by rw [Zc],by rw [Zc]; simp only[step,hg,hq,Option.bind_some,h1,h2,if_true,hu,Option.map_some]⟩
   ·cases hs
  ·cases hs
 case fld d x off m agg=>
  simp only[step] at hs
  split at hs
  ·rename_i h1
   simp only[Option.bind_eq_some_iff,Option.map_eq_some_iff] at hs
   obtain ⟨u,hu,v,hv,rfl⟩:=hs
   exact ⟨by rw [Zc],by rw [Zc]; simp [step,hg,h1,hu,hv]⟩
  ·cases hs
 case ssl d x lo hi=>
  have hc:∀ n,ZaR st2 n lo hi=ZaR st n lo hi:=fun n=>ZcS (fun y hy=>h.get y (by simp only[IOp.args,List.cons_append,List.mem_cons]; exact .inr hy))
  have hx:=h.get x (by simp [IOp.args])
  simp only[step] at hs
  split at hs
  ·rename_i h1
   simp only[Option.map_eq_some_iff] at hs
   obtain ⟨u,hu,rfl⟩:=hs
   exact ⟨by rw [Zc],by rw [Zc]; simp [step,hx,h1,hc,hu]⟩
  ·cases hs
 case bstr d x=>
  simp only[step,Option.bind_eq_some_iff] at hs
  obtain ⟨c,hc,r,hr,hs⟩:=hs
  have hro:st2.rowsOf c=st.rowsOf c:=ZbB (fun id hid=>h.obj id (Zbq (a:=x) (by simp [IOp.args]) (Zhu hc hid)))
  split at hs
  ·rename_i h1
   simp only[Option.map_eq_some_iff] at hs
   obtain ⟨u,hu,rfl⟩:=hs
   exact ⟨by rw [Zc],by rw [Zc]; simp [step,hg,hc,hro,hr,h1,hu]⟩
  ·cases hs
 case ld d x m agg=>
  simp only[step] at hs
  split at hs
  ·rename_i id0 i p h1
   simp only[Option.bind_eq_some_iff,Option.map_eq_some_iff] at hs
   obtain ⟨u,hu,v,hv,rfl⟩:=hs
   have ho:st2.o id0=st.o id0:=h.obj id0 (Zbq (a:=x) (by simp [IOp.args]) (by rw [h1]; simp [D.ids,T.ids,T.cells,C.id?]))
   have hr2:=Zfi ho i p m
   exact ⟨by rw [Zc],by rw [Zc]; simp [step,hg,h1,hr2,hu,hv]⟩
  ·rename_i h1
   simp only[Option.bind_eq_some_iff,Option.map_eq_some_iff] at hs
   obtain ⟨u,hu,v,hv,rfl⟩:=hs
   exact ⟨by rw [Zc],by rw [Zc]; simp [step,hg,h1,hu,hv]⟩
  ·rename_i h1
   simp only[Option.bind_eq_some_iff,Option.map_eq_some_iff] at hs
   obtain ⟨u,hu,v,hv,rfl⟩:=hs
   exact ⟨by rw [Zc],by rw [Zc]; simp [step,hg,h1,hu,hv]⟩
  ·cases hs
 case ia d sz x i=>
  simp only[step,Option.bind_eq_some_iff] at hs
  obtain ⟨q,hq,hs⟩:=hs
  split at hs
  ·rename_i h1
   split at hs
   ·rename_i h2
    simp only[Option.map_eq_some_iff] at hs
    obtain ⟨u,hu,rfl⟩:=hs
    exact ⟨by rw [Zc],by rw [Zc]; simp only[step,hg,hq,Option.bind_some,h1,h2,and_self,if_true,hu,Option.map_some]⟩
   ·cases hs
  ·rename_i id0 m h1
   have ho:st2.o id0=st.o id0:=h.obj id0 (Zbq (a:=x) (by simp [IOp.args]) (by rw [h1]; simp [D.ids,T.ids,T.cells,C.id?]))
   split at hs
   ·rename_i h2
    split at hs
    ·rename_i h3
     cases hs
     exact ⟨by rw [Zc],by rw [Zc]; simp only[step,hg,hq,Option.bind_some,h1,ho,h2,h3,and_self,if_true]⟩
    ·cases hs
   ·cases hs
  ·rename_i id0 m h1
   have ho:st2.o id0=st.o id0:=h.obj id0 (Zbq (a:=x) (by simp [IOp.args]) (by rw [h1]; simp [D.ids,T.ids,T.cells,C.id?]))
   split at hs
   ·rename_i h2
    split at hs
    ·rename_i h3
     cases hs
     exact ⟨by rw [Zc],by rw [Zc]; simp only[step,hg,hq,Option.bind_some,h1,ho,h2,h3,and_self,if_true]⟩
    ·cases hs
   ·cases hs
  ·cases hs
end Go.Proofs.YtfajcehhcjmofaaV
