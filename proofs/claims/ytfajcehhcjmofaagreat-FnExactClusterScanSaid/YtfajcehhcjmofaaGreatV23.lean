/- Effects depend on what is read alone. No conditions but those that the lemmas state. -/
import Derived.Test.YtfajcehhcjmofaaGreatV22
namespace Go.Proofs.YtfajcehhcjmofaaGreatV
open Go Go.RowKit
set_option linter.unusedVariables false
set_option linter.unusedSimpArgs false
variable {E:Zb} {st st2 st':St}
structure ZiF (op:IOp) (ids:List Id) (st st2:St):Prop where
 get:∀ x,x∈op.args→st2.get x=st.get x
 obj:∀ id,id∈ids→st2.o id=st.o id
theorem Zfe {id:Id} (h:st2.o id=st.o id) (i p n:Nat):st2.read id i p n=st.read id i p n:=by unfold St.read; rw [h]
theorem Zbx {c:C} (h:∀ id,c.id?=some id→st2.o id=st.o id):st2.rowsOf c=st.rowsOf c:=by
 unfold St.rowsOf
 cases c with
 | own id n=>simp only; rw [h id rfl]
 | u x=>cases x<;>rfl
 | _=>rfl
theorem Zbl {op:IOp} {a:Arg} {id:Id} (ha:a∈op.args) (hi:id∈(st.get a).ids):id∈Zs st op:=List.mem_flatMap.2 ⟨a,ha,hi⟩
theorem Zhp {x:D} {c:C} {id:Id} (h:x.c?=some c) (hi:c.id?=some id):id∈x.ids:=by
 rw [Zf6 h]
 simp [D.ids,T.ids,T.cells,hi]
theorem Zdh:∀ (ps:List (Nat×Nat×Arg)) (cells:List C),(∀ p,p∈ps→st2.get p.2.2=st.get p.2.2)→st2.fill cells ps=st.fill cells ps
 | [],_,_=>rfl
 | (off,n,a)::ps,cells,h=>by
  simp only[St.fill]
  rw [h (off,n,a) (List.mem_cons_self ..)]
  congr 1; funext x; split
  ·congr 1; funext cs
   exact Zdh ps cs (fun p hp=>h p (List.mem_cons_of_mem _ hp))
  ·rfl
theorem ZbG {n:Nat}:∀ (ps:List (Nat×Arg)) (rows:List (List U)),(∀ p,p∈ps→st2.get p.2=st.get p.2)→st2.fillRows n rows ps=st.fillRows n rows ps
 | [],_,_=>rfl
 | (i,a)::ps,rows,h=>by
  simp only[St.fillRows]
  rw [h (i,a) (List.mem_cons_self ..)]
  congr 1; funext x; congr 1; funext cs; split
  ·exact ZbG ps _ (fun p hp=>h p (List.mem_cons_of_mem _ hp))
  ·rfl
theorem ZcM {n:Nat} {lo hi:Option Arg} (h:∀ x,x∈lo.toList++hi.toList→st2.get x=st.get x):ZaM st2 n lo hi=ZaM st n lo hi:=by
 unfold ZaM
 cases lo<;>cases hi<;>simp only[Option.toList,List.mem_append,List.mem_cons,List.not_mem_nil,or_false,false_or] at h
 ·rfl
 ·simp only[h _ rfl]
 ·simp only[h _ rfl]
 ·simp only[h _ (.inl rfl),h _ (.inr rfl)]
def IOp.isF:IOp→Bool
 | .alloc ..|.box ..|.lit ..|.cl ..|.stc ..|.st ..|.mk ..|.app ..|.nilr ..|.call ..|.callr ..|.callv ..|.slc ..|.slp ..|.mkd ..|.litd ..|.appd ..|.std ..|.callk ..|.mkf ..=>false
 | _=>true
theorem Zc (st:St) (d:Nat) (v:D):(st.put d v).s d=v:=by simp [St.put]
theorem Zeg {op:IOp} {d:Nat} (hF:op.isF=true) (hd:op.dst=some d) (h:ZiF op (Zs st op) st st2):∀ s,step E st op=some s→s=st.put d (s.s d)∧step E st2 op=some (st2.put d (s.s d)):=by
 intro s hs
 have hg:=h.get
 have fin:∀ {x:Option D},step E st op=x.map (st.put d)→step E st2 op=x.map (st2.put d)→s=st.put d (s.s d)∧step E st2 op=some (st2.put d (s.s d)):=by
  intro x h1 h2
  rw [h1,Option.map_eq_some_iff] at hs
  obtain ⟨v,hv,rfl⟩:=hs
  rw [h2,hv]
  have:(st.put d v).s d=v:=by simp [St.put]
  rw [this]
  exact ⟨rfl,rfl⟩
 cases op<;>simp only[IOp.isF,Bool.false_eq_true] at hF<;>simp only[IOp.dst,Option.some.injEq] at hd<;>subst hd<;>simp only[IOp.args,List.mem_cons,List.not_mem_nil,or_false,forall_eq_or_imp,forall_eq] at hg
 case emp d=>
  simp only[step,Option.some.injEq] at hs
  subst hs
  exact ⟨by rw [Zc],by rw [Zc]; rfl⟩
 case junk d=>
  simp only[step,Option.some.injEq] at hs
  subst hs
  exact ⟨by rw [Zc],by rw [Zc]; rfl⟩
 case mv d a=>exact fin (x:=some (st.get a)) rfl (by simp only[step,hg]; rfl)
 case pick d c a b=>exact fin (x:=(st.get c).bool?.map fun x=>if x then st.get a else st.get b) (by simp only[step]; cases (st.get c).bool?<;>rfl) (by simp only[step,hg]; cases (st.get c).bool?<;>rfl)
 case build d zero ps=>exact fin (x:=(st.fill (zero.map .u) ps).map fun cs=>.t (.ag cs)) (by simp only[step]; cases st.fill (zero.map .u) ps<;>rfl) (by simp only[step]; rw [Zdh ps _ (fun p hp=>h.get _ (List.mem_map.2 ⟨p,hp,rfl⟩))]; cases st.fill (zero.map .u) ps<;>rfl)
 case bin d b x y=>
  simp only[step,Option.bind_eq_some_iff,Option.map_eq_some_iff] at hs
  obtain ⟨u,hu,v,hv,r,hr,rfl⟩:=hs
  exact ⟨by rw [Zc],by rw [Zc]; simp [step,hg,hu,hv,hr]⟩
 case beq d ne x y=>
  simp only[step,Option.bind_eq_some_iff,Option.map_eq_some_iff] at hs
  obtain ⟨u,hu,v,hv,rfl⟩:=hs
  exact ⟨by rw [Zc],by rw [Zc]; simp [step,hg,hu,hv]⟩
 case not d x=>
  simp only[step,Option.map_eq_some_iff] at hs
  obtain ⟨u,hu,rfl⟩:=hs
  exact ⟨by rw [Zc],by rw [Zc]; simp [step,hg,hu]⟩
 case neg d x=>
  simp only[step,Option.map_eq_some_iff] at hs
  obtain ⟨u,hu,rfl⟩:=hs
  exact ⟨by rw [Zc],by rw [Zc]; simp [step,hg,hu]⟩
 case mnmx d mx x y=>
  simp only[step,Option.bind_eq_some_iff,Option.map_eq_some_iff] at hs
  obtain ⟨u,hu,v,hv,r,hr,rfl⟩:=hs
  exact ⟨by rw [Zc],by rw [Zc]; simp [step,hg,hu,hv,hr]⟩
 case conv d k x=>
  simp only[step] at hs
  split at hs
  ·rename_i h1; cases hs; exact ⟨by rw [Zc],by rw [Zc]; simp [step,hg,h1]⟩
  ·cases hs
 case cstr d x=>
  simp only[step] at hs
  split at hs
  ·rename_i h1; cases hs; exact ⟨by rw [Zc],by rw [Zc]; simp [step,hg,h1]⟩
  ·cases hs
 case slen d x=>
  simp only[step] at hs
  split at hs
  ·rename_i h1; cases hs; exact ⟨by rw [Zc],by rw [Zc]; simp [step,hg,h1]⟩
  ·cases hs
 case len d x=>
  simp only[step,Option.bind_eq_some_iff,Option.map_eq_some_iff] at hs
  obtain ⟨c,hc,m,hm,rfl⟩:=hs
  exact ⟨by rw [Zc],by rw [Zc]; simp [step,hg,hc,hm]⟩
 case ext d x i=>
  simp only[step] at hs
  split at hs
  ·rename_i h1
   simp only[Option.map_eq_some_iff] at hs
   obtain ⟨u,hu,rfl⟩:=hs
   exact ⟨by rw [Zc],by rw [Zc]; simp [step,hg,h1,hu]⟩
  ·cases hs
 case nilc d x=>
  simp only[step] at hs
  split at hs
  ·rename_i h1; cases hs; exact ⟨by rw [Zc],by rw [Zc]; simp [step,hg,h1]⟩
  ·rename_i h1; cases hs; exact ⟨by rw [Zc],by rw [Zc]; simp [step,hg,h1]⟩
  ·cases hs
 case fa d x off=>
  simp only[step] at hs
  split at hs
  ·rename_i h1; cases hs; exact ⟨by rw [Zc],by rw [Zc]; simp [step,hg,h1]⟩
  ·rename_i h1; cases hs; exact ⟨by rw [Zc],by rw [Zc]; simp [step,hg,h1]⟩
  ·cases hs
 case eqs d ks ne x y=>
  simp only[step] at hs
  split at hs
  ·rename_i h1 h2
   simp only[Option.map_eq_some_iff] at hs
   obtain ⟨u,hu,rfl⟩:=hs
   exact ⟨by rw [Zc],by rw [Zc]; simp [step,hg,h1,h2,hu]⟩
  ·cases hs
 case isn d ne x=>
  simp only[step] at hs
  split at hs
  ·rename_i h1; cases hs; exact ⟨by rw [Zc],by rw [Zc]; simp [step,hg,h1]⟩
  ·rename_i h1; cases hs; exact ⟨by rw [Zc],by rw [Zc]; simp [step,hg,h1]⟩
  ·rename_i h1; cases hs; exact ⟨by rw [Zc],by rw [Zc]; simp [step,hg,h1]⟩
  ·cases hs
 case ix d x i=>
  simp only[step,Option.bind_eq_some_iff] at hs
  obtain ⟨q,hq,hs⟩:=hs
  split at hs
  ·rename_i h1
   split at hs
   ·rename_i h2
    simp only[Option.map_eq_some_iff] at hs
    obtain ⟨u,hu,rfl⟩:=hs
    exact ⟨by rw [Zc],by rw [Zc]; simp only[step,hg,hq,Option.bind_some,h1,h2,if_true,hu,Option.map_some]⟩
   ·cases hs
  ·cases hs
 case fld d x off m agg=>
  simp only[step] at hs
  split at hs
  ·rename_i h1
   simp only[Option.bind_eq_some_iff,Option.map_eq_some_iff] at hs
   obtain ⟨u,hu,v,hv,rfl⟩:=hs
   exact ⟨by rw [Zc],by rw [Zc]; simp [step,hg,h1,hu,hv]⟩
  ·cases hs
 case ssl d x lo hi=>
  have hc:∀ n,ZaM st2 n lo hi=ZaM st n lo hi:=fun n=>ZcM (fun y hy=>h.get y (by simp only[IOp.args,List.cons_append,List.mem_cons]; exact .inr hy))
  have hx:=h.get x (by simp [IOp.args])
  simp only[step] at hs
  split at hs
  ·rename_i h1
   simp only[Option.map_eq_some_iff] at hs
   obtain ⟨u,hu,rfl⟩:=hs
   exact ⟨by rw [Zc],by rw [Zc]; simp [step,hx,h1,hc,hu]⟩
  ·cases hs
 case bstr d x=>
  simp only[step,Option.bind_eq_some_iff] at hs
  obtain ⟨c,hc,r,hr,hs⟩:=hs
  have hro:st2.rowsOf c=st.rowsOf c:=Zbx (fun id hid=>h.obj id (Zbl (a:=x) (by simp [IOp.args]) (Zhp hc hid)))
  split at hs
  ·rename_i h1
   simp only[Option.map_eq_some_iff] at hs
   obtain ⟨u,hu,rfl⟩:=hs
   exact ⟨by rw [Zc],by rw [Zc]; simp [step,hg,hc,hro,hr,h1,hu]⟩
  ·cases hs
 case ld d x m agg=>
  simp only[step] at hs
  split at hs
  ·rename_i id0 i p h1
   simp only[Option.bind_eq_some_iff,Option.map_eq_some_iff] at hs
   obtain ⟨u,hu,v,hv,rfl⟩:=hs
   have ho:st2.o id0=st.o id0:=h.obj id0 (Zbl (a:=x) (by simp [IOp.args]) (by rw [h1]; simp [D.ids,T.ids,T.cells,C.id?]))
   have hr2:=Zfe ho i p m
   exact ⟨by rw [Zc],by rw [Zc]; simp [step,hg,h1,hr2,hu,hv]⟩
  ·rename_i h1
   simp only[Option.bind_eq_some_iff,Option.map_eq_some_iff] at hs
   obtain ⟨u,hu,v,hv,rfl⟩:=hs
   exact ⟨by rw [Zc],by rw [Zc]; simp [step,hg,h1,hu,hv]⟩
  ·rename_i h1
   simp only[Option.bind_eq_some_iff,Option.map_eq_some_iff] at hs
   obtain ⟨u,hu,v,hv,rfl⟩:=hs
   exact ⟨by rw [Zc],by rw [Zc]; simp [step,hg,h1,hu,hv]⟩
  ·cases hs
 case ia d sz x i=>
  simp only[step,Option.bind_eq_some_iff] at hs
  obtain ⟨q,hq,hs⟩:=hs
  split at hs
  ·rename_i h1
   split at hs
   ·rename_i h2
    simp only[Option.map_eq_some_iff] at hs
    obtain ⟨u,hu,rfl⟩:=hs
    exact ⟨by rw [Zc],by rw [Zc]; simp only[step,hg,hq,Option.bind_some,h1,h2,and_self,if_true,hu,Option.map_some]⟩
   ·cases hs
  ·rename_i id0 m h1
   have ho:st2.o id0=st.o id0:=h.obj id0 (Zbl (a:=x) (by simp [IOp.args]) (by rw [h1]; simp [D.ids,T.ids,T.cells,C.id?]))
   split at hs
   ·rename_i h2
    split at hs
    ·rename_i h3
     cases hs
     exact ⟨by rw [Zc],by rw [Zc]; simp only[step,hg,hq,Option.bind_some,h1,ho,h2,h3,and_self,if_true]⟩
    ·cases hs
   ·cases hs
  ·rename_i id0 m h1
   have ho:st2.o id0=st.o id0:=h.obj id0 (Zbl (a:=x) (by simp [IOp.args]) (by rw [h1]; simp [D.ids,T.ids,T.cells,C.id?]))
   split at hs
   ·rename_i h2
    split at hs
    ·rename_i h3
     cases hs
     exact ⟨by rw [Zc],by rw [Zc]; simp only[step,hg,hq,Option.bind_some,h1,ho,h2,h3,and_self,if_true]⟩
    ·cases hs
   ·cases hs
  ·cases hs
end Go.Proofs.YtfajcehhcjmofaaGreatV
