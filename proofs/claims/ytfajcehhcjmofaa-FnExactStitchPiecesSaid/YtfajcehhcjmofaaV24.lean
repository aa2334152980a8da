/- Effects depend on what is read alone: all operations. No conditions but those that the lemmas state. -/
import Derived.Test.YtfajcehhcjmofaaV23
namespace Go.Proofs.YtfajcehhcjmofaaV
open Go Go.RowKit
set_option linter.unusedVariables false
set_option linter.unusedSimpArgs false
variable {E:Zb} {st st2 st':St}
theorem ZaF {α β:Type} {f g:α→Option β}:∀ {l:List α},(∀ x,x∈l→f x=g x)→l.mapM f=l.mapM g
 | [],_=>rfl
 | x::l,h=>by
  rw [List.mapM_cons,List.mapM_cons,h x (List.mem_cons_self ..),ZaF (l:=l) (fun y hy=>h y (List.mem_cons_of_mem _ hy))]
theorem Zds {c:C} (h:∀ id,c.id?=some id→st2.o id=st.o id):st2.lend c=st.lend c:=by
 cases c with
 | own id n=>simp only[St.lend]; rw [ZbB h]
 | down id n=>simp only[St.lend]; rw [h id rfl]
 | sub id i c n=>simp only[St.lend]; rw [h id rfl]
 | _=>rfl
theorem ZeL {x:T} (h:∀ id,id∈x.ids→st2.o id=st.o id):st2.lendT x=st.lendT x:=by
 cases x with
 | sc c=>simp only[St.lendT]; rw [Zds (fun id hid=>h id (by simp [T.ids,T.cells,hid]))]
 | ag cs=>simp only[St.lendT]; rw [ZaF (l:=cs) (f:=st2.lend) (g:=st.lend) (fun c hc=>Zds (fun id hid=>h id (List.mem_filterMap.2 ⟨c,hc,hid⟩)))]
theorem ZbK (d:Nat):∀ (xs:List Obj) (j k:Nat),k<xs.length→Id.loc d (j+k)∈(Zw d j xs).map (·.1)
 | [],_,_,h=>by simp at h
 | x :: xs,j,k,h=>by
  cases k with
  | zero=>simp [Zw]
  | succ k=>
   simp only[Zw,List.map_cons,List.mem_cons]
   right
   have:=ZbK d xs (j+1) k (by simpa using h)
   rw [show j+1+k=j + (k+1) by omega] at this
   exact this
theorem Zb9 {d k:Nat} (h:∀ j,j<k→st2.o (.loc d j)=st.o (.loc d j)):st2.dead d k=st.dead d k:=by
 unfold St.dead
 apply Bool.eq_iff_iff.2
 simp only[List.all_eq_true,List.mem_range]
 exact ⟨fun q j hj=>by rw [←h j hj]; exact q j hj,fun q j hj=>by rw [h j hj]; exact q j hj⟩
theorem ZbL {op:IOp} (hg:∀ x,x∈op.args→st2.get x=st.get x):Zt st2 op=Zt st op:=by
 unfold Zt
 generalize op.args=l at hg
 induction l with
 | nil=>rfl
 | cons a l ih=>
  rw [List.flatMap_cons,List.flatMap_cons,hg a (List.mem_cons_self ..),ih (fun x hx=>hg x (List.mem_cons_of_mem _ hx))]
theorem ZdY {op:IOp} {e:Fx} (hF:op.isF=true) (h:fxF E st op=some e) (hg:∀ x,x∈op.args→st2.get x=st.get x) (ho:∀ id,id∈e.rd++e.set.map (·.1)→st2.o id=st.o id):fxF E st2 op=some e:=by
 simp only[fxF,Option.bind_eq_some_iff,Option.map_eq_some_iff] at h
 obtain ⟨s,hs,d,hd,rfl⟩:=h
 obtain ⟨_,h2⟩:=Zej hF hd ⟨hg,fun id hid=>ho id (by simp only[List.map_nil,List.append_nil]; exact hid)⟩ s hs
 simp only[fxF,h2,Option.bind_some,hd,Option.map_some,Zc,ZbL hg]
theorem ZdP {ps:List (Nat×Arg)} (hg:∀ p,p∈ps→st2.get p.2=st.get p.2):st2.partIds ps=st.partIds ps:=by
 unfold St.partIds
 induction ps with
 | nil=>rfl
 | cons p ps ih=>
  rw [List.flatMap_cons,List.flatMap_cons,hg p (List.mem_cons_self ..),ih (fun q hq=>hg q (List.mem_cons_of_mem _ hq))]
theorem ZcB:∀ (ids:List Id) (xs:List Obj) (s s2:St),(∀ id,id∈ids→s2.o id=s.o id)→(Zz ids xs s2).isSome=(Zz ids xs s).isSome
 | [],[],_,_,_=>rfl
 | id::ids,x::xs,s,s2,h=>by
  simp only[Zz]
  rw [h id (List.mem_cons_self ..)]
  split
  ·refine ZcB ids xs _ _ (fun i hi=>?_)
   simp only[St.obj]
   split
   ·rfl
   ·exact h i (List.mem_cons_of_mem _ hi)
  ·rfl
 | [],_::_,_,_,_=>rfl
 | _::_,[],_,_,_=>rfl
theorem ZeC {op:IOp} {e:Fx} (h:fx E st op=some e) (hg:∀ x,x∈op.args→st2.get x=st.get x) (ho:∀ id,id∈e.rd++e.set.map (·.1)→st2.o id=st.o id):fx E st2 op=some e:=by
 have d1:∀ d,(Id.loc d 0)∈e.rd++e.set.map (·.1)→st2.dead d 1=st.dead d 1:=fun d hd=>Zb9 (fun j hj=>by
  have:j=0:=by omega
  subst this; exact ho _ hd)
 cases op
 case alloc d zero=>
  simp only[fx] at h ⊢
  split at h
  ·rename_i h1
   cases h
   rw [d1 d (by simp),if_pos h1]
  ·cases h
 case nilr d sz=>
  simp only[fx] at h ⊢
  split at h
  ·rename_i h1
   cases h
   rw [d1 d (by simp),if_pos h1]
  ·cases h
 case box d a=>
  simp only[fx] at h ⊢
  split at h
  ·rename_i h1
   simp only[Option.bind_eq_some_iff] at h
   obtain ⟨x,hx,h⟩:=h
   split at h
   ·rename_i h2
    cases h
    rw [d1 d (by simp),if_pos h1,hg a (by simp [IOp.args]),hx,Option.bind_some,if_pos h2]
   ·cases h
  ·cases h
 case lit d n zero ps=>
  have hp:∀ p,p∈ps→st2.get p.2=st.get p.2:=fun p hp=>hg _ (List.mem_map.2 ⟨p,hp,rfl⟩)
  simp only[fx] at h ⊢
  split at h
  ·rename_i h1
   simp only[Option.map_eq_some_iff] at h
   obtain ⟨r,hr,rfl⟩:=h
   rw [d1 d (by simp),ZdP hp,if_pos h1,ZbI ps _ hp,hr]; rfl
  ·cases h
 case mk d n c zero bytes=>
  simp only[fx] at h ⊢
  split at h
  ·rename_i h1
   simp only[Option.bind_eq_some_iff] at h
   obtain ⟨m,hm,k,hk,h⟩:=h
   split at h
   ·rename_i h2
    cases h
    rw [d1 d (by simp),if_pos h1,hg n (by simp [IOp.args]),hg c (by simp [IOp.args]),hm,hk]
    simp only[Option.bind_some]
    rw [if_pos h2]
   ·cases h
  ·cases h
 case app d sz x y bytes=>
  simp only[fx] at h ⊢
  split at h
  ·rename_i h1
   simp only[Option.bind_eq_some_iff] at h
   obtain ⟨ys,hys,h⟩:=h
   split at h
   ·rename_i h2
    cases h
    have hv:Zbe st2 sz (st2.get y)=some ys:=by
     rw [hg y (by simp [IOp.args])]
     rw [←hys]
     have hmm:∀ id,id∈(st.get y).ids→st2.o id=st.o id:=fun id hid=>ho id (List.mem_append.2 (.inl (Zbq (a:=y) (by simp [IOp.args]) hid)))
     generalize st.get y=v at hmm
     cases v with
     | t x=>cases x with
      | sc c=>
       have hr:st2.rowsOf c=st.rowsOf c:=ZbB (fun id hid=>hmm id (by simp [D.ids,T.ids,T.cells,hid]))
       cases c with
       | u u=>cases u<;>first|rfl|exact hr
       | _=>exact hr
      | ag cs=>rfl
     | _=>rfl
    rw [d1 d (by simp),hg x (by simp [IOp.args]),if_pos h1,hv,Option.bind_some,if_pos h2,ZbL hg]
   ·cases h
  ·cases h
 case callv=>cases h
 case cl=>cases h
 case stc=>cases h
 case slp=>cases h
 case mkd=>cases h
 case litd=>cases h
 case appd=>cases h
 case std=>cases h
 case callk=>cases h
 case mkf=>cases h
 case callc=>cases h
 case slc d sz x lo hi=>
  simp only[fx] at h ⊢
  rw [hg x (by simp [IOp.args])]
  split at h
  ·rename_i h1
   rw [if_pos h1]
   simp only[fxF,Option.bind_eq_some_iff,Option.map_eq_some_iff] at h
   obtain ⟨s,hs,d',hd,rfl⟩:=h
   have hc:∀ n,ZaR st2 n lo hi=ZaR st n lo hi:=fun n=>ZcS (fun y hy=>hg y (by simp only[IOp.args,List.cons_append,List.mem_cons]; exact .inr hy))
   obtain ⟨u,hu⟩:=Option.isSome_iff_exists.1 h1
   have hcx:(st.get x).c?=some (.u u):=by rw [Zer hu]; rfl
   simp only[step,hcx,Option.bind_some] at hs
   cases u with
   | sl z r=>
    simp only at hs
    split at hs
    ·rename_i hz
     simp only[Option.map_eq_some_iff] at hs
     obtain ⟨p,hp,rfl⟩:=hs
     simp only[IOp.dst,Option.some.injEq] at hd
     subst hd
     simp only[fxF,step,hg x (by simp [IOp.args]),hcx,Option.bind_some,hz,if_true,hc,hp,Option.map_some,IOp.dst,Zc,ZbL hg]
    ·cases hs
   | _=>simp at hs
  ·cases h
 case st n a x=>
  simp only[fx] at h ⊢
  rw [hg a (by simp [IOp.args])]
  split at h
  ·rename_i id i p h1
   simp only[Option.bind_eq_some_iff] at h
   obtain ⟨v,hv,h⟩:=h
   split at h
   ·rename_i h2
    simp only[Option.bind_eq_some_iff,Option.map_eq_some_iff] at h
    obtain ⟨s,hs,ob,hob,rfl⟩:=h
    have hid:=ho id (by simp)
    have h2':v.cells.length=n∧(v.ids=[]∨st2.isRow id=false):=⟨h2.1,h2.2.imp (fun h=>h) (fun h=>by simpa only [St.isRow,hid] using h)⟩
    rw [hg x (by simp [IOp.args]),hv]
    simp only[Option.bind_some,if_pos h2']
    have:∃ s2,st2.write id i p v.cells=some s2∧s2.o id=some ob:=by
     unfold St.write at hs ⊢
     rw [hid]
     split at hs
     ·split at hs
      ·rename_i h3
       simp only[Option.map_eq_some_iff] at hs
       obtain ⟨c,hc,rfl⟩:=hs
       refine ⟨_,by simp only[h3,if_true,hc,Option.map_some]; rfl,?_⟩
       simp only[St.obj,if_true] at hob ⊢
       exact hob
      ·cases hs
     ·simp only[Option.bind_eq_some_iff,Option.map_eq_some_iff] at hs
      obtain ⟨us,hus,row,hrow,c,hc,rfl⟩:=hs
      refine ⟨_,by simp only[hus,hrow,hc,Option.bind_some,Option.map_some]; rfl,?_⟩
      simp only[St.obj,if_true] at hob ⊢
      exact hob
     ·simp only[Option.bind_eq_some_iff] at hs
      obtain ⟨us,hus,row,hrow,old,hold,hs⟩:=hs
      split at hs
      ·rename_i hsc
       simp only[Option.map_eq_some_iff] at hs
       obtain ⟨c,hc,rfl⟩:=hs
       refine ⟨_,by simp only[hus,hrow,hold,hc,Option.bind_some,Option.map_some,if_pos hsc]; rfl,?_⟩
       simp only[St.obj,if_true] at hob ⊢
       exact hob
      ·cases hs
     ·cases hs
    obtain ⟨s2,h4,h5⟩:=this
    rw [h4]
    simp only[Option.bind_some,h5,Option.map_some]
   ·cases h
  ·cases h
 case call d f xs=>
  simp only[fx] at h ⊢
  simp only[Option.bind_eq_some_iff] at h
  obtain ⟨vs,hvs,args,hargs,r,hr,h⟩:=h
  split at h
  ·rename_i h1
   cases h
   rw [ZaF (l:=xs) (f:=fun a=>(st2.get a).t?) (g:=fun a=>(st.get a).t?) (fun a ha=>by rw [hg a ha]),hvs,Option.bind_some]
   have hl:vs.mapM st2.lendT=vs.mapM st.lendT:=ZaF (fun v hv=>ZeL (fun id hid=>ho id (List.mem_append.2 (.inl (List.mem_flatMap.2 ⟨v,hv,hid⟩)))))
   have hd:st2.dead d r.new.length=st.dead d r.new.length:=Zb9 (fun j hj=>ho _ (List.mem_append.2 (.inr (by
    have:=ZbK d r.new 0 j hj
    rw [Nat.zero_add] at this
    exact this))))
   rw [hl,hargs,Option.bind_some,hr,Option.bind_some,hd,if_pos h1]
  ·cases h
 case callr d f xs=>
  simp only[fx] at h ⊢
  simp only[Option.bind_eq_some_iff] at h
  obtain ⟨vs,hvs,ins,hins,h⟩:=h
  split at h
  ·rename_i h1
   simp only[Option.bind_eq_some_iff] at h
   obtain ⟨r,hr,h⟩:=h
   split at h
   ·rename_i h2
    cases h
    rw [ZaF (l:=xs) (f:=fun a=>(st2.get a).t?) (g:=fun a=>(st.get a).t?) (fun a ha=>by rw [hg a ha]),hvs,Option.bind_some]
    have hm:∀ id,id∈(vs.flatMap T.ids).eraseDups→st2.o id=st.o id:=fun id hid=>ho id (List.mem_append.2 (.inl hid))
    have hd:st2.dead d r.new.length=st.dead d r.new.length:=Zb9 (fun j hj=>ho _ (List.mem_append.2 (.inr (by
     have:=ZbK d r.new 0 j hj
     rw [Nat.zero_add] at this
     rw [List.map_append]
     exact List.mem_append.2 (.inr this)))))
    rw [ZaF (f:=st2.o) (g:=st.o) hm,hins,Option.bind_some,if_pos h1,hr,Option.bind_some,ZcB _ _ st st2 hm,hd,if_pos h2]
   ·cases h
  ·cases h
 case mv d a=>
  simp only[fx] at h ⊢
  rw [hg a (by simp [IOp.args])]
  split at h
  ·rename_i h1
   rw [if_pos h1]; exact h
  ·rename_i h1
   rw [if_neg h1]; exact ZdY rfl h hg ho
 all_goals exact ZdY rfl h hg ho
end Go.Proofs.YtfajcehhcjmofaaV
