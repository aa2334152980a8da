/- Calls as operations. No conditions but those that the lemmas state. -/
import Derived.Test.YtfajcehhcjmofaaV18
namespace Go.Proofs.YtfajcehhcjmofaaV
open Go Go.RowKit
set_option linter.unusedVariables false
set_option linter.unusedSimpArgs false
variable {base:Nat} {σ0:Sig} {X:Nat→Prop} {w0 w w':World} {σ σ':Sig} {M M':Nat→Prop} {a:Act} {st st':St} {P:Program} {n:Nat} {o:Oper} {E:Zb}
variable {ob:Id→Option Obj}
/-- What the evaluator's calls say of the program's. -/
def Zad (P:Program) (E:Zb):Prop:=∀ f args ins r,E f args ins=some r→∀ (w:World) (X:Nat→Prop) (σ0:Sig) (M0:Nat→Prop) (vs:Array Value),In w X σ0 M0 args ins vs→
 Calls P (pf f) vs w fun e w'=>∃ σn N M1 ys,e=.returned (retV ys)∧Out w X σ0 ins.length r σn N M1 ys w'
/-- An operation that goes on to a state, calls too. -/
def Does (base:Nat) (σ0:Sig) (X:Nat→Prop) (w0:World) (P:Program) (o:Oper) (a:Act) (w:World) (st':St):Prop:=
 ∀ (next:Act→World→Prop) (Q:Exit→Act→World→Prop),(∀ σ' M' w' v,Rel base σ0 X w0 σ' M' w' (a.put o.dst v) st'→next (a.put o.dst v) w')→o.wp P a w next Q
theorem Goes.does (h:Goes base σ0 X w0 P o a w st'):Does base σ0 X w0 P o a w st':=by
 obtain ⟨x,v,w',σ',M',hrun,hx,hR⟩:=h
 intro next Q hnext
 unfold Oper.wp
 rw [hrun]
 rcases hx with rfl|⟨rfl,rfl⟩
 ·exact hnext σ' M' w' v hR
 ·exact hnext σ' M' w' undef hR
theorem Ze0 {xs:List T} {vs:List Value} (hl:vs.length=xs.length) (hr:∀ (j:Nat) x,xs[j]?=some x→∃ y,vs[j]?=some y∧RepT w M σ ob x y):RepD w M σ ob (retD xs) (retV vs):=by
 match xs,vs,hl,hr with
 | [x],[v],_,hr=>
  obtain ⟨y,hy,h⟩:=hr 0 x rfl
  cases hy
  exact h
 | [],[],_,hr=>exact ⟨_,rfl,rfl,fun j x hj=>by simp at hj⟩
 | x :: y::xs,v::u::vs,hl,hr=>exact ⟨_,rfl,by simpa using hl,fun j q hj=>by
   obtain ⟨z,hz,h⟩:=hr j q hj
   exact ⟨z,by simpa using hz,h⟩⟩
theorem Zbo (h:Rel base σ0 X w0 σ M w a st) (hn:a.tmps.size=n):∀ (xs:List Arg) (os:List Operand) (ts:List T),ZaC n xs os=true→xs.mapM (fun x=>(st.get x).t?)=some ts→os.length=ts.length∧∀ (j:Nat) t,ts[j]?=some t→∃ v,(os.map a.eval)[j]?=some v∧RepT w M σ st.o t v
 | [],[],ts,_,hx=>by simp at hx; subst hx; exact ⟨rfl,fun j t hj=>by simp at hj⟩
 | x::xs,y::os,ts,hok,hx=>by
  simp only[ZaC,Bool.and_eq_true] at hok
  simp only[List.mapM_cons,Option.bind_eq_bind,Option.bind_eq_some_iff,Option.pure_def,Option.some.injEq] at hx
  obtain ⟨t,ht,ts',hts,rfl⟩:=hx
  obtain ⟨h1,h2⟩:=Zbo h hn xs os ts' hok.2 hts
  refine ⟨by simp [h1],fun j q hj=>?_⟩
  cases j with
  | zero=>simp at hj; subst hj; exact ⟨_,rfl,ZdE h hn hok.1 ht⟩
  | succ j=>simp at hj; obtain ⟨v,h3,h4⟩:=h2 j q hj; exact ⟨v,by simpa using h3,h4⟩
 | [],_::_,_,hok,_=>by simp [ZaC] at hok
 | _::_,[],_,hok,_=>by simp [ZaC] at hok
theorem ZbU {c:Call} {f:Nat} {xs:List Arg} (ho:o.op=.call c) (hok:ZcK P n f xs c=true):ZaC n xs c.args.toList=true∧(execOp a.eval o).run P w=.ok (.enter (pf f) (c.args.map a.eval)) w:=by
 simp only[ZcK,Bool.and_eq_true] at hok
 obtain ⟨⟨hcal,hargs⟩,hf⟩:=hok
 refine ⟨hargs,?_⟩
 split at hcal
 ·rename_i g hc
  simp only[beq_iff_eq] at hcal
  subst hcal
  unfold Zdo at hf
  split at hf
  ·rename_i fn hfn
   simp only[Bool.and_eq_true,Bool.not_eq_true'] at hf
   obtain ⟨hname,hbody⟩:=hf
   have hb:fn.body.isNone=false:=by cases hq:fn.body with
    | none=>rw [hq] at hbody; cases hbody
    | some _=>rfl
   simp only[execOp,ho,resolve,hc,Act.eval,Deferred.ofValue,Sem.run_bind,Sem.run_pure,Result.andThen_ok,invoke,callFunc,run_program,hfn,hname,hb,Bool.false_eq_true,if_false,Sem.run_ite,Array.append_empty]
   simp only[Array.empty_append]
  ·cases hf
 ·cases hcal
theorem Zck:∀ (ids:List Id) (st:St) (id:Id),id∈ids→(st.coolAll ids).o id=none
 | i :: ids,st,id,h=>by
  by_cases e:id=i
  ·subst e; exact Zbt ids _ _ (Zaj _)
  ·rcases List.mem_cons.1 h with h|h
   ·exact absurd h e
   ·exact Zck ids (st.cool i) id h
theorem ZdC {σn:Sig} {M1 M2:Nat→Prop} {f:Id→Option Id} {c:C} {v:Value} (hq:c.isSl=false) (h:RepC w M1 σn (Zj []) c v):RepC w M2 σ' ob (C.ren f c) v:=by
 cases c with
 | u x=>
  show RepU w M2 x v
  exact Zbp (by simpa [C.isSl] using hq) h
 | own i m=>
  obtain ⟨z,rows,ho,_⟩:=h
  cases i<;>simp [Zj] at ho
 | ptr i p q=>
  obtain ⟨L,ho,_⟩:=h
  cases i<;>simp [Zj] at ho
 | bad=>exact h
 | down i m=>
  obtain ⟨z,rows,ho,_⟩:=h
  cases i<;>simp [Zj] at ho
 | sub i p q m=>
  obtain ⟨z,rows,L,ho,_⟩:=h
  cases i<;>simp [Zj] at ho
theorem Zfh {σn:Sig} {M1 M2:Nat→Prop} {f:Id→Option Id} {x:T} {v:Value} (hq:∀ c,c∈x.cells→c.isSl=false) (h:RepT w M1 σn (Zj []) x v):RepT w M2 σ' ob (x.mapC (C.ren f)) v:=by
 cases x with
 | sc c=>exact ZdC (hq c (by simp [T.cells])) h
 | ag cs=>
  obtain ⟨vs,rfl,hs,hc⟩:=h
  refine ⟨vs,rfl,by rw [List.length_map]; exact hs,fun j c hj=>?_⟩
  rw [List.getElem?_map] at hj
  obtain ⟨c0,hc0,rfl⟩:=Option.map_eq_some_iff.1 hj
  obtain ⟨x,hx,hr⟩:=hc j c0 hc0
  exact ⟨x,hx,ZdC (hq c0 (List.mem_of_getElem? hc0)) hr⟩
/-- The call's results come into a slot; its new objects are the caller's. -/
theorem ZbZ {N:Nat→Prop} (h:Rel base σ0 (fun b=>X b∨N b) w0 σ M w' a st) (hn:a.tmps.size=n) {d:Nat} {od:Option Tmp} (hd:Zp n od d=true) {Xc:Nat→Prop} {σc:Sig} {nout:Nat} {r:Ret} {σn:Sig} {M1:Nat→Prop} {ys:List Value} (ho:Out w Xc σc nout r σn N M1 ys w') (hX:∀ b,N b→¬X b∧From base σ0 b)
  (hM:(∀ b,M b→M1 b)∨r.quiet=true):∃ σ' M',Rel base σ0 X w0 σ' M' w' (a.put od (retV ys)) ((st.coolAll ((List.range r.new.length).map (.loc d ·))).ofRet d r):=by
 obtain ⟨M2,hR,hM2,_⟩:=h.coolAll ((List.range r.new.length).map (.loc d ·))
 have hnone:∀ (k:Nat),k<r.new.length→(st.coolAll ((List.range r.new.length).map (.loc d ·))).o (.loc d (0+k))=none:=fun k hk=>Zck _ _ _ (by simp; exact hk)
 have hquiet:r.quiet=true→(∀ x,x∈r.new→x.flat=true)∧∀ x,x∈r.res→∀ c,c∈x.cells→c.isSl=false:=by
  intro hq
  simp only[Ret.quiet,Bool.and_eq_true,List.all_eq_true,Bool.not_eq_true'] at hq
  exact hq
 have hNM:∀ b,N b→M2 b:=fun b hb=>(hR.sup b (.inr hb)).1
 obtain ⟨σ',hA,hA2,hA3⟩:=hR.adoptAll (σn:=σn) (oN:=Zj r.new) (d:=d) r.new 0 hnone (fun k x hk=>by
   rw [Nat.zero_add]
   obtain ⟨h1,h2⟩:=ho.nobj k x hk
   have hlt:k<r.new.length:=(List.getElem?_eq_some_iff.1 hk).1
   rcases hM with hM|hq
   ·exact ⟨⟨h1,ZaV h1 ⟨Nat.le_refl _,fun _ _ _=>rfl,fun b _ hb=>hM b (hM2 b hb)⟩ rfl (fun L b hL hb=>hNM _ ((ho.new_ _).2 ⟨k,L,hlt,hL,hb⟩)) h2⟩,fun L hd hL=>ho.lone k x L hk hd hL⟩
   ·exact ⟨⟨h1,ZfX h1 ((hquiet hq).1 x (List.mem_of_getElem? hk)) rfl (fun L b hL hb=>hNM _ ((ho.new_ _).2 ⟨k,L,hlt,hL,hb⟩)) h2⟩,fun L hd hL=>ho.lone k x L hk hd hL⟩)
  (fun k L b hk hL hLb=>by
   rw [Nat.zero_add] at hL
   have hN:=(ho.new_ b).2 ⟨k,L,hk,hL,hLb⟩
   exact ⟨.inr hN,(hX b hN).2⟩)
  (fun k k' L L' b hk hk' hL hL' e e'=>by
   rw [Nat.zero_add] at hL hL'
   exact ho.inj k k' L L' b hk hk' hL hL' e e')
 have hXe:(fun b=>(X b∨N b)∧∀ (k:Nat) L,k<r.new.length→σn (.par (0+k))=some L→¬L.has b)=X:=by
  funext b
  refine propext ⟨fun h=>h.1.resolve_right (fun hN=>?_),fun h=>⟨.inl h,fun k L hk hL e=>?_⟩⟩
  ·obtain ⟨j,L,hj,hL,e⟩:=(ho.new_ b).1 hN
   exact h.2 j L hj (by rw [Nat.zero_add]; exact hL) e
  ·rw [Nat.zero_add] at hL
   exact (hX b ((ho.new_ b).2 ⟨k,L,hk,hL,e⟩)).1 h
 rw [hXe] at hA
 obtain ⟨p1,p2,p3⟩:=ZeW d r.new 0 (st.coolAll ((List.range r.new.length).map (.loc d ·)))
 refine ⟨σ',M2,hA.putAny hn hd (Ze0 (by rw [List.length_map]; exact ho.len) (fun j x hj=>?_))⟩
 rw [List.getElem?_map] at hj
 obtain ⟨x0,hx0,rfl⟩:=Option.map_eq_some_iff.1 hj
 obtain ⟨y,hy,hr⟩:=ho.res j x0 hx0
 refine ⟨y,hy,?_⟩
 have hf:∀ i q,Zah d i=some q→((Zj r.new) i).isSome=true→((ZaP d 0 r.new (st.coolAll ((List.range r.new.length).map (.loc d ·)))).o q=(Zj r.new) i∧σ' q=σn i):=by
  intro i q hi hs
  cases i with
  | loc t j=>cases hi
  | par m=>
   simp only[Zah,Option.some.injEq] at hi
   subst hi
   have hs':(r.new[m]?).isSome=true:=hs
   obtain ⟨x1,hx1⟩:=Option.isSome_iff_exists.1 hs'
   have hlt:m<r.new.length:=(List.getElem?_eq_some_iff.1 hx1).1
   have h4:=p2 m x1 hx1
   have h5:=hA2 m hlt
   rw [Nat.zero_add] at h4 h5
   exact ⟨by rw [h4]; exact hx1.symm,h5⟩
 rcases hM with hM|hq
 ·exact ZcC ⟨Nat.le_refl _,fun _ _ _=>rfl,fun b _ hb=>hM b (hM2 b hb)⟩ hf hr
 ·exact Zf1 ((hquiet hq).2 x0 (List.mem_of_getElem? hx0)) hf hr
end Go.Proofs.YtfajcehhcjmofaaV
