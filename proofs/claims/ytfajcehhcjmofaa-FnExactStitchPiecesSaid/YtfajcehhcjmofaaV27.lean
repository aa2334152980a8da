/- Regions whose order is drawn: the check, and that it is sound. No conditions but those that the lemmas state. -/
import Derived.Test.YtfajcehhcjmofaaV26
namespace Go.Proofs.YtfajcehhcjmofaaV
open Go Go.RowKit
set_option linter.unusedVariables false
set_option linter.unusedSimpArgs false
variable {base:Nat} {σ0:Sig} {X:Nat→Prop} {w0 w w':World} {σ σ':Sig} {M M':Nat→Prop} {a:Act} {st st2 st':St} {P:Program} {n:Nat} {o:Oper} {E:Zb}
def Zh1 (acc:List Nat) (es:List Edge):Nat:=es.foldl (fun s e=>if Region.binds .any e then s ||| 2 ^ e.on ||| acc.getD e.on 0 else s) 0
/-- Which operations come ahead of each, by its edges. -/
def ZeR:List Oper→List Nat→List Nat
 | [],acc=>acc
 | o::os,acc=>ZeR os (acc++[Zh1 acc o.after.toList])
def Zfa (ops:Array Oper) (gs:List (GOp×List Nat)) (ms:List Nat) (i:Nat):Bool:=match ops[i]?,gs[i]? with
 | some o,some (g,free)=>(o.after.toList.all fun e=>!Region.binds .any e||decide (e.on<i))&&(List.range i).all fun j=>(ms.getD i 0).testBit j||(!ZbQ free&&free.contains j&&(match gs[j]? with
  | some (gj,fj)=>!ZbQ fj&&Za1 gj g
  | none=>false))
 | _,_=>false
def Zi (ops:Array Oper) (gs:List (GOp×List Nat)):Bool:=gs.length==ops.size&&(List.range ops.size).all (Zfa ops gs (ZeR ops.toList []))
/-- What is done is done with all that comes ahead of it. -/
def Zf6 (ops:Array Oper) (L:Nat→Prop):Prop:=∀ (i:Nat) o,ops[i]?=some o→L i→∀ e,e∈o.after.toList→Region.binds .any e=true→L e.on
def Zde (ops:Array Oper) (acc:List Nat):Prop:=∀ (k m:Nat),acc[k]?=some m→∀ L:Nat→Prop,Zf6 ops L→(∀ o,ops[k]?=some o→∀ e,e∈o.after.toList→Region.binds .any e=true→L e.on)→∀ b,m.testBit b=true→L b
theorem Zc1 (acc:List Nat) (b:Nat):∀ (es:List Edge) (s:Nat),(es.foldl (fun s e=>if Region.binds .any e then s ||| 2 ^ e.on ||| acc.getD e.on 0 else s) s).testBit b=true→s.testBit b=true∨∃ e,e∈es∧Region.binds .any e=true∧(b=e.on∨(acc.getD e.on 0).testBit b=true)
 | [],s,h=>.inl h
 | e :: es,s,h=>by
  rcases Zc1 acc b es _ h with h1|⟨e',h1,h2,h3⟩
  ·dsimp only at h1
   split at h1
   ·rename_i hb
    simp only[Nat.testBit_or,Bool.or_eq_true,Nat.testBit_two_pow,decide_eq_true_eq] at h1
    rcases h1 with (h1|h1)|h1
    ·exact .inl h1
    ·exact .inr ⟨e,List.mem_cons_self ..,hb,.inl h1.symm⟩
    ·exact .inr ⟨e,List.mem_cons_self ..,hb,.inr h1⟩
   ·exact .inl h1
  ·exact .inr ⟨e',List.mem_cons_of_mem _ h1,h2,h3⟩
theorem Zdv (ops:Array Oper):∀ (l:List Oper) (acc:List Nat),(∀ j,l[j]?=ops[acc.length+j]?)→Zde ops acc→Zde ops (ZeR l acc)
 | [],acc,_,h=>h
 | o :: l, acc,hl,h=>by
  refine Zdv ops l _ (fun j=>?_) ?_
  ·have:=hl (j+1)
   rw [List.getElem?_cons_succ] at this
   rw [this,List.length_append,List.length_singleton]
   congr 1; omega
  ·intro k m hk L hc hL b hb
   by_cases hlt:k<acc.length
   ·rw [List.getElem?_append_left hlt] at hk
    exact h k m hk L hc hL b hb
   ·have hk':k=acc.length:=by
     have:=(List.getElem?_eq_some_iff.1 hk).1
     simp at this; omega
    subst hk'
    simp only[List.getElem?_append_right (Nat.le_refl _),Nat.sub_self,List.getElem?_cons_zero,Option.some.injEq] at hk
    subst hk
    have ho:ops[acc.length]?=some o:=by have:=hl 0; simpa using this.symm
    rcases Zc1 acc b _ 0 hb with h0|⟨e,h1,h2,h3⟩
    ·simp at h0
    ·have hLe:=hL o ho e h1 h2
     rcases h3 with rfl|h3
     ·exact hLe
     ·cases hq:acc[e.on]? with
      | none=>rw [List.getD_eq_getElem?_getD,hq] at h3; simp at h3
      | some m'=>
       rw [List.getD_eq_getElem?_getD,hq,Option.getD_some] at h3
       exact h e.on m' hq L hc (fun o' ho'=>hc e.on o' ho' hLe) b h3
theorem Zdq {ops:Array Oper}:∀ (l:List Oper) (gs:List GOp),ZaD P n ops l gs=true→∀ (i:Nat) o g,l[i]?=some o→gs[i]?=some g→ZcV P n ops o g=true
 | [],[],_,i,o,g,h,_=>by simp at h
 | o::l,g::gs,hok,i,o',g',h1,h2=>by
  simp only[ZaD,Bool.and_eq_true] at hok
  cases i with
  | zero=>simp only[List.getElem?_cons_zero,Option.some.injEq] at h1 h2; subst h1; subst h2; exact hok.1
  | succ i=>exact Zdq l gs hok.2 i o' g' (by simpa using h1) (by simpa using h2)
 | [],_::_,hok,_,_,_,_,_=>by simp [ZaD] at hok
 | _::_,[],hok,_,_,_,_,_=>by simp [ZaD] at hok
theorem Zcf:∀ (gs:List (GOp×List Nat)) (done:List Fx) (st:St),Zy E gs done st=some st'→∃ tr:List (Nat×GOp×Option Fx),tr.length=gs.length∧
  (∀ (k:Nat) x,tr[k]?=some x→x.1=done.length+k∧∃ free,gs[k]?=some (x.2.1,free)∧(x.2.2=none↔ZbQ free=true)∧∀ e,x.2.2=some e→∀ j,j∈free→j<done.length+k→∀ f,(done++tr.map fun y=>y.2.2.getD noFx)[j]?=some f→f.apart e=true)∧Tr E st tr st'
 | [],done,st,h=>⟨[],rfl,fun k x hk=>by simp at hk,by simpa [Zy,Tr] using h⟩
 | (g, free)::gs,done,st,h=>by
  simp only[Zy] at h
  split at h
  ·rename_i hs
   simp only[Option.bind_eq_some_iff] at h
   obtain ⟨s,hst,h⟩:=h
   obtain ⟨tr,h1,h2,h3⟩:=Zcf gs (done++[noFx]) s h
   refine ⟨(done.length,g,none)::tr,by simp [h1],fun k x hk=>?_,s,hst,h3⟩
   cases k with
   | zero=>
    simp only[List.getElem?_cons_zero,Option.some.injEq] at hk
    subst hk
    exact ⟨rfl,free,rfl,⟨fun _=>hs,fun _=>rfl⟩,fun e he=>by cases he⟩
   | succ k=>
    simp only[List.getElem?_cons_succ] at hk
    obtain ⟨q1,free',q2,q4,q3⟩:=h2 k x hk
    rw [List.length_append,List.length_singleton] at q1 q3
    refine ⟨by omega,free',q2,q4,fun e he j hj hlt f hf=>q3 e he j hj (by omega) f (by simpa using hf)⟩
  ·rename_i hs
   simp only[Option.bind_eq_some_iff] at h
   obtain ⟨e,he,h⟩:=h
   split at h
   ·rename_i hfree
    obtain ⟨tr,h1,h2,h3⟩:=Zcf gs (done++[e]) (e.app st) h
    refine ⟨(done.length,g,some e)::tr,by simp [h1],fun k x hk=>?_,he,h3⟩
    cases k with
    | zero=>
     simp only[List.getElem?_cons_zero,Option.some.injEq] at hk
     subst hk
     refine ⟨rfl,free,rfl,⟨fun h=>(by cases h),fun h=>absurd h hs⟩,fun e' he' j hj hlt f hf=>?_⟩
     cases he'
     rw [List.getElem?_append_left (by omega)] at hf
     simp only[ZaN,List.all_eq_true] at hfree
     have:=hfree j hj
     rw [hf] at this
     exact this
    | succ k=>
     simp only[List.getElem?_cons_succ] at hk
     obtain ⟨q1,free',q2,q4,q3⟩:=h2 k x hk
     rw [List.length_append,List.length_singleton] at q1 q3
     refine ⟨by omega,free',q2,q4,fun e he j hj hlt f hf=>q3 e he j hj (by omega) f (by simpa using hf)⟩
   ·cases h
theorem mem_ready {md:Region.Mode} {ops:Array Oper} {listed:Array Bool} {i:Nat}:i∈Region.ready md ops listed↔i<ops.size∧listed.getD i true=false∧∃ o,ops[i]?=some o∧∀ e,e∈o.after.toList→Region.binds md e=true→listed.getD e.on false=true:=by
 unfold Region.ready
 rw [List.mem_filter,List.mem_range]
 constructor
 ·rintro ⟨h1,h2⟩
  simp only[Bool.and_eq_true,Bool.not_eq_true'] at h2
  refine ⟨h1,h2.1,ops[i],Array.getElem?_eq_getElem h1,fun e he hb=>?_⟩
  have h3:=h2.2
  rw [Array.getElem?_eq_getElem h1] at h3
  simp only[Option.map_some,Option.getD_some,Array.all_eq_true'] at h3
  have:=h3 e (Array.mem_toList_iff.1 he)
  simpa [hb] using this
 ·rintro ⟨h1,h2,o,ho,h3⟩
  refine ⟨h1,?_⟩
  simp only[Bool.and_eq_true,Bool.not_eq_true']
  refine ⟨h2,?_⟩
  rw [ho]
  simp only[Option.map_some,Option.getD_some,Array.all_eq_true']
  intro e he
  cases hb:Region.binds md e with
  | false=>simp
  | true=>simpa [hb] using h3 e (Array.mem_toList_iff.2 he) hb
theorem ZgQ (hE:Zad P E) {ops:Array Oper} {gs:List (GOp×List Nat)} (hgs:ZaD P n ops ops.toList (gs.map (·.1))=true) (hdr:Zi ops gs=true) {Q:Exit→Act→World→Prop} (hQ:∀ a' w',Good base σ0 X w0 n st' a' w'→Q .normal a' w') :
  ∀ (fuel:Nat) (listed:Array Bool) (tr:List (Nat×GOp×Option Fx)) (st:St) (a:Act) (w:World),tr.length=fuel→listed.size=ops.size→tr.map (·.1)=(List.range ops.size).filter (fun i=>!listed.getD i true)→
   (∀ x,x∈tr→∃ free,gs[x.1]?=some (x.2.1,free)∧(x.2.2=none↔ZbQ free=true))→Zf6 ops (fun i=>listed.getD i false=true)→tr.Pairwise (fun b x=>∀ free e,gs[x.1]?=some (x.2.1,free)→x.2.2=some e→b.1∈free→(b.2.2.getD noFx).apart e=true)→
   Tr E st tr st'→Good base σ0 X w0 n st a w→wpAny P .any ops Q fuel listed a w:=by
 have hdr':=hdr
 simp only[Zi,Bool.and_eq_true,beq_iff_eq,List.all_eq_true,List.mem_range] at hdr'
 obtain ⟨hlen,hat⟩:=hdr'
 have hmg:Zde ops (ZeR ops.toList []):=Zdv ops ops.toList [] (fun j=>by simp) (fun k m hk=>by simp at hk)
 intro fuel
 induction fuel with
 | zero=>
  intro listed tr st a w hl hsz htr hin hc hp hT hG
  have:tr=[]:=List.length_eq_zero_iff.1 hl
  subst this
  have:st=st':=hT
  subst this
  refine ⟨?_,hQ a w hG⟩
  refine List.eq_nil_iff_forall_not_mem.2 (fun i hi=>?_)
  obtain ⟨h1,h2,_⟩:=mem_ready.1 hi
  have:i∈(List.range ops.size).filter (fun i=>!listed.getD i true):=List.mem_filter.2 ⟨List.mem_range.2 h1,by simp [h2]⟩
  rw [←htr] at this
  cases this
 | succ fuel ih=>
  intro listed tr st a w hl hsz htr hin hc hp hT hG
  have hmem:∀ i,i∈tr.map (·.1)↔i<ops.size∧listed.getD i true=false:=fun i=>by rw [htr,List.mem_filter,List.mem_range]; simp
  have hinc:(tr.map (·.1)).Pairwise (·<·):=by rw [htr]; exact List.Pairwise.filter _ List.pairwise_lt_range
  have hD:∀ i,i<ops.size→listed.getD i true=listed.getD i false:=fun i hi=>by simp [Array.getD,hsz,hi]
  refine ⟨fun hr=>?_,fun i hi=>?_⟩
  ·exfalso
   cases tr with
   | nil=>simp at hl
   | cons x tr=>
    have hx:=(hmem x.1).1 (by simp)
    have hat':=hat x.1 hx.1
    unfold Zfa at hat'
    have ho:=Array.getElem?_eq_getElem hx.1
    obtain ⟨free,hfx,_⟩:=hin x (List.mem_cons_self ..)
    rw [ho,hfx] at hat'
    simp only[Bool.and_eq_true,List.all_eq_true] at hat'
    have:x.1∈Region.ready .any ops listed:=by
     refine mem_ready.2 ⟨hx.1,hx.2,ops[x.1],ho,fun e he hb=>?_⟩
     have hlt:=hat'.1 e he
     simp only[hb,Bool.not_true,Bool.false_or,decide_eq_true_eq] at hlt
     cases hq:listed.getD e.on false with
     | true=>rfl
     | false=>
      exfalso
      have hm:e.on∈(x::tr).map (·.1):=(hmem e.on).2 ⟨by omega,by rw [hD _ (by omega)]; exact hq⟩
      simp only[List.map_cons] at hm hinc
      rcases List.mem_cons.1 hm with h1|h1
      ·omega
      ·have:=(List.pairwise_cons.1 hinc).1 _ h1; omega
    rw [hr] at this
    cases this
  ·obtain ⟨h1,h2,o,ho,hedges⟩:=mem_ready.1 hi
   obtain ⟨x,hxm,hxi⟩:=List.mem_map.1 ((hmem i).2 ⟨h1,h2⟩)
   obtain ⟨pre,post,rfl⟩:=List.append_of_mem hxm
   subst hxi
   obtain ⟨free,hfx,hsol⟩:=hin x hxm
   have hat':=hat x.1 h1
   unfold Zfa at hat'
   rw [ho,hfx] at hat'
   simp only[Bool.and_eq_true,List.all_eq_true,List.mem_range] at hat'
   have hpre:∀ b,b∈pre→ZbQ free=false∧Za1 b.2.1 x.2.1=true∧∀ e,x.2.2=some e→Zf9 b.2.2 e:=by
    intro b hb
    have hbm:b∈pre++x::post:=List.mem_append.2 (.inl hb)
    have hblt:b.1<x.1:=by
     rw [List.map_append,List.map_cons] at hinc
     exact (List.pairwise_append.1 hinc).2.2 b.1 (List.mem_map.2 ⟨b,hb,rfl⟩) x.1 (List.mem_cons_self ..)
    have hbu:=(hmem b.1).1 (List.mem_map.2 ⟨b,hbm,rfl⟩)
    obtain ⟨fb,hfb,hsb⟩:=hin b hbm
    have hj:=hat'.2 b.1 hblt
    rw [hfb] at hj
    simp only[Bool.or_eq_true,Bool.and_eq_true,Bool.not_eq_true'] at hj
    rcases hj with hj|⟨⟨hj0,hj1⟩,hj3,hj2⟩
    ·exfalso
     cases hq:(ZeR ops.toList [])[x.1]? with
     | none=>rw [List.getD_eq_getElem?_getD,hq] at hj; simp at hj
     | some m=>
      rw [List.getD_eq_getElem?_getD,hq,Option.getD_some] at hj
      have:=hmg x.1 m hq _ hc (fun o' ho' e he hb=>by rw [ho] at ho'; cases ho'; exact hedges e he hb) b.1 hj
      have h3:=hbu.2
      rw [hD _ hbu.1] at h3
      simp only[h3] at this
      cases this
    ·refine ⟨hj0,hj2,fun e he=>?_⟩
     have:=(List.pairwise_append.1 hp).2.2 b hb x (List.mem_cons_self ..)
     have:=this free e hfx he (by simpa [List.contains_eq_mem] using hj1)
     cases hbe:b.2.2 with
     | none=>rw [hsb.1 hbe] at hj3; cases hj3
     | some f=>rw [hbe] at this; exact ⟨f,rfl,this⟩
   have hgo:ZcV P n ops o x.2.1=true:=Zdq _ _ hgs x.1 o x.2.1 (by simpa using ho) (by simp [hfx])
   obtain ⟨⟨σ,M,hR⟩,hn,hd⟩:=hG
   have hset:∀ k (dflt:Bool),(listed.setIfInBounds x.1 true).getD k dflt=if k=x.1 then true else listed.getD k dflt:=by
    intro k dflt
    rw [Array.getD_eq_getD_getElem?,Array.getElem?_setIfInBounds,Array.getD_eq_getD_getElem?]
    by_cases e:x.1=k
    ·subst e; simp [hsz,h1]
    ·rw [if_neg e,if_neg (fun h=>e h.symm)]
   have next:∀ st2 a' w',Tr E st2 (pre++post) st'→Good base σ0 X w0 n st2 a' w'→wpAny P .any ops Q fuel (listed.setIfInBounds x.1 true) a' w':=by
    intro st2 a' w' hT' hG'
    refine ih _ (pre++post) st2 a' w' (by simp at hl ⊢; omega) (by simpa using hsz) ?_ (fun y hy=>hin y ?_) ?_ ?_ hT' hG'
    ·have e1:(List.range ops.size).filter (fun i=>!(listed.setIfInBounds x.1 true).getD i true)=((List.range ops.size).filter (fun i=>!listed.getD i true)).filter (fun i=>decide (i≠x.1)):=by
      rw [List.filter_filter]
      congr 1
      funext k
      rw [hset]
      by_cases e:k=x.1
      ·simp [e]
      ·simp [e]
     rw [e1,←htr,List.map_append,List.map_append,List.map_cons,List.filter_append,List.filter_cons]
     simp only[ne_eq,not_true_eq_false,decide_false,Bool.false_eq_true,if_false]
     rw [List.map_append,List.map_cons] at hinc
     have hp1:=List.pairwise_append.1 hinc
     congr 1
     ·refine (List.filter_eq_self.2 (fun k hk=>?_)).symm
      have:=hp1.2.2 k hk x.1 (List.mem_cons_self ..)
      simp; omega
     ·refine (List.filter_eq_self.2 (fun k hk=>?_)).symm
      have:=(List.pairwise_cons.1 hp1.2.1).1 k hk
      simp; omega
    ·rcases List.mem_append.1 hy with h|h
     ·exact List.mem_append.2 (.inl h)
     ·exact List.mem_append.2 (.inr (List.mem_cons_of_mem _ h))
    ·intro k o' hk hL e he hb
     simp only[hset] at hL ⊢
     split
     ·rfl
     ·split at hL
      ·rename_i hkx
       subst hkx
       rw [ho] at hk; cases hk
       exact hedges e he hb
      ·exact hc k o' hk hL e he hb
    ·have hp1:=List.pairwise_append.1 hp
     exact List.pairwise_append.2 ⟨hp1.1,(List.pairwise_cons.1 hp1.2.1).2,fun b hb y hy=>hp1.2.2 b hb y (List.mem_cons_of_mem _ hy)⟩
   unfold wpOp
   rw [ho]
   cases hxe:x.2.2 with
   | some e=>
    have hT2:Tr E st (pre++(x.1,x.2.1,some e)::post) st':=by rw [←hxe]; exact hT
    obtain ⟨hgx,hT'⟩:=Zhd pre hT2 (fun b hb=>⟨(hpre b hb).2.1,(hpre b hb).2.2 e hxe⟩)
    rcases Zgm hE hR hn hgo hgx with ⟨hw,hdo⟩|⟨hw,hR'⟩
    ·simp only[hw,if_true]
     exact .inl (hdo _ _ (fun σ' M' w' v hR'=>next _ _ _ hT' ⟨⟨σ',M',hR'⟩,by rw [Zaz]; exact hn,by rw [ZaH]; exact hd⟩))
    ·simp only[hw,Bool.false_eq_true,if_false]
     exact next _ _ _ hT' ⟨⟨σ,M,hR'⟩,by rw [Zaz]; exact hn,by rw [ZaH]; exact hd⟩
   | none=>
    have hnil:pre=[]:=by
     cases pre with
     | nil=>rfl
     | cons b bs=>have:=(hpre b (List.mem_cons_self ..)).1; rw [hsol.1 hxe] at this; cases this
    subst hnil
    have hT2:Tr E st ((x.1,x.2.1,none)::post) st':=by rw [←hxe]; exact hT
    obtain ⟨s,hs,hT'⟩:=hT2
    rcases Zdp hE hR hn hgo hs with ⟨hw,hdo⟩|⟨hw,hR'⟩
    ·simp only[hw,if_true]
     exact .inl (hdo _ _ (fun σ' M' w' v hR'=>next _ _ _ hT' ⟨⟨σ',M',hR'⟩,by rw [Zaz]; exact hn,by rw [ZaH]; exact hd⟩))
    ·simp only[hw,Bool.false_eq_true,if_false]
     exact next _ _ _ hT' ⟨⟨σ,M,hR'⟩,by rw [Zaz]; exact hn,by rw [ZaH]; exact hd⟩
theorem Good.cool1 {st:St} (h:Good base σ0 X w0 n st a w) (id:Id):Good base σ0 X w0 n (st.cool id) a w:=by
 obtain ⟨⟨σ,M,hR⟩,hn,hd⟩:=h
 exact ⟨⟨σ,_,hR.cool _⟩,hn,hd⟩
theorem Good.coolTo {st:St} (h:Good base σ0 X w0 n st a w) (d:Nat):∀ k,Good base σ0 X w0 n (st.coolTo d k) a w
 | 0=>h
 | k+1=>(Good.coolTo h d k).cool1 _
theorem Good.coolDsts:∀ (gs:List (GOp×List Nat)) {st:St},Good base σ0 X w0 n st a w→Good base σ0 X w0 n (coolDsts st gs) a w
 | [],_,h=>h
 | (g,free)::gs,st,h=>by
  simp only[Go.Proofs.YtfajcehhcjmofaaV.coolDsts]
  refine Good.coolDsts gs ?_
  split
  all_goals first|exact Good.coolTo h _ _|exact Good.cool1 h _|exact h|(split<;>first|exact h|exact Good.cool1 h _)
theorem Zhv (hm:P.follows .mixedOrders=true):ZbT P Zi:=by
 intro E hE base σ0 X w0 n id ops gs st st' a w Q hgs hdr hrun hG hQ
 obtain ⟨tr,hl,hk,hT⟩:=Zcf gs [] (coolDsts st gs) hrun
 have hdr':=hdr
 simp only[Zi,Bool.and_eq_true,beq_iff_eq] at hdr'
 refine wp_region_any hm ?_
 have hG':Good base σ0 X w0 n (coolDsts st gs) a { w with drawn:=w.drawn+1 }:=by
  obtain ⟨⟨σ,M,hR⟩,hn,hd⟩:=hG.coolDsts gs
  exact ⟨⟨σ,M,hR.drawn rfl rfl rfl rfl⟩,hn,hd⟩
 refine ZgQ hE hgs hdr hQ ops.size _ tr (coolDsts st gs) a _ (by omega) (by simp) ?_ (fun x hx=>?_) (fun i o ho hL=>?_) ?_ hT hG'
 ·have:(List.range ops.size).filter (fun i=>!(Array.replicate ops.size false).getD i true)=List.range ops.size:=List.filter_eq_self.2 (fun k hk=>by simp [Array.getD,List.mem_range.1 hk])
  rw [this]
  apply List.ext_getElem?
  intro k
  rw [List.getElem?_map]
  cases hq:tr[k]? with
  | none=>
   have:=List.getElem?_eq_none_iff.1 hq
   simp only[Option.map_none]
   exact (List.getElem?_eq_none_iff.2 (by simp; omega)).symm
  | some x=>
   have h1:=(hk k x hq).1
   have h2:=(List.getElem?_eq_some_iff.1 hq).1
   simp only[Option.map_some]
   rw [List.getElem?_range (by omega),h1]
   simp
 ·obtain ⟨k,hk2⟩:=List.mem_iff_getElem?.1 hx
  obtain ⟨h1,free,h2,h3,_⟩:=hk k x hk2
  refine ⟨free,?_,h3⟩
  rw [h1]; simpa using h2
 ·simp [Array.getD] at hL
 ·refine List.pairwise_iff_getElem.2 (fun p q hp hq hpq free e hf he hfree=>?_)
  obtain ⟨h1,free',h2,_,h3⟩:=hk q tr[q] (List.getElem?_eq_getElem hq)
  obtain ⟨h4,_,_,_,_⟩:=hk p tr[p] (List.getElem?_eq_getElem hp)
  simp only[List.length_nil,Nat.zero_add,List.nil_append] at h1 h3 h4
  rw [h1,h2] at hf
  cases hf
  exact h3 e he p (by rw [h4] at hfree; exact hfree) hpq (tr[p].2.2.getD noFx) (by simp [List.getElem?_eq_getElem hp])
end Go.Proofs.YtfajcehhcjmofaaV
