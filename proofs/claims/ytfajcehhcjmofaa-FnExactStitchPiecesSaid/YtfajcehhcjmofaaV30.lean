/- Operations on deep rows: made, filled, stored into. No conditions but those that the lemmas state. -/
import Derived.Test.YtfajcehhcjmofaaV29
namespace Go.Proofs.YtfajcehhcjmofaaV
open Go Go.RowKit
set_option linter.unusedVariables false
set_option linter.unusedSimpArgs false
variable {base:Nat} {σ0:Sig} {X X1:Nat→Prop} {w0 w w':World} {σ σ':Sig} {M M':Nat→Prop} {a:Act} {st st':St} {P:Program} {n:Nat} {o:Oper} {E:Zb}
variable {ob:Id→Option Obj}
abbrev Kid:=List (Nat×Nat)→Option Loc0
theorem Zgo (h:Rel base σ0 X w0 σ M w a st) {c:C} {u:U} {v:Value} (hg:st.give c=some u) (hr:RepC w M σ st.o c v) :
  ∃ kid:Kid,Own w kid u v∧(∀ p K,kid p=some K→∃ id,c.id?=some id∧Zk id=true∧Zae st σ id K.g)∧∀ p p' K K',kid p=some K→kid p'=some K'→K.g=K'.g→p=p':=by
 unfold St.give at hg
 split at hg
 ·rename_i x
  split at hg
  ·rename_i hs
   cases hg
   exact ⟨fun _=>none,.scal _ _ v (fun _=>rfl) hs (ZaI hs hr),fun p K h=>(by cases h),fun p p' K K' h=>(by cases h)⟩
  ·cases hg
 ·rename_i id m
  split at hg
  ·rename_i z r ho
   split at hg
   ·rename_i hc
    obtain ⟨hl,hsc,hloc⟩:=hc
    cases hg
    simp only[List.all_eq_true] at hsc
    obtain ⟨z',r',ho',hn,hv⟩:=hr
    rw [ho] at ho'; cases ho'
    rcases hv with ⟨h0,b,rfl⟩|⟨L,hL,rfl⟩
    ·have:r=[]:=List.eq_nil_of_length_eq_zero (by omega)
     subst this
     exact ⟨fun _=>none,.sl0 _ _ b (fun _=>rfl),fun p K h=>(by cases h),fun p p' K K' h=>(by cases h)⟩
    ·rcases h.obj id _ ho with ⟨_,h2⟩|⟨L',cur,hL',hz,hm,hh,hs,hcap,hcm,h0,hall,hcc⟩
     ·rw [hL] at h2; cases h2
     ·rw [hL] at hL'; cases hL'
      subst hz
      subst hl
      refine ⟨fun p=>if p=[] then some L.toLoc0 else none,.sl _ L.toLoc0 r cur (fun i j=>(cur[i*L.sz+j]?).getD undef) (by simp) hh hs hcap hcm h0 hall (fun i j p hne=>absurd (by simp) hne) (fun i j row x hi hj=>?_) (fun i j row x hi hj=>?_),fun p K hp=>?_,fun p p' K K' hp hp' _=>?_⟩<;>(try simp only at hp)<;>(try simp only at hp')
      ·obtain ⟨y,hy,_⟩:=hcc i j row x hi hj
       rw [hy]; rfl
      ·obtain ⟨y,hy,hr⟩:=hcc i j row x hi hj
       simp only[hy,Option.getD_some]
       have hxs:=hsc row (List.mem_of_getElem? hi) x (List.mem_of_getElem? hj)
       exact .scal _ x y (fun p=>by simp) hxs (ZaI hxs hr)
      ·split at hp
       ·cases hp; exact ⟨id,rfl,hloc,by rw [ho]; rfl,L,hL,L.has_g⟩
       ·cases hp
      ·split at hp
       ·split at hp'
        ·rename_i e e'; rw [e,e']
        ·cases hp'
       ·cases hp
   ·cases hg
  ·cases hg
 ·rename_i id m
  split at hg
  ·rename_i z r ho
   split at hg
   ·rename_i hc
    obtain ⟨hl,hloc⟩:=hc
    cases hg
    obtain ⟨z',r',ho',hn,hv⟩:=hr
    rw [ho] at ho'; cases ho'
    rcases hv with ⟨h0,b,rfl⟩|⟨L,hL,rfl⟩
    ·have:r=[]:=List.eq_nil_of_length_eq_zero (by omega)
     subst this
     exact ⟨fun _=>none,.sl0 _ _ b (fun _=>rfl),fun p K h=>(by cases h),fun p p' K K' h=>(by cases h)⟩
    ·rcases h.obj id _ ho with ⟨_,h2⟩|⟨L',cur,hL',hz,hm,hh,hs,hcap,hcm,h0,hall,hcc,hk⟩
     ·rw [hL] at h2; cases h2
     ·rw [hL] at hL'; cases hL'
      subst hz
      subst hl
      have hcons:∀ i j p,(fun p=>if p=[] then some L.toLoc0 else L.kid p:Kid) ((i,j)::p)=L.kid ((i,j)::p):=fun i j p=>by simp
      refine ⟨fun p=>if p=[] then some L.toLoc0 else L.kid p,.sl _ L.toLoc0 r cur (fun i j=>(cur[i*L.sz+j]?).getD undef) (by simp) hh hs hcap hcm h0 hall (fun i j p hne=>hk.at_ i j p (fun e=>hne (by simpa using e))) (fun i j row x hi hj=>?_) (fun i j row x hi hj=>?_),fun p K hp=>?_,fun p p' K K' hp hp' e=>?_⟩<;>(try simp only at hp)<;>(try simp only at hp')
      ·obtain ⟨y,hy,_⟩:=hcc i j row x hi hj
       rw [hy]; rfl
      ·obtain ⟨y,hy,hr⟩:=hcc i j row x hi hj
       simp only[hy,Option.getD_some]
       have:(fun p=>(fun p=>if p=[] then some L.toLoc0 else L.kid p:Kid) ((i,j)::p))=fun p=>L.kid ((i,j)::p):=by funext p; exact hcons i j p
       rw [this]; exact hr
      ·split at hp
       ·cases hp; exact ⟨id,rfl,hloc,by rw [ho]; rfl,L,hL,L.has_g⟩
       ·exact ⟨id,rfl,hloc,by rw [ho]; rfl,L,hL,.inr ⟨p,K,hp,rfl⟩⟩
      ·split at hp
       ·rename_i e1
        split at hp'
        ·rename_i e2; rw [e1,e2]
        ·cases hp
         exact absurd e.symm (hk.ne p' K' hp')
       ·split at hp'
        ·cases hp'
         exact absurd e (hk.ne p K hp)
        ·exact hk.inj p p' K K' hp hp' e
   ·cases hg
  ·cases hg
 ·cases hg
theorem Zbv {α β:Type} {f:α→Option β}:∀ {l:List α},(l.filterMap f).Nodup→∀ {i j:Nat} {a b:α} {x:β},l[i]?=some a→l[j]?=some b→f a=some x→f b=some x→i=j
 | [],_,i,j,a,b,x,hi,_,_,_=>by simp at hi
 | c :: l,hn,i,j,a,b,x,hi,hj,ha,hb=>by
  cases hc:f c with
  | none=>
   rw [List.filterMap_cons_none hc] at hn
   cases i with
   | zero=>simp at hi; subst hi; rw [hc] at ha; cases ha
   | succ i=>
    cases j with
    | zero=>simp at hj; subst hj; rw [hc] at hb; cases hb
    | succ j=>simp at hi hj; rw [Zbv hn hi hj ha hb]
  | some y=>
   rw [List.filterMap_cons_some hc,List.nodup_cons] at hn
   cases i with
   | zero=>
    simp at hi; subst hi
    cases j with
    | zero=>rfl
    | succ j=>
     simp at hj
     rw [hc] at ha; cases ha
     exact absurd (List.mem_filterMap.2 ⟨b,List.mem_of_getElem? hj,hb⟩) hn.1
   | succ i=>
    simp at hi
    cases j with
    | zero=>
     simp at hj; subst hj
     rw [hc] at hb; cases hb
     exact absurd (List.mem_filterMap.2 ⟨a,List.mem_of_getElem? hi,ha⟩) hn.1
    | succ j=>simp at hj; rw [Zbv hn.2 hi hj ha hb]
theorem ZeE (h:Rel base σ0 X w0 σ M w a st) {cs:List C} {us:List U} {vs:Array Value} (hc:Zal w M σ st.o cs vs) (hg:cs.mapM st.give=some us) (hnd:(cs.filterMap C.id?).Nodup) :
  ∃ kids:Nat→Kid,(∀ (j:Nat) u,us[j]?=some u→∃ v,vs[j]?=some v∧Own w (kids j) u v)∧(∀ j p K,kids j p=some K→j<us.length∧∃ id,id∈cs.filterMap C.id?∧Zk id=true∧Zae st σ id K.g)∧
   ∀ j j' p p' K K',kids j p=some K→kids j' p'=some K'→K.g=K'.g→j=j'∧p=p':=by
 obtain ⟨h1,h2⟩:=Zr hg
 have key:∀ j:Nat,∃ kid:Kid,∀ c,cs[j]?=some c→∃ u v,us[j]?=some u∧vs[j]?=some v∧Own w kid u v∧(∀ p K,kid p=some K→∃ id,c.id?=some id∧Zk id=true∧Zae st σ id K.g)∧∀ p p' K K',kid p=some K→kid p'=some K'→K.g=K'.g→p=p':=by
  intro j
  cases hj:cs[j]? with
  | none=>exact ⟨fun _=>none,fun c h=>by cases h⟩
  | some c=>
   obtain ⟨u,hu,hgu⟩:=h2 j c hj
   obtain ⟨v,hv,hr⟩:=hc.2 j c hj
   obtain ⟨kid,k1,k2,k3⟩:=Zgo h hgu hr
   exact ⟨kid,fun c' e=>by cases e; exact ⟨u,v,hu,hv,k1,k2,k3⟩⟩
 let kids:Nat→Kid:=fun j p=>if j<cs.length then (key j).choose p else none
 have hat:∀ j c,cs[j]?=some c→∃ u v,us[j]?=some u∧vs[j]?=some v∧Own w (kids j) u v∧(∀ p K,kids j p=some K→∃ id,c.id?=some id∧Zk id=true∧Zae st σ id K.g)∧∀ p p' K K',kids j p=some K→kids j p'=some K'→K.g=K'.g→p=p':=by
  intro j c hj
  have hlt:=(List.getElem?_eq_some_iff.1 hj).1
  have e:kids j=(key j).choose:=by funext p; simp only[kids,hlt,if_true]
  rw [e]
  exact (key j).choose_spec c hj
 have hlen:∀ j p K,kids j p=some K→j<cs.length:=by
  intro j p K hk
  simp only[kids] at hk
  split at hk
  ·assumption
  ·cases hk
 refine ⟨kids,fun j u hj=>?_,fun j p K hk=>?_,fun j j' p p' K K' hk hk' e=>?_⟩
 ·have hlt:j<cs.length:=by rw [←h1]; exact (List.getElem?_eq_some_iff.1 hj).1
  obtain ⟨u',v,hu,hv,hO,_⟩:=hat j cs[j] (by simp [hlt])
  rw [hj] at hu; cases hu
  exact ⟨v,hv,hO⟩
 ·have hlt:=hlen j p K hk
  have hcj:cs[j]?=some cs[j]:=by simp [hlt]
  obtain ⟨_,_,_,_,_,k2,_⟩:=hat j _ hcj
  obtain ⟨id,hid,hl,hb⟩:=k2 p K hk
  exact ⟨by rw [h1]; exact hlt,id,List.mem_filterMap.2 ⟨_,List.mem_of_getElem? hcj,hid⟩,hl,hb⟩
 ·have hlt:=hlen j p K hk
  have hlt':=hlen j' p' K' hk'
  have hcj:cs[j]?=some cs[j]:=by simp [hlt]
  have hcj':cs[j']?=some cs[j']:=by simp [hlt']
  obtain ⟨_,_,_,_,_,k2,k3⟩:=hat j _ hcj
  obtain ⟨_,_,_,_,_,k2',_⟩:=hat j' _ hcj'
  obtain ⟨id,hid,_,hs,L,hL,hb⟩:=k2 p K hk
  obtain ⟨id',hid',_,hs',L',hL',hb'⟩:=k2' p' K' hk'
  have hii:id=id':=h.inj id id' L L' K.g hs hs' hL hL' hb (by rw [e]; exact hb')
  subst hii
  have hjj:=Zbv hnd hcj hcj' hid hid'
  subst hjj
  exact ⟨rfl,k3 p p' K K' hk hk' e⟩
/-- A new deep row in a new block. -/
theorem Rel.newDeep (h:Rel base σ0 X1 w0 σ M w a st) {id:Id} (hloc:∀ j,id≠.par j) (hid:st.o id=none) (hX:∀ b,X b→X1 b) {sz cap:Nat} {rows:List (List U)} {cur:Array Value} {e:TypeId} {kid:Kid}
  (hsz:0<sz) (hcap:cap≤maxLen) (hcur:cur.size=cap*sz) (hle:rows.length≤cap) (hrow:∀ row,row∈rows→row.length=sz)
  (hc:∀ (i j:Nat) row x,rows[i]?=some row→row[j]?=some x→∃ y,cur[i*sz+j]?=some y∧Own w (fun p=>kid ((i,j)::p)) x y)
  (hnil:kid []=none) (hat:∀ i j p,kid ((i,j)::p)≠none→i<rows.length∧j<sz) (hin:∀ p K,kid p=some K→X1 K.g∧¬X K.g∧From base σ0 K.g) (hinj:∀ p p' K K',kid p=some K→kid p'=some K'→K.g=K'.g→p=p')
  (hh:w'.heap=w.heap.push (.cells cur e (0,0))) (hos:w'.os=w.os) (ht:w'.tape=w.tape) (hout:w'.output=w.output) :
  ∃ σ' M',Rel base σ0 X w0 σ' M' w' a (st.obj id (some (.deep sz rows)))∧RepC w' M' σ' (st.obj id (some (.deep sz rows))).o (.down id rows.length) (.slice (some ⟨w.heap.size,0,none⟩) rows.length cap):=by
 obtain ⟨h1,h2,h3⟩:=ZbY hh
 have hs:(st.obj id (some (.deep sz rows))).o id=some (.deep sz rows):=by simp [St.obj]
 have hlow:∀ p K,kid p=some K→K.g<w.heap.size:=fun p K hp=>(h.sup _ (hin p K hp).1).2
 have hbig:w.heap.size<w'.heap.size:=by rw [hh,Array.size_push]; omega
 have main:=fun A B=>h.gather (X:=X) (id:=id) (x:=.deep sz rows) (L:=⟨⟨w.heap.size,sz,cap,e⟩,kid⟩) (w':=w') hloc hid hX (fun hd=>by cases hd) A h1 (fun b hb _=>h2 b hb) hos ht hout B
 obtain ⟨M',hR,_,_⟩:=main (by
  intro b hb
  rcases hb with rfl|⟨p,K,hp,rfl⟩
  ·refine ⟨.inr (Nat.le_refl _),hbig,fun hx=>?_,.inl h.size⟩
   have:=(h.sup _ (hX _ hx)).2
   simp only at this
   omega
  ·obtain ⟨q1,q2,q3⟩:=hin p K hp
   exact ⟨.inl q1,Nat.lt_trans (hlow p K hp) hbig,q2,q3⟩) (by
  intro M' _ hM'
  refine .inr ⟨_,cur,Zd ..,rfl,hM' _ (.inl rfl),h3,hcur,hle,hcap,hsz,hrow,fun i j row x hi hj=>?_,⟨hnil,hat,fun p K hp=>hM' _ (.inr ⟨p,K,hp,rfl⟩),fun p K hp=>Nat.ne_of_lt (hlow p K hp),hinj⟩⟩
  obtain ⟨y,hy,hO⟩:=hc i j row x hi hj
  exact ⟨y,hy,hO.keep (fun p K hp=>h2 _ (hlow _ K hp))⟩)
 exact ⟨_,M',hR,sz,rows,hs,Nat.le_refl _,.inr ⟨_,Zd ..,rfl⟩⟩
theorem Zcg:∀ {us:List U} {vs:List Value},ZaB us vs=true→us.length=vs.length∧∀ (j:Nat) u,us[j]?=some u→∃ v,vs[j]?=some v∧uOk u v=true
 | [],[],_=>⟨rfl,fun j u h=>by simp at h⟩
 | u::us,v::vs,h=>by
  simp only[ZaB,Bool.and_eq_true] at h
  obtain ⟨h1,h2⟩:=Zcg h.2
  refine ⟨by simp [h1],fun j q hj=>?_⟩
  cases j with
  | zero=>simp at hj; subst hj; exact ⟨v,rfl,h.1⟩
  | succ j=>simp at hj; obtain ⟨x,h3,h4⟩:=h2 j q hj; exact ⟨x,by simpa using h3,h4⟩
 | [],_::_,h=>by simp [ZaB] at h
 | _::_,[],h=>by simp [ZaB] at h
theorem Zhb {u:U} {v:Value} (hu:uOk u v=true) (hz:u.zed=true):Own w (fun _=>none) u v:=by
 cases u with
 | sl z r=>
  simp only[U.zed,List.isEmpty_iff] at hz
  subst hz
  have:v=.slice none 0 0:=by
   unfold uOk at hu
   split at hu<;>first|rfl|(rename_i hq; cases hq; done)|(rename_i hq _; cases hq; done)|(rename_i hq _ _; cases hq; done)|cases hu
  subst this
  exact .sl0 _ _ none (fun _=>rfl)
 | _=>exact .scal _ _ v (fun _=>rfl) hz (Zes hu)
theorem Zgx {zero:List U} {z:Value} (hz:ZaB zero z.cells.toList=true) (hzed:∀ u,u∈zero→u.zed=true) (h0:0<zero.length) {m c:Nat} (hmc:m≤c):∀ (i j:Nat) row x,(List.replicate m zero)[i]?=some row→row[j]?=some x→∃ y,(madeCells z.cells (c*zero.length))[i*zero.length+j]?=some y∧Own w (fun _=>none) x y:=by
 obtain ⟨h1,h2⟩:=Zcg hz
 have hzs:z.cells.size=zero.length:=by rw [h1]; simp
 intro i j row x hi hj
 have him:i<m:=by have:=(List.getElem?_eq_some_iff.1 hi).1; simpa using this
 have:row=zero:=by rw [List.getElem?_replicate,if_pos him] at hi; cases hi; rfl
 subst this
 have hjl:j<row.length:=(List.getElem?_eq_some_iff.1 hj).1
 obtain ⟨y,hy,hr⟩:=h2 j x hj
 refine ⟨y,?_,Zhb hr (hzed x (List.mem_of_getElem? hj))⟩
 have hlt:i*row.length+j<c*row.length:=by
  have:(i+1)*row.length≤c*row.length:=Nat.mul_le_mul_right _ (by omega)
  rw [Nat.add_mul] at this
  omega
 rw [ZeP _ _ _ hlt (by omega),hzs,Nat.mul_add_mod_self_right,Nat.mod_eq_of_lt hjl]
 simpa using hy
theorem ZhP (h:Rel base σ0 X w0 σ M w a st) (hn:a.tmps.size=n) {d bytes:Nat} {x c:Arg} {zero:List U} (hok:okOp P n o (.mkd d x c zero bytes)=true) (hs:step E st (.mkd d x c zero bytes)=some st'):Goes base σ0 X w0 P o a w st':=by
 simp only[okOp,Bool.and_eq_true] at hok
 obtain ⟨hd,hok⟩:=hok
 simp only[step,Option.bind_eq_some_iff] at hs
 obtain ⟨m,hm,k,hk,hs⟩:=hs
 split at hs
 ·rename_i hc
  obtain ⟨h0,hmk,hby,hzed⟩:=hc
  simp only[List.all_eq_true] at hzed
  cases hs
  split at hok
  ·rename_i t m' c' ho
   simp only[Bool.and_eq_true,decide_eq_true_eq] at hok
   obtain ⟨⟨⟨hx,hc'⟩,hb0⟩,ht⟩:=hok
   obtain ⟨e,he,hp⟩:=Zo ht
   simp only[Bool.and_eq_true,decide_eq_true_eq] at hp
   obtain ⟨⟨hz,hbs⟩,hz0⟩:=hp
   obtain ⟨i,z,hi,hiz,hisz,hzero⟩:=Zau hz
   have hib:i.bytes=bytes:=by unfold Zbd at hbs; rw [hi] at hbs; simpa using hbs
   have v1:=ZaT h hn hx hm
   have v2:=ZaT h hn hc' hk
   have hkb:k.toNat≤140737488355328:=Nat.le_trans (Nat.le_mul_of_pos_right _ hb0) hby
   have hb2:(i.bytes:Int)*k≤281474976710656:=by
    have h5:((k.toNat*bytes:Nat):Int)≤((140737488355328:Nat):Int):=Int.ofNat_le.2 hby
    rw [Int.natCast_mul,Int.toNat_of_nonneg (by omega)] at h5
    rw [hib,Int.mul_comm]
    omega
   have hrun:=run_make (P:=P) w t e i z he hi hiz .i64 .i64 m k h0 hmk hb2 (by omega)
   have hlen:(List.replicate m.toNat zero).length=m.toNat:=by simp
   obtain ⟨σ',M',h1,h2⟩:=(h.cool (.loc d 0)).newDeep (X:=X) (w':=w.alloc (.cells (madeCells z.cells (k.toNat*i.size)) e)) (ZaZ d 0) (Zaj _) (fun _ h=>h) (sz:=zero.length) (cap:=k.toNat) (rows:=List.replicate m.toNat zero) (e:=e) (kid:=fun _=>none) hz0 (by simp only[maxLen]; omega)
    (by rw [Zay,hisz]) (by simp; omega) (fun row hr=>by rw [(List.mem_replicate.1 hr).2]) (by rw [hisz]; exact Zgx hzero hzed hz0 (by omega)) rfl (fun i j p hp=>absurd rfl hp) (fun p K hp=>by cases hp) (fun p p' K K' hp=>by cases hp) rfl rfl rfl rfl
   rw [hlen] at h2
   refine Goes.make h1 hn hd ?_ h2
   simp only[execOp,ho,v1,v2,Sem.run_bind,hrun,Result.andThen_ok,Sem.run_pure]
  ·cases hok
 ·cases hs
theorem ZhX (h : Rel base σ0 X w0 σ M w a st) (hn:a.tmps.size=n) {m:Nat} {x v:Arg} (hok:okOp P n o (.std m x v)=true) (hs:step E st (.std m x v)=some st'):Goes base σ0 X w0 P o a w st':=by
 simp only[okOp,Bool.and_eq_true] at hok
 obtain ⟨hd,hok⟩:=hok
 have hdn:o.dst=none:=by
  cases hq:o.dst with
  | none=>rfl
  | some t=>rw [hq] at hd; cases hd
 split at hok
 ·rename_i t x' v' ho
  simp only[Bool.and_eq_true] at hok
  obtain ⟨⟨ht,hx⟩,hv⟩:=hok
  simp only[step] at hs
  split at hs
  ·rename_i id i p hm
   split at hs
   ·rename_i z r hid
    simp only[Option.bind_eq_some_iff] at hs
    obtain ⟨y,hy,us,hus,row,hrow,hs⟩:=hs
    split at hs
    ·rename_i hcnd
     obtain ⟨hul,hloc,hnd,hnin⟩:=hcnd
     simp only[Option.map_eq_some_iff] at hs
     obtain ⟨row',hrow',rfl⟩:=hs
     have hr:=Zf h hn hx
     rw [hm] at hr
     obtain ⟨L,hlive,hL,hxv⟩:=hr
     have hlocp:∀ j,id≠.par j:=fun j e=>by subst e; cases hloc
     have hrep:=RepT.cells (ZdE h hn hv hy)
     obtain ⟨hcl,_⟩:=Zr hus
     obtain ⟨kids,g1,g2,g3⟩:=ZeE h hrep hus hnd
     obtain ⟨hp1,hp2,hp3⟩:=ZbA hrow'
     rcases h.obj id _ hid with ⟨_,h4⟩|⟨L1,cur,hL1,hz,hmM,hh,hs,hcap,hcm,h0,hall,hc,hkd⟩
     ·rw [hL] at h4; cases h4
     ·rw [hL] at hL1; cases hL1
      have hi:i<r.length:=(List.getElem?_eq_some_iff.1 hrow).1
      have hrl:row.length=L.sz:=hall row (List.mem_of_getElem? hrow)
      have hvs:(a.eval v').cells.size=us.length:=by rw [hrep.1,hcl]
      have hfit:i*L.sz+p + (a.eval v').cells.size≤cur.size:=by
       have:(i+1)*L.sz≤L.cap*L.sz:=Nat.mul_le_mul_right _ (by omega)
       rw [Nat.add_mul] at this
       rw [hvs,hs]
       omega
      obtain ⟨cur2,hst,c1,c2⟩:=ZbR (P:=P) (off:=i*L.sz+p) (vs:=(a.eval v').cells) hh hfit (ZdV hrep)
      obtain ⟨f1,f2,f3,f4,f5,f6⟩:=Zap L.g cur2 hh
      obtain ⟨X1,hR1,hX1,hB1⟩:=h.reserveAll y.ids
      have hid1:=(Zcv y.ids st id hnin).2.1 z r hid
      have hmoved:∀ j q K,kids j q=some K→X1 K.g∧¬X K.g∧From base σ0 K.g∧¬L.has K.g:=by
       intro j q K hk
       obtain ⟨_,id',hid',hl',hsome',L',hL',hb'⟩:=g2 j q K hk
       refine ⟨hB1 id' K.g hid' ⟨hsome',L',hL',hb'⟩,(h.mine id' L' K.g hsome' hL' hb').1,(h.mine id' L' K.g hsome' hL' hb').2,fun hb=>?_⟩
       ·have:=h.inj id id' L L' K.g (by rw [hid]; rfl) hsome' hL hL' hb hb'
        subst this
        exact hnin hid'
      let kid':Kid:=fun q=>match q with
       | (i',j)::q'=>if i'=i∧p≤j∧j<p+us.length then kids (j - p) q' else L.kid ((i',j)::q')
       | []=>none
      have hk1:∀ i' j,(i'=i∧p≤j∧j<p+us.length)→(fun q=>kid' ((i',j)::q))=kids (j - p):=fun i' j hc=>by funext q; simp only[kid']; rw [if_pos hc]
      have hk2:∀ i' j,¬(i'=i∧p≤j∧j<p+us.length)→(fun q=>kid' ((i',j)::q))=fun q=>L.kid ((i',j)::q):=fun i' j hc=>by funext q; simp only[kid']; rw [if_neg hc]
      have hkcase:∀ q K,kid' q=some K→(∃ i' j q',q=(i',j)::q'∧(i'=i∧p≤j∧j<p+us.length)∧kids (j - p) q'=some K)∨(L.kid q=some K∧∃ i' j q',q=(i',j)::q'∧¬(i'=i∧p≤j∧j<p+us.length)):=by
       intro q K hq
       match q with
       | []=>cases hq
       | (i',j)::q'=>
        by_cases hcd:i'=i∧p≤j∧j<p+us.length
        ·exact .inl ⟨i',j,q',rfl,hcd,by rw [←hk1 i' j hcd]; exact hq⟩
        ·have e:kid' ((i',j)::q')=L.kid ((i',j)::q'):=congrFun (hk2 i' j hcd) q'
         exact .inr ⟨by rw [←e]; exact hq,i',j,q',rfl,hcd⟩
      have hne:∀ q K,kid' q=some K→K.g≠L.g:=by
       intro q K hq
       rcases hkcase q K hq with ⟨i',j,q',rfl,hcd,hk⟩|⟨hk,_⟩
       ·exact fun e=>(hmoved _ _ K hk).2.2.2 (.inl e.symm)
       ·exact hkd.ne q K hk
      have hA:∀ b,(⟨L.toLoc0,kid'⟩:Loc).has b→(L.has b∨X1 b)∧¬X b∧From base σ0 b:=by
       intro b hb
       rcases hb with rfl|⟨q,K,hq,rfl⟩
       ·have:=h.mine id L L.g hlive hL L.has_g
        exact ⟨.inl L.has_g,this.1,this.2⟩
       ·rcases hkcase q K hq with ⟨i',j,q',rfl,hcd,hk⟩|⟨hk,_⟩
        ·obtain ⟨m1,m2,m3,_⟩:=hmoved _ _ K hk
         exact ⟨.inr m1,m2,m3⟩
        ·have hLb:L.has K.g:=.inr ⟨q,K,hk,rfl⟩
         have:=h.mine id L K.g hlive hL hLb
         exact ⟨.inl hLb,this.1,this.2⟩
      have hB : ∀ M':Nat→Prop,(∀ b,M' b→M b)→(∀ b,(⟨L.toLoc0,kid'⟩:Loc).has b→M' b)→RepO (w.setRow L.g cur2) M' (upd σ id (some ⟨L.toLoc0,kid'⟩)) (((st.killAll y.ids).mapC (C.unsub id)).obj id (some (.deep z (r.set i row')))).o id (.deep z (r.set i row')):=by
       intro M' hM1 hM2
       refine .inr ⟨⟨L.toLoc0,kid'⟩,cur2,Zd ..,hz,hM2 _ (.inl rfl),f1,by rw [c1,hs],by simpa using hcap,hcm,h0,Zba hall (by rw [hp2,hrl]),fun i' j rw' x' hi' hj=>?_,⟨rfl,fun i' j q hq=>?_,fun q K hq=>hM2 _ (.inr ⟨q,K,hq,rfl⟩),hne,fun q q' K K' hq hq' e=>?_⟩⟩
       ·rw [c2,hvs]
        by_cases e:i'=i
        ·subst e
         rw [List.getElem?_set_self hi] at hi'
         cases hi'
         rw [hp3] at hj
         by_cases hb:p≤j∧j<p+us.length
         ·rw [if_pos hb] at hj
          simp only
          rw [if_pos (by omega),hk1 i' j ⟨rfl,hb⟩]
          obtain ⟨y',hy',hO⟩:=g1 _ x' hj
          refine ⟨y',?_,hO.keep (fun q K hq=>f3 _ (fun e=>(hmoved _ _ K hq).2.2.2 (.inl e.symm)))⟩
          rw [show i'*L.sz+j - (i'*L.sz+p)=j - p by omega]
          exact hy'
         ·rw [if_neg hb] at hj
          simp only
          rw [if_neg (by omega),hk2 i' j (fun hc=>hb hc.2)]
          obtain ⟨y',hy',hO⟩:=hc i' j row x' hrow hj
          exact ⟨y',hy',hO.keep (fun q K hq=>f3 _ (hkd.ne _ K hq))⟩
        ·rw [List.getElem?_set_ne (fun h=>e h.symm)] at hi'
         obtain ⟨y',hy',hO⟩:=hc i' j rw' x' hi' hj
         have hjl:j<L.sz:=by rw [←hall rw' (List.mem_of_getElem? hi')]; exact (List.getElem?_eq_some_iff.1 hj).1
         rw [hk2 i' j (fun hc=>e hc.1)]
         refine ⟨y',?_,hO.keep (fun q K hq=>f3 _ (hkd.ne _ K hq))⟩
         simp only
         rw [if_neg ?_]
         ·exact hy'
         ·intro hb
          rcases Nat.lt_or_gt_of_ne e with hlt|hlt
          ·have:(i'+1)*L.sz≤i*L.sz:=Nat.mul_le_mul_right _ hlt
           rw [Nat.add_mul] at this
           omega
          ·have:(i+1)*L.sz≤i'*L.sz:=Nat.mul_le_mul_right _ hlt
           rw [Nat.add_mul] at this
           omega
       ·rw [List.length_set]
        obtain ⟨K,hK⟩:=Option.ne_none_iff_exists'.1 hq
        rcases hkcase ((i',j)::q) K hK with ⟨i2,j2,q2,e,⟨rfl,hcd1,hcd2⟩,hk⟩|⟨hk,_⟩
        ·cases e
         exact ⟨hi,by simp only; omega⟩
        ·exact hkd.at_ i' j q (by rw [hk]; simp)
       ·rcases hkcase q K hq with ⟨i1,j1,q1,rfl,⟨rfl,ha1,ha2⟩,hk1'⟩|⟨hk1',hno⟩
        ·rcases hkcase q' K' hq' with ⟨i2,j2,q2,rfl,⟨rfl,hb1,hb2⟩,hk2'⟩|⟨hk2',_⟩
         ·obtain ⟨e1,e2⟩:=g3 _ _ _ _ K K' hk1' hk2' e
          rw [e2,show j1=j2 by omega]
         ·exact absurd (show L.has K.g from .inr ⟨q',K',hk2',e.symm⟩) (hmoved _ _ K hk1').2.2.2
        ·rcases hkcase q' K' hq' with ⟨i2,j2,q2,rfl,_,hk2'⟩|⟨hk2',_⟩
         ·exact absurd (show L.has K'.g from .inr ⟨q,K,hk1',e⟩) (hmoved _ _ K' hk2').2.2.2
         ·exact hkd.inj q q' K K' hk1' hk2' e
      obtain ⟨M',hR⟩:=hR1.regrow (X:=X) (w':=w.setRow L.g cur2) (rows':=r.set i row') (L':=⟨L.toLoc0,kid'⟩) hlocp hid1 hL rfl rfl rfl (by simp) hX1 hA f2 f3 f4 f5 f6 hB
      refine ⟨.skip,undef,_,_,M',?_,.inr ⟨rfl,rfl⟩,by rw [hdn]; exact hR⟩
      have hsz:¬(a.eval v').cells.size≠m:=by omega
      simp only[execOp,ho,hxv,Instr.storeAt,Instr.sureAddr,storeVar,Sem.run_bind,Sem.run_pure,Result.andThen_ok,Za4 ht,hsz,if_false,hst,Sem.run_ite]
    ·cases hs
   ·cases hs
  ·cases hs
 ·cases hok
end Go.Proofs.YtfajcehhcjmofaaV
