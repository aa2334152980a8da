/- Function values that capture; calls that write into a slice of a deep row. No conditions but those that the lemmas state. -/
import Derived.Test.YtfajcehhcjmofaaV31
namespace Go.Proofs.YtfajcehhcjmofaaV
open Go Go.RowKit
set_option linter.unusedVariables false
set_option linter.unusedSimpArgs false
variable {base:Nat} {σ0:Sig} {X X1:Nat→Prop} {w0 w w':World} {σ σ':Sig} {M M':Nat→Prop} {a:Act} {st st':St} {P:Program} {n:Nat} {o:Oper} {E:Zb}
variable {ob:Id→Option Obj}
theorem ZhQ (h:Rel base σ0 X w0 σ M w a st) (hn:a.tmps.size=n) {d f:Nat} {caps:List Arg} (hok:okOp P n o (.mkf d f caps)=true) (hs:step E st (.mkf d f caps)=some st'):Goes base σ0 X w0 P o a w st':=by
 simp only[okOp,Bool.and_eq_true] at hok
 obtain ⟨hd,hok⟩:=hok
 simp only[step,Option.map_eq_some_iff] at hs
 obtain ⟨ps,hps,rfl⟩:=hs
 split at hok
 ·rename_i g first cs ho
  simp only[Bool.and_eq_true,beq_iff_eq] at hok
  obtain ⟨⟨rfl,hfirst⟩,hargs⟩:=hok
  have hf0:first=#[]:=by simpa [Array.isEmpty_iff] using hfirst
  subst hf0
  obtain ⟨M1,hR,hM1,hid⟩:=h.coolAll (ps.map (·.1))
  obtain ⟨hl,hg⟩:=Zr hps
  have hargs2:∀ (xs:List Arg) (os:List Operand),ZaC n xs os=true→os.length=xs.length∧∀ (j:Nat) x,xs[j]?=some x→∃ y,os[j]?=some y∧Ze n x y=true:=by
   intro xs
   induction xs with
   | nil=>intro os hk; cases os with
    | nil=>exact ⟨rfl,fun j x hj=>by simp at hj⟩
    | cons=>simp [ZaC] at hk
   | cons x xs ih=>intro os hk; cases os with
    | nil=>simp [ZaC] at hk
    | cons y os=>
     simp only[ZaC,Bool.and_eq_true] at hk
     obtain ⟨h1,h2⟩:=ih os hk.2
     refine ⟨by simp [h1],fun j q hj=>?_⟩
     cases j with
     | zero=>simp at hj; subst hj; exact ⟨y,rfl,hk.1⟩
     | succ j=>simp at hj; obtain ⟨z,h3,h4⟩:=h2 j q hj; exact ⟨z,by simpa using h3,h4⟩
  obtain ⟨hol,hoa⟩:=hargs2 caps cs.toList hargs
  refine Goes.val (v:=.func (.func g) #[] (cs.map a.eval)) hR hn hd (by simp [execOp,ho,Instr.makeFunc]) ?_
  refine RepU.fn g _ _ (by simp [hl,←hol]) (fun j x v hj hv=>?_)
  rw [List.getElem?_map] at hj
  obtain ⟨p,hp,rfl⟩:=Option.map_eq_some_iff.1 hj
  have hlt:j<caps.length:=by rw [←hl]; exact (List.getElem?_eq_some_iff.1 hp).1
  have hcj:caps[j]?=some caps[j]:=by simp [hlt]
  obtain ⟨p',hp',hcap⟩:=hg j caps[j] hcj
  rw [hp] at hp'; cases hp'
  obtain ⟨y,hy,hyk⟩:=hoa j caps[j] hcj
  have hvy:v=a.eval y:=by
   rw [←Array.getElem?_toList] at hv
   simp only[Array.toList_map,List.getElem?_map,hy,Option.map_some,Option.some.injEq] at hv
   exact hv.symm
  subst hvy
  have hr:=Zf h hn hyk
  unfold St.capOf at hcap
  split at hcap
  ·rename_i id hm
   split at hcap
   ·rename_i bs hbs
    simp only[Option.map_eq_some_iff] at hcap
    obtain ⟨us,hus,rfl⟩:=hcap
    rw [hm] at hr
    obtain ⟨L,hlive,hL,hv⟩:=hr
    obtain ⟨L',cur,hL',hmM,hh,hsz,hc⟩:=h.obj id _ hbs
    rw [hL] at hL'; cases hL'
    obtain ⟨h1,h2⟩:=Zeq hus
    rw [hv]
    have hMg:¬M1 L.g:=hid id (List.mem_map.2 ⟨_,List.mem_of_getElem? hp,rfl⟩) hlive L L.g hL L.has_g
    have hg0:(⟨L.g,0*L.sz+0,none⟩:Addr)=⟨L.g,0,none⟩:=by simp
    rw [hg0]
    have key:∀ (j:Nat) u,us[j]?=some u→∃ y,cur[j]?=some y∧RepU w M u y:=fun j u hj=>hc j _ (h2 j u hj)
    refine RepU.rp us ⟨L.g,0,none⟩ (fun j=>(cur[j]?).getD undef) (fun _=>⟨hMg,(Array.getElem?_eq_some_iff.1 hh).1⟩) (fun j hj=>?_) (fun j u hj=>?_)
    ·obtain ⟨y,hy,_⟩:=key j us[j] (by simp [hj])
     rw [add_lit,cell_of_row w L.g _ cur L.e (0,0) hh,hy]; rfl
    ·obtain ⟨y,hy,hr⟩:=key j u hj
     simp only[hy,Option.getD_some]
     exact hr.keep ⟨Nat.le_refl _,fun _ _ _=>rfl,fun b _ hb=>hM1 b hb⟩
   ·cases hcap
  ·cases hcap
 ·cases hok
/-- A slice of a deep row was written: its block, and its slices' blocks, alone. -/
theorem Rel.kidWritten (h:Rel base σ0 X w0 σ M w a st) {id:Id} {z:Nat} {rows rows':List (List U)} (hid:st.o id=some (.deep z rows)) (hlen:rows.length≤rows'.length) {B:Nat→Prop} (hB:∀ b,B b→∃ L,σ id=some L∧L.has b)
    (hsz:w.heap.size≤w'.heap.size) (hsame:∀ b,b<w.heap.size→¬B b→w'.heap[b]?=w.heap[b]?) (hos:w'.os=w.os) (ht:w'.tape=w.tape) (hout:w'.output=w.output)
    (hx:RepO w' M σ (st.obj id (some (.deep z rows'))).o id (.deep z rows')):Rel base σ0 X w0 σ M w' a (st.obj id (some (.deep z rows'))):=by
  have hidS:(st.o id).isSome=true:=by rw [hid]; rfl
  have hBM:∀ b,B b→M b:=fun b hb=>by obtain ⟨L,hL,hb⟩:=hB b hb; exact h.inMb hidS hL hb
  have k:Zaa w w' M M:=⟨hsz,fun b hb hm=>hsame b hb (fun e=>hm (hBM b e)),fun b hb hm=>hm⟩
  have ho':∀ i,i≠id→(st.obj id (some (.deep z rows'))).o i=st.o i:=fun i e=>by simp [St.obj,e]
  have hoid:(st.obj id (some (.deep z rows'))).o id=some (.deep z rows'):=by simp [St.obj]
  have hsome:∀ i,((st.obj id (some (.deep z rows'))).o i).isSome=(st.o i).isSome:=fun i=>by
    by_cases e:i=id
    · subst e; rw [hoid,hid]; rfl
    · rw [ho' i e]
  have r:Refs σ σ st.o (st.obj id (some (.deep z rows'))).o:=by
    refine ⟨fun i hi L hl=>hl,fun i z1 r1 hi=>?_,fun i z1 r1 hi=>?_,fun i hi=>by rw [hsome]; exact hi⟩
    · by_cases e:i=id
      · subst e; rw [hid] at hi; cases hi
      · exact ⟨z1,r1,by rw [ho' i e]; exact hi,Nat.le_refl _⟩
    · by_cases e:i=id
      · subst e
        rw [hid] at hi; cases hi
        exact ⟨z,rows',hoid,hlen⟩
      · exact ⟨z1,r1,by rw [ho' i e]; exact hi,Nat.le_refl _⟩
  refine ⟨fun t hlt=>(h.slot t hlt).keep k r,fun i y hy=>?_,fun i i' L L' b hi hi'=>h.inj i i' L L' b (by rw [←hsome]; exact hi) (by rw [←hsome]; exact hi'),fun b hb=>?_,fun i L b hi hl=>h.mine i L b (by rw [←hsome]; exact hi) hl,h.par,fun b hb=>⟨(h.sup b hb).1,Nat.lt_of_lt_of_le (h.sup b hb).2 hsz⟩,hos.trans h.os,ht.trans h.tape,hout.trans h.output,Nat.le_trans h.size hsz,fun b hb hp=>?_,fun i y L' hy hd hl=>?_⟩
  · by_cases e:i=id
    · subst e
      rw [hoid] at hy; cases hy; exact hx
    · rw [ho' i e] at hy
      have hi:(st.o i).isSome=true:=by rw [hy]; rfl
      refine (h.obj i y hy).keep k r hy (fun e2=>e2) (fun L' b hl hb=>⟨hsame _ (h.ltM (h.inMb hi hl hb)) (fun e2=>?_),h.inMb hi hl hb⟩)
      obtain ⟨L,hL,hb2⟩:=hB b e2
      exact e (h.inj i id L' L b hi hidS hl hL hb hb2)
  · rcases h.live b hb with hX|⟨i,L',hi,hl,e⟩
    · exact .inl hX
    exact .inr ⟨i,L',by rw [hsome]; exact hi,hl,e⟩
  · refine (hsame b (Nat.lt_of_lt_of_le hb h.size) (fun e=>?_)).trans (h.same b hb hp)
    obtain ⟨L,hL,hb2⟩:=hB b e
    rcases (h.mine id L b hidS hL hb2).2 with h1|⟨j,L0,h1,h2⟩
    · omega
    · exact hp j L0 h1 h2
  · by_cases e:i=id
    · subst e
      rw [hoid] at hy; cases hy; cases hd
    · rw [ho' i e] at hy
      exact h.lone i y L' hy hd hl
theorem Own.kidRow {kid:Kid} {K:Loc0} {rows:List (List U)} (hk0:∀ (i j:Nat) row x,rows[i]?=some row→row[j]?=some x→x.scal=true) (hl:∀ row,row∈rows→row.length=K.sz) (hj:∀ i j p,kid ((i,j)::p)≠none→i<rows.length∧j<K.sz)
  {V:Nat→Nat→Value} (hr:∀ (i j:Nat) row x,rows[i]?=some row→row[j]?=some x→Own w (fun p=>kid ((i,j)::p)) x (V i j)):∀ i j p,kid ((i,j)::p)=none:=by
 intro i j p
 cases hq:kid ((i,j)::p) with
 | none=>rfl
 | some K'=>
  obtain ⟨h1,h2⟩:=hj i j p (by rw [hq]; simp)
  have hi:rows[i]?=some rows[i]:=by simp [h1]
  have hlen:=hl _ (List.mem_of_getElem? hi)
  have hx:rows[i][j]?=some (rows[i][j]'(by omega)):=by simp [hlen,h2]
  have hO:=hr i j _ _ hi hx
  have hs:=hk0 i j _ _ hi hx
  generalize rows[i][j]'(by omega)=x at hO hs
  generalize V i j=v at hO
  cases hO with
  | scal kid x v hk=>have:=hk p; simp only at this; rw [hq] at this; cases this
  | sl0=>cases hs
  | sl=>cases hs
def sigK (Lk:Option Loc):Sig:=fun j=>if j=.par 0 then Lk else none
theorem ZaA (Lk:Option Loc):sigK Lk (.par 0)=Lk:=by simp [sigK]
/-- A slice of a deep row, as an object that is handed to a call. -/
theorem ZfZ {L:Loc} {i c zk m:Nat} {rk:List (List U)} {y:Value} {dp:Bool} {ob0:Obj} (hO:Own w (fun p=>L.kid ((i,c)::p)) (.sl zk rk) y) (hm:rk.length=m) (hob:Zbk dp (.sl zk rk)=some ob0)
  (hin:∀ p K,L.kid p=some K→M K.g) (hinj:∀ p p' K K',L.kid p=some K→L.kid p'=some K'→K.g=K'.g→p=p') :
  ∃ Lk:Option Loc,(∀ l b,Lk=some l→l.has b→∃ q K',L.kid ((i,c)::q)=some K'∧K'.g=b)∧RepO w M (sigK Lk) (Zj [ob0]) (.par 0) ob0∧(∀ l,Lk=some l→ob0.isDeep=false→l.lone)∧
   (∀ (σ:Sig) (ob:Id→Option Obj) (id:Id) v,RepC w M σ ob (.sub id i c m) v→σ id=some L→RepC w M (sigK Lk) (Zj [ob0]) (C.foc dp (.sub id i c m)) v)∧
   ∀ (w':World) (M':Nat→Prop) (o':Id→Option Obj) ob' x',RepO w' M' (sigK Lk) o' (.par 0) ob'→Zai dp zk m [ob']=some x'→Own w' (fun p=>L.kid ((i,c)::p)) x' y:=by
 have hob':ob0=(if dp then .deep zk rk else .row zk rk)∧(dp=false→∀ row,row∈rk→∀ x,x∈row→x.scal=true):=by
  unfold Zbk at hob
  cases dp with
  | true=>simp at hob; exact ⟨by simp [hob],fun h=>by cases h⟩
  | false=>
   simp only[Bool.false_eq_true,if_false] at hob
   split at hob
   ·rename_i hs
    cases hob
    simp only[List.all_eq_true] at hs
    exact ⟨rfl,fun _=>hs⟩
   ·cases hob
 obtain ⟨hob1,hsc⟩:=hob'
 generalize hU:U.sl zk rk=u at hO
 generalize hkk:(fun p=>L.kid ((i,c)::p))=kid at hO
 cases hO with
 | scal kid x v hk hs hr=>subst hU; cases hs
 | sl0 kid z b hk=>
  cases hU
  simp only[List.length_nil] at hm
  subst hm
  have hkn:L.kid [(i,c)]=none:=by have:=hk []; rw [←hkk] at this; exact this
  refine ⟨none,fun l b h=>(by cases h),?_,fun l h=>(by cases h),fun σ ob id v hr hL=>?_,fun w' M' o' ob' x' hR hB=>?_⟩
  ·rw [hob1]
   cases dp with
   | true=>exact .inl ⟨rfl,ZaA _⟩
   | false=>exact .inl ⟨rfl,ZaA _⟩
  ·obtain ⟨_,_,L2,_,hL2,hv⟩:=hr
   rw [hL] at hL2; cases hL2
   have hvb:∃ b,v=.slice b 0 0:=by
    rcases hv with ⟨_,_,hb⟩|⟨K,hK,_⟩
    ·exact hb
    ·rw [hkn] at hK; cases hK
   rw [hob1]
   cases dp with
   | true=>exact ⟨zk,[],rfl,Nat.le_refl _,.inl ⟨rfl,hvb⟩⟩
   | false=>exact ⟨zk,[],rfl,Nat.le_refl _,.inl ⟨rfl,hvb⟩⟩
  ·unfold Zai at hB
   split at hB
   ·rename_i z' r heq
    cases heq
    split at hB
    ·rename_i hc
     cases hB
     have:r=[]:=List.eq_nil_of_length_eq_zero hc.2.2.1
     subst this
     exact .sl0 _ _ b hk
    ·cases hB
   ·rename_i z' r heq
    cases heq
    split at hB
    ·rename_i hc
     cases hB
     have:r=[]:=List.eq_nil_of_length_eq_zero hc.2.2
     subst this
     exact .sl0 _ _ b hk
    ·cases hB
   ·cases hB
 | sl kid K rows cur V hk hh hs hn hmx h0 hl hj hc hr=>
  cases hU
  have hkq:∀ q,kid q=L.kid ((i,c)::q):=fun q=>by rw [←hkk]
  have hkK:L.kid [(i,c)]=some K:=by rw [←hkq]; exact hk
  let l:Loc:=⟨K,fun p=>if p=[] then none else L.kid ((i,c)::p)⟩
  have hlk:∀ a b p,l.kid ((a,b)::p)=kid ((a,b)::p):=fun a b p=>by simp only[l,hkq]; simp
  have hlb:∀ p K',l.kid p=some K'→L.kid ((i,c)::p)=some K'∧p≠[]:=by
   intro p K' hp
   simp only[l] at hp
   split at hp
   ·cases hp
   ·rename_i hne; exact ⟨hp,hne⟩
  refine ⟨some l,fun l' b e hb=>?_,?_,fun l' e hd=>?_,fun σ ob id v hr2 hL=>?_,fun w' M' o' ob' x' hR hB=>?_⟩
  ·cases e
   rcases hb with rfl|⟨p,K',hp,rfl⟩
   ·exact ⟨[],K,hkK,rfl⟩
   ·exact ⟨p,K',(hlb p K' hp).1,rfl⟩
  ·rw [hob1]
   cases dp with
   | true=>
    refine .inr ⟨l,cur,ZaA _,rfl,hin _ K hkK,hh,hs,hn,hmx,h0,hl,fun a b row x ha hb=>?_,⟨by simp [l],fun a b p hne=>hj a b p (by rw [←hlk]; exact hne),fun p K' hp=>hin _ K' (hlb p K' hp).1,fun p K' hp e=>?_,fun p p' K1 K2 hp hp' e=>?_⟩⟩
    ·refine ⟨V a b,hc a b row x ha hb,?_⟩
     have e:(fun p=>l.kid ((a,b)::p))=fun p=>kid ((a,b)::p):=by funext p; exact hlk a b p
     rw [e]; exact hr a b row x ha hb
    ·have:=hinj _ _ K' K (hlb p K' hp).1 hkK e
     simp only[List.cons.injEq,true_and] at this
     exact (hlb p K' hp).2 this
    ·have:=hinj _ _ K1 K2 (hlb p K1 hp).1 (hlb p' K2 hp').1 e
     simpa using this
   | false=>
    refine .inr ⟨l,cur,ZaA _,rfl,hin _ K hkK,hh,hs,hn,hmx,h0,hl,fun a b row x ha hb=>⟨V a b,hc a b row x ha hb,?_⟩⟩
    have hOx:=hr a b row x ha hb
    have hxs:=hsc rfl row (List.mem_of_getElem? ha) x (List.mem_of_getElem? hb)
    exact ZbM hOx (fun p K' hp _=>by
     have:=Own.kidRow (w:=w) (kid:=kid) (K:=K) (rows:=rk) (fun i j row x h1 h2=>hsc rfl row (List.mem_of_getElem? h1) x (List.mem_of_getElem? h2)) hl hj hr a b p
     rw [this] at hp; cases hp)
  ·cases e
   have hdp:dp=false:=by cases dp with
    | false=>rfl
    | true=>rw [hob1] at hd; cases hd
   subst hdp
   intro p
   match p with
   | []=>simp [l]
   | (a,b)::p=>
    rw [hlk]
    exact Own.kidRow (w:=w) (kid:=kid) (K:=K) (rows:=rk) (fun i j row x h1 h2=>hsc rfl row (List.mem_of_getElem? h1) x (List.mem_of_getElem? h2)) hl hj hr a b p
  ·obtain ⟨_,_,L2,_,hL2,hv⟩:=hr2
   rw [hL] at hL2; cases hL2
   have hvb:v=.slice (some ⟨K.g,0,none⟩) m K.cap:=by
    rcases hv with ⟨_,hK,_⟩|⟨K2,hK,hv⟩
    ·rw [hkK] at hK; cases hK
    ·rw [hkK] at hK; cases hK; exact hv
   rw [hob1]
   subst hm
   cases dp with
   | true=>exact ⟨K.sz,rk,rfl,Nat.le_refl _,.inr ⟨l,ZaA _,hvb⟩⟩
   | false=>exact ⟨K.sz,rk,rfl,Nat.le_refl _,.inr ⟨l,ZaA _,hvb⟩⟩
  ·subst hm
   unfold Zai at hB
   split at hB
   ·rename_i z' r heq
    cases heq
    split at hB
    ·rename_i hcd
     obtain ⟨_,rfl,hrl,hrs⟩:=hcd
     simp only[List.all_eq_true] at hrs
     cases hB
     rcases hR with ⟨_,h2⟩|⟨l',cur',hl',_,_,hh',hs',hn',hm',h0',hall',hc'⟩
     ·rw [ZaA] at h2; cases h2
     ·rw [ZaA] at hl'; cases hl'
      have hnone:∀ a b p,kid ((a,b)::p)=none:=Own.kidRow (w:=w) (kid:=kid) (K:=K) (rows:=rk) (fun i j row x h1 h2=>hsc (by assumption) row (List.mem_of_getElem? h1) x (List.mem_of_getElem? h2)) hl hj hr
      rw [←hrl]
      refine .sl kid K r cur' (fun a b=>(cur'[a*K.sz+b]?).getD undef) hk hh' hs' hn' hm' h0' hall' (fun a b p hne=>absurd (hnone a b p) hne) (fun a b row x ha hb=>?_) (fun a b row x ha hb=>?_)
      ·obtain ⟨q,hq,_⟩:=hc' a b row x ha hb
       show cur'[a*l.sz+b]?=_
       rw [hq]; 
       simp only[show a*K.sz+b=a*l.sz+b from rfl,hq,Option.getD_some]
      ·obtain ⟨q,hq,hrq⟩:=hc' a b row x ha hb
       have hxs:=hrs row (List.mem_of_getElem? ha) x (List.mem_of_getElem? hb)
       simp only[show a*K.sz+b=a*l.sz+b from rfl,hq,Option.getD_some]
       exact .scal _ x q (fun p=>hnone a b p) hxs (ZaI hxs hrq)
    ·cases hB
   ·rename_i z' r heq
    cases heq
    split at hB
    ·rename_i hcd
     obtain ⟨_,rfl,hrl⟩:=hcd
     cases hB
     rcases hR with ⟨_,h2⟩|⟨l',cur',hl',_,_,hh',hs',hn',hm',h0',hall',hc',hkd'⟩
     ·rw [ZaA] at h2; cases h2
     ·rw [ZaA] at hl'; cases hl'
      rw [←hrl]
      refine .sl kid K r cur' (fun a b=>(cur'[a*K.sz+b]?).getD undef) hk hh' hs' hn' hm' h0' hall' (fun a b p hne=>hkd'.at_ a b p (by rw [hlk]; exact hne)) (fun a b row x ha hb=>?_) (fun a b row x ha hb=>?_)
      ·obtain ⟨q,hq,_⟩:=hc' a b row x ha hb
       simp only[show a*K.sz+b=a*l.sz+b from rfl,hq,Option.getD_some]
      ·obtain ⟨q,hq,hrq⟩:=hc' a b row x ha hb
       simp only[show a*K.sz+b=a*l.sz+b from rfl,hq,Option.getD_some]
       have e:(fun p=>l.kid ((a,b)::p))=fun p=>kid ((a,b)::p):=by funext p; exact hlk a b p
       rw [←e]; exact hrq
    ·cases hB
   ·cases hB
theorem Zfk {rows:List (List U)} {i c:Nat} {x':U} {row:List U} (hrow:rows[i]?=some row):(Zam rows i c x').length=rows.length∧∀ (i':Nat) r,(Zam rows i c x')[i']?=some r→(i'=i∧r=row.set c x')∨(i'≠i∧rows[i']?=some r):=by
 unfold Zam
 refine ⟨by simp,fun i' r h=>?_⟩
 rw [List.getElem?_modify] at h
 by_cases e:i=i'
 ·subst e
  rw [hrow] at h
  simp at h
  exact .inl ⟨rfl,h.symm⟩
 ·exact .inr ⟨fun h=>e h.symm,by simpa [e] using h⟩
theorem Zgs (hE:Zad P E) (h:Rel base σ0 X w0 σ M w a st) (hn:a.tmps.size=n) {d f:Nat} {dp:Bool} {xs:List Arg} (hok:okOp P n o (.callk d f dp xs)=true) (hs:step E st (.callk d f dp xs)=some st'):Does base σ0 X w0 P o a w st':=by
  simp only[okOp,Bool.and_eq_true] at hok
  obtain ⟨hd,hok⟩:=hok
  simp only[step,Option.bind_eq_some_iff] at hs
  obtain ⟨ts,hts,hs⟩:=hs
  split at hs
  · rename_i id i c m hsub
    split at hs
    · rename_i z rows hid
      simp only[Option.bind_eq_some_iff] at hs
      obtain ⟨x,hx,ob0,hob,r,hr,x',hx',hs⟩:=hs
      split at hs
      · rename_i hq
        obtain ⟨hnew,hquiet⟩:=hq
        cases hs
        split at hok
        · rename_i cl ho
          obtain ⟨hxs,hexec⟩:=ZbU (P:=P) (a:=a) (w:=w) ho hok
          obtain ⟨hl1,hr1⟩:=Zbo h hn xs cl.args.toList ts hxs hts
          obtain ⟨row,zk,rk,hrow,hcell,hrkl,rfl⟩:=Zdr hx
          have hi:i<rows.length:=(List.getElem?_eq_some_iff.1 hrow).1
          rcases h.obj id _ hid with ⟨h0,_⟩|⟨L,cur,hL,hz,hmM,hh,hs,hcap,hcm,h0,hall,hc,hkd⟩
          · rw [h0] at hi; simp at hi
          · obtain ⟨y,hy,hO⟩:=hc i c row _ hrow hcell
            obtain ⟨Lk,k1,k2,k3,k4,k5⟩:=ZfZ (M:=M) hO hrkl hob hkd.inM hkd.inj
            have hsz0:U.sz? (.sl zk rk)=zk:=rfl
            rw [hsz0] at hx'
            let B:Nat→Prop:=fun b=>∃ l,Lk=some l∧l.has b
            have hB:∀ b,B b→∃ q K',L.kid ((i,c)::q)=some K'∧K'.g=b:=fun b ⟨l,hl,hb⟩=>k1 l b hl hb
            have hBL:∀ b,B b→L.has b:=fun b hb=>by obtain ⟨q,K',hk,e⟩:=hB b hb; exact .inr ⟨_,K',hk,e⟩
            have hBg:¬B L.g:=fun hb=>by obtain ⟨q,K',hk,e⟩:=hB _ hb; exact hkd.ne _ K' hk e
            have hidS:(st.o id).isSome=true:=by rw [hid]; rfl
            let Xc:Nat→Prop:=fun b=>M b∧¬B b
            have hfoc:∀ (q:C) (v:Value),RepC w M σ st.o q v→(∀ q1,q1∈[q].filterMap C.sub?→q1=(id,i,c,m))→RepC w M (sigK Lk) (Zj [ob0]) (C.foc dp q) v:=by
              intro q v hq hall2
              have h1:=hq.one
              cases q with
              | u u=>exact hq
              | sub i1 a1 b1 n1=>
                have:=hall2 (i1,a1,b1,n1) (by simp [C.sub?])
                simp only[Prod.mk.injEq] at this
                obtain ⟨rfl,rfl,rfl,rfl⟩:=this
                exact k4 σ st.o i1 v hq hL
              | own=>exact h1
              | ptr=>exact h1
              | bad=>exact h1
              | down=>exact h1
            have hsubs:∀ t,t∈ts→∀ q,q∈t.cells→∀ q1,q1∈[q].filterMap C.sub?→q1=(id,i,c,m):=by
              intro t ht q hq q1 h1
              have h2:q.sub?=some q1:=by
                obtain ⟨q',hq',e⟩:=List.mem_filterMap.1 h1
                simp at hq'; subst hq'; exact e
              have:q1∈ts.flatMap fun v=>v.cells.filterMap C.sub?:=List.mem_flatMap.2 ⟨t,ht,List.mem_filterMap.2 ⟨q,hq,h2⟩⟩
              rw [hsub] at this
              simpa using this
            have hIn:In w Xc (sigK Lk) M (ts.map (T.mapC (C.foc dp))) [ob0] (cl.args.map a.eval):=by
              refine ⟨by simp [←hl1],fun j x hj=>?_,fun i' x hx=>?_,fun i1 i2 L1 L2 b h1 h2 hl1 hl2 _ _=>?_,fun b hb=>?_,fun i1 L1 b h1 hl hb hX=>?_,fun b hb=>⟨hb.1,h.ltM hb.1⟩,fun i1 x L1 h1 hd1 hl=>?_,fun j hj=>?_⟩
              · rw [List.getElem?_map] at hj
                obtain ⟨t,ht,rfl⟩:=Option.map_eq_some_iff.1 hj
                obtain ⟨v,hv,hrep⟩:=hr1 j t ht
                refine ⟨v,by rw [←hv,←Array.getElem?_toList]; simp,?_⟩
                have htm:=List.mem_of_getElem? ht
                cases t with
                | sc q=>exact hfoc q v hrep (hsubs _ htm q (by simp [T.cells]))
                | ag qs=>
                  obtain ⟨vs,rfl,hvs,hcs⟩:=hrep
                  refine ⟨vs,rfl,by rw [List.length_map]; exact hvs,fun j' q hj'=>?_⟩
                  rw [List.getElem?_map] at hj'
                  obtain ⟨q0,hq0,rfl⟩:=Option.map_eq_some_iff.1 hj'
                  obtain ⟨v',hv',hr'⟩:=hcs j' q0 hq0
                  exact ⟨v',hv',hfoc q0 v' hr' (hsubs _ htm q0 (List.mem_of_getElem? hq0))⟩
              · cases i' with
                | loc=>cases hx
                | par j=>
                  cases j with
                  | zero=>
                    have:ob0=x:=by simpa [Zj] using hx
                    subst this; exact k2
                  | succ j=>simp [Zj] at hx
              · have key:∀ i',(Zj [ob0] i').isSome=true→i'=.par 0:=by
                  intro i' hi'
                  cases i' with
                  | loc=>cases hi'
                  | par j=>cases j with
                    | zero=>rfl
                    | succ j=>simp [Zj] at hi'
                rw [key i1 h1,key i2 h2]
              · by_cases e:B b
                · obtain ⟨l,hl,hb2⟩:=e
                  exact .inr ⟨.par 0,l,rfl,by rw [ZaA]; exact hl,hb2⟩
                · exact .inl ⟨hb,e⟩
              · have:i1=.par 0:=by
                  cases i1 with
                  | loc=>cases h1
                  | par j=>cases j with
                    | zero=>rfl
                    | succ j=>simp [Zj] at h1
                subst this
                rw [ZaA] at hl
                exact hX.2 ⟨L1,hl,hb⟩
              · have:i1=.par 0∧x=ob0:=by
                  cases i1 with
                  | loc=>cases h1
                  | par j=>cases j with
                    | zero=>exact ⟨rfl,by simpa [Zj] using h1.symm⟩
                    | succ j=>simp [Zj] at h1
                obtain ⟨rfl,rfl⟩:=this
                rw [ZaA] at hl
                exact k3 L1 hl hd1
              · cases j with
                | zero=>simp at hj
                | succ j=>simp [sigK]
            intro next Q hnext
            unfold Oper.wp
            rw [hexec]
            refine Calls.mono (hE f _ [ob0] r hr w Xc (sigK Lk) M _ hIn) ?_
            rintro e w' ⟨σn,N,Mo,ys,rfl,hOut⟩
            have hN:∀ b,¬N b:=fun b hb=>by obtain ⟨j,L1,hj,_⟩:=(hOut.new_ b).1 hb; rw [hnew] at hj; simp at hj
            obtain ⟨ob',hob'⟩:∃ ob',r.out=[ob']:=by
              have:=hOut.outl
              match r.out,this,hx' with
              | [q],_,_=>exact ⟨q,rfl⟩
            have hoo:=(hOut.oobj 0 ob' (by rw [hob']; rfl)).2
            rw [hob'] at hx'
            have hO':=k5 w' Mo _ ob' x' hoo hx'
            have hsameB:∀ b,b<w.heap.size→¬B b→w'.heap[b]?=w.heap[b]?:=fun b hb hnb=>hOut.same b hb (fun j L1 hL1 hb1=>by
              cases j with
              | zero=>rw [ZaA] at hL1; exact hnb ⟨L1,hL1,hb1⟩
              | succ j=>simp [sigK] at hL1)
            have hkeepg:w'.heap[L.g]?=w.heap[L.g]?:=hsameB _ (Array.getElem?_eq_some_iff.1 hh).1 hBg
            obtain ⟨hsl,hsg⟩:=Zfk (c:=c) (x':=x') hrow
            have hR := h.kidWritten (rows':=Zam rows i c x') hid (by rw [hsl]; exact Nat.le_refl _) (B:=B) (fun b hb=>⟨L,hL,hBL b hb⟩) hOut.size hsameB hOut.os hOut.tape hOut.output (by
              have hcl:c<row.length:=(List.getElem?_eq_some_iff.1 hcell).1
              refine .inr ⟨L,cur,hL,hz,hmM,hkeepg.trans hh,hs,by rw [hsl]; exact hcap,hcm,h0,fun r1 hr1=>?_,fun i' j' r1 q hi' hj'=>?_,by rw [hsl]; exact hkd⟩
              · obtain ⟨i',hi'⟩:=List.mem_iff_getElem?.1 hr1
                rcases hsg i' r1 hi' with ⟨rfl,rfl⟩|⟨_,hr2⟩
                · rw [List.length_set]; exact hall row (List.mem_of_getElem? hrow)
                · exact hall r1 (List.mem_of_getElem? hr2)
              · have hother:∀ {q:U} {v:Value},¬(i'=i∧j'=c)→Own w (fun p=>L.kid ((i',j')::p)) q v→Own w' (fun p=>L.kid ((i',j')::p)) q v:=by
                  intro q v hne hOq
                  refine hOq.keep (fun p K hp=>hsameB _ (hOq.block p K hp) (fun hb=>?_))
                  obtain ⟨q2,K2,hk2,e2⟩:=hB _ hb
                  have:=hkd.inj _ _ K2 K hk2 hp e2
                  simp only[List.cons.injEq,Prod.mk.injEq] at this
                  exact hne ⟨this.1.1.symm,this.1.2.symm⟩
                rcases hsg i' r1 hi' with ⟨rfl,rfl⟩|⟨hne,hr2⟩
                · by_cases e:j'=c
                  · subst e
                    rw [List.getElem?_set_self hcl] at hj'
                    cases hj'
                    exact ⟨y,hy,hO'⟩
                  · rw [List.getElem?_set_ne (fun h=>e h.symm)] at hj'
                    obtain ⟨v,hv,hOv⟩:=hc i' j' row q hrow hj'
                    exact ⟨v,hv,hother (fun h=>e h.2) hOv⟩
                · obtain ⟨v,hv,hOv⟩:=hc i' j' r1 q hr2 hj'
                  exact ⟨v,hv,hother (fun h=>hne h.1) hOv⟩)
            have hres:RepD w' M σ (st.obj id (some (.deep z (Zam rows i c x')))).o (retD r.res) (retV ys):=by
              refine Ze0 hOut.len (fun j q hj=>?_)
              obtain ⟨v,hv,hrep⟩:=hOut.res j q hj
              refine ⟨v,hv,?_⟩
              rw [hnew] at hrep
              simp only[Ret.quiet,Bool.and_eq_true,List.all_eq_true,Bool.not_eq_true'] at hquiet
              have hqq:=hquiet.2 q (List.mem_of_getElem? hj)
              have:=Zfh (f:=fun _=>none) (M2:=M) (σ':=σ) (ob:=(st.obj id (some (.deep z (Zam rows i c x')))).o) hqq hrep
              have he:∀ (q:C) (v:Value),RepC w' Mo σn (Zj []) q v→q.isSl=false→RepC w' M σ (st.obj id (some (.deep z (Zam rows i c x')))).o q v:=by
                intro q v hq hqs
                cases q with
                | u u=>exact Zbp (by simpa [C.isSl] using hqs) hq
                | bad=>exact hq
                | own i1 n1=>obtain ⟨_,_,ho1,_⟩:=hq; cases i1<;>simp [Zj] at ho1
                | ptr i1 p1 o1=>obtain ⟨_,ho1,_⟩:=hq; cases i1<;>simp [Zj] at ho1
                | down i1 n1=>obtain ⟨_,_,ho1,_⟩:=hq; cases i1<;>simp [Zj] at ho1
                | sub i1 p1 q1 n1=>obtain ⟨_,_,_,ho1,_⟩:=hq; cases i1<;>simp [Zj] at ho1
              cases q with
              | sc q=>exact he q v hrep (hqq q (by simp [T.cells]))
              | ag qs=>
                obtain ⟨vs,rfl,hvs,hcs⟩:=hrep
                refine ⟨vs,rfl,hvs,fun j' q hj'=>?_⟩
                obtain ⟨v',hv',hr'⟩:=hcs j' q hj'
                exact ⟨v',hv',he q v' hr' (hqq q (List.mem_of_getElem? hj'))⟩
            exact hnext σ M w' _ (hR.putAny hn hd hres)
        · cases hok
      · cases hs
    · cases hs
  · cases hs
theorem Zcw:∀ (ids:List Id) (st:St) (i:Id),i∉ids→(st.o i).isSome=true→((st.killAll ids).o i).isSome=true
 | [],st,i,_,h=>h
 | id::ids,st,i,hn,h=>by
  simp only[List.mem_cons,not_or] at hn
  refine Zcw ids (st.kill id) i hn.2 ?_
  simpa [St.kill,St.mapC,St.obj,hn.1] using h
/-- A call that takes the objects that it is handed. -/
theorem Zgr (hE:Zad P E) (h:Rel base σ0 X w0 σ M w a st) (hn:a.tmps.size=n) {d f:Nat} {xs:List Arg} (hok:okOp P n o (.callc d f xs)=true) (hs:step E st (.callc d f xs)=some st'):Does base σ0 X w0 P o a w st':=by
 simp only[okOp,Bool.and_eq_true] at hok
 obtain ⟨hd,hok⟩:=hok
 simp only[step,Option.bind_eq_some_iff] at hs
 obtain ⟨ts,hts,ins,hins,hs⟩:=hs
 split at hs
 ·rename_i hdata
  simp only[Option.bind_eq_some_iff] at hs
  obtain ⟨r,hr,hs⟩:=hs
  split at hs
  ·rename_i hout
   have hrout:r.out=[]:=by simpa using hout
   cases hs
   split at hok
   ·rename_i c ho
    obtain ⟨hxs,hexec⟩:=ZbU (P:=P) (a:=a) (w:=w) ho hok
    obtain ⟨hl1,hr1⟩:=Zbo h hn xs c.args.toList ts hxs hts
    have hnd:=ZaO _ (ts.flatMap T.ids) (Nat.le_refl _)
    generalize (ts.flatMap T.ids).eraseDups=ids at *
    obtain ⟨hl2,hget⟩:=Zr hins
    have hlive:∀ id,id∈ids→(st.o id).isSome=true:=by
     intro id hid
     obtain ⟨j,hj⟩:=List.mem_iff_getElem?.1 hid
     obtain ⟨x,_,h2⟩:=hget j id hj
     rw [h2]; rfl
    have hIn:In w (outX M σ ids) (posS σ ids) M (ts.map (T.mapC (C.ren (Zat ids)))) ins (c.args.map a.eval):=Zft h hnd hins hdata (by simp [←hl1]) (fun j t ht=>by
     obtain ⟨v,hv,hrep⟩:=hr1 j t ht
     exact ⟨v,by rw [←hv,←Array.getElem?_toList]; simp,hrep⟩)
    intro next Q hnext
    unfold Oper.wp
    rw [hexec]
    refine Calls.mono (hE f _ ins r hr w (outX M σ ids) (posS σ ids) M _ hIn) ?_
    rintro e w' ⟨σn,N,Mo,ys,rfl,hOut⟩
    have hMo:∀ b,outX M σ ids b∨N b→Mo b:=fun b hb=>(hOut.all_ b).2 (hb.elim .inl (fun h=>.inr (.inl h)))
    have hsame:∀ b,b<w.heap.size→(∀ id,id∈ids→∀ L,σ id=some L→¬L.has b)→w'.heap[b]?=w.heap[b]?:=fun b hb hx=>hOut.same b hb (fun j L hL=>by
     obtain ⟨id,hid,h1⟩:=ZeV hL
     exact hx id hid L h1)
    have hnew:∀ b,N b→(w.heap.size≤b∨∃ id,id∈ids∧∃ L,σ id=some L∧L.has b)∧b<w'.heap.size:=by
     intro b hb
     refine ⟨(hOut.high b hb).1.imp (fun h=>h) (fun ⟨_,j,L,hL,hb⟩=>?_),(hOut.high b hb).2⟩
     obtain ⟨id,hid,h1⟩:=ZeV hL
     exact ⟨id,hid,L,h1,hb⟩
    have hM2:∀ b,b<w.heap.size→outX M σ ids b∨N b→M b:=by
     rintro b hlt (hb|hb)
     ·exact hb.1
     ·rcases (hnew b hb).1 with h1|⟨id,hid,L,hL,hLb⟩
      ·omega
      ·exact h.inMb (hlive id hid) hL hLb
    have k:Zaa w w' M (fun b=>outX M σ ids b∨N b):=⟨hOut.size,fun b hb hm=>hsame b hb (fun id hid L hL e=>hm (h.inMb (hlive id hid) hL e)),hM2⟩
    obtain ⟨X1,h1,_,_⟩:=h.reserveAll ids
    have hnot:∀ i,((st.killAll ids).o i).isSome=true→i∉ids∧(st.o i).isSome=true:=fun i hi=>ZcN ids st i hi
    have hfree:∀ i L b,((st.killAll ids).o i).isSome=true→σ i=some L→L.has b→∀ id,id∈ids→∀ L',σ id=some L'→¬L'.has b:=by
     intro i L b hi hL hb id hid L' hL' hb'
     obtain ⟨g1,g2⟩:=hnot i hi
     exact g1 (h.inj id i L' L b (hlive id hid) g2 hL' hL hb' hb▸hid)
    have hC:Rel base σ0 (fun b=>X b∨N b) w0 σ (fun b=>outX M σ ids b∨N b) w' a (st.killAll ids):=by
     refine ⟨fun t hlt=>(h1.slot t hlt).keep k (Refs.refl ..),fun i x hx=>?_,h1.inj,fun b hb=>?_,fun i L b hi hL hb=>?_,h.par,fun b hb=>?_,hOut.os.trans h.os,hOut.tape.trans h.tape,hOut.output.trans h.output,Nat.le_trans h.size hOut.size,fun b hb hp=>?_,h1.lone⟩
     ·have hi:((st.killAll ids).o i).isSome=true:=by rw [hx]; rfl
      refine (h1.obj i x hx).keep k (Refs.refl ..) hx (fun e=>e) (fun L b hL hb=>?_)
      have hML:=h1.inMb hi hL hb
      exact ⟨hsame b (h.ltM hML) (hfree i L b hi hL hb),.inl ⟨hML,hfree i L b hi hL hb⟩⟩
     ·rcases hb with hb|hb
      ·rcases h.live b hb.1 with hX|⟨i,L,hi,hL,e⟩
       ·exact .inl (.inl hX)
       ·exact .inr ⟨i,L,Zcw ids st i (fun hm=>hb.2 i hm L hL e) hi,hL,e⟩
      ·exact .inl (.inr hb)
     ·obtain ⟨g1,g2⟩:=hnot i hi
      obtain ⟨m1,m2⟩:=h.mine i L b g2 hL hb
      refine ⟨fun hx=>hx.elim m1 (fun hx=>?_),m2⟩
      rcases (hnew b hx).1 with h3|⟨id,hid,L',hL',hb'⟩
      ·have:=h.ltM (h.inMb g2 hL hb); omega
      ·exact hfree i L b hi hL hb id hid L' hL' hb'
     ·rcases hb with hX|hN
      ·exact ⟨.inl ⟨(h.sup b hX).1,fun id hid L hL e=>(h.mine id L b (hlive id hid) hL e).1 hX⟩,Nat.lt_of_lt_of_le (h.sup b hX).2 hOut.size⟩
      ·exact ⟨.inr hN,(hnew b hN).2⟩
     ·refine (hsame b (Nat.lt_of_lt_of_le hb h.size) (fun id hid L hL e=>?_)).trans (h.same b hb hp)
      rcases (h.mine id L b (hlive id hid) hL e).2 with h3|⟨j,L0,h3,h4⟩
      ·omega
      ·exact hp j L0 h3 h4
    obtain ⟨σ',M',hF⟩:=ZbZ hC hn hd hOut (fun b hb=>by
     rcases (hnew b hb).1 with h3|⟨id,hid,L,hL,hLb⟩
     ·exact ⟨fun hx=>by have:=(h.sup b hx).2; omega,.inl (Nat.le_trans h.size h3)⟩
     ·exact h.mine id L b (hlive id hid) hL hLb) (.inl hMo)
    exact hnext σ' M' w' _ hF
   ·cases hok
  ·cases hs
 ·cases hs
end Go.Proofs.YtfajcehhcjmofaaV
