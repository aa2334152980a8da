/- Structs compared; every operation. No conditions but those that the lemmas state. -/
import Derived.Test.YtfajcehhcjmofaaV32
namespace Go.Proofs.YtfajcehhcjmofaaV
open Go Go.RowKit
set_option linter.unusedVariables false
set_option linter.unusedSimpArgs false
variable {base:Nat} {σ0:Sig} {X:Nat→Prop} {w0 w w':World} {σ σ':Sig} {M M':Nat→Prop} {a:Act} {st st':St} {P:Program} {n:Nat} {o:Oper} {E:Zb}
variable {ob:Id→Option Obj}
theorem Zh9 (a b:ByteArray):(a.toList==b.toList)=decide (a=b):=by
 by_cases h:a=b
 ·subst h; simp
 ·have:¬a.toList=b.toList:=fun e=>h (by rw [ByteArray.toList_eq,ByteArray.toList_eq] at e; exact Zdj e)
  simp [h,this]
theorem Zhj {t:TypeId} {d:TypeDesc} (hd:P.underlying t=some d) (ha:Zfq d=false) {vs:Array Value} {j:Nat} {v:Value} (hv:vs[j]?=some v):(part t vs j).run P w=.ok v w:=by
 have h2:(isAgg t).run P w=.ok false w:=by
  unfold isAgg
  rw [Sem.run_bind,run_underlying hd w]
  cases d<;>first|rfl|(simp [Zfq] at ha)
 simp only[part,Sem.run_bind,h2,Result.andThen_ok,Bool.false_eq_true,if_false,hv,Sem.run_pure]
/-- Cells from a place on. -/
def Za5 (w:World) (M:Nat→Prop) (σ:Sig) (ob:Id→Option Obj) (j:Nat) (cs:List C) (vs:Array Value):Prop:=∀ (k:Nat) c,cs[k]?=some c→∃ v,vs[j+k]?=some v∧RepC w M σ ob c v
theorem ZbH:∀ (k1 k2:List EK) (cs ds:List C) (b:Bool),Zg (k1++k2) cs ds=some b→∃ q,Zg k1 (cs.take k1.length) (ds.take k1.length)=some q∧(if q=true then Zg k2 (cs.drop k1.length) (ds.drop k1.length) else some false)=some b
 | [],k2,cs,ds,b,h=>⟨true,by simp [Zg],by simpa using h⟩
 | k :: k1,k2,cs,ds,b,h=>by
  rw [List.cons_append] at h
  have go:∀ (c d:C) (cs' ds':List C) (p:Prop) [Decidable p],cs=c::cs'→ds=d::ds'→Zg (k::(k1++k2)) cs ds=(if p then Zg (k1++k2) cs' ds' else some false)→(∀ xs ys,Zg (k::k1) (c::xs) (d::ys)=(if p then Zg k1 xs ys else some false))→∃ q,Zg (k::k1) (cs.take (k::k1).length) (ds.take (k::k1).length)=some q∧(if q=true then Zg k2 (cs.drop (k::k1).length) (ds.drop (k::k1).length) else some false)=some b:=by
   intro c d cs' ds' p _ hc hd h1 h2
   subst hc; subst hd
   rw [h1] at h
   simp only[List.length_cons,List.take_succ_cons,List.drop_succ_cons]
   rw [h2]
   by_cases hp:p
   ·rw [if_pos hp] at h ⊢
    exact ZbH k1 k2 cs' ds' b h
   ·rw [if_neg hp] at h ⊢
    exact ⟨false,rfl,by simpa using h⟩
  unfold Zg at h
  split at h
  ·rename_i heq; simp at heq
  ·rename_i ks' kk m cs' kk' m' ds' heq
   cases heq
   split at h
   ·rename_i hk
    subst hk
    exact go _ _ _ _ (m=m') rfl rfl (by simp only[Zg,if_true]) (fun xs ys=>by simp only[Zg,if_true])
   ·cases h
  ·rename_i ks' m cs' m' ds' heq
   cases heq
   exact go _ _ _ _ (m=m') rfl rfl (by simp only[Zg]) (fun xs ys=>by simp only[Zg])
  ·rename_i ks' m cs' m' ds' heq
   cases heq
   exact go _ _ _ _ (m=m') rfl rfl (by simp only[Zg]) (fun xs ys=>by simp only[Zg])
  ·cases h
/-- How values of a type are compared. -/
def Zf7 (P:Program) (w:World) (M:Nat→Prop) (σ:Sig) (ob:Id→Option Obj) (e:Nat) (t:TypeId) (ks:List EK):Prop:=
 ((isAgg t).run P w=.ok true w∧∀ (vs us:Array Value) (cs ds:List C) (b:Bool),Za5 w M σ ob 0 cs vs→Za5 w M σ ob 0 ds us→Zg ks cs ds=some b→(Op.equalIn e t (.agg vs) (.agg us)).run P w=.ok b w)∨
 ((isAgg t).run P w=.ok false w∧(∃ k,ks=[k])∧∀ (c d:C) (u v:Value) (b:Bool),RepC w M σ ob c u→RepC w M σ ob d v→Zg ks [c] [d]=some b→(Op.equalIn e t u v).run P w=.ok b w)
theorem ZgB {k:EK} {cs ds:List C} {q:Bool} (h:Zg [k] (cs.take 1) (ds.take 1)=some q):∃ c cs' d ds',cs=c::cs'∧ds=d::ds'∧Zg [k] [c] [d]=some q:=by
 cases cs with
 | nil=>cases k<;>simp [Zg] at h
 | cons c cs=>
  cases ds with
  | nil=>cases k<;>cases c<;>simp [Zg] at h
  | cons d ds=>exact ⟨c,cs,d,ds,rfl,rfl,by simpa using h⟩
theorem ZcT {g:TypeId→Option (List EK)} {e:Nat} (hg:∀ t ks,g t=some ks→Zf7 P w M σ ob e t ks) {xs ys:Array Value}:∀ (fs:List Field) (j:Nat) (ks:List EK) (cs ds:List C) (b:Bool),Zcs P g j fs=some ks→Za5 w M σ ob j cs xs→Za5 w M σ ob j ds ys→Zg ks cs ds=some b→(Op.eqFields e xs ys fs).run P w=.ok b w
 | [],j,ks,cs,ds,b,hf,_,_,he=>by
  simp only[Zcs,Option.some.injEq] at hf
  subst hf
  unfold Zg at he
  split at he
  ·cases he; rfl
  ·rename_i heq _ _; cases heq
  ·rename_i heq _ _; cases heq
  ·rename_i heq _ _; cases heq
  ·cases he
 | f :: fs,j,ks,cs,ds,b,hf,hx,hy,he=>by
  simp only[Zcs] at hf
  split at hf
  ·rename_i hoff
   obtain ⟨hoff,hname⟩:=hoff
   simp only[Option.bind_eq_some_iff] at hf
   obtain ⟨k1,hk1,hf⟩:=hf
   split at hf
   ·rename_i hsz
    simp only[Option.map_eq_some_iff] at hf
    obtain ⟨k2,hk2,rfl⟩:=hf
    obtain ⟨q,hq1,hq2⟩:=ZbH k1 k2 cs ds b he
    have hsz':=Za4 (w:=w) hsz
    have hdrop:∀ {zs:Array Value} {es:List C},Za5 w M σ ob j es zs→Za5 w M σ ob (j+k1.length) (es.drop k1.length) zs:=by
     intro zs es hz k c hk
     rw [List.getElem?_drop] at hk
     obtain ⟨v,h1,h2⟩:=hz _ c hk
     exact ⟨v,by rw [show j+k1.length+k=j + (k1.length+k) by omega]; exact h1,h2⟩
    have fin:∀ (u v:Value),(part f.type xs f.offset).run P w=.ok u w→(part f.type ys f.offset).run P w=.ok v w→(Op.equalIn e f.type u v).run P w=.ok q w→(Op.eqFields e xs ys (f::fs)).run P w=.ok b w:=by
     intro u v h1 h2 h3
     simp only[Op.eqFields,ne_eq,hname,not_false_eq_true,if_true,Sem.run_bind,h1,h2,h3,Result.andThen_ok,Sem.run_ite]
     cases q
     ·simp only[Bool.false_eq_true,if_false,Option.some.injEq] at hq2
      subst hq2; rfl
     ·simp only[if_true] at hq2
      simp only[Bool.not_true,Bool.false_eq_true,if_false]
      exact ZcT hg fs (j+k1.length) k2 _ _ b hk2 (hdrop hx) (hdrop hy) hq2
    rcases hg f.type k1 hk1 with ⟨ha,hr⟩|⟨ha,⟨k,hk⟩,hr⟩
    ·have hp:∀ zs:Array Value,(part f.type zs f.offset).run P w=.ok (.agg (zs.extract f.offset (f.offset+k1.length))) w:=by
      intro zs
      simp only[part,Sem.run_bind,ha,Result.andThen_ok,if_true,hsz',Sem.run_pure]
     have hsub:∀ {zs:Array Value} {es:List C},Za5 w M σ ob j es zs→Za5 w M σ ob 0 (es.take k1.length) (zs.extract f.offset (f.offset+k1.length)):=by
      intro zs es hz k c hk
      have hlt:k<k1.length:=by
       have:=(List.getElem?_eq_some_iff.1 hk).1
       simp at this; omega
      rw [List.getElem?_take_of_lt hlt] at hk
      obtain ⟨v,h1,h2⟩:=hz k c hk
      refine ⟨v,?_,h2⟩
      have hb:=(Array.getElem?_eq_some_iff.1 h1).1
      rw [Nat.zero_add,Array.getElem?_extract,hoff,if_pos (by omega)]
      exact h1
     exact fin _ _ (hp xs) (hp ys) (hr _ _ _ _ q (hsub hx) (hsub hy) hq1)
    ·subst hk
     obtain ⟨c,cs',d,ds',rfl,rfl,h1⟩:=ZgB hq1
     obtain ⟨u,hu,hru⟩:=hx 0 c rfl
     obtain ⟨v,hv,hrv⟩:=hy 0 d rfl
     have hp:∀ (zs:Array Value) (z:Value),zs[j+0]?=some z→(part f.type zs f.offset).run P w=.ok z w:=by
      intro zs z hz
      rw [Nat.add_zero] at hz
      simp only[part,Sem.run_bind,ha,Result.andThen_ok,Bool.false_eq_true,if_false,hoff,hz,Sem.run_pure]
     exact fin _ _ (hp xs u hu) (hp ys v hv) (hr c d u v q hru hrv h1)
   ·cases hf
  ·cases hf
theorem Zc0:∀ (d e:Nat) (t:TypeId) (ks:List EK),d≤e→Zcy P d t=some ks→Zf7 P w M σ ob e t ks
 | 0,_,_,_,_,h=>by simp [Zcy] at h
 | d+1,0,_,_,hle,_=>by omega
 | d + 1,e+1,t,ks,hle,h=>by
  simp only[Zcy] at h
  have hagg:∀ {q:TypeDesc},P.underlying t=some q→(isAgg t).run P w=.ok (Zfq q) w:=by
   intro q hq
   unfold isAgg
   rw [Sem.run_bind,run_underlying hq w]
   cases q<;>rfl
  split at h
  ·rename_i kq hq
   cases h
   refine .inr ⟨hagg hq,⟨_,rfl⟩,fun c d u v b hu hv he=>?_⟩
   unfold Zg at he
   split at he
   ·rename_i heq _ _; cases heq
   ·rename_i heq1 heq2 heq3
    cases heq1; cases heq2; cases heq3
    rw [RepU.int_inv hu,RepU.int_inv hv]
    split at he
    ·rename_i hk
     subst hk
     rw [run_equalIn_int w e t _ kq _ _ hq]
     simp only[Zg] at he
     split at he<;>cases he<;>simp [*]
    ·cases he
   ·rename_i heq1 _ _; cases heq1
   ·rename_i heq1 _ _; cases heq1
   ·cases he
  ·rename_i hq
   cases h
   refine .inr ⟨hagg hq,⟨_,rfl⟩,fun c d u v b hu hv he=>?_⟩
   unfold Zg at he
   split at he
   ·rename_i heq _ _; cases heq
   ·rename_i heq1 _ _; cases heq1
   ·rename_i heq1 heq2 heq3
    cases heq1; cases heq2; cases heq3
    rw [RepU.bool_inv hu,RepU.bool_inv hv,run_equalIn_bool' w e t _ _ hq]
    simp only[Zg] at he
    split at he<;>cases he<;>simp [*]
   ·rename_i heq1 _ _; cases heq1
   ·cases he
  ·rename_i hq
   cases h
   refine .inr ⟨hagg hq,⟨_,rfl⟩,fun c d u v b hu hv he=>?_⟩
   unfold Zg at he
   split at he
   ·rename_i heq _ _; cases heq
   ·rename_i heq1 _ _; cases heq1
   ·rename_i heq1 _ _; cases heq1
   ·rename_i heq1 heq2 heq3
    cases heq1; cases heq2; cases heq3
    rw [RepU.str_inv hu,RepU.str_inv hv,run_equalIn_string w e t _ _ hq,ZcJ,ZcJ]
    simp only[Zg] at he
    split at he<;>cases he<;>simp [*]
   ·cases he
  ·rename_i fs hq
   split at h
   ·cases h
   ·rename_i hst
    refine .inl ⟨hagg hq,fun vs us cs ds b hx hy he=>?_⟩
    have hfo:P.fieldsOf t=fs:=by simp [Program.fieldsOf,hq]
    have heq:=run_equalIn_struct (P:=P) w e t vs us (by rw [hfo]; exact hq) (by simpa using hst)
    rw [heq,hfo]
    exact ZcT (fun t' ks' hk=>Zc0 d e t' ks' (by omega) hk) fs.toList 0 ks cs ds b h hx hy he
  ·cases h
theorem ZhJ (h:Rel base σ0 X w0 σ M w a st) (hn:a.tmps.size=n) {d:Nat} {ks:List EK} {ne:Bool} {x y:Arg} (hok:okOp P n o (.eqs d ks ne x y)=true) (hs:step E st (.eqs d ks ne x y)=some st'):Goes base σ0 X w0 P o a w st':=by
 simp only[okOp,Bool.and_eq_true] at hok
 obtain ⟨hd,hok⟩:=hok
 split at hok
 ·rename_i b' t x' y' ty ho
  simp only[Bool.and_eq_true,decide_eq_true_eq,Bool.not_eq_true'] at hok
  obtain ⟨⟨⟨⟨rfl,hx⟩,hy⟩,hg⟩,hfs⟩:=hok
  split at hfs
  ·rename_i fs hu
   simp only[decide_eq_true_eq] at hfs
   simp only[step] at hs
   split at hs
   ·rename_i cs ds hm1 hm2
    simp only[Option.map_eq_some_iff] at hs
    obtain ⟨b,hb,rfl⟩:=hs
    have hr1:=Zf h hn hx
    rw [hm1] at hr1
    have hr2:=Zf h hn hy
    rw [hm2] at hr2
    obtain ⟨us,hv1,hs1,hc1⟩:=hr1
    obtain ⟨vs,hv2,hs2,hc2⟩:=hr2
    have hag:(isAgg t).run P w=.ok true w:=by
     unfold isAgg
     rw [Sem.run_bind,run_underlying hu w]
     rfl
    have heq':(Op.equal t (.agg us) (.agg vs)).run P w=.ok b w:=by
     rcases Zc0 (P:=P) (w:=w) (M:=M) (σ:=σ) (ob:=st.o) 9 10000 t ks (by omega) hfs with ⟨_,hr⟩|⟨ha,_⟩
     ·exact hr us vs cs ds b (fun k c hk=>by rw [Nat.zero_add]; exact hc1 k c hk) (fun k c hk=>by rw [Nat.zero_add]; exact hc2 k c hk) hb
     ·rw [hag] at ha; cases ha
    have hgd:=fun op=>run_eqGuard_agg (P:=P) w op t x' y' us vs hg
    refine Goes.val (v:=.bool (if ne then !b else b)) h hn hd ?_ (RepU.bool _)
    cases ne<;>simp only[execOp,ho,hv1,hv2,Sem.run_bind,if_true,if_false,Bool.false_eq_true,hgd,binOp,Sem.run_pure,Result.andThen_ok,heq']<;>rfl
   ·cases hs
  ·cases hfs
 ·cases hok
theorem ZfH (hE:Zad P E) (h:Rel base σ0 X w0 σ M w a st) (hn:a.tmps.size=n) {i:IOp} (hok:okOp P n o i=true) (hs:step E st i=some st'):Does base σ0 X w0 P o a w st':=by
 cases i with
 | mv=>exact (Zhg h hn hok hs).does
 | pick=>exact (Zg6 h hn hok hs).does
 | alloc=>exact (Zgp h hn hok hs).does
 | box=>exact (ZhH h hn hok hs).does
 | build=>exact (Zgq h hn hok hs).does
 | lit=>exact (ZhO h hn hok hs).does
 | ld=>exact (Zjg h hn hok hs).does
 | st=>exact (Zhh h hn hok hs).does
 | fa=>exact (Zjd h hn hok hs).does
 | ia=>exact (Zje h hn hok hs).does
 | ix=>exact (Zjf h hn hok hs).does
 | bin=>exact (ZhG h hn hok hs).does
 | eqs=>exact (ZhJ h hn hok hs).does
 | beq=>exact (ZhF h hn hok hs).does
 | isn=>exact (ZhM h hn hok hs).does
 | not=>exact (ZhS h hn hok hs).does
 | neg=>exact (ZhR h hn hok hs).does
 | conv=>exact (ZgZ h hn hok hs).does
 | cstr=>exact (Zg0 h hn hok hs).does
 | bstr=>exact (ZgX h hn hok hs).does
 | len=>exact (ZhN h hn hok hs).does
 | slen=>exact (Zg7 h hn hok hs).does
 | mnmx=>exact (Zg3 h hn hok hs).does
 | slc=>exact (ZhT h hn hok hs).does
 | ssl=>exact (ZhV h hn hok hs).does
 | nilr=>exact (Zg5 h hn hok hs).does
 | mkd=>exact (ZhP h hn hok hs).does
 | litd=>exact (Zg2 h hn hok hs).does
 | appd=>exact (ZgW h hn hok hs).does
 | std=>exact (ZhX h hn hok hs).does
 | mkf=>exact (ZhQ h hn hok hs).does
 | callk=>exact Zgs hE h hn hok hs
 | mk=>exact (Zjh h hn hok hs).does
 | app=>exact (ZhE h hn hok hs).does
 | ext=>exact (ZhK h hn hok hs).does
 | fld=>exact (ZhL h hn hok hs).does
 | nilc=>exact (Zg4 h hn hok hs).does
 | call=>exact ZgY hE h hn hok hs
 | callr=>exact Zgt hE h hn hok hs
 | callc=>exact Zgr hE h hn hok hs
 | callv=>exact Zgu hE h hn hok hs
 | slp=>exact (ZhU h hn hok hs).does
 | junk=>exact (Zg1 h hn hok hs).does
 | emp=>exact (ZhI h hn hok hs).does
 | cl=>exact (Zjc h hn hok hs).does
 | stc=>exact (ZhW h hn hok hs).does
end Go.Proofs.YtfajcehhcjmofaaV
