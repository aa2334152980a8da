/- Operations that touch no memory: what the program's operation does is what the evaluator's does. No conditions but those that the lemmas state. -/
import Derived.Test.YtfajcehhcjmofaaV7
namespace Go.Proofs.YtfajcehhcjmofaaV
open Go Go.RowKit
set_option linter.unusedVariables false
set_option linter.unusedSimpArgs false
variable {base:Nat} {σ0:Sig} {X:Nat→Prop} {w0 w:World} {σ:Sig} {M:Nat→Prop} {a:Act} {st st':St} {P:Program} {n:Nat} {o:Oper} {E:Zb}
variable {os:Id→Option Obj}
theorem Zer {x:D} {u:U} (h:x.u?=some u):x=.t (.sc (.u u)):=by
 unfold D.u? at h
 split at h
 ·cases h; rfl
 ·cases h
theorem Zgb {x:D} {c:C} (h:x.c?=some c):x=.t (.sc c):=by
 unfold D.c? at h
 split at h
 ·cases h; rfl
 ·cases h
theorem Zfl {x:D} {y:T} (h:x.t?=some y):x=.t y:=by
 unfold D.t? at h
 split at h
 ·cases h; rfl
 ·cases h
theorem Zgv {x:D} {k:Int} (h:x.int?=some k):x=DI k:=by
 unfold D.int? at h
 split at h
 ·cases h; rfl
 ·cases h
theorem ZdT {x:D} {b:Bool} (h:x.bool?=some b):x=DB b:=by
 unfold D.bool? at h
 split at h
 ·cases h; rfl
 ·cases h
theorem RepU.int_inv {k:IntKind} {m:Int} {v:Value} (h:RepU w M (.int k m) v):v=.int k m:=by cases h; rfl
theorem RepU.bool_inv {b:Bool} {v:Value} (h:RepU w M (.bool b) v):v=.bool b:=by cases h; rfl
theorem RepU.nil_inv {v:Value} (h:RepU w M .nil v):v=.slice none 0 0:=by cases h; rfl
theorem RepU.sl_inv {sz:Nat} {r:List U} {rs:List (List U)} {v:Value} (h:RepU w M (.sl sz (r::rs)) v):∃ q m c,v=.slice (some q) m c:=by cases h; exact ⟨_,_,_,rfl⟩
theorem ZcJ (s:List UInt8):(⟨s.toArray⟩:ByteArray).toList=s:=by rw [ByteArray.toList_eq]
theorem RepU.str_inv {s:List UInt8} {v:Value} (h:RepU w M (.str s) v):v=.string ⟨s.toArray⟩:=by cases h; rfl
theorem Zb7 (h:Rel base σ0 X w0 σ M w a st) (hn:a.tmps.size=n) {x:Arg} {y:Operand} (hx:Ze n x y=true) {u:U} (hu:(st.get x).u?=some u):RepU w M u (a.eval y):=by
 have:=Zf h hn hx
 rw [Zer hu] at this
 exact this
theorem Zeb (h:Rel base σ0 X w0 σ M w a st) (hn:a.tmps.size=n) {x:Arg} {y:Operand} (hx:Ze n x y=true) {u:C} (hu:(st.get x).c?=some u):RepC w M σ st.o u (a.eval y):=by
 have:=Zf h hn hx
 rw [Zgb hu] at this
 exact this
theorem ZdE (h:Rel base σ0 X w0 σ M w a st) (hn:a.tmps.size=n) {x:Arg} {y:Operand} (hx:Ze n x y=true) {u:T} (hu:(st.get x).t?=some u):RepT w M σ st.o u (a.eval y):=by
 have:=Zf h hn hx
 rw [Zfl hu] at this
 exact this
theorem ZaT (h:Rel base σ0 X w0 σ M w a st) (hn:a.tmps.size=n) {x:Arg} {y:Operand} (hx:Ze n x y=true) {k:Int} (hu:(st.get x).int?=some k):a.eval y=.int .i64 k:=by
 have:=Zf h hn hx
 rw [Zgv hu] at this
 exact RepU.int_inv this
theorem ZbO (h:Rel base σ0 X w0 σ M w a st) (hn:a.tmps.size=n) {x:Arg} {y:Operand} (hx:Ze n x y=true) {b:Bool} (hu:(st.get x).bool?=some b):a.eval y=.bool b:=by
 have:=Zf h hn hx
 rw [ZdT hu] at this
 exact RepU.bool_inv this
theorem Zhg (h:Rel base σ0 X w0 σ M w a st) (hn:a.tmps.size=n) {d:Nat} {x:Arg} (hok:okOp P n o (.mv d x)=true) (hs:step E st (.mv d x)=some st'):Goes base σ0 X w0 P o a w st':=by
 simp only[okOp,Bool.and_eq_true] at hok
 obtain ⟨hd,hok⟩:=hok
 simp only[step,Option.some.injEq] at hs
 subst hs
 split at hok
 ·rename_i y ho
  exact Goes.val h hn hd (by simp only[execOp,ho]; rfl) (Zf h hn hok)
 ·rename_i y ho
  exact Goes.val h hn hd (by simp only[execOp,ho]; rfl) (Zf h hn hok)
 ·cases hok
theorem Zg6 (h:Rel base σ0 X w0 σ M w a st) (hn:a.tmps.size=n) {d:Nat} {c x y:Arg} (hok:okOp P n o (.pick d c x y)=true) (hs:step E st (.pick d c x y)=some st'):Goes base σ0 X w0 P o a w st':=by
 simp only[okOp,Bool.and_eq_true] at hok
 obtain ⟨hd,hok⟩:=hok
 simp only[step,Option.map_eq_some_iff] at hs
 obtain ⟨b,hb,rfl⟩:=hs
 split at hok
 ·rename_i c' x' y' ho
  simp only[Bool.and_eq_true] at hok
  have hc:=ZbO h hn hok.1.1 hb
  refine Goes.val (v:=if b then a.eval x' else a.eval y') h hn hd (by simp only[execOp,ho,hc,asBool,Sem.run_bind,Sem.run_pure,Result.andThen_ok]) ?_
  cases b
  ·exact Zf h hn hok.2
  ·exact Zf h hn hok.1.2
 ·cases hok
theorem ZhS (h:Rel base σ0 X w0 σ M w a st) (hn:a.tmps.size=n) {d:Nat} {x:Arg} (hok:okOp P n o (.not d x)=true) (hs:step E st (.not d x)=some st'):Goes base σ0 X w0 P o a w st':=by
 simp only[okOp,Bool.and_eq_true] at hok
 obtain ⟨hd,hok⟩:=hok
 simp only[step,Option.map_eq_some_iff] at hs
 obtain ⟨b,hb,rfl⟩:=hs
 split at hok
 ·rename_i t y ho
  have hc:=ZbO h hn hok hb
  exact Goes.val (v:=.bool (!b)) h hn hd (by simp only[execOp,ho,hc,Op.unary,Sem.run_bind,Sem.run_pure,Result.andThen_ok]) (RepU.bool _)
 ·cases hok
theorem ZhR (h:Rel base σ0 X w0 σ M w a st) (hn:a.tmps.size=n) {d:Nat} {x:Arg} (hok:okOp P n o (.neg d x)=true) (hs:step E st (.neg d x)=some st'):Goes base σ0 X w0 P o a w st':=by
 simp only[okOp,Bool.and_eq_true] at hok
 obtain ⟨hd,hok⟩:=hok
 simp only[step,Option.map_eq_some_iff] at hs
 obtain ⟨b,hb,rfl⟩:=hs
 split at hok
 ·rename_i t y ho
  have hc:=ZaT h hn hok hb
  exact Goes.val (v:=.int .i64 (IntKind.i64.wrap (0 - b))) h hn hd (by simp only[execOp,ho,hc,Op.unary,Op.intArith,Sem.run_bind,Sem.run_pure,Result.andThen_ok]) (RepU.int ..)
 ·cases hok
theorem ZgZ (h:Rel base σ0 X w0 σ M w a st) (hn:a.tmps.size=n) {d:Nat} {k:IntKind} {x:Arg} (hok:okOp P n o (.conv d k x)=true) (hs:step E st (.conv d k x)=some st'):Goes base σ0 X w0 P o a w st':=by
 simp only[okOp,Bool.and_eq_true] at hok
 obtain ⟨hd,hok⟩:=hok
 simp only[step] at hs
 split at hs
 ·rename_i k0 m hm
  cases hs
  split at hok
  ·rename_i s t y ho
   simp only[Bool.and_eq_true] at hok
   have hc:=RepU.int_inv (Zb7 h hn hok.1.1 hm)
   refine Goes.val (v:=.int k (k.wrap m)) h hn hd ?_ (RepU.int ..)
   obtain ⟨ds,hds⟩:=Option.isSome_iff_exists.1 hok.1.2
   have hcv:(convert s t (.int k0 m)).run P w=.ok (.int k (k.wrap m)) w:=by
    unfold convert
    rw [Sem.run_bind,run_underlying hds,Result.andThen_ok,Sem.run_bind,run_underlying (Zcd hok.2),Result.andThen_ok]
    cases ds<;>rfl
   simp only[execOp,ho,hc,Sem.run_bind,Sem.run_pure,hcv,Result.andThen_ok]
  ·cases hok
 ·cases hs
theorem Zg0 (h:Rel base σ0 X w0 σ M w a st) (hn:a.tmps.size=n) {d:Nat} {x:Arg} (hok:okOp P n o (.cstr d x)=true) (hs:step E st (.cstr d x)=some st'):Goes base σ0 X w0 P o a w st':=by
 simp only[okOp,Bool.and_eq_true] at hok
 obtain ⟨hd,hok⟩:=hok
 simp only[step] at hs
 split at hs
 ·rename_i s hm
  cases hs
  split at hok
  ·rename_i s' t y ho
   simp only[Bool.and_eq_true] at hok
   have hc:=RepU.str_inv (Zb7 h hn hok.1.1 hm)
   refine Goes.val (v:=.string ⟨s.toArray⟩) h hn hd ?_ (RepU.str _)
   simp only[execOp,ho,hc,convert,Sem.run_bind,Sem.run_pure,run_underlying (Zab hok.1.2),run_underlying (Zab hok.2),Result.andThen_ok]
  ·cases hok
 ·cases hs
theorem ZhK (h:Rel base σ0 X w0 σ M w a st) (hn:a.tmps.size=n) {d i:Nat} {x:Arg} (hok:okOp P n o (.ext d x i)=true) (hs:step E st (.ext d x i)=some st'):Goes base σ0 X w0 P o a w st':=by
 simp only[okOp,Bool.and_eq_true] at hok
 obtain ⟨hd,hok⟩:=hok
 simp only[step] at hs
 split at hs
 ·rename_i xs hm
  simp only[Option.map_eq_some_iff] at hs
  obtain ⟨y,hy,rfl⟩:=hs
  split at hok
  ·rename_i z j ho
   simp only[Bool.and_eq_true,beq_iff_eq] at hok
   obtain ⟨hz,rfl⟩:=hok
   have hr:=Zf h hn hz
   rw [hm] at hr
   obtain ⟨vs,hv,hsz,hc⟩:=hr
   obtain ⟨u,hu,hr⟩:=hc i y hy
   refine Goes.val (v:=u) h hn hd ?_ hr
   simp only[execOp,ho,hv,Instr.extract,hu,Sem.run_bind,Sem.run_pure,Result.andThen_ok]
  ·cases hok
 ·cases hs
theorem Zg4 (h:Rel base σ0 X w0 σ M w a st) (hn:a.tmps.size=n) {d:Nat} {x:Arg} (hok:okOp P n o (.nilc d x)=true) (hs:step E st (.nilc d x)=some st'):Goes base σ0 X w0 P o a w st':=by
 simp only[okOp,Bool.and_eq_true] at hok
 obtain ⟨hd,hok⟩:=hok
 split at hok
 ·rename_i y ho
  have hr:=Zf h hn hok
  simp only[step] at hs
  split at hs
  ·rename_i id0 i q hm
   cases hs
   rw [hm] at hr
   obtain ⟨L,h1,h2,hv⟩:=id hr
   exact Goes.val h hn hd (by simp only[execOp,ho,hv]; rfl) ⟨L,h1,h2,rfl⟩
  ·rename_i cs hm
   cases hs
   rw [hm] at hr
   obtain ⟨q,hv,h1,h2⟩:=id hr
   exact Goes.val h hn hd (by simp only[execOp,ho,hv]; rfl) ⟨q,rfl,h1,h2⟩
  ·cases hs
 ·cases hok
theorem Zcp (w:World) (k:Nat) (t e:TypeId) (b:Option Addr) (l c:Nat) (h:P.underlying t=some (.slice e)):(Op.equalIn (k+1) t (.slice none 0 0) (.slice b l c)).run P w=.ok b.isNone w:=by
 cases b<;>simp [Op.equalIn,run_underlying h]
theorem Zcq (w:World) (k:Nat) (t e:TypeId) (b:Option Addr) (l c:Nat) (h:P.underlying t=some (.slice e)):(Op.equalIn (k+1) t (.slice b l c) (.slice none 0 0)).run P w=.ok b.isNone w:=by
 cases b<;>simp [Op.equalIn,run_underlying h]
theorem Zda (w:World) (t e:TypeId) (b:Option Addr) (l c:Nat) (h:P.underlying t=some (.slice e)):(Op.equal t (.slice b l c) (.slice none 0 0)).run P w=.ok b.isNone w:=Zcq w 9999 t e b l c h
theorem Zc9 (w:World) (t e:TypeId) (b:Option Addr) (l c:Nat) (h:P.underlying t=some (.slice e)):(Op.equal t (.slice none 0 0) (.slice b l c)).run P w=.ok b.isNone w:=Zcp w 9999 t e b l c h
theorem ZhM (h:Rel base σ0 X w0 σ M w a st) (hn:a.tmps.size=n) {d:Nat} {ne:Bool} {x:Arg} (hok:okOp P n o (.isn d ne x)=true) (hs:step E st (.isn d ne x)=some st'):Goes base σ0 X w0 P o a w st':=by
 simp only[okOp,Bool.and_eq_true] at hok
 obtain ⟨hd,hok⟩:=hok
 split at hok
 ·rename_i b' t x' y' ty ho
  simp only[Bool.and_eq_true,Bool.or_eq_true,decide_eq_true_eq] at hok
  obtain ⟨⟨rfl,ht⟩,hxy⟩:=hok
  obtain ⟨e,he,_⟩:=Zo ht
  have hnil:∀ z,Ze n (.k .nil) z=true→a.eval z=.slice none 0 0:=fun z hz=>by
   exact RepU.nil_inv (Zf h hn hz)
  -- either the slice is there, or it is none
  have key:∀ (b c m:_) (r:Bool) (v:Value),v=.slice b c m→r=b.isNone→st'=st.put d (DB (if ne then !r else r))→(Ze n x x'=true∧a.eval x'=v∧a.eval y'=.slice none 0 0∨Ze n x y'=true∧a.eval y'=v∧a.eval x'=.slice none 0 0)→Goes base σ0 X w0 P o a w st':=by
   intro b c m r v hv hr hst hw
   subst hst
   refine Goes.val (v:=.bool (if ne then !r else r)) h hn hd ?_ (RepU.bool _)
   have e1:∀ b2 c2 m2,(Op.equal t (.slice b2 c2 m2) (.slice none 0 0)).run P w=.ok b2.isNone w:=fun b2 c2 m2=>Zda w t e b2 c2 m2 he
   have e2:∀ b2 c2 m2,(Op.equal t (.slice none 0 0) (.slice b2 c2 m2)).run P w=.ok b2.isNone w:=fun b2 c2 m2=>Zc9 w t e b2 c2 m2 he
   rcases hw with ⟨_,h1,h2⟩|⟨_,h1,h2⟩<;>subst hv hr<;>cases ne<;>
    simp only[execOp,ho,h1,h2,Sem.run_bind,if_true,if_false,Bool.false_eq_true,eqGuard,binOp,Sem.run_pure,Result.andThen_ok,e1,e2,Bool.not_true,Sem.run_ite]<;>rfl
  have both:∀ (K:Value→Prop),(∀ z,Ze n x z=true→K (a.eval z))→∃ v,K v∧(Ze n x x'=true∧a.eval x'=v∧a.eval y'=.slice none 0 0∨Ze n x y'=true∧a.eval y'=v∧a.eval x'=.slice none 0 0):=by
   intro K hK
   rcases hxy with ⟨h1,h2⟩|⟨h1,h2⟩
   ·exact ⟨_,hK _ h1,.inl ⟨h1,rfl,hnil _ h2⟩⟩
   ·exact ⟨_,hK _ h2,.inr ⟨h2,rfl,hnil _ h1⟩⟩
  simp only[step] at hs
  split at hs
  ·rename_i z r rs hm
   cases hs
   obtain ⟨v,hv,hw⟩:=both (fun v=>∃ q m c,v=.slice (some q) m c) (fun z hz=>by
    have hr:=Zf h hn hz
    rw [hm] at hr
    exact RepU.sl_inv hr)
   obtain ⟨q,m,c,rfl⟩:=hv
   exact key (some q) m c false _ rfl rfl (by cases ne<;>rfl) hw
  ·rename_i hm
   cases hs
   obtain ⟨v,hv,hw⟩:=both (fun v=>v=.slice none 0 0) (fun z hz=>by
    have hr:=Zf h hn hz
    rw [hm] at hr
    exact RepU.nil_inv hr)
   exact key none 0 0 true _ hv rfl (by cases ne<;>rfl) hw
  ·rename_i i m hm
   cases hs
   obtain ⟨v,hv,hw⟩:=both (fun v=>∃ q m c,v=.slice (some q) m c) (fun z hz=>by
    have hr:=Zf h hn hz
    rw [hm] at hr
    obtain ⟨sz,rows,_,_,h3⟩:=id hr
    rcases h3 with ⟨h3,_⟩|⟨L,_,h3⟩
    ·cases h3
    ·exact ⟨_,_,_,h3⟩)
   obtain ⟨q,m,c,rfl⟩:=hv
   exact key (some q) m c false _ rfl rfl (by cases ne<;>rfl) hw
  ·cases hs
 ·cases hok
theorem ZhF (h:Rel base σ0 X w0 σ M w a st) (hn:a.tmps.size=n) {d:Nat} {ne:Bool} {x y:Arg} (hok:okOp P n o (.beq d ne x y)=true) (hs:step E st (.beq d ne x y)=some st'):Goes base σ0 X w0 P o a w st':=by
 simp only[okOp,Bool.and_eq_true] at hok
 obtain ⟨hd,hok⟩:=hok
 simp only[step,Option.bind_eq_some_iff,Option.map_eq_some_iff] at hs
 obtain ⟨b,hb,c,hc,rfl⟩:=hs
 split at hok
 ·rename_i b' t x' y' ty ho
  simp only[Bool.and_eq_true,decide_eq_true_eq] at hok
  obtain ⟨⟨⟨rfl,hx⟩,hy⟩,ht⟩:=hok
  have h1:=ZbO h hn hx hb
  have h2:=ZbO h hn hy hc
  refine Goes.val (v:=.bool (if ne then !(b==c) else b==c)) h hn hd ?_ (RepU.bool _)
  have e1:(Op.equal t (.bool b) (.bool c)).run P w=.ok (b==c) w:=run_equal_bool w t b c (ZeI ht)
  cases ne<;>simp only[execOp,ho,h1,h2,Sem.run_bind,if_true,if_false,Bool.false_eq_true,eqGuard,binOp,Sem.run_pure,Result.andThen_ok,e1,Bool.not_true,Sem.run_ite]<;>rfl
 ·cases hok
theorem Zga {b:B2} {u v r:U} {x y:Value} {t:TypeId} {p q:Operand} (hx:RepU w M u x) (hy:RepU w M v y) (h:bin2 b u v=some r):∃ z,((do eqGuard (opOf b) t p q x y; binOp (opOf b) t x y:Sem Value)).run P w=.ok z w∧RepU w M r z:=by
 unfold bin2 at h
 split at h
 ·rename_i k m k' m'
  cases hx; cases hy
  split at h
  ·rename_i hk
   subst hk
   cases b<;>simp only[Option.some.injEq] at h
   case quo=>
    split at h
    ·cases h
    ·rename_i h0
     cases h
     exact ⟨_,by simp [eqGuard,opOf,binOp,Op.intDiv,h0,Result.andThen],.int ..⟩
   case rem=>
    split at h
    ·cases h
    ·rename_i h0
     cases h
     exact ⟨_,by simp [eqGuard,opOf,binOp,Op.intDiv,h0,Result.andThen],.int ..⟩
   case shr=>
    split at h
    ·cases h
    ·rename_i h0
     cases h
     exact ⟨_,by simp [eqGuard,opOf,binOp,Op.shift,h0,Result.andThen],.int ..⟩
   case and=>subst h; exact ⟨.int k (bits .and k m m'),by simp [eqGuard,opOf,binOp,Op.intBits,bits,Result.andThen],.int ..⟩
   case or=>subst h; exact ⟨.int k (bits .or k m m'),by simp [eqGuard,opOf,binOp,Op.intBits,bits,Result.andThen],.int ..⟩
   case xor=>subst h; exact ⟨.int k (bits .xor k m m'),by simp [eqGuard,opOf,binOp,Op.intBits,bits,Result.andThen],.int ..⟩
   all_goals subst h
   all_goals first
    | (refine ⟨.int k _,?_,.int ..⟩; simp [eqGuard,opOf,binOp,Op.intArith,Op.intCmp,Result.andThen])
    | (refine ⟨.bool _,?_,.bool _⟩; simp [eqGuard,opOf,binOp,Op.intArith,Op.intCmp,Result.andThen])
  ·cases h
 ·rename_i s s'
  cases hx; cases hy
  cases b
  case add=>
   simp only at h
   split at h
   ·rename_i hle
    cases h
    refine ⟨.string ⟨(s++s').toArray⟩,?_,.str _⟩
    have hc:(⟨s.toArray⟩:ByteArray)++⟨s'.toArray⟩=⟨(s++s').toArray⟩:=Zdj (by simp [ByteArray.data_append])
    have hn:¬(((⟨s.toArray⟩:ByteArray).size + (⟨s'.toArray⟩:ByteArray).size:Nat):Int) > IntKind.i64.max:=by
     have h1:(⟨s.toArray⟩:ByteArray).size=s.length:=by simp [ByteArray.size]
     have h2:(⟨s'.toArray⟩:ByteArray).size=s'.length:=by simp [ByteArray.size]
     rw [h1,h2]
     have:IntKind.i64.max=9223372036854775807:=by decide
     omega
    simp only[eqGuard,opOf,binOp,Op.stringOp,Sem.run_bind,Sem.run_pure,Result.andThen_ok,hn,if_false,hc]
    rfl
   ·cases h
  all_goals
   simp only[Option.some.injEq,reduceCtorEq] at h
  all_goals
   subst h
   exact ⟨.bool _,by simp only[eqGuard,opOf,binOp,Op.stringOp,Za2,Sem.run_bind,Sem.run_pure,Result.andThen_ok,ZcJ]; rfl,.bool _⟩
 ·cases h
theorem ZhG (h:Rel base σ0 X w0 σ M w a st) (hn:a.tmps.size=n) {d:Nat} {b:B2} {x y:Arg} (hok:okOp P n o (.bin d b x y)=true) (hs:step E st (.bin d b x y)=some st'):Goes base σ0 X w0 P o a w st':=by
 simp only[okOp,Bool.and_eq_true] at hok
 obtain ⟨hd,hok⟩:=hok
 simp only[step,Option.bind_eq_some_iff,Option.map_eq_some_iff] at hs
 obtain ⟨u,hu,v,hv,r,hr,rfl⟩:=hs
 split at hok
 ·rename_i b' t x' y' ty ho
  simp only[Bool.and_eq_true,decide_eq_true_eq] at hok
  obtain ⟨⟨rfl,hx⟩,hy⟩:=hok
  obtain ⟨z,hz,hrep⟩:=Zga (P:=P) (t:=t) (p:=x') (q:=y') (Zb7 h hn hx hu) (Zb7 h hn hy hv) hr
  refine Goes.val (v:=z) h hn hd ?_ hrep
  simp only[execOp,ho]
  rw [Sem.run_bind,hz]
  rfl
 ·cases hok
theorem Zg3 (h:Rel base σ0 X w0 σ M w a st) (hn:a.tmps.size=n) {d:Nat} {mx:Bool} {x y:Arg} (hok:okOp P n o (.mnmx d mx x y)=true) (hs:step E st (.mnmx d mx x y)=some st'):Goes base σ0 X w0 P o a w st':=by
 simp only[okOp,Bool.and_eq_true] at hok
 obtain ⟨hd,hok⟩:=hok
 simp only[step,Option.bind_eq_some_iff,Option.map_eq_some_iff] at hs
 obtain ⟨u,hu,v,hv,r,hr,rfl⟩:=hs
 split at hok
 ·rename_i c ho
  split at hok
  ·rename_i x' y' hcal hargs
   simp only[Bool.and_eq_true] at hok
   obtain ⟨⟨rfl,hx⟩,hy⟩:=hok
   have ha:c.args=#[x',y']:=by rw [←Array.toArray_toList (xs:=c.args),hargs]
   have h1:=Zb7 h hn hx hu
   have h2:=Zb7 h hn hy hv
   have:∃ z,(Builtin.max_ c.argTypes o.type #[a.eval x',a.eval y']).run P w=.ok z w∧RepU w M r z:=by
    unfold mnmx at hr
    split at hr
    ·split at hr
     ·rename_i hk
      subst hk
      cases hr
      rw [h1.int_inv,h2.int_inv]
      exact ⟨_,run_max_int2 w _ _ _ _ _ _,.int ..⟩
     ·cases hr
    ·cases hr
     rw [h1.str_inv,h2.str_inv]
     refine ⟨_,by simp [Builtin.max_,Builtin.max2,List.foldlM,Op.stringOp,asBool,Result.andThen]; rfl,?_⟩
     simp only[if_true,Za2,Bool.not_eq_true']
     split<;>exact .str _
    ·cases hr
   obtain ⟨z,hz,hrep⟩:=this
   refine Goes.val (v:=z) h hn hd ?_ hrep
   simp only[execOp,ho,resolve,hcal,ha,List.map_toArray,List.map_cons,List.map_nil,invoke,builtin,Sem.run_bind,Sem.run_pure,Result.andThen_ok,hz]
  ·rename_i x' y' hcal hargs
   simp only[Bool.and_eq_true,Bool.not_eq_true'] at hok
   obtain ⟨⟨rfl,hx⟩,hy⟩:=hok
   have ha:c.args=#[x',y']:=by rw [←Array.toArray_toList (xs:=c.args),hargs]
   have h1:=Zb7 h hn hx hu
   have h2:=Zb7 h hn hy hv
   have:∃ z,(Builtin.min_ c.argTypes o.type #[a.eval x',a.eval y']).run P w=.ok z w∧RepU w M r z:=by
    unfold mnmx at hr
    split at hr
    ·split at hr
     ·rename_i hk
      subst hk
      cases hr
      rw [h1.int_inv,h2.int_inv]
      exact ⟨_,run_min_int2 w _ _ _ _ _ _,.int ..⟩
     ·cases hr
    ·cases hr
     rw [h1.str_inv,h2.str_inv]
     refine ⟨_,by simp [Builtin.min_,Builtin.min2,List.foldlM,Op.stringOp,asBool,Result.andThen]; rfl,?_⟩
     simp only[Bool.false_eq_true,if_false,Za2]
     simp only[Bool.or_eq_true,beq_iff_eq]
     split<;>exact .str _
    ·cases hr
   obtain ⟨z,hz,hrep⟩:=this
   refine Goes.val (v:=z) h hn hd ?_ hrep
   simp only[execOp,ho,resolve,hcal,ha,List.map_toArray,List.map_cons,List.map_nil,invoke,builtin,Sem.run_bind,Sem.run_pure,Result.andThen_ok,hz]
  ·cases hok
 ·cases hok
end Go.Proofs.YtfajcehhcjmofaaV
