/- The simplifier's rules, gathered: vP ahead of an expression's parts, vQ behind them. No conditions. -/
import Derived.Test.YtfajcehhcjmofaaS3
import Derived.Test.YtfajcehhcjmofaaV27
namespace Go.Proofs.YtfajcehhcjmofaaV
open Go Go.RowKit
set_option linter.unusedVariables false
set_option linter.unusedSimpArgs false
theorem Zf8 (F:Nat→Option IFn) (fin:St→Option Ret) (is:List Za) (os:List GOp) (st:St) (o:IOp) (t:Nat) (b:Bool):RG F fin is os o t b st (.tup [])=RP F fin is os st o.dst:=rfl
theorem ZiJ {α:Type} {x:Bool} {a b r:α} (ht:x=true→a=r) (hf:x=false→b=r):sel x a b=r:=by
 cases x
 ·exact hf rfl
 ·exact ht rfl
/-- An order that does not count: operations that only read. -/
theorem ZbC {E:Zb}:∀ (gs:List (GOp×List Nat)) (done:List Fx) (st:St),gs.all (fun g=>g.1.op.isF)=true→done.all (fun f=>f.set.isEmpty)=true→Zy E gs done st=Zaq E (gs.map (·.1)) st
 | [],_,_,_,_=>rfl
 | (g, free)::gs,done,st,h,hd=>by
  simp only[List.all_cons,Bool.and_eq_true] at h
  by_cases hsol:ZbQ free=true
  ·simp only[Zy,List.map_cons,Zaq,if_pos hsol]
   cases Zaf E st g with
   | none=>rfl
   | some s=>exact ZbC gs _ _ h.2 (by simp only[List.all_append,hd,Bool.true_and]; rfl)
  simp only[Zy,List.map_cons,Zaq,if_neg hsol]
  have key:∀ e,gfx E st g=some e→e.set=[]∧Zaf E st g=some (e.app st):=by
   intro e he
   have hF:∀ op e,op.isF=true→fx E st op=some e→e.set=[]∧step E st op=some (e.app st):=by
    intro op e hop hf
    have hf0:fxF E st op=some e∨(∃ d a,op=.mv d a∧e=⟨some d,st.get a,[],[]⟩):=by
     cases op
     case mv d a=>
      simp only[fx] at hf
      split at hf
      ·cases hf; exact .inr ⟨_,_,rfl,rfl⟩
      ·exact .inl hf
     all_goals first|exact .inl hf|cases hop
    rcases hf0 with hf'|⟨d,a,rfl,rfl⟩
    case inr=>exact ⟨rfl,rfl⟩
    simp only[fxF,Option.bind_eq_some_iff,Option.map_eq_some_iff] at hf'
    obtain ⟨s,hs,d,hd,rfl⟩:=hf'
    obtain ⟨h1,_⟩:=Zej hop hd ⟨fun _ _=>rfl,fun _ _=>rfl⟩ s hs
    refine ⟨rfl,?_⟩
    rw [hs]
    simp only[Fx.app,St.objs,List.foldl_nil,St.putO]
    rw [←h1]
   cases hg:g.g with
   | none=>simp only[gfx,Zaf,hg] at he ⊢; exact hF _ _ h.1 he
   | some p=>
    obtain ⟨t,b⟩:=p
    simp only[gfx,hg,Option.bind_eq_some_iff] at he
    obtain ⟨x,hx,he⟩:=he
    simp only[Zaf,hg,hx,Option.bind_some]
    split at he
    ·rename_i hb; rw [if_pos hb]; exact hF _ _ h.1 he
    ·rename_i hb; cases he; rw [if_neg hb]; exact ⟨rfl,rfl⟩
  have key2:gfx E st g=none→Zaf E st g=none:=by
   intro he
   have hF:∀ op,op.isF=true→fx E st op=none→step E st op=none:=by
    intro op hop hf
    have hf':fxF E st op=none:=by
     cases op
     case mv d a=>
      simp only[fx] at hf
      split at hf
      ·cases hf
      ·exact hf
     all_goals first|exact hf|cases hop
    cases hs:step E st op with
    | none=>rfl
    | some s=>
     simp only[fxF,hs,Option.bind_some] at hf'
     cases hd:op.dst with
     | none=>cases op<;>first|(cases hop; done)|(cases hd; done)
     | some d=>rw [hd] at hf'; cases hf'
   cases hg:g.g with
   | none=>simp only[gfx,Zaf,hg] at he ⊢; exact hF _ h.1 he
   | some p=>
    obtain ⟨t,b⟩:=p
    simp only[gfx,hg] at he
    simp only[Zaf,hg]
    cases hx:ZaJ (st.s t) with
    | none=>rfl
    | some x=>
     rw [hx] at he
     simp only[Option.bind_some] at he ⊢
     split at he
     ·rename_i hb; rw [if_pos hb]; exact hF _ h.1 he
     ·cases he
  cases he:gfx E st g with
  | none=>rw [key2 he]; rfl
  | some e=>
   obtain ⟨h1,h2⟩:=key e he
   rw [h2]
   simp only[Option.bind_some]
   have hf:ZaN done e free=true:=by
    simp only[ZaN,List.all_eq_true]
    intro k _
    cases hk:done[k]? with
    | none=>rfl
    | some f=>
     have:f.set=[]:=by
      have:=List.all_eq_true.1 hd f (List.mem_of_getElem? hk)
      simpa using this
     simp [Fx.apart,ZaW,this,h1]
   rw [if_pos hf]
   exact ZbC gs _ _ h.2 (by simp only[List.all_append,hd,Bool.true_and,List.all_cons,h1,List.isEmpty_nil,List.all_nil])
theorem Zb4:∀ (gs:List (GOp×List Nat)) (st:St),gs.all (fun g=>g.1.op.isF)=true→coolDsts st gs=st
 | [],_,_=>rfl
 | (g,free)::gs,st,h=>by
  simp only[List.all_cons,Bool.and_eq_true] at h
  simp only[coolDsts]
  refine (congrArg (fun s=>coolDsts s gs) ?_).trans (Zb4 gs st h.2)
  have h1:=h.1
  generalize g.op=op at h1 ⊢
  cases op<;>first|rfl|cases h1
theorem Zev {F:Nat→Option IFn} {fin:St→Option Ret} {is:List Za} {gs:List (GOp×List Nat)} {st:St} (h:gs.all (fun g=>g.1.op.isF)=true):KK F fin (.code (.draw gs)::is) st=RR F fin is (gs.map (·.1)) st:=by
 simp only[KK,Zfn,Zb4 gs st h,ZbC gs [] st h rfl,RR,Option.bind_assoc]
 rfl
theorem Zfp (F:Nat→Option IFn) (fin:St→Option Ret) (is:List Za) (st:St) (o:GOp) (f:List Nat) (gs:List (GOp×List Nat)):RR F fin is (List.map (·.1) ((o,f)::gs)) st=RR F fin is (o::List.map (·.1) gs) st:=rfl
theorem Zew (F:Nat→Option IFn) (fin:St→Option Ret) (is:List Za) (st:St):RR F fin is (List.map (fun x:GOp×List Nat=>x.1) []) st=KK F fin is st:=rfl
theorem vP:(type_of% vi)∧(type_of% vp)∧(type_of% @ZgD)∧(type_of% @Zgy)∧(type_of% @Zfw)∧(type_of% @Zev)∧(type_of% Zfp)∧(type_of% Zew):=⟨vi,vp,@ZgD,@Zgy,@Zfw,@Zev,Zfp,Zew⟩
theorem w64 {x:Int} (h1 : -9223372036854775808≤x) (h2:x≤9223372036854775807):IntKind.i64.wrap x=x:=by rw [IntKind.wrap_i64]; omega
theorem w_succ {i:Nat} (h:i<9223372036854775807):IntKind.i64.wrap ((i:Int)+1)=((i+1:Nat):Int):=by rw [w64 (by omega) (by omega)]; rfl
/-- Slices' elements by whole numbers that are naturals. -/
theorem Zet (st:St) (sz:Nat) (rows:List (List U)) (i:Nat):via st sz (DU (.sl sz rows)) (DI (i:Int))=(rows[i]?).map .rptr:=by simp [via,D.int?]
theorem Zeu (s:List UInt8) (i:Nat):vix (DS s) (DI (i:Int))=(s[i]?).map fun b=>DU (.int .u8 b.toNat):=by simp [vix,D.int?]
theorem Zho (st:St) (sz:Nat) (rows:List (List U)):via st sz (DU (.sl sz rows)) (DI 0)=(rows[0]?).map .rptr:=Zet st sz rows 0
theorem Zhp (s:List UInt8):vix (DS s) (DI 0)=(s[0]?).map fun b=>DU (.int .u8 b.toNat):=Zeu s 0
theorem Zhk {α:Type}:(∀ cs:List α,seg cs 0 0=some [])∧(∀ (a:α) cs n,seg (a::cs) 0 (n+1)=(seg cs 0 n).map (a::·))∧(∀ (a:α) cs o n,seg (a::cs) (o+1) n=seg cs o n):=by
 refine ⟨fun cs=>by simp [seg],fun a cs n=>?_,fun a cs o n=>?_⟩
 ·simp only[seg,Nat.zero_add,List.length_cons,List.drop_zero,List.take_succ_cons]
  by_cases h:n≤cs.length
  ·rw [if_pos (by omega),if_pos h]; rfl
  ·rw [if_neg (by omega),if_neg h]; rfl
 ·simp only[seg,List.length_cons,List.drop_succ_cons]
  by_cases h:o+n≤cs.length
  ·rw [if_pos (by omega),if_pos h]
  ·rw [if_neg (by omega),if_neg h]
theorem ZfK {α:Type}:(∀ cs:List α,Zx cs 0 []=some cs)∧(∀ (a:α) cs x xs,Zx (a::cs) 0 (x::xs)=(Zx cs 0 xs).map (x::·))∧(∀ (a:α) cs o xs,Zx (a::cs) (o+1) xs=(Zx cs o xs).map (a::·)):=by
 refine ⟨fun cs=>by simp [Zx],fun a cs x xs=>?_,fun a cs o xs=>?_⟩
 ·simp only[Zx,Nat.zero_add,List.length_cons,List.take_zero,List.nil_append,List.drop_succ_cons,List.cons_append]
  by_cases h:xs.length≤cs.length
  ·rw [if_pos (by omega),if_pos h]; rfl
  ·rw [if_neg (by omega),if_neg h]; rfl
 ·simp only[Zx,List.length_cons,List.take_succ_cons,List.cons_append,show o+1+xs.length=(o+xs.length)+1 by omega,List.drop_succ_cons]
  by_cases h:o+xs.length≤cs.length
  ·rw [if_pos (by omega),if_pos h]; rfl
  ·rw [if_neg (by omega),if_neg h]; rfl
theorem Zgj:(∀ cells off xs,Zek cells off xs=Zx cells off xs)∧(∀ (st:St) cells,st.fill cells []=some cells)∧(∀ (st:St) cells off n a ps,st.fill cells ((off,n,a)::ps)=(st.get a).t?.bind fun x=>if x.cells.length=n then (Zx cells off x.cells).bind fun cs=>st.fill cs ps else none)∧
 (∀ (st:St) cells ps,ZdM st cells ps=(st.fill cells ps).map fun cs=>.t (.ag cs)):=⟨fun _ _ _=>rfl,fun _ _=>rfl,fun _ _ _ _ _ _=>rfl,fun _ _ _=>rfl⟩
theorem Zjn (n:Nat) (l h:Int) (h1:0≤l) (h2:l≤h) (h3:h≤n):vcut n (some (DI l)) (some (DI h))=some (l.toNat,h.toNat):=by simp [vcut,D.int?,h1,h2,h3]
theorem Zjp (n:Nat) (l:Int) (h1:0≤l) (h2:l≤n):vcut n (some (DI l)) none=some (l.toNat,n):=by simp [vcut,D.int?,h1,h2]
theorem Zjo (n:Nat) (h:Int) (h1:0≤h) (h2:h≤n):vcut n none (some (DI h))=some (0,h.toNat):=by simp [vcut,D.int?,h1,h2]
theorem Zjk (n:Nat):vcut n none none=some (0,n):=by simp [vcut]
/-- Lists and options. -/
theorem vl:(∀ {α β:Type} (a:α) (f:α→Option β),(some a).bind f=f a)∧(∀ {α β:Type} (f:α→Option β),(none:Option α).bind f=none)∧(∀ {α β:Type} (a:α) (f:α→β),(some a).map f=some (f a))∧(∀ {α β:Type} (f:α→β),(none:Option α).map f=none)∧
 (∀ {α β:Type} (f:α→β),List.map f []=[])∧(∀ {α β:Type} (f:α→β) a l,List.map f (a::l)=f a::List.map f l)∧
 (∀ {α:Type} (l:List α),l.drop 0=l)∧(∀ {α:Type} (n:Nat) (a:α) l,List.drop (n+1) (a::l)=List.drop n l)∧(∀ {α:Type} (n:Nat),List.drop n ([]:List α)=[])∧
 (∀ {α:Type} (l:List α),l.take 0=[])∧(∀ {α:Type} (n:Nat) (a:α) l,List.take (n+1) (a::l)=a::List.take n l)∧(∀ {α:Type} (n:Nat),List.take n ([]:List α)=[])∧
 (∀ {α:Type} (l:List α),[]++l=l)∧(∀ {α:Type} (a:α) (l m:List α),(a::l)++m=a::(l++m))∧(∀ {α:Type} (l:List α),l++[]=l)∧
 (∀ {α:Type},([]:List α).length=0)∧(∀ {α:Type} (a:α) l,(a::l).length=l.length+1)∧(∀ {α:Type} (a:α) l,(a::l)[0]?=some a)∧(∀ {α:Type} (n:Nat) (a:α) l,(a::l)[n+1]?=l[n]?)∧(∀ {α β:Type} (l:List α) (f:α→β),(l.map f).length=l.length)∧
 (∀ {α:Type} (p:α→Bool),[].all p=true)∧(∀ {α:Type} (p:α→Bool) a l,(a::l).all p=(p a&&l.all p))∧(∀ {α β:Type} (f:α→Option β),[].filterMap f=[])∧
 (∀ {α β:Type} (f:α→List β),List.flatMap f []=[])∧(∀ {α β:Type} (f:α→List β) a l,List.flatMap f (a::l)=f a++List.flatMap f l)∧(∀ {α:Type},([]:List α).isEmpty=true)∧(∀ {α:Type} (a:α) l,(a::l).isEmpty=false)∧
 (∀ b,(true&&b)=b)∧(∀ b,(b&&true)=b)∧(∀ b,(false&&b)=false)∧(∀ b,(b&&false)=false)∧(!true)=false∧(!false)=true∧List.range 0=[]∧List.range 1=[0]∧List.range 2=[0,1]∧
 (∀ {α:Type} (p:Prop) [Decidable p] (a:α),(if p then a else a)=a)∧(∀ {α β:Type} (l:List α) (f:α→β) (i:Nat),(l.map f)[i]?=(l[i]?).map f)∧(∀ a b:Nat,((a:Int)<(b:Int))=(a<b))∧(∀ a b:Nat,((a:Int)≤(b:Int))=(a≤b))∧(∀ a b:Nat,((a:Int)=(b:Int))=(a=b))∧
 decide True=true∧decide False=false∧(∀ {α:Type} (a b:α),(if True then a else b)=a)∧(∀ {α:Type} (a b:α),(if False then a else b)=b)∧(∀ {α:Type} (a b:α),(if true=true then a else b)=a)∧(∀ {α:Type} (a b:α),(if false=true then a else b)=b)∧(∀ {α:Type} (a:α),(a=a)=True)∧(∀ n:Nat,(n≤n)=True):=by
 refine ⟨?_,?_,?_,?_,?_,?_,?_,?_,?_,?_,?_,?_,?_,?_,?_,?_,?_,?_,?_,?_,?_,?_,?_,?_,?_,?_,?_,?_,?_,?_,?_,?_,?_,?_,?_,?_,?_,?_,?_,?_,?_,?_,?_,?_,?_,?_,?_,?_,?_⟩<;>intros<;>first|rfl|(simp; done)|(apply propext; omega)
theorem filterMap_cons_some {α β:Type} (f:α→Option β) (a:α) (l:List α) {b:β} (h:f a=some b):(a::l).filterMap f=b::l.filterMap f:=by simp [h]
/-- The cells that refer to objects. -/
def idsC:List C→List Id
 | []=>[]
 | .u _::cs=>idsC cs
 | .bad::cs=>idsC cs
 | .own i _::cs=>i::idsC cs
 | .ptr i _ _::cs=>i::idsC cs
 | .down i _::cs=>i::idsC cs
 | .sub i _ _ _::cs=>i::idsC cs
theorem ZhY (x:T):x.ids=idsC x.cells:=by
 unfold T.ids
 generalize x.cells=cs
 induction cs with
 | nil=>rfl
 | cons c cs ih=>cases c<;>simp [List.filterMap_cons,C.id?,idsC,ih]
def Zan (st:St) (rs:List IRes):List Id:=rs.flatMap st.lent
def Zgw (x:Option T):List Id:=match x with
 | some x=>x.ids
 | none=>[]
theorem vr:(∀ st,getL st []=some [])∧(∀ st a as,getL st (a::as)=(st.get a).t?.bind fun x=>(getL st as).map (x::·))∧(∀ st,ZbE st []=some [])∧(∀ st x xs,ZbE st (x::xs)=(st.lendT x).bind fun y=>(ZbE st xs).map (y::·))∧
 (∀ st,Zbx st []=some [])∧(∀ st x xs,Zbx st (x::xs)=(st.lend x).bind fun y=>(Zbx st xs).map (y::·))∧uAll []=some []∧(∀ u cs,uAll (.u u::cs)=(uAll cs).map (u::·))∧
 (∀ st d ids res new,ZfM st d ids res new=((st.coolAll (sel (Ret.mk res new []).quiet [] ids)).coolAll ((List.range new.length).map (.loc d ·))).ofRet d ⟨res,new,[]⟩)∧
 (∀ st d res,St.ofRet st d ⟨res,[],[]⟩=st.put d (retD (res.map (T.mapC (C.ren (Zah d))))))∧(∀ st d res x,St.ofRet st d ⟨res,[x],[]⟩=(st.obj (.loc d 0) (some x)).put d (retD (res.map (T.mapC (C.ren (Zah d))))))∧
 (∀ st d res x y,St.ofRet st d ⟨res,[x,y],[]⟩=((st.obj (.loc d 0) (some x)).obj (.loc d 1) (some y)).put d (retD (res.map (T.mapC (C.ren (Zah d))))))∧
 (∀ res,(Ret.mk res [] []).quiet=res.all fun x=>x.cells.all fun c=>!c.isSl)∧(∀ res x new,(Ret.mk res (x::new) []).quiet=(Obj.flat x&&(Ret.mk res new []).quiet))∧
 (∀ k u,C.isSl (.u (.int k u))=false)∧(∀ b,C.isSl (.u (.bool b))=false)∧(∀ s,C.isSl (.u (.str s))=false)∧(∀ (z:Nat) (r:List (List U)),C.isSl (.u (.sl z r))=!r.isEmpty)∧C.isSl (.u .nil)=false∧(∀ i n,C.isSl (.own i n)=false)∧
 (∀ x,retD [x]=.t x)∧(∀ x y l,retD (x::y::l)=.tup (x::y::l))∧retD []=.tup []∧
 (∀ f c,T.mapC f (.sc c)=.sc (f c))∧(∀ f cs,T.mapC f (.ag cs)=.ag (cs.map f))∧(∀ f u,C.ren f (.u u)=.u u)∧(∀ d j n,C.ren (Zah d) (.own (.par j) n)=.own (.loc d j) n)∧
 idsC []=[]∧(∀ u cs,idsC (.u u::cs)=idsC cs)∧(∀ cs,idsC (.bad::cs)=idsC cs)∧(∀ i n cs,idsC (.own i n::cs)=i::idsC cs)∧(∀ i a b cs,idsC (.ptr i a b::cs)=i::idsC cs)∧(∀ x,T.ids x=idsC x.cells)∧
 (∀ st,ZaQ st []=some [])∧(∀ st r rs,ZaQ st (r::rs)=(st.result r).bind fun x=>(ZaQ st rs).map (x::·))∧(∀ st t,St.result st (.tmp t)=(st.s t).t?)∧
 (∀ res n st,FF res n st=FV (Zan st res) st n (ZaQ st res))∧(∀ st n xs,FV [] st n xs=FX st n xs)∧(∀ i is st n xs,FV (i::is) st n (some xs)=sel ((i::is).all Zk&&(xs.flatMap T.ids).isEmpty) (FX st n (some xs)) none)∧
 (∀ st,Zan st []=[])∧(∀ st t rs,Zan st (.tmp t::rs)=Zan st rs)∧(∀ st t n agg rs,Zan st (.cell t n agg::rs)=Zan st rs)∧(∀ st t rs,Zan st (.tmpd t::rs)=Zgw (Zen (st.s t))++Zan st rs)∧(∀ st t n agg rs,Zan st (.celld t n agg::rs)=Zgw (st.rawCell (st.s t) n agg)++Zan st rs)∧(∀ x,Zgw (some x)=x.ids)∧
 (∀ st t,St.result st (.tmpd t)=(Zen (st.s t)).bind st.lendT)∧(∀ st t n agg,St.result st (.celld t n agg)=(st.rawCell (st.s t) n agg).bind st.lendT)∧(∀ x,Zen (.t x)=some x)∧(∀ st u,FX st 0 (some [.sc (.u u)])=some ⟨[.sc (.u u)],[],[]⟩):=by
 refine ⟨?_,?_,?_,?_,?_,?_,?_,?_,?_,?_,?_,?_,?_,?_,?_,?_,?_,?_,?_,?_,?_,?_,?_,?_,?_,?_,?_,?_,?_,?_,?_,?_,ZhY,?_,?_,?_,ZiL,Zhs,ZgO,?_,?_,?_,?_,?_,?_,?_,?_,?_,FX_u⟩<;>intros<;>first|rfl|simp [Ret.quiet,C.isSl,U.flat,Bool.and_assoc]
theorem vQ:(type_of% Zdu)∧(type_of% ZeG)∧(type_of% vj)∧(type_of% vd)∧(type_of% vb)∧(type_of% vv)∧(type_of% vs)∧(type_of% @vl)∧(type_of% @vr)∧(type_of% @Zfv)∧(type_of% @ZfE)∧(type_of% @Zcl)∧(type_of% @Zcm)∧(type_of% @ZcX)∧(type_of% @ZcY)∧(type_of% @Zhk)∧(type_of% @ZfK)∧(type_of% Zgj)∧(type_of% Zet)∧(type_of% Zeu)∧(type_of% Zf8)∧(type_of% Zho)∧(type_of% Zhp):=
 ⟨Zdu,ZeG,vj,vd,vb,vv,vs,@vl,@vr,@Zfv,@ZfE,@Zcl,@Zcm,@ZcX,@ZcY,@Zhk,@ZfK,Zgj,Zet,Zeu,Zf8,Zho,Zhp⟩
end Go.Proofs.YtfajcehhcjmofaaV
