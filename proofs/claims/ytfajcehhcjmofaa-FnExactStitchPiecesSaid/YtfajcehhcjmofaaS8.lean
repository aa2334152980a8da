/- The simplifier's rules for deep rows and for function values that capture. No conditions. -/
import Derived.Test.YtfajcehhcjmofaaS7
namespace Go.Proofs.YtfajcehhcjmofaaV
open Go Go.RowKit
set_option linter.unusedVariables false
set_option linter.unusedSimpArgs false
/-! ### References to deep rows -/
section
variable {st:St} {i j:Id} {a b n:Nat}
theorem Zb3 (h:(j==i)=false):st.coolC i (.down j n)=.down j n:=by
 have:¬j=i:=by simpa using h
 unfold St.coolC
 cases st.o i with
 | none=>simp [C.kill,this]
 | some ob=>cases ob<;>simp [C.cool,C.coolD,C.kill,this]
theorem Zcn (h:(j==i)=false):st.coolC i (.sub j a b n)=.sub j a b n:=by
 have:¬j=i:=by simpa using h
 unfold St.coolC
 cases st.o i with
 | none=>simp [C.kill,this]
 | some ob=>cases ob<;>simp [C.cool,C.coolD,C.kill,this]
theorem Zcx (h:(j==i)=false):C.kill i (.down j n)=.down j n:=by
 have:¬j=i:=by simpa using h
 simp [C.kill,this]
theorem ZcZ (h:(j==i)=false):C.kill i (.sub j a b n)=.sub j a b n:=by
 have:¬j=i:=by simpa using h
 simp [C.kill,this]
theorem ZcF (h:(j==i)=false):C.unsub i (.sub j a b n)=.sub j a b n:=by
 have:¬j=i:=by simpa using h
 simp [C.unsub,this]
end
def Ze9 (id:Id) (n:Nat):Option Obj→C
 | some (.deep z r)=>.u (.sl z (r.take n))
 | _=>.bad
def Zgd (a b n:Nat):Option Obj→C
 | some (.deep z r)=>match ZaY r a b n with
  | some x=>.u x
  | none=>.bad
 | _=>.bad
def renD (x:Option Id) (n:Nat):C:=match x with
 | some j=>.down j n
 | none=>.bad
def vdl (x:Option Obj) (n:Nat):Option C:=match x with
 | some (.deep z r)=>if n≤r.length then some (.u (.sl z (r.take n))) else none
 | _=>none
def vsl (x:Option Obj) (i c n:Nat):Option C:=match x with
 | some (.deep _ r)=>(ZaY r i c n).map .u
 | _=>none
def Zfm (x:Option Obj) (n:Nat):Bool:=match x with
 | some (.deep _ r)=>r.length==n
 | _=>false
def Zbm (rows:List (List U)):Bool:=rows.all fun r=>r.all U.scal
theorem Zjj {α:Type} {u:α→List U} (h:∀ x,(u x).all U.scal=true) (l:List α):Zbm (l.map u)=true:=by
 simp only[Zbm,List.all_map,List.all_eq_true]
 intro x _
 exact h x
/-- A slice in a cell. -/
def kidC (n:Nat):Option U→Option U
 | some (.sl z rs)=>if rs.length=n then some (.sl z rs) else none
 | _=>none
theorem ZeJ (rows:List (List U)) (i c n:Nat):ZaY rows i c n=(rows[i]?).bind fun r=>kidC n (r[c]?):=by
 unfold ZaY
 cases rows[i]? with
 | none=>rfl
 | some r=>
  simp only[Option.bind_some]
  cases r[c]? with
  | none=>rfl
  | some x=>cases x<;>rfl
/-! ### What is moved -/
def gvO (x:Option Obj) (n:Nat) (lo:Bool):Option U:=match x with
 | some (.row z r)=>if r.length=n∧Zbm r=true∧lo=true then some (.sl z r) else none
 | _=>none
def gvD (x:Option Obj) (n:Nat) (lo:Bool):Option U:=match x with
 | some (.deep z r)=>if r.length=n∧lo=true then some (.sl z r) else none
 | _=>none
def Zb5 (st:St):List C→Option (List U)
 | []=>some []
 | c::cs=>(st.give c).bind fun u=>(Zb5 st cs).map (u::·)
theorem ZeD (st:St):∀ cs,cs.mapM st.give=Zb5 st cs
 | []=>rfl
 | c::cs=>by
  rw [List.mapM_cons,ZeD st cs,Zb5]
  cases st.give c with
  | none=>rfl
  | some x=>cases Zb5 st cs<;>rfl
def hasI (id:Id):List Id→Bool
 | []=>false
 | i::is=>id==i||hasI id is
theorem ZfA (id:Id):∀ is,decide (id∈is)=hasI id is
 | []=>by simp [hasI]
 | i::is=>by
  simp only[hasI,←ZfA id is,List.mem_cons]
  by_cases h:id=i<;>simp [h]
/-! ### New operations -/
noncomputable def Zhl (st:St) (d:Nat) (n c:D) (zero:List U) (bytes:Nat):Option St:=n.int?.bind fun n=>c.int?.bind fun c=>if 0≤n∧n≤c∧c.toNat*bytes≤140737488355328∧zero.all U.zed=true then
 some (((st.cool (.loc d 0)).obj (.loc d 0) (some (.deep zero.length (List.replicate n.toNat zero)))).put d (.t (.sc (.down (.loc d 0) n.toNat)))) else none
def sd3 (st:St) (id:Id) (z i o:Nat) (r:List (List U)) (ids:List Id) (us cs:List U) (ok:Bool):Option St:=if ok=true then (Zx cs o us).map fun c=>((st.killAll ids).mapC (C.unsub id)).obj id (some (.deep z (r.set i c))) else none
def sd2 (st:St) (id:Id) (n z i o:Nat) (r:List (List U)) (ids:List Id) (us:Option (List U)) (cs:Option (List U)):Option St:=us.bind fun us=>cs.bind fun cs=>sd3 st id z i o r ids us cs (us.length==n&&(Zk id&&(ZaG ids&&!hasI id ids)))
def sd1 (st:St) (n:Nat) (id:Id) (i o:Nat) (v:T) (ob:Option Obj):Option St:=match ob with
 | some (.deep z r)=>sd2 st id n z i o r v.ids (Zb5 st v.cells) (r[i]?)
 | _=>none
def Zee (st:St) (n:Nat) (a x:D):Option St:=match a with
 | .t (.sc (.ptr id i o))=>x.t?.bind fun v=>sd1 st n id i o v (st.o id)
 | _=>none
@[congr] theorem ZiG {st:St} {n i o:Nat} {id:Id} {v v':T} {ob ob':Option Obj} (h0:v=v') (h:ob=ob'):sd1 st n id i o v ob=sd1 st n id i o v' ob':=by rw [h0,h]
@[congr] theorem ZiH {st:St} {id:Id} {n z i o:Nat} {r:List (List U)} {ids ids':List Id} {us us' cs cs':Option (List U)} (h1:ids=ids') (h2:us=us') (h3:cs=cs'):sd2 st id n z i o r ids us cs=sd2 st id n z i o r ids' us' cs':=by rw [h1,h2,h3]
@[congr] theorem ZiI {st:St} {id:Id} {z i o:Nat} {r:List (List U)} {ids:List Id} {us cs:List U} {ok ok':Bool} (h:ok=ok'):sd3 st id z i o r ids us cs ok=sd3 st id z i o r ids us cs ok':=by rw [h]
@[congr] theorem Zhn {st:St} {n:Nat} {a a' x x':D} (h:a=a') (h':x=x'):Zee st n a x=Zee st n a' x':=by rw [h,h']
theorem Zh8 (E : Zb) (st:St) (n:Nat) (a x:Arg):step E st (.std n a x)=Zee st n (st.get a) (st.get x):=by
 simp only[step,Zee]
 cases st.get a with
 | t q =>
  cases q with
  | sc c=>
   cases c with
   | ptr id i o=>
    simp only
    cases hx:(st.get x).t? with
    | none=>cases st.o id with
     | none=>rfl
     | some ob=>cases ob<;>rfl
    | some v=>
     simp only[Option.bind_some,sd1]
     cases st.o id with
     | none=>rfl
     | some ob =>
      cases ob with
      | deep z r=>
       simp only[sd2,sd3,ZeD]
       cases Zb5 st v.cells with
       | none=>rfl
       | some us=>
        simp only[Option.bind_some]
        cases r[i]? with
        | none=>rfl
        | some cs=>
         simp only[Option.bind_some]
         have e:(us.length=n∧Zk id=true∧v.ids.Nodup∧id∉v.ids)↔(us.length==n&&(Zk id&&(ZaG v.ids&&!hasI id v.ids)))=true:=by
          simp only[Bool.and_eq_true,beq_iff_eq,Bool.not_eq_true',←ZbW,decide_eq_true_eq,←ZfA,decide_eq_false_iff_not]
         by_cases hc:us.length=n∧Zk id=true∧v.ids.Nodup∧id∉v.ids
         ·rw [if_pos hc,if_pos (e.1 hc)]
         ·rw [if_neg hc,if_neg (fun h=>hc (e.2 h))]
      | _=>rfl
   | _=>rfl
  | ag=>rfl
 | _=>rfl
/-! ### Calls that write into a slice of a deep row -/
def subL:List T→List (Id×Nat×Nat×Nat)
 | []=>[]
 | v::vs=>v.cells.filterMap C.sub?++subL vs
theorem ZfP:∀ vs:List T,(vs.flatMap fun v=>v.cells.filterMap C.sub?)=subL vs
 | []=>rfl
 | v::vs=>by rw [List.flatMap_cons,ZfP vs]; rfl
def subC:List C→List (Id×Nat×Nat×Nat)
 | []=>[]
 | .sub i a b n::cs=>(i,a,b,n)::subC cs
 | _::cs=>subC cs
theorem ZfO:∀ cs:List C,cs.filterMap C.sub?=subC cs
 | []=>rfl
 | c::cs=>by
  cases c<;>simp [List.filterMap_cons,C.sub?,subC,ZfO cs]
noncomputable def CK1 (F:Nat→Option IFn) (st:St) (d f:Nat) (dp:Bool) (vs:Option (List T)):Option St:=vs.bind fun vs=>match subL vs with
  | [(id,i,c,n)]=>match st.o id with
    | some (.deep z r)=>(ZaY r i c n).bind fun x=>(Zbk dp x).bind fun ob=>(EE F f (vs.map (T.mapC (C.foc dp))) [ob]).bind fun rt=>(Zai dp x.sz? n rt.out).bind fun x'=>
      if rt.new=[]∧rt.quiet=true then some ((st.obj id (some (.deep z (Zam r i c x')))).put d (retD rt.res)) else none
    | _=>none
  | _=>none
noncomputable def CK2 (F:Nat→Option IFn) (st:St) (d f:Nat) (dp:Bool) (vs:List T) (l:List (Id×Nat×Nat×Nat)):Option St:=match l with
  | [(id,i,c,n)]=>match st.o id with
    | some (.deep z r)=>(ZaY r i c n).bind fun x=>(Zbk dp x).bind fun ob=>(EE F f (vs.map (T.mapC (C.foc dp))) [ob]).bind fun rt=>(Zai dp x.sz? n rt.out).bind fun x'=>
      if rt.new=[]∧rt.quiet=true then some ((st.obj id (some (.deep z (Zam r i c x')))).put d (retD rt.res)) else none
    | _=>none
  | _=>none
noncomputable def CK3 (F:Nat→Option IFn) (st:St) (d f:Nat) (dp:Bool) (vs:List T) (id:Id) (i c n:Nat) (ob:Option Obj):Option St:=match ob with
 | some (.deep z r)=>(ZaY r i c n).bind fun x=>(Zbk dp x).bind fun ob=>(EE F f (vs.map (T.mapC (C.foc dp))) [ob]).bind fun rt=>(Zai dp x.sz? n rt.out).bind fun x'=>
   if rt.new=[]∧rt.quiet=true then some ((st.obj id (some (.deep z (Zam r i c x')))).put d (retD rt.res)) else none
 | _=>none
noncomputable def CK4 (F:Nat→Option IFn) (st:St) (d f:Nat) (dp:Bool) (vs:List T) (id:Id) (i c n z:Nat) (r:List (List U)) (x:Option U):Option St:=x.bind fun x=>(Zbk dp x).bind fun ob=>(EE F f (vs.map (T.mapC (C.foc dp))) [ob]).bind fun rt=>(Zai dp x.sz? n rt.out).bind fun x'=>
   if rt.new=[]∧rt.quiet=true then some ((st.obj id (some (.deep z (Zam r i c x')))).put d (retD rt.res)) else none
noncomputable def CK5 (F:Nat→Option IFn) (st:St) (d f:Nat) (dp:Bool) (id:Id) (i c n z zk:Nat) (r:List (List U)) (vs:List T) (ob:Option Obj):Option St:=ob.bind fun ob=>(EE F f vs [ob]).bind fun rt=>(Zai dp zk n rt.out).bind fun x'=>
   if rt.new=[]∧rt.quiet=true then some ((st.obj id (some (.deep z (Zam r i c x')))).put d (retD rt.res)) else none
def CK6 (st:St) (d:Nat) (dp:Bool) (id:Id) (i c n z zk:Nat) (r:List (List U)) (rt:Option Ret):Option St:=rt.bind fun rt=>(Zai dp zk n rt.out).bind fun x'=>
   if rt.new=[]∧rt.quiet=true then some ((st.obj id (some (.deep z (Zam r i c x')))).put d (retD rt.res)) else none
def CK7 (st:St) (d:Nat) (id:Id) (i c z:Nat) (r:List (List U)) (res:List T) (x:Option U) (q:Bool):Option St:=x.bind fun x'=>if q=true then some ((st.obj id (some (.deep z (Zam r i c x')))).put d (retD res)) else none
@[congr] theorem Zia {F:Nat→Option IFn} {st:St} {d f:Nat} {dp:Bool} {v v':Option (List T)} (h:v=v'):CK1 F st d f dp v=CK1 F st d f dp v':=by rw [h]
@[congr] theorem Zib {F:Nat→Option IFn} {st:St} {d f:Nat} {dp:Bool} {vs:List T} {v v':List (Id×Nat×Nat×Nat)} (h:v=v'):CK2 F st d f dp vs v=CK2 F st d f dp vs v':=by rw [h]
@[congr] theorem Zic {F:Nat→Option IFn} {st:St} {d f i c n:Nat} {dp:Bool} {id:Id} {vs:List T} {v v':Option Obj} (h:v=v'):CK3 F st d f dp vs id i c n v=CK3 F st d f dp vs id i c n v':=by rw [h]
@[congr] theorem Zid {F:Nat→Option IFn} {st:St} {d f i c n z:Nat} {r:List (List U)} {dp:Bool} {id:Id} {vs:List T} {v v':Option U} (h:v=v'):CK4 F st d f dp vs id i c n z r v=CK4 F st d f dp vs id i c n z r v':=by rw [h]
@[congr] theorem Zie {F:Nat→Option IFn} {st:St} {d f i c n z zk:Nat} {r:List (List U)} {dp:Bool} {id:Id} {vs vs':List T} {v v':Option Obj} (h0:vs=vs') (h:v=v'):CK5 F st d f dp id i c n z zk r vs v=CK5 F st d f dp id i c n z zk r vs' v':=by rw [h0,h]
@[congr] theorem Zif {st:St} {d i c n z zk:Nat} {r:List (List U)} {dp:Bool} {id:Id} {v v':Option Ret} (h:v=v'):CK6 st d dp id i c n z zk r v=CK6 st d dp id i c n z zk r v':=by rw [h]
@[congr] theorem Zig {st:St} {d i c z:Nat} {r:List (List U)} {id:Id} {res res':List T} {v v':Option U} {q q':Bool} (h0:res=res') (h:v=v') (h2:q=q'):CK7 st d id i c z r res v q=CK7 st d id i c z r res' v' q':=by rw [h0,h,h2]
theorem Zh3 {rows:List (List U)} {i c:Nat} {x:U} {row:List U} (h:rows[i]?=some row):Zam rows i c x=rows.set i (row.set c x):=by
 unfold Zam
 apply List.ext_getElem?
 intro j
 rw [List.getElem?_modify,List.getElem?_set]
 have hlt:=(List.getElem?_eq_some_iff.1 h).1
 by_cases e:i=j
 ·subst e; rw [h]; simp [hlt]
 ·simp [e]
/-! ### Function values that capture -/
def capV (id:Id) (x:Option Obj):Option (Id×List U):=match x with
 | some (.box cs)=>(uAll cs).map fun us=>(id,us)
 | _=>none
def capD (st:St) (x:D):Option (Id×List U):=match x with
 | .t (.sc (.ptr id 0 0))=>capV id (st.o id)
 | _=>none
theorem Zgc (st:St) (a:Arg):st.capOf a=capD st (st.get a):=by
 unfold St.capOf capD
 generalize st.get a=x
 split
 ·rename_i id
  simp only[capV]
  cases st.o id with
  | none=>rfl
  | some ob=>cases ob<;>simp [Zb1]
 ·rename_i h
  split
  ·rename_i id; exact absurd rfl (h id)
  ·rfl
def capL (st:St):List Arg→Option (List (Id×List U))
 | []=>some []
 | a::as=>(capD st (st.get a)).bind fun x=>(capL st as).map (x::·)
theorem Zfu (st:St):∀ l:List Arg,l.mapM st.capOf=capL st l
 | []=>rfl
 | a::as=>by
  rw [List.mapM_cons,Zfu st as,capL,Zgc]
  cases capD st (st.get a) with
  | none=>rfl
  | some x=>cases capL st as<;>rfl
def ZfN (st:St) (d f:Nat) (ps:Option (List (Id×List U))):Option St:=ps.map fun ps=>(st.coolAll (ps.map (·.1))).put d (DU (.fn f (ps.map fun p=>.rp p.2)))
@[congr] theorem Zhm {st:St} {d f:Nat} {v v':Option (List (Id×List U))} (h:v=v'):ZfN st d f v=ZfN st d f v':=by rw [h]
def viaD (x:Option Obj) (id:Id) (sz m:Nat) (n:Int):Option D:=match x with
 | some (.deep z _)=>if 0≤n∧n<(m:Int)∧z=sz then some (.t (.sc (.ptr id n.toNat 0))) else none
 | _=>none
theorem Zge:(∀ (st:St) i n,st.coolC i (.down i n)=Ze9 i n (st.o i))∧(∀ (st:St) i a b n,st.coolC i (.sub i a b n)=Zgd a b n (st.o i))∧(∀ i n,C.kill i (.down i n)=.bad)∧(∀ i a b n,C.kill i (.sub i a b n)=.bad)∧
 (∀ i n z r,Ze9 i n (some (.deep z r))=.u (.sl z (r.take n)))∧(∀ f z r,Obj.mapC f (.deep z r)=.deep z r)∧
 (∀ f i n,C.ren f (.down i n)=renD (f i) n)∧(∀ j n,renD (some j) n=.down j n)∧(∀ d j n,C.ren (Zah d) (.down (.par j) n)=.down (.loc d j) n)∧
 (∀ (st:St) id n,st.lend (.down id n)=vdl (st.o id) n)∧(∀ z r n,vdl (some (.deep z r)) n=if n≤r.length then some (.u (.sl z (r.take n))) else none)∧
 (∀ (st:St) id i c n,st.lend (.sub id i c n)=vsl (st.o id) i c n)∧(∀ z r i c n,vsl (some (.deep z r)) i c n=(ZaY r i c n).map .u):=by
 refine ⟨fun st i n=>?_,fun st i a b n=>?_,fun i n=>by simp [C.kill],fun i a b n=>by simp [C.kill],fun i n z r=>rfl,fun f z r=>rfl,fun f i n=>?_,fun j n=>rfl,fun d j n=>rfl,fun st id n=>?_,fun z r n=>rfl,fun st id i c n=>?_,fun z r i c n=>rfl⟩
 ·unfold St.coolC Ze9
  cases st.o i with
  | none=>simp [C.kill]
  | some ob=>cases ob<;>simp [C.cool,C.coolD,C.kill]
 ·unfold St.coolC Zgd
  cases st.o i with
  | none=>simp [C.kill]
  | some ob=>cases ob<;>simp [C.cool,C.coolD,C.kill]<;>rfl
 ·simp only[C.ren,renD]
  cases f i<;>rfl
 ·simp only[St.lend,vdl]
  cases st.o id with
  | none=>rfl
  | some ob=>cases ob<;>rfl
 ·simp only[St.lend,vsl]
  cases st.o id with
  | none=>rfl
  | some ob=>cases ob<;>rfl
theorem Zgf:(∀ st id n,C.fits st (.down id n)=Zfm (st.o id) n)∧(∀ z r n,Zfm (some (.deep z r)) n=(r.length==n))∧(∀ z r,Obj.data (.deep z r)=true)∧(∀ z r,Obj.flat (.deep z r)=true)∧
 (∀ i n,C.isSl (.down i n)=false)∧(∀ i n cs,idsC (.down i n::cs)=i::idsC cs)∧(∀ i a b n cs,idsC (.sub i a b n::cs)=i::idsC cs)∧
 (∀ id z r i o n,vrd id (some (.deep z r)) i o n=(r[i]?).bind fun cs=>(seg cs o n).map (toCs id i o))∧(∀ id i c,toCs id i c []=[])∧(∀ id i c x xs,toCs id i c (x::xs)=toC id i c x::toCs id i (c+1) xs)∧
 (∀ id i c k n,toC id i c (.int k n)=.u (.int k n))∧(∀ id i c b,toC id i c (.bool b)=.u (.bool b))∧(∀ id i c s,toC id i c (.str s)=.u (.str s))∧(∀ id i c z r,toC id i c (.sl z r)=.sub id i c r.length)∧
 (∀ z r,visr (some (.deep z r))=false)∧
 (∀ (st:St) id z r i o xs,vwr st id (some (.deep z r)) i o xs=(uAll xs).bind fun us=>(r[i]?).bind fun cs=>(seg cs o xs.length).bind fun old=>if us.all U.scal=true∧old.all U.scal=true then (Zx cs o us).map fun c=>st.obj id (some (.deep z (r.set i c))) else none)∧
 (∀ k n,U.scal (.int k n)=true)∧(∀ b,U.scal (.bool b)=true)∧(∀ s,U.scal (.str s)=true)∧
 (∀ n z rs,kidC n (some (.sl z rs))=if rs.length=n then some (.sl z rs) else none)∧
 (∀ (st:St) sz id m n,via st sz (.t (.sc (.down id m))) (DI n)=viaD (st.o id) id sz m n)∧(∀ id z r m (i:Nat),viaD (some (.deep z r)) id z m (i:Int)=if i<m then some (.t (.sc (.ptr id i 0))) else none)∧
 (∀ i n,lenOf (.down i n)=some n)∧(∀ i a b n,lenOf (.sub i a b n)=some n)∧
 (∀ (st:St) cs n agg,vld st (.t (.sc (.u (.rp cs)))) n agg=(seg cs 0 n).bind fun cs=>(Zl agg (cs.map .u)).map .t):=by
 refine ⟨fun st id n=>?_,fun z r n=>rfl,fun z r=>rfl,fun z r=>rfl,fun i n=>rfl,fun i n cs=>rfl,fun i a b n cs=>rfl,fun id z r i o n=>rfl,fun id i c=>rfl,fun id i c x xs=>rfl,fun id i c k n=>rfl,fun id i c b=>rfl,fun id i c s=>rfl,fun id i c z r=>rfl,fun z r=>rfl,fun st id z r i o xs=>?_,fun k n=>rfl,fun b=>rfl,fun s=>rfl,fun n z rs=>rfl,fun st sz id m n=>?_,fun id z r m i=>by simp [viaD],fun i n=>rfl,fun i a b n=>rfl,fun st cs n agg=>rfl⟩
 ·simp only[C.fits,Zfm]
  cases st.o id with
  | none=>rfl
  | some ob=>cases ob<;>rfl
 ·simp only[vwr,Zb1]
 ·simp only[via,D.int?,Option.bind_some,viaD]
  cases st.o id with
  | none=>rfl
  | some ob=>cases ob<;>rfl
theorem Zgg:(∀ (st:St) u,st.give (.u u)=sel u.scal (some u) none)∧(∀ (st:St) id n,st.give (.own id n)=gvO (st.o id) n (Zk id))∧(∀ (st:St) id n,st.give (.down id n)=gvD (st.o id) n (Zk id))∧
 (∀ z r n,gvO (some (.row z r)) n true=sel (r.length==n&&Zbm r) (some (.sl z r)) none)∧(∀ z r n,gvD (some (.deep z r)) n true=sel (r.length==n) (some (.sl z r)) none)∧
 (∀ st,Zb5 st []=some [])∧(∀ st c cs,Zb5 st (c::cs)=(st.give c).bind fun u=>(Zb5 st cs).map (u::·))∧(∀ id,hasI id []=false)∧(∀ id i is,hasI id (i::is)=(id==i||hasI id is))∧
 (∀ (st:St),st.killAll []=st)∧(∀ (st:St) i is,st.killAll (i::is)=(st.kill i).killAll is)∧
 (∀ i u,C.unsub i (.u u)=.u u)∧(∀ i j n,C.unsub i (.own j n)=.own j n)∧(∀ i j n,C.unsub i (.down j n)=.down j n)∧(∀ i j a b,C.unsub i (.ptr j a b)=.ptr j a b)∧(∀ i,C.unsub i .bad=.bad)∧(∀ i a b n,C.unsub i (.sub i a b n)=.bad)∧
 Zbm []=true∧(∀ r rs,Zbm (r::rs)=(r.all U.scal&&Zbm rs))∧(∀ z,U.zed (.sl z [])=true)∧(∀ k n,U.zed (.int k n)=true)∧(∀ b,U.zed (.bool b)=true)∧(∀ s,U.zed (.str s)=true):=by
 refine ⟨fun st u=>?_,fun st id n=>?_,fun st id n=>?_,fun z r n=>?_,fun z r n=>?_,fun st=>rfl,fun st c cs=>rfl,fun id=>rfl,fun id i is=>rfl,fun st=>rfl,fun st i is=>rfl,fun i u=>rfl,fun i j n=>rfl,fun i j n=>rfl,fun i j a b=>rfl,fun i=>rfl,fun i a b n=>by simp [C.unsub],rfl,fun r rs=>rfl,fun z=>rfl,fun k n=>rfl,fun b=>rfl,fun s=>rfl⟩
 ·simp only[St.give,sel]
 ·simp only[St.give,gvO]
  cases st.o id with
  | none=>rfl
  | some ob=>cases ob<;>rfl
 ·simp only[St.give,gvD]
  cases st.o id with
  | none=>rfl
  | some ob=>cases ob<;>rfl
 ·simp [gvO,sel]
 ·simp [gvD,sel]
theorem Zgh:(∀ (F:Nat→Option IFn) (fin:St→Option Ret) (is:List Za) (os:List GOp) (st:St) n a x,RR F fin is (⟨.std n a x,none⟩::os) st=RS F fin is os (Zee st n (st.get a) (st.get x)))∧
  (∀ (st:St) n id i o v,Zee st n (.t (.sc (.ptr id i o))) (.t v)=sd1 st n id i o v (st.o id))∧(∀ (st:St) n id i o v z r,sd1 st n id i o v (some (.deep z r))=sd2 st id n z i o r v.ids (Zb5 st v.cells) (r[i]?))∧
  (∀ (st:St) id n z i o r ids us cs,sd2 st id n z i o r ids (some us) (some cs)=sd3 st id z i o r ids us cs (us.length==n&&(Zk id&&(ZaG ids&&!hasI id ids))))∧
  (∀ (st:St) id z i o r ids us cs,sd3 st id z i o r ids us cs true=(Zx cs o us).map fun c=>((st.killAll ids).mapC (C.unsub id)).obj id (some (.deep z (r.set i c))))∧
  (∀ (F:Nat→Option IFn) (fin:St→Option Ret) (is:List Za) (os:List GOp) (st:St) d n c zero bytes,RR F fin is (⟨.mkd d n c zero bytes,none⟩::os) st=RS F fin is os (Zhl st d (st.get n) (st.get c) zero bytes))∧
  (∀ (st:St) d (n c:Int) zero bytes,Zhl st d (DI n) (DI c) zero bytes=if 0≤n∧n≤c∧c.toNat*bytes≤140737488355328∧zero.all U.zed=true then some (((st.cool (.loc d 0)).obj (.loc d 0) (some (.deep zero.length (List.replicate n.toNat zero)))).put d (.t (.sc (.down (.loc d 0) n.toNat)))) else none)∧
  (∀ (F:Nat→Option IFn) (fin:St→Option Ret) (is:List Za) (os:List GOp) (st:St) d f dp xs,RR F fin is (⟨.callk d f dp xs,none⟩::os) st=RS F fin is os (CK1 F st d f dp (getL st xs)))∧
  (∀ (F:Nat→Option IFn) (st:St) d f dp vs,CK1 F st d f dp (some vs)=CK2 F st d f dp vs (subL vs))∧subL []=[]∧(∀ v vs,subL (v::vs)=subC v.cells++subL vs)∧subC []=[]∧(∀ u cs,subC (.u u::cs)=subC cs)∧(∀ i a b n cs,subC (.sub i a b n::cs)=(i,a,b,n)::subC cs)∧(∀ i n cs,subC (.own i n::cs)=subC cs)∧(∀ i n cs,subC (.down i n::cs)=subC cs)∧
  (∀ (F:Nat→Option IFn) (st:St) d f dp vs id i c n,CK2 F st d f dp vs [(id,i,c,n)]=CK3 F st d f dp vs id i c n (st.o id))∧(∀ (F:Nat→Option IFn) (st:St) d f dp vs id i c n z r,CK3 F st d f dp vs id i c n (some (.deep z r))=CK4 F st d f dp vs id i c n z r (ZaY r i c n))∧
  (∀ (F:Nat→Option IFn) (st:St) d f dp vs id i c n z r zk rs,CK4 F st d f dp vs id i c n z r (some (.sl zk rs))=CK5 F st d f dp id i c n z zk r (vs.map (T.mapC (C.foc dp))) (Zbk dp (.sl zk rs)))∧
  (∀ (F:Nat→Option IFn) (st:St) d f dp id i c n z zk r vs ob,CK5 F st d f dp id i c n z zk r vs (some ob)=CK6 st d dp id i c n z zk r (EE F f vs [ob]))∧
  (∀ (st:St) d dp id i c n z zk r res out,CK6 st d dp id i c n z zk r (some ⟨res,[],out⟩)=CK7 st d id i c z r res (Zai dp zk n out) (res.all fun x=>x.cells.all fun c=>!c.isSl))∧
  (∀ (st:St) d id i c z r res x,CK7 st d id i c z r res (some x) true=some ((st.obj id (some (.deep z (Zam r i c x)))).put d (retD res)))∧
  (∀ z rs,Zbk true (.sl z rs)=some (.deep z rs))∧(∀ z rs,Zbk false (.sl z rs)=sel (Zbm rs) (some (.row z rs)) none)∧
  (∀ z n z' r,Zai false z n [.row z' r]=sel (z'==z&&(r.length==n&&Zbm r)) (some (.sl z r)) none)∧(∀ z n z' r,Zai true z n [.deep z' r]=sel (z'==z&&r.length==n) (some (.sl z r)) none)∧
  (∀ dp u,C.foc dp (.u u)=.u u)∧(∀ i a b n,C.foc true (.sub i a b n)=.down (.par 0) n)∧(∀ i a b n,C.foc false (.sub i a b n)=.own (.par 0) n)∧
  (∀ (F:Nat→Option IFn) (fin:St→Option Ret) (is:List Za) (os:List GOp) (st:St) d f xs,RR F fin is (⟨.mkf d f xs,none⟩::os) st=RS F fin is os (ZfN st d f (capL st xs)))∧
  (∀ (st:St) d f ps,ZfN st d f (some ps)=some ((st.coolAll (ps.map (·.1))).put d (DU (.fn f (ps.map fun p=>.rp p.2)))))∧(∀ st,capL st []=some [])∧(∀ st a as,capL st (a::as)=(capD st (st.get a)).bind fun x=>(capL st as).map (x::·))∧
  (∀ st id,capD st (.t (.sc (.ptr id 0 0)))=capV id (st.o id))∧(∀ id cs,capV id (some (.box cs))=(uAll cs).map fun us=>(id,us)):=by
  refine ⟨fun F fin is os st n a x=>Zak F fin is os st (Zh8 ..),fun st n id i o v=>rfl,fun st n id i o v z r=>rfl,fun st id n z i o r ids us cs=>rfl,fun st id z i o r ids us cs=>rfl,
    fun F fin is os st d n c zero bytes=>Zak F fin is os st rfl,fun st d n c zero bytes=>rfl,fun F fin is os st d f dp xs=>Zak F fin is os st ?_,fun F st d f dp vs=>rfl,rfl,fun v vs=>by simp only[subL,ZfO],rfl,fun u cs=>rfl,fun i a b n cs=>rfl,fun i n cs=>rfl,fun i n cs=>rfl,
    fun F st d f dp vs id i c n=>rfl,fun F st d f dp vs id i c n z r=>rfl,fun F st d f dp vs id i c n z r zk rs=>rfl,fun F st d f dp id i c n z zk r vs ob=>rfl,fun st d dp id i c n z zk r res out=>?_,fun st d id i c z r res x=>rfl,fun z rs=>rfl,fun z rs=>rfl,fun z n z' r=>?_,fun z n z' r=>?_,fun dp u=>rfl,fun i a b n=>rfl,fun i a b n=>rfl,
    fun F fin is os st d f xs=>Zak F fin is os st ?_,fun st d f ps=>rfl,fun st=>rfl,fun st a as=>rfl,fun st id=>rfl,fun id cs=>rfl⟩
  · simp only[step,CK1,Za9,ZfP]; rfl
  · simp only[CK6,CK7,Option.bind_some]
    cases Zai dp zk n out with
    | none=>rfl
    | some x=>
      simp only[Option.bind_some,Ret.quiet,List.all_nil,Bool.true_and,true_and]
  · simp only[Zai,sel,true_and]
    by_cases h:z'=z
    · subst h
      by_cases h2:r.length=n
      · by_cases h3:Zbm r=true
        · have h3':(r.all fun q=>q.all U.scal)=true:=h3
          simp [h2,h3,h3']
        · have h3':¬(r.all fun q=>q.all U.scal)=true:=h3
          rw [if_neg (fun h=>h3' h.2.2),if_neg (by simp [h3])]
      · simp [h2]
    · simp [h]
  · simp only[Zai,sel,true_and]
    by_cases h:z'=z
    · subst h
      by_cases h2:r.length=n<;>simp [h2]
    · simp [h]
  · simp only[step,Zfu]; rfl
theorem Zhc:(type_of% Zge)∧(type_of% Zgf)∧(type_of% Zgg)∧(type_of% Zgh)∧(type_of% @Zb3)∧(type_of% @Zcn)∧(type_of% @Zcx)∧(type_of% @ZcZ)∧(type_of% @ZcF)∧(type_of% ZeJ):=
 ⟨Zge,Zgf,Zgg,Zgh,@Zb3,@Zcn,@Zcx,@ZcZ,@ZcF,ZeJ⟩
/-! ### Functions that take what they are handed -/
def FW (lent:List Id) (st:St) (xs:List T) (ids:List Id) (new:Option (List Obj)):Option Ret:=new.bind fun new=>sel (ZaG ids&&xs.all (fun x=>x.cells.all (C.fits st))&&new.all Obj.data&&(lent.isEmpty||ids.isEmpty)) (some ⟨xs.map (T.mapC (C.ren fun i=>posI i 0 ids)),new,[]⟩) none
theorem ZiM (res:List IRes) (n:Nat) (st:St):FT res (n+1) st=(ZaQ st res).bind fun xs=>FW (Zan st res) st xs (xs.flatMap T.ids) (Zv st (xs.flatMap T.ids)):=by
 have h1:∀ xs:List T,(fun i=>posI i 0 (xs.flatMap T.ids))=Zat (xs.flatMap T.ids):=fun xs=>by
  funext i; rw [Zdd]; simp [Zat]
 simp only[FT,Zcb,ZcP,Zbs,Zan]
 cases ZaQ st res with
 | none=>rfl
 | some xs=>
  simp only[Option.bind_some,FW]
  cases Zv st (xs.flatMap T.ids) with
  | none=>rfl
  | some new=>simp [sel,←ZbW,h1,Zv]
theorem tkR:(∀ (F:Nat→Option IFn) (fin:St→Option Ret) (is:List Za) (os:List GOp) (st:St) d f xs,RR F fin is (⟨.callc d f xs,none⟩::os) st=RS F fin is os (step (EE F) st (.callc d f xs)))∧
 (∀ res n st,FT res (n+1) st=(ZaQ st res).bind fun xs=>FW (Zan st res) st xs (xs.flatMap T.ids) (Zv st (xs.flatMap T.ids)))∧
 (∀ l st xs ids new,FW l st xs ids (some new)=sel (ZaG ids&&xs.all (fun x=>x.cells.all (C.fits st))&&new.all Obj.data&&(l.isEmpty||ids.isEmpty)) (some ⟨xs.map (T.mapC (C.ren fun i=>posI i 0 ids)),new,[]⟩) none)∧
 (∀ b,(true||b)=true)∧(∀ b,(false||b)=b)∧(∀ b,(b||true)=true)∧(∀ b,(b||false)=b):=
 ⟨fun F fin is os st d f xs=>Zak F fin is os st rfl,ZiM,fun _ _ _ _ _=>rfl,fun _=>rfl,fun _=>rfl,Bool.or_true,Bool.or_false⟩
theorem xS0:(∀ d a,IOp.dst (.mv d a)=some d∧IOp.isF (.mv d a)=true∧IOp.args (.mv d a)=[a]∧∀ st m,Zh st m (.mv d a)=st)∧
 (∀ d c a b,IOp.dst (.pick d c a b)=some d∧IOp.isF (.pick d c a b)=true∧IOp.args (.pick d c a b)=[c,a,b]∧∀ st m,Zh st m (.pick d c a b)=st)∧
 (∀ d z,IOp.dst (.alloc d z)=some d∧IOp.isF (.alloc d z)=false∧IOp.args (.alloc d z)=[]∧∀ st m,Zh st m (.alloc d z)=st.cool (.loc d 0))∧
 (∀ d a,IOp.dst (.box d a)=some d∧IOp.isF (.box d a)=false∧IOp.args (.box d a)=[a]∧∀ st m,Zh st m (.box d a)=st.cool (.loc d 0))∧
 (∀ d z p,IOp.dst (.build d z p)=some d∧IOp.isF (.build d z p)=true∧IOp.args (.build d z p)=(p.map fun p=>p.2.2)∧∀ st m,Zh st m (.build d z p)=st)∧
 (∀ d n z p,IOp.dst (.lit d n z p)=some d∧IOp.isF (.lit d n z p)=false∧IOp.args (.lit d n z p)=p.map (·.2)∧∀ st m,Zh st m (.lit d n z p)=st.cool (.loc d 0))∧
 (∀ d a n g,IOp.dst (.ld d a n g)=some d∧IOp.isF (.ld d a n g)=true∧IOp.args (.ld d a n g)=[a]∧∀ st m,Zh st m (.ld d a n g)=st):=
 ⟨fun _ _=>⟨rfl,rfl,rfl,fun _ _=>rfl⟩,fun _ _ _ _=>⟨rfl,rfl,rfl,fun _ _=>rfl⟩,fun _ _=>⟨rfl,rfl,rfl,fun _ _=>rfl⟩,fun _ _=>⟨rfl,rfl,rfl,fun _ _=>rfl⟩,fun _ _ _=>⟨rfl,rfl,rfl,fun _ _=>rfl⟩,fun _ _ _ _=>⟨rfl,rfl,rfl,fun _ _=>rfl⟩,fun _ _ _ _=>⟨rfl,rfl,rfl,fun _ _=>rfl⟩⟩
theorem xS1:(∀ n a x,IOp.dst (.st n a x)=none∧IOp.isF (.st n a x)=false∧IOp.args (.st n a x)=[a,x]∧∀ st m,Zh st m (.st n a x)=st)∧
 (∀ d a o,IOp.dst (.fa d a o)=some d∧IOp.isF (.fa d a o)=true∧IOp.args (.fa d a o)=[a]∧∀ st m,Zh st m (.fa d a o)=st)∧
 (∀ d s x i,IOp.dst (.ia d s x i)=some d∧IOp.isF (.ia d s x i)=true∧IOp.args (.ia d s x i)=[x,i]∧∀ st m,Zh st m (.ia d s x i)=st)∧
 (∀ d x i,IOp.dst (.ix d x i)=some d∧IOp.isF (.ix d x i)=true∧IOp.args (.ix d x i)=[x,i]∧∀ st m,Zh st m (.ix d x i)=st)∧
 (∀ d o x y,IOp.dst (.bin d o x y)=some d∧IOp.isF (.bin d o x y)=true∧IOp.args (.bin d o x y)=[x,y]∧∀ st m,Zh st m (.bin d o x y)=st)∧
 (∀ d k n x y,IOp.dst (.eqs d k n x y)=some d∧IOp.isF (.eqs d k n x y)=true∧IOp.args (.eqs d k n x y)=[x,y]∧∀ st m,Zh st m (.eqs d k n x y)=st)∧
 (∀ d n x y,IOp.dst (.beq d n x y)=some d∧IOp.isF (.beq d n x y)=true∧IOp.args (.beq d n x y)=[x,y]∧∀ st m,Zh st m (.beq d n x y)=st):=
 ⟨fun _ _ _=>⟨rfl,rfl,rfl,fun _ _=>rfl⟩,fun _ _ _=>⟨rfl,rfl,rfl,fun _ _=>rfl⟩,fun _ _ _ _=>⟨rfl,rfl,rfl,fun _ _=>rfl⟩,fun _ _ _=>⟨rfl,rfl,rfl,fun _ _=>rfl⟩,fun _ _ _ _=>⟨rfl,rfl,rfl,fun _ _=>rfl⟩,fun _ _ _ _ _=>⟨rfl,rfl,rfl,fun _ _=>rfl⟩,fun _ _ _ _=>⟨rfl,rfl,rfl,fun _ _=>rfl⟩⟩
theorem xS2:(∀ d n x,IOp.dst (.isn d n x)=some d∧IOp.isF (.isn d n x)=true∧IOp.args (.isn d n x)=[x]∧∀ st m,Zh st m (.isn d n x)=st)∧
 (∀ d x,IOp.dst (.not d x)=some d∧IOp.isF (.not d x)=true∧IOp.args (.not d x)=[x]∧∀ st m,Zh st m (.not d x)=st)∧
 (∀ d x,IOp.dst (.neg d x)=some d∧IOp.isF (.neg d x)=true∧IOp.args (.neg d x)=[x]∧∀ st m,Zh st m (.neg d x)=st)∧
 (∀ d k x,IOp.dst (.conv d k x)=some d∧IOp.isF (.conv d k x)=true∧IOp.args (.conv d k x)=[x]∧∀ st m,Zh st m (.conv d k x)=st)∧
 (∀ d x,IOp.dst (.cstr d x)=some d∧IOp.isF (.cstr d x)=true∧IOp.args (.cstr d x)=[x]∧∀ st m,Zh st m (.cstr d x)=st)∧
 (∀ d x,IOp.dst (.bstr d x)=some d∧IOp.isF (.bstr d x)=true∧IOp.args (.bstr d x)=[x]∧∀ st m,Zh st m (.bstr d x)=st)∧
 (∀ d x,IOp.dst (.len d x)=some d∧IOp.isF (.len d x)=true∧IOp.args (.len d x)=[x]∧∀ st m,Zh st m (.len d x)=st):=
 ⟨fun _ _ _=>⟨rfl,rfl,rfl,fun _ _=>rfl⟩,fun _ _=>⟨rfl,rfl,rfl,fun _ _=>rfl⟩,fun _ _=>⟨rfl,rfl,rfl,fun _ _=>rfl⟩,fun _ _ _=>⟨rfl,rfl,rfl,fun _ _=>rfl⟩,fun _ _=>⟨rfl,rfl,rfl,fun _ _=>rfl⟩,fun _ _=>⟨rfl,rfl,rfl,fun _ _=>rfl⟩,fun _ _=>⟨rfl,rfl,rfl,fun _ _=>rfl⟩⟩
theorem xS3:(∀ d x,IOp.dst (.slen d x)=some d∧IOp.isF (.slen d x)=true∧IOp.args (.slen d x)=[x]∧∀ st m,Zh st m (.slen d x)=st)∧
 (∀ d v x y,IOp.dst (.mnmx d v x y)=some d∧IOp.isF (.mnmx d v x y)=true∧IOp.args (.mnmx d v x y)=[x,y]∧∀ st m,Zh st m (.mnmx d v x y)=st)∧
 (∀ d s x l h,IOp.dst (.slc d s x l h)=some d∧IOp.isF (.slc d s x l h)=false∧IOp.args (.slc d s x l h)=x::l.toList++h.toList∧∀ st m,Zh st m (.slc d s x l h)=st)∧
 (∀ d x l h,IOp.dst (.ssl d x l h)=some d∧IOp.isF (.ssl d x l h)=true∧IOp.args (.ssl d x l h)=x::l.toList++h.toList∧∀ st m,Zh st m (.ssl d x l h)=st)∧
 (∀ d s,IOp.dst (.nilr d s)=some d∧IOp.isF (.nilr d s)=false∧IOp.args (.nilr d s)=[]∧∀ st m,Zh st m (.nilr d s)=st.cool (.loc d 0))∧
 (∀ d n c z b,IOp.dst (.mk d n c z b)=some d∧IOp.isF (.mk d n c z b)=false∧IOp.args (.mk d n c z b)=[n,c]∧∀ st m,Zh st m (.mk d n c z b)=st.cool (.loc d 0))∧
 (∀ d s x y b,IOp.dst (.app d s x y b)=some d∧IOp.isF (.app d s x y b)=false∧IOp.args (.app d s x y b)=[x,y]∧∀ st m,Zh st m (.app d s x y b)=sel (m==0) st (st.cool (.loc d 0))):=
 ⟨fun _ _=>⟨rfl,rfl,rfl,fun _ _=>rfl⟩,fun _ _ _ _=>⟨rfl,rfl,rfl,fun _ _=>rfl⟩,fun _ _ _ _ _=>⟨rfl,rfl,rfl,fun _ _=>rfl⟩,fun _ _ _ _=>⟨rfl,rfl,rfl,fun _ _=>rfl⟩,fun _ _=>⟨rfl,rfl,rfl,fun _ _=>rfl⟩,fun _ _ _ _ _=>⟨rfl,rfl,rfl,fun _ _=>rfl⟩,fun _ _ _ _ _=>⟨rfl,rfl,rfl,fun _ _=>by simp [Zh,sel]⟩⟩
theorem xS4:(∀ d x i,IOp.dst (.ext d x i)=some d∧IOp.isF (.ext d x i)=true∧IOp.args (.ext d x i)=[x]∧∀ st m,Zh st m (.ext d x i)=st)∧
 (∀ d x o n g,IOp.dst (.fld d x o n g)=some d∧IOp.isF (.fld d x o n g)=true∧IOp.args (.fld d x o n g)=[x]∧∀ st m,Zh st m (.fld d x o n g)=st)∧
 (∀ d x,IOp.dst (.nilc d x)=some d∧IOp.isF (.nilc d x)=true∧IOp.args (.nilc d x)=[x]∧∀ st m,Zh st m (.nilc d x)=st)∧
 (∀ d f xs,IOp.dst (.call d f xs)=some d∧IOp.isF (.call d f xs)=false∧IOp.args (.call d f xs)=xs∧∀ st m,Zh st m (.call d f xs)=st.coolTo d m)∧
 (∀ d f xs,IOp.dst (.callr d f xs)=some d∧IOp.isF (.callr d f xs)=false∧IOp.args (.callr d f xs)=xs∧∀ st m,Zh st m (.callr d f xs)=st.coolTo d m)∧
 (∀ d f x xs,IOp.dst (.callv d f x xs)=some d∧IOp.isF (.callv d f x xs)=false∧IOp.args (.callv d f x xs)=x::xs∧∀ st m,Zh st m (.callv d f x xs)=st)∧
 (∀ d,IOp.dst (.junk d)=some d∧IOp.isF (.junk d)=true∧IOp.args (.junk d)=[]∧∀ st m,Zh st m (.junk d)=st):=
 ⟨fun _ _ _=>⟨rfl,rfl,rfl,fun _ _=>rfl⟩,fun _ _ _ _ _=>⟨rfl,rfl,rfl,fun _ _=>rfl⟩,fun _ _=>⟨rfl,rfl,rfl,fun _ _=>rfl⟩,fun _ _ _=>⟨rfl,rfl,rfl,fun _ _=>rfl⟩,fun _ _ _=>⟨rfl,rfl,rfl,fun _ _=>rfl⟩,fun _ _ _ _=>⟨rfl,rfl,rfl,fun _ _=>rfl⟩,fun _=>⟨rfl,rfl,rfl,fun _ _=>rfl⟩⟩
theorem xS5:(∀ d,IOp.dst (.emp d)=some d∧IOp.isF (.emp d)=true∧IOp.args (.emp d)=[]∧∀ st m,Zh st m (.emp d)=st)∧
 (∀ d a,IOp.dst (.cl d a)=some d∧IOp.isF (.cl d a)=false∧IOp.args (.cl d a)=[a]∧∀ st m,Zh st m (.cl d a)=st)∧
 (∀ n a x,IOp.dst (.stc n a x)=none∧IOp.isF (.stc n a x)=false∧IOp.args (.stc n a x)=[a,x]∧∀ st m,Zh st m (.stc n a x)=st)∧
 (∀ d s x h,IOp.dst (.slp d s x h)=some d∧IOp.isF (.slp d s x h)=false∧IOp.args (.slp d s x h)=[x,h]∧∀ st m,Zh st m (.slp d s x h)=st)∧
 (∀ d n c z b,IOp.dst (.mkd d n c z b)=some d∧IOp.isF (.mkd d n c z b)=false∧IOp.args (.mkd d n c z b)=[n,c]∧∀ st m,Zh st m (.mkd d n c z b)=st)∧
 (∀ d k z a,IOp.dst (.litd d k z a)=some d∧IOp.isF (.litd d k z a)=false∧IOp.args (.litd d k z a)=[a]∧∀ st m,Zh st m (.litd d k z a)=st)∧
 (∀ d s x y b,IOp.dst (.appd d s x y b)=some d∧IOp.isF (.appd d s x y b)=false∧IOp.args (.appd d s x y b)=[x,y]∧∀ st m,Zh st m (.appd d s x y b)=st):=
 ⟨fun _=>⟨rfl,rfl,rfl,fun _ _=>rfl⟩,fun _ _=>⟨rfl,rfl,rfl,fun _ _=>rfl⟩,fun _ _ _=>⟨rfl,rfl,rfl,fun _ _=>rfl⟩,fun _ _ _ _=>⟨rfl,rfl,rfl,fun _ _=>rfl⟩,fun _ _ _ _ _=>⟨rfl,rfl,rfl,fun _ _=>rfl⟩,fun _ _ _ _=>⟨rfl,rfl,rfl,fun _ _=>rfl⟩,fun _ _ _ _ _=>⟨rfl,rfl,rfl,fun _ _=>rfl⟩⟩
theorem xS6:(∀ n a x,IOp.dst (.std n a x)=none∧IOp.isF (.std n a x)=false∧IOp.args (.std n a x)=[a,x]∧∀ st m,Zh st m (.std n a x)=st)∧
 (∀ d f p xs,IOp.dst (.callk d f p xs)=some d∧IOp.isF (.callk d f p xs)=false∧IOp.args (.callk d f p xs)=xs∧∀ st m,Zh st m (.callk d f p xs)=st)∧
 (∀ d f c,IOp.dst (.mkf d f c)=some d∧IOp.isF (.mkf d f c)=false∧IOp.args (.mkf d f c)=c∧∀ st m,Zh st m (.mkf d f c)=st)∧
 (∀ d f xs,IOp.dst (.callc d f xs)=some d∧IOp.isF (.callc d f xs)=false∧IOp.args (.callc d f xs)=xs∧∀ st m,Zh st m (.callc d f xs)=st):=
 ⟨fun _ _ _=>⟨rfl,rfl,rfl,fun _ _=>rfl⟩,fun _ _ _ _=>⟨rfl,rfl,rfl,fun _ _=>rfl⟩,fun _ _ _=>⟨rfl,rfl,rfl,fun _ _=>rfl⟩,fun _ _ _=>⟨rfl,rfl,rfl,fun _ _=>rfl⟩⟩
theorem xSe:(∀ k k' u u' ks xs ys,eqSh (.i::ks) (.u (.int k u)::xs) (.u (.int k' u')::ys)=(decide (k=k')&&eqSh ks xs ys))∧(∀ u u' ks xs ys,eqSh (.b::ks) (.u (.bool u)::xs) (.u (.bool u')::ys)=eqSh ks xs ys)∧
 (∀ u u' ks xs ys,eqSh (.s::ks) (.u (.str u)::xs) (.u (.str u')::ys)=eqSh ks xs ys)∧eqSh [] [] []=true∧eqBs [] [] []=true∧
 (∀ k k' a b ks xs ys,eqBs (.i::ks) (.u (.int k a)::xs) (.u (.int k' b)::ys)=(decide (a=b)&&eqBs ks xs ys))∧(∀ a b ks xs ys,eqBs (.b::ks) (.u (.bool a)::xs) (.u (.bool b)::ys)=(decide (a=b)&&eqBs ks xs ys))∧
 (∀ a b ks xs ys,eqBs (.s::ks) (.u (.str a)::xs) (.u (.str b)::ys)=(decide (a=b)&&eqBs ks xs ys)):=
 ⟨fun _ _ _ _ _ _ _=>rfl,fun _ _ _ _ _=>rfl,fun _ _ _ _ _=>rfl,rfl,rfl,fun _ _ _ _ _ _ _=>rfl,fun _ _ _ _ _=>rfl,fun _ _ _ _ _=>rfl⟩
theorem xD:(type_of% xS0)∧(type_of% xS1)∧(type_of% xS2)∧(type_of% xS3)∧(type_of% xS4)∧(type_of% xS5)∧(type_of% xS6)∧(type_of% Zhc):=⟨xS0,xS1,xS2,xS3,xS4,xS5,xS6,Zhc⟩
theorem xS:(type_of% xD)∧(type_of% xSe)∧(type_of% @Zdl)∧(type_of% @decide_true)∧(type_of% tkR):=⟨xD,xSe,@Zdl,@decide_true,tkR⟩
end Go.Proofs.YtfajcehhcjmofaaV
