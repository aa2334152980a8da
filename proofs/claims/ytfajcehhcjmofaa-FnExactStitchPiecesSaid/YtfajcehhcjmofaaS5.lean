/- The simplifier's rules for what a call hands back. No conditions. -/
import Derived.Test.YtfajcehhcjmofaaS4
namespace Go.Proofs.YtfajcehhcjmofaaV
open Go Go.RowKit
set_option linter.unusedVariables false
set_option linter.unusedSimpArgs false
def ZaG:List Id→Bool
 | []=>true
 | i::is=>(is.all fun j=>!(i==j))&&ZaG is
theorem ZbW:∀ is:List Id,decide is.Nodup=ZaG is
 | []=>rfl
 | i::is=>by
  rw [Bool.eq_iff_iff]
  simp only[decide_eq_true_eq,List.nodup_cons,ZaG,Bool.and_eq_true,List.all_eq_true,←ZbW is,Bool.not_eq_true',beq_eq_false_iff_ne,ne_eq]
  exact and_congr_left' ⟨fun h j hj e=>h (e▸hj),fun h hi=>h i hi rfl⟩
def posI (id:Id):Nat→List Id→Option Id
 | _,[]=>none
 | k,i::is=>sel (i==id) (some (.par k)) (posI id (k+1) is)
theorem Zdd (id:Id):∀ (is:List Id) (k:Nat),posI id k is=(is.idxOf? id).map fun j=>.par (k+j)
 | [],k=>rfl
 | i :: is,k=>by
  rw [List.idxOf?_cons,posI,Zdd id is (k+1)]
  cases h:(i==id) with
  | true=>simp [sel]
  | false=>
   simp only[sel,Bool.false_eq_true,if_false,Option.map_map]
   congr 1
   funext j
   simp only[Function.comp]
   congr 1
   omega
def parL:Nat→Nat→List Id
 | 0,_=>[]
 | n+1,k=>.par k::parL n (k+1)
theorem ZfI:∀ (n k:Nat),parL n k=(List.range' k n).map Id.par
 | 0,_=>rfl
 | n+1,k=>by rw [parL,ZfI n (k+1),List.range'_succ,List.map_cons]
def ZfG (st:St) (xs:List T) (ids:List Id) (new out:List Obj):Bool:=ids.all Zk&&ZaG ids&&xs.all (fun x=>x.cells.all (C.fits st))&&new.all Obj.data&&out.all Obj.data
def FZ (st:St) (xs:List T) (ids:List Id) (new out:Option (List Obj)):Option Ret:=new.bind fun new=>out.bind fun out=>sel (ZfG st xs ids new out) (some ⟨xs.map (T.mapC (C.ren fun i=>posI i 0 ids)),new,out⟩) none
theorem ZiP (st:St) (n:Nat) (xs:List T):FX st n (some xs)=FZ st xs (xs.flatMap T.ids) (Zv st (xs.flatMap T.ids)) (Zv st (parL n 0)):=by
 have h1:(fun i=>posI i 0 (xs.flatMap T.ids))=Zat (xs.flatMap T.ids):=by
  funext i; rw [Zdd]; simp [Zat]
 simp only[FX,Option.bind_some,FZ,ZfG,sel,←ZbW,h1,ZfI,←List.range_eq_range']
def ZgH (x:Option Obj) (n:Nat):Bool:=match x with
 | some (.row _ r)=>r.length==n
 | _=>false
def renO (x:Option Id) (n:Nat):C:=match x with
 | some j=>.own j n
 | none=>.bad
theorem vf:(∀ st n xs,FX st n (some xs)=FZ st xs (xs.flatMap T.ids) (Zv st (xs.flatMap T.ids)) (Zv st (parL n 0)))∧
 (∀ st xs ids new out,FZ st xs ids (some new) (some out)=sel (ZfG st xs ids new out) (some ⟨xs.map (T.mapC (C.ren fun i=>posI i 0 ids)),new,out⟩) none)∧
 (∀ st xs ids new out,ZfG st xs ids new out=(ids.all Zk&&ZaG ids&&xs.all (fun x=>x.cells.all (C.fits st))&&new.all Obj.data&&out.all Obj.data))∧
 (∀ st,Zv st []=some [])∧(∀ st i is,Zv st (i::is)=(st.o i).bind fun x=>(Zv st is).map (x::·))∧(∀ k,parL 0 k=[])∧(∀ n k,parL (n+1) k=.par k::parL n (k+1))∧
 ZaG []=true∧(∀ i is,ZaG (i::is)=((is.all fun j=>!(i==j))&&ZaG is))∧(∀ i k,posI i k []=none)∧(∀ id k i is,posI id k (i::is)=sel (i==id) (some (.par k)) (posI id (k+1) is))∧
 (∀ a b,Zk (.loc a b)=true)∧(∀ a,Zk (.par a)=false)∧(∀ z r,Obj.data (.row z r)=true)∧(∀ cs,Obj.data (.box cs)=cs.all fun c=>c.u?.isSome)∧
 (∀ st u,C.fits st (.u u)=true)∧(∀ st id n,C.fits st (.own id n)=ZgH (st.o id) n)∧(∀ z r n,ZgH (some (.row z r)) n=(r.length==n))∧
 (∀ f i n,C.ren f (.own i n)=renO (f i) n)∧(∀ j n,renO (some j) n=.own j n)∧(∀ d j,Zah d (.par j)=some (.loc d j))∧(∀ n:Nat,(n==n)=true)∧(∀ b:Bool,(b==b)=true)∧(∀ {α β:Type} (l:List α) (f:α→β),List.take l.length (l.map f)=l.map f)∧(∀ {α:Type} (l:List α),List.take l.length l=l)∧(∀ i:Id,(i==i)=true)∧(∀ {α:Type} (a:α),(some a).isSome=true)∧
 (∀ {α:Type} (a b:α),sel true a b=a)∧(∀ {α:Type} (a b:α),sel false a b=b):=by
 refine ⟨fun st n xs=>ZiP st n xs,?_,?_,?_,?_,?_,?_,?_,?_,?_,?_,?_,?_,?_,?_,?_,fun st id n=>?_,?_,?_,?_,?_,?_,?_,?_,?_,?_,?_,?_,?_⟩
 case refine_16=>
  simp only[C.fits,ZgH]
  cases st.o id with
  | none=>rfl
  | some ob=>cases ob<;>rfl
 all_goals intros
 all_goals first|rfl|(simp; done)|(rw [←List.map_take,List.take_length])
end Go.Proofs.YtfajcehhcjmofaaV
