/- A plain evaluator for a part of Go: its data, its operations, its code. No conditions: definitions alone. -/
import Derived.WalkKit
import Derived.RowKit
namespace Go.Proofs.YtfajcehhcjmofaaV
open Go Go.RowKit
/-- Data that nobody writes any more. -/
inductive U where
 | int (k:IntKind) (n:Int)
 | bool (b:Bool)
 | str (s:List UInt8)
 | sl (sz:Nat) (rows:List (List U))
 | nil
 | fn (f:Nat) (caps:List U)
 | rp (cells:List U)
/-- The call's own objects: by the slot at which they were made, or handed in. -/
inductive Id where
 | loc (t j:Nat)
 | par (j:Nat)
 deriving DecidableEq
/-- A cell: data; a slice over an own row; a pointer to a cell of an own object. -/
inductive C where
 | u (x:U)
 | own (id:Id) (n:Nat)
 | ptr (id:Id) (i o:Nat)
 | bad
 | down (id:Id) (n:Nat)
 | sub (id:Id) (i c n:Nat)
inductive T where
 | sc (c:C)
 | ag (cs:List C)
inductive D where
 | t (x:T)
 | rptr (cells:List U)
 | tup (xs:List T)
 | bad
 | emp
inductive Obj where
 | box (cells:List C)
 | row (sz:Nat) (rows:List (List U))
 | deep (sz:Nat) (rows:List (List U))
structure St where
 s:Nat→D
 o:Id→Option Obj
inductive Arg where
 | t (n:Nat)
 | k (c:U)
inductive B2 where
 | add|sub|mul|quo|rem|and|or|xor|shr|eq|ne|lt|le|gt|ge
/-- Kinds of fields that are compared: whole numbers, Bools, strings. -/
inductive EK where
 | i|b|s
 deriving DecidableEq
/-- Operations; the first number is the slot that is written. -/
inductive IOp where
 | mv (d:Nat) (a:Arg)
 | pick (d:Nat) (c a b:Arg)
 | alloc (d:Nat) (zero:List U)
 | box (d:Nat) (a:Arg)
 | build (d:Nat) (zero:List U) (parts:List (Nat×Nat×Arg))
 | lit (d:Nat) (n:Nat) (zero:List U) (parts:List (Nat×Arg))
 | ld (d:Nat) (a:Arg) (n:Nat) (agg:Bool)
 | st (n:Nat) (a x:Arg)
 | fa (d:Nat) (a:Arg) (off:Nat)
 | ia (d sz:Nat) (x i:Arg)
 | ix (d:Nat) (x i:Arg)
 | bin (d:Nat) (op:B2) (x y:Arg)
 | eqs (d:Nat) (ks:List EK) (ne:Bool) (x y:Arg)
 | beq (d:Nat) (ne:Bool) (x y:Arg)
 | isn (d:Nat) (ne:Bool) (x:Arg)
 | not (d:Nat) (x:Arg)
 | neg (d:Nat) (x:Arg)
 | conv (d:Nat) (k:IntKind) (x:Arg)
 | cstr (d:Nat) (x:Arg)
 | bstr (d:Nat) (x:Arg)
 | len (d:Nat) (x:Arg)
 | slen (d:Nat) (x:Arg)
 | mnmx (d:Nat) (mx:Bool) (x y:Arg)
 | slc (d sz:Nat) (x:Arg) (lo hi:Option Arg)
 | ssl (d:Nat) (x:Arg) (lo hi:Option Arg)
 | nilr (d sz:Nat)
 | mk (d:Nat) (n c:Arg) (zero:List U) (bytes:Nat)
 | app (d sz:Nat) (x y:Arg) (bytes:Nat)
 | ext (d:Nat) (x:Arg) (i:Nat)
 | fld (d:Nat) (x:Arg) (off n:Nat) (agg:Bool)
 | nilc (d:Nat) (x:Arg)
 | call (d:Nat) (f:Nat) (xs:List Arg)
 | callr (d:Nat) (f:Nat) (xs:List Arg)
 | callv (d:Nat) (fs:List Nat) (x:Arg) (xs:List Arg)
 | junk (d:Nat)
 | emp (d:Nat)
 | cl (d:Nat) (a:Arg)
 | stc (n:Nat) (a x:Arg)
 | slp (d sz:Nat) (x hi:Arg)
 | mkd (d:Nat) (n c:Arg) (zero:List U) (bytes:Nat)
 | litd (d k:Nat) (zero:List U) (a:Arg)
 | appd (d sz:Nat) (x y:Arg) (bytes:Nat)
 | std (n:Nat) (a x:Arg)
 | callk (d:Nat) (f:Nat) (dp:Bool) (xs:List Arg)
 | mkf (d:Nat) (f:Nat) (caps:List Arg)
 | callc (d:Nat) (f:Nat) (xs:List Arg)
/-- An operation that is carried out only if a slot holds this Bool. -/
structure GOp where
 op:IOp
 g:Option (Nat×Bool):=none
inductive IC where
 | skip
 | region (ops:List GOp)
 | draw (ops:List (GOp×List Nat))
 | seq (a b:IC)
 | cond (c:Arg) (a b:IC)
 | block (id:Nat) (c:IC)
 | loop (c:IC)
 | exit (id:Nat)
 | ret
inductive Za where
 | code (c:IC)
 | inBlock (id:Nat)
 | inLoop (c:IC)
inductive IRes where
 | tmp (t:Nat)
 | cell (t:Nat) (n:Nat) (agg:Bool)
 | tmpd (t:Nat)
 | celld (t:Nat) (n:Nat) (agg:Bool)
structure IFn where
  np:Nat
  body:IC
  res:List IRes
  /-- Whether the objects that are handed in are the function's own from then on. -/
  tk:Bool
instance (n:Nat):OfNat Arg n:=⟨.t n⟩
/-- A whole number as an operand. -/
abbrev ki (n:Int):Arg:=.k (.int .i64 n)
abbrev kb (b:Bool):Arg:=.k (.bool b)
/-- A region without guards. -/
def rg (ops:List IOp):IC:=.region (ops.map fun o=>⟨o,none⟩)
/-! ### Slots and objects -/
def St.put (st:St) (d:Nat) (x:D):St:=⟨fun t=>if t=d then x else st.s t,st.o⟩
def St.obj (st:St) (id:Id) (r:Option Obj):St:=⟨st.s,fun i=>if i=id then r else st.o i⟩
def C.kill (id:Id):C→C
 | .own i n=>if i=id then .bad else .own i n
 | .ptr i a b=>if i=id then .bad else .ptr i a b
 | .down i n=>if i=id then .bad else .down i n
 | .sub i a b n=>if i=id then .bad else .sub i a b n
 | c=>c
def C.cool (id:Id) (sz:Nat) (rows:List (List U)):C→C
 | .own i n=>if i=id then .u (.sl sz (rows.take n)) else .own i n
 | .ptr i a b=>if i=id then .bad else .ptr i a b
 | .down i n=>if i=id then .bad else .down i n
 | .sub i a b n=>if i=id then .bad else .sub i a b n
 | c=>c
/-- A slice that stands in a cell, if it has n elements. -/
def ZaY (rows:List (List U)) (i c n:Nat):Option U:=(rows[i]?).bind fun r=>(r[c]?).bind fun x=>match x with
 | .sl z rs=>if rs.length=n then some (.sl z rs) else none
 | _=>none
def C.coolD (id:Id) (sz:Nat) (rows:List (List U)):C→C
 | .own i n=>if i=id then .bad else .own i n
 | .ptr i a b=>if i=id then .bad else .ptr i a b
 | .down i n=>if i=id then .u (.sl sz (rows.take n)) else .down i n
 | .sub i a b n=>if i=id then (match ZaY rows a b n with
  | some x=>.u x
  | none=>.bad) else .sub i a b n
 | c=>c
def T.mapC (f:C→C):T→T
 | .sc c=>.sc (f c)
 | .ag cs=>.ag (cs.map f)
def D.mapC (f:C→C):D→D
 | .t x=>.t (x.mapC f)
 | .tup xs=>.tup (xs.map (T.mapC f))
 | .rptr cs=>.rptr cs
 | .bad=>.bad
 | .emp=>.emp
def Obj.mapC (f:C→C):Obj→Obj
 | .box cs=>.box (cs.map f)
 | .row z rs=>.row z rs
 | .deep z rs=>.deep z rs
def St.mapC (st:St) (f:C→C):St:=⟨fun t=>(st.s t).mapC f,fun i=>(st.o i).map (Obj.mapC f)⟩
/-- What refers to an object is forgotten, and the object with it. -/
def St.kill (st:St) (id:Id):St:=(st.obj id none).mapC (C.kill id)
/-- What becomes of a cell when an object is data from now on. -/
def St.coolC (st:St) (id:Id):C→C:=match st.o id with
 | some (.row z r)=>C.cool id z r
 | some (.deep z r)=>C.coolD id z r
 | _=>C.kill id
def St.cool (st:St) (id:Id):St:=(st.obj id none).mapC (st.coolC id)
def St.get (st:St):Arg→D
 | .t n=>st.s n
 | .k c=>.t (.sc (.u c))
def D.c?:D→Option C
 | .t (.sc c)=>some c
 | _=>none
/-- What is appended to: an empty slice without room counts as nil. -/
def D.base?:D→Option C
 | .t (.sc c)=>some c
 | .emp=>some (.u .nil)
 | _=>none
def D.isPtr:D→Bool
 | .t (.sc (.ptr ..))|.t (.sc (.own ..))|.t (.sc (.down ..))|.t (.sc (.sub ..))=>true
 | _=>false
def D.isNil:D→Bool
 | .t (.sc (.u .nil))=>true
 | .emp=>true
 | _=>false
def D.u?:D→Option U
 | .t (.sc (.u c))=>some c
 | _=>none
def D.t?:D→Option T
 | .t x=>some x
 | _=>none
def D.int?:D→Option Int
 | .t (.sc (.u (.int .i64 n)))=>some n
 | _=>none
def D.bool?:D→Option Bool
 | .t (.sc (.u (.bool b)))=>some b
 | _=>none
def T.cells:T→List C
 | .sc c=>[c]
 | .ag cs=>cs
def C.u?:C→Option U
 | .u x=>some x
 | _=>none
def Zl (agg:Bool) (cs:List C):Option T:=if agg then some (.ag cs) else match cs with
 | [c]=>some (.sc c)
 | _=>none
abbrev DU (x:U):D:=.t (.sc (.u x))
abbrev DI (n:Int):D:=.t (.sc (.u (.int .i64 n)))
abbrev DB (b:Bool):D:=.t (.sc (.u (.bool b)))
abbrev DS (s:List UInt8):D:=.t (.sc (.u (.str s)))
/-! ### Operations on data -/
def Za2:List UInt8→List UInt8→Bool:=Op.bytesLess
def bin2 (op:B2):U→U→Option U
 | .int k a,.int k' b=>if k=k' then (match op with
  | .add=>some (.int k (k.wrap (a+b)))
  | .sub=>some (.int k (k.wrap (a - b)))
  | .mul=>some (.int k (k.wrap (a*b)))
  | .quo=>if b=0 then none else some (.int k (k.wrap (a.tdiv b)))
  | .rem=>if b=0 then none else some (.int k (a.tmod b))
  | .and=>some (.int k (bits .and k a b))
  | .or=>some (.int k (bits .or k a b))
  | .xor=>some (.int k (bits .xor k a b))
  | .shr=>if b<0 then none else some (.int k (a.fdiv (2 ^ min b.toNat k.bits)))
  | .eq=>some (.bool (a==b))
  | .ne=>some (.bool (a != b))
  | .lt=>some (.bool (decide (a<b)))
  | .le=>some (.bool (decide (a≤b)))
  | .gt=>some (.bool (decide (a > b)))
  | .ge=>some (.bool (decide (a≥b)))) else none
 | .str a,.str b=>match op with
  | .add=>if a.length+b.length≤9223372036854775807 then some (.str (a++b)) else none
  | .eq=>some (.bool (a==b))
  | .ne=>some (.bool (!(a==b)))
  | .lt=>some (.bool (Za2 a b))
  | .le=>some (.bool (Za2 a b||a==b))
  | .gt=>some (.bool (!(Za2 a b||a==b)))
  | .ge=>some (.bool (!Za2 a b))
  | _=>none
 | _,_=>none
/-- Flat structs of whole numbers, Bools and strings, one field after the other. -/
def Zg:List EK→List C→List C→Option Bool
 | [],[],[]=>some true
 | .i::ks,.u (.int k a)::xs,.u (.int k' b)::ys=>if k=k' then (if a=b then Zg ks xs ys else some false) else none
 | .b::ks,.u (.bool a)::xs,.u (.bool b)::ys=>if a=b then Zg ks xs ys else some false
 | .s::ks,.u (.str a)::xs,.u (.str b)::ys=>if a=b then Zg ks xs ys else some false
 | _,_,_=>none
def mnmx (mx:Bool):U→U→Option U
 | .int k a,.int k' b=>if k=k' then some (.int k (if mx then (if b > a then b else a) else (if b<a then b else a))) else none
 | .str a,.str b=>some (.str (if mx then (if (!Za2 a b)=true then a else b) else (if (Za2 a b||a==b)=true then a else b)))
 | _,_=>none
def Zek (cells:List C) (off:Nat) (xs:List C):Option (List C):=if off+xs.length≤cells.length then some (cells.take off++xs++cells.drop (off+xs.length)) else none
def St.fill (st:St) (cells:List C):List (Nat×Nat×Arg)→Option (List C)
 | []=>some cells
 | (off,n,a)::rest=>(st.get a).t?.bind fun x=>if x.cells.length=n then (Zek cells off x.cells).bind fun cs=>st.fill cs rest else none
def St.fillRows (st:St) (n:Nat) (rows:List (List U)):List (Nat×Arg)→Option (List (List U))
 | []=>some rows
 | (i,a)::rest=>(st.get a).t?.bind fun x=>(x.cells.mapM C.u?).bind fun cs=>if i<rows.length∧cs.length=n then st.fillRows n (rows.set i cs) rest else none
/-- A slice's elements, as data; the cells of an element. -/
def St.rowsOf (st:St):C→Option (Nat×List (List U))
 | .u (.sl z rows)=>some (z,rows)
 | .own id n=>match st.o id with
  | some (.row z r)=>if n≤r.length then some (z,r.take n) else none
  | _=>none
 | _=>none
def lenOf:C→Option Nat
 | .u (.sl _ rows)=>some rows.length
 | .u .nil=>some 0
 | .own _ n=>some n
 | .down _ n=>some n
 | .sub _ _ _ n=>some n
 | _=>none
def ZaX:List U→Option UInt8
 | [.int .u8 n]=>some (UInt8.ofNat n.toNat)
 | _=>none
def Zao (s:List UInt8):List (List U):=s.map fun b=>[.int .u8 b.toNat]
def Zbe (st:St) (sz:Nat) (y:D):Option (Nat×List (List U)):=match y with
 | .t (.sc (.u (.str s)))=>if sz=1 then some (1,Zao s) else none
 | .t (.sc c)=>st.rowsOf c
 | _=>none
/-- What a callee sees of an argument: own rows as data. -/
def St.lend (st:St):C→Option C
 | .own id n=>(st.rowsOf (.own id n)).map fun r=>.u (.sl r.1 r.2)
 | .u x=>some (.u x)
 | .down id n=>match st.o id with
  | some (.deep z r)=>if n≤r.length then some (.u (.sl z (r.take n))) else none
  | _=>none
 | .sub id i c n=>match st.o id with
  | some (.deep _ r)=>(ZaY r i c n).map .u
  | _=>none
 | _=>none
def St.lendT (st:St):T→Option T
 | .sc c=>(st.lend c).map .sc
 | .ag cs=>(cs.mapM st.lend).map .ag
def C.id?:C→Option Id
 | .own id _=>some id
 | .ptr id _ _=>some id
 | .down id _=>some id
 | .sub id _ _ _=>some id
 | _=>none
def T.ids (x:T):List Id:=x.cells.filterMap C.id?
/-- What a call gives back: its results, whose own objects are numbered; those objects; and the objects that were handed in. -/
structure Ret where
 res:List T
 new:List Obj
 out:List Obj
/-- Data that hold no addresses. -/
def U.flat:U→Bool
 | .int ..|.bool _|.str _|.nil=>true
 | .sl _ r=>r.isEmpty
 | _=>false
def C.isSl:C→Bool
 | .u x=>!x.flat
 | _=>false
def Obj.flat:Obj→Bool
 | .box cs=>cs.all fun c=>!c.isSl
 | .row _ rows=>rows.all fun r=>r.all U.flat
 | .deep ..=>true
def Ret.quiet (r:Ret):Bool:=r.new.all Obj.flat&&r.res.all fun x=>x.cells.all fun c=>!c.isSl
def seg {α:Type} (cs:List α) (o n:Nat):Option (List α):=if o+n≤cs.length then some ((cs.drop o).take n) else none
def Zx {α:Type} (cs:List α) (o:Nat) (xs:List α):Option (List α):=if o+xs.length≤cs.length then some (cs.take o++xs++cs.drop (o+xs.length)) else none
/-- Whole numbers, Bools, strings. -/
def U.scal:U→Bool
 | .int ..|.bool _|.str _=>true
 | _=>false
/-- A cell of a deep row: what is no slice is data; a slice is told by its place. -/
def toC (id:Id) (i c:Nat):U→C
 | .sl _ r=>.sub id i c r.length
 | x=>.u x
def toCs (id:Id) (i:Nat):Nat→List U→List C
 | _,[]=>[]
 | c,x::xs=>toC id i c x::toCs id i (c+1) xs
def St.read (st:St) (id:Id) (i o n:Nat):Option (List C):=match st.o id with
 | some (.box cs)=>if i=0 then seg cs o n else none
 | some (.row _ r)=>(r[i]?).bind fun cs=>(seg cs o n).map (·.map .u)
 | some (.deep _ r)=>(r[i]?).bind fun cs=>(seg cs o n).map (toCs id i o)
 | none=>none
def St.write (st:St) (id:Id) (i o:Nat) (xs:List C):Option St:=match st.o id with
 | some (.box cs)=>if i=0 then (Zx cs o xs).map fun c=>st.obj id (some (.box c)) else none
 | some (.row z r)=>(xs.mapM C.u?).bind fun us=>(r[i]?).bind fun cs=>(Zx cs o us).map fun c=>st.obj id (some (.row z (r.set i c)))
 | some (.deep z r)=>(xs.mapM C.u?).bind fun us=>(r[i]?).bind fun cs=>(seg cs o xs.length).bind fun old=>if us.all U.scal=true∧old.all U.scal=true then (Zx cs o us).map fun c=>st.obj id (some (.deep z (r.set i c))) else none
 | none=>none
def St.isRow (st:St) (id:Id):Bool:=match st.o id with
 | some (.row ..)=>true
 | _=>false
def St.coolAll (st:St) (ids:List Id):St:=ids.foldl St.cool st
/-- A new object at slot d. -/
def St.make (st:St) (d:Nat) (x:Obj) (c:C):St:=(st.obj (.loc d 0) (some x)).put d (.t (.sc c))
def C.ren (f:Id→Option Id):C→C
 | .own i n=>match f i with
  | some j=>.own j n
  | none=>.bad
 | .ptr i a b=>match f i with
  | some j=>.ptr j a b
  | none=>.bad
 | .down i n=>match f i with
  | some j=>.down j n
  | none=>.bad
 | .sub i a b n=>match f i with
  | some j=>.sub j a b n
  | none=>.bad
 | c=>c
def Zah (d:Nat):Id→Option Id
 | .par j=>some (.loc d j)
 | _=>none
def ZaP (d:Nat):Nat→List Obj→St→St
 | _,[],st=>st
 | j,x::xs,st=>ZaP d (j+1) xs (st.obj (.loc d j) (some x))
/-- What comes back in an object's place is of its kind. -/
def ZaL:Option Obj→Obj→Bool
 | some (.row _ r),.row _ r'=>decide (r.length≤r'.length)
 | some (.box _),.box _=>true
 | some (.deep _ r),.deep _ r'=>decide (r.length≤r'.length)
 | _,_=>false
def Zz:List Id→List Obj→St→Option St
 | [],[],st=>some st
 | id::ids,x::xs,st=>if ZaL (st.o id) x then Zz ids xs (st.obj id (some x)) else none
 | _,_,_=>none
def retD:List T→D
 | [x]=>.t x
 | xs=>.tup xs
def St.ofRet (st:St) (d:Nat) (r:Ret):St:=(ZaP d 0 r.new st).put d (retD (r.res.map (T.mapC (C.ren (Zah d)))))
def Obj.isDeep:Obj→Bool
 | .deep ..=>true
 | _=>false
def Obj.data:Obj→Bool
 | .box cs=>cs.all fun c=>c.u?.isSome
 | .row ..=>true
 | .deep ..=>true
def Zat (ids:List Id) (id:Id):Option Id:=(ids.idxOf? id).map .par
/-- Bounds of a cut. -/
def ZaR (st:St) (n:Nat) (lo hi:Option Arg):Option (Nat×Nat):=
 (match hi with
  | some a=>(st.get a).int?
  | none=>some (n:Int)).bind fun h=>(match lo with
  | some a=>(st.get a).int?
  | none=>some 0).bind fun l=>if 0≤l∧l≤h∧h≤(n:Int) then some (l.toNat,h.toNat) else none
def fnOf:Option U→Option (Nat×List U)
 | some (.fn f caps)=>some (f,caps)
 | _=>none
def St.partIds (st:St) (parts:List (Nat×Arg)):List Id:=parts.flatMap fun p=>match st.get p.2 with
 | .t x=>x.ids
 | _=>[]
def Zk:Id→Bool
 | .loc ..=>true
 | .par _=>false
/-- What may be moved into a deep row, as data. -/
def St.give (st:St):C→Option U
 | .u x=>if x.scal=true then some x else none
 | .own id n=>match st.o id with
  | some (.row z r)=>if r.length=n∧(r.all fun q=>q.all U.scal)=true∧Zk id=true then some (.sl z r) else none
  | _=>none
 | .down id n=>match st.o id with
  | some (.deep z r)=>if r.length=n∧Zk id=true then some (.sl z r) else none
  | _=>none
 | _=>none
/-- A deep row's zero. -/
def U.zed:U→Bool
 | .sl _ r=>r.isEmpty
 | x=>x.scal
def C.unsub (id:Id):C→C
 | .sub i a b n=>if i=id then .bad else .sub i a b n
 | c=>c
def St.killAll (st:St) (ids:List Id):St:=ids.foldl St.kill st
def C.sub?:C→Option (Id×Nat×Nat×Nat)
 | .sub id i c n=>some (id,i,c,n)
 | _=>none
/-- A slice in a deep row's cell, as the callee sees it. -/
def C.foc (dp:Bool):C→C
 | .sub _ _ _ n=>if dp then .down (.par 0) n else .own (.par 0) n
 | .u x=>.u x
 | _=>.bad
def Zbk (dp:Bool):U→Option Obj
 | .sl z r=>if dp then some (.deep z r) else if (r.all fun q=>q.all U.scal)=true then some (.row z r) else none
 | _=>none
/-- What comes back in its place. -/
def Zai (dp:Bool) (z n:Nat):List Obj→Option U
 | [.row z' r]=>if dp=false∧z'=z∧r.length=n∧(r.all fun q=>q.all U.scal)=true then some (.sl z r) else none
 | [.deep z' r]=>if dp=true∧z'=z∧r.length=n then some (.sl z r) else none
 | _=>none
def Zam (rows:List (List U)) (i c:Nat) (x:U):List (List U):=rows.modify i fun r=>r.set c x
/-- A variable that a function value captures: as data from now on. -/
def St.capOf (st:St) (a:Arg):Option (Id×List U):=match st.get a with
 | .t (.sc (.ptr id 0 0))=>match st.o id with
  | some (.box cs)=>(cs.mapM C.u?).map fun us=>(id,us)
  | _=>none
 | _=>none
def U.sz?:U→Nat
 | .sl z _=>z
 | _=>0
abbrev Zb:=Nat→List T→List Obj→Option Ret
def Zg9 (st:St) (n:Nat) (a x:Arg):Option St:=match st.get a with
  | .t (.sc (.ptr id i o))=>(st.get x).t?.bind fun v=>if st.isRow id then
    ((st.coolAll v.ids).get x).t?.bind fun v'=>if v'.cells.length=n then (st.coolAll v.ids).write id i o v'.cells else none
   else if v.cells.length=n then st.write id i o v.cells else none
  | _=>none
def step (E:Zb) (st:St):IOp→Option St
  | .mv d a=>some (st.put d (st.get a))
  | .pick d c a b=>(st.get c).bool?.map fun x=>st.put d (if x then st.get a else st.get b)
  | .alloc d zero=>some ((st.cool (.loc d 0)).make d (.box (zero.map .u)) (.ptr (.loc d 0) 0 0))
  | .box d a=>((st.cool (.loc d 0)).get a).t?.map fun x=>(st.cool (.loc d 0)).make d (.box x.cells) (.ptr (.loc d 0) 0 0)
  | .build d zero parts=>(st.fill (zero.map .u) parts).map fun cs=>st.put d (.t (.ag cs))
  | .lit d n zero parts=>let st1:=(st.cool (.loc d 0)).coolAll ((st.cool (.loc d 0)).partIds parts)
    (st1.fillRows zero.length (List.replicate n zero) parts).map fun r=>st1.make d (.row zero.length r) (.own (.loc d 0) n)
  | .ld d a n agg=>match st.get a with
    | .t (.sc (.ptr id i o))=>(st.read id i o n).bind fun cs=>(Zl agg cs).map fun x=>st.put d (.t x)
    | .rptr cs=>(seg cs 0 n).bind fun cs=>(Zl agg (cs.map .u)).map fun x=>st.put d (.t x)
    | .t (.sc (.u (.rp cs)))=>(seg cs 0 n).bind fun cs=>(Zl agg (cs.map .u)).map fun x=>st.put d (.t x)
    | _=>none
  | .st n a x=>match st.get a with
    | .t (.sc (.ptr id i o))=>(st.get x).t?.bind fun v=>if st.isRow id then
        ((st.coolAll v.ids).get x).t?.bind fun v'=>if v'.cells.length=n then (st.coolAll v.ids).write id i o v'.cells else none
      else if v.cells.length=n then st.write id i o v.cells else none
    | _=>none
  | .fa d a off=>match st.get a with
    | .t (.sc (.ptr id i o))=>some (st.put d (.t (.sc (.ptr id i (o+off)))))
    | .rptr cs=>some (st.put d (.rptr (cs.drop off)))
    | _=>none
  | .ia d sz x i=>(st.get i).int?.bind fun n=>match st.get x with
    | .t (.sc (.u (.sl z rows)))=>if 0≤n∧z=sz then (rows[n.toNat]?).map fun cs=>st.put d (.rptr cs) else none
    | .t (.sc (.own id m))=>match st.o id with
      | some (.row z _)=>if 0≤n∧n<(m:Int)∧z=sz then some (st.put d (.t (.sc (.ptr id n.toNat 0)))) else none
      | _=>none
    | .t (.sc (.down id m))=>match st.o id with
      | some (.deep z _)=>if 0≤n∧n<(m:Int)∧z=sz then some (st.put d (.t (.sc (.ptr id n.toNat 0)))) else none
      | _=>none
    | _=>none
  | .ix d x i=>(st.get i).int?.bind fun n=>match st.get x with
    | .t (.sc (.u (.str s)))=>if 0≤n then (s[n.toNat]?).map fun b=>st.put d (DU (.int .u8 b.toNat)) else none
    | _=>none
  | .bin d op x y=>(st.get x).u?.bind fun a=>(st.get y).u?.bind fun b=>(bin2 op a b).map fun r=>st.put d (DU r)
  | .eqs d ks ne x y=>match st.get x,st.get y with
    | .t (.ag xs),.t (.ag ys)=>(Zg ks xs ys).map fun b=>st.put d (DB (if ne then !b else b))
    | _,_=>none
  | .beq d ne x y=>(st.get x).bool?.bind fun a=>(st.get y).bool?.map fun b=>st.put d (DB (if ne then !(a==b) else a==b))
  | .isn d ne x=>match st.get x with
    | .t (.sc (.u (.sl _ (_::_))))=>some (st.put d (DB ne))
    | .t (.sc (.u .nil))=>some (st.put d (DB (!ne)))
    | .t (.sc (.own _ (_+1)))=>some (st.put d (DB ne))
    | _=>none
  | .not d x=>(st.get x).bool?.map fun b=>st.put d (DB (!b))
  | .neg d x=>(st.get x).int?.map fun n=>st.put d (DI (IntKind.i64.wrap (0 - n)))
  | .conv d k x=>match (st.get x).u? with
    | some (.int _ n)=>some (st.put d (DU (.int k (k.wrap n))))
    | _=>none
  | .cstr d x=>match (st.get x).u? with
    | some (.str s)=>some (st.put d (DS s))
    | _=>none
  | .bstr d x=>(st.get x).c?.bind fun c=>(st.rowsOf c).bind fun r=>if r.1=1 then (r.2.mapM ZaX).map fun bs=>st.put d (DS bs) else none
  | .len d x=>(st.get x).c?.bind fun c=>(lenOf c).map fun (n:Nat)=>st.put d (DI (n:Int))
  | .slen d x=>match (st.get x).u? with
    | some (.str s)=>some (st.put d (DI s.length))
    | _=>none
  | .mnmx d mx x y=>(st.get x).u?.bind fun a=>(st.get y).u?.bind fun b=>(mnmx mx a b).map fun r=>st.put d (DU r)
  | .ssl d x lo hi=>match (st.get x).u? with
    | some (.str s)=>(ZaR st s.length lo hi).map fun p=>st.put d (DS ((s.take p.2).drop p.1))
    | _=>none
  | .slc d sz x lo hi=>(st.get x).c?.bind fun c=>match c with
    | .u (.sl z r)=>if z=sz then (ZaR st r.length lo hi).map fun p=>st.put d (DU (.sl z ((r.take p.2).drop p.1))) else none
    | .own id n=>(st.rowsOf (.own id n)).bind fun r=>if r.1=sz then (ZaR st n lo hi).map fun p=>(st.cool id).put d (DU (.sl sz ((r.2.take p.2).drop p.1))) else none
    | _=>none
  | .nilr d sz=>some ((st.cool (.loc d 0)).make d (.row sz []) (.own (.loc d 0) 0))
  | .mk d n c zero bytes=>(st.get n).int?.bind fun n=>(st.get c).int?.bind fun c=>if 0≤n∧n≤c∧c.toNat*bytes≤140737488355328 then
      some ((st.cool (.loc d 0)).make d (.row zero.length (List.replicate n.toNat zero)) (.own (.loc d 0) n.toNat)) else none
  | .app d sz x y bytes=>(st.get x).base?.bind fun cx=>(Zbe st sz (st.get y)).bind fun ys=>if ys.1=sz then (match cx with
    | .own id n=>match st.o id with
      | some (.row z r)=>if z=sz∧r.length=n∧Zk id∧n+ys.2.length≤maxLen∧(n+ys.2.length)*bytes≤140737488355328 then some (((st.kill id).obj id (some (.row sz (r++ys.2)))).put d (.t (.sc (.own id (n+ys.2.length))))) else none
      | _=>none
    | .u .nil=>if ys.2.length≤maxLen∧ys.2.length*bytes≤140737488355328 then some ((st.cool (.loc d 0)).make d (.row sz ys.2) (.own (.loc d 0) ys.2.length)) else none
    | _=>none) else none
  | .ext d x i=>match st.get x with
    | .tup xs=>(xs[i]?).map fun x=>st.put d (.t x)
    | _=>none
  | .fld d x off n agg=>match st.get x with
    | .t (.ag cs)=>(seg cs off n).bind fun cs=>(Zl agg cs).map fun x=>st.put d (.t x)
    | _=>none
  | .nilc d x=>match st.get x with
    | .t (.sc (.ptr id i o))=>some (st.put d (.t (.sc (.ptr id i o))))
    | .rptr cs=>some (st.put d (.rptr cs))
    | _=>none
  | .call d f xs=>(xs.mapM fun a=>(st.get a).t?).bind fun vs=>(vs.mapM st.lendT).bind fun args=>(E f args []).bind fun r=>
      if r.out.isEmpty then some ((((st.coolAll (if r.quiet then [] else vs.flatMap T.ids)).coolAll ((List.range r.new.length).map (.loc d ·))).ofRet d r)) else none
  | .callr d f xs=>(xs.mapM fun a=>(st.get a).t?).bind fun vs=>(((vs.flatMap T.ids).eraseDups).mapM st.o).bind fun ins=>if ins.all Obj.data then
      (E f (vs.map (T.mapC (C.ren (Zat ((vs.flatMap T.ids).eraseDups))))) ins).bind fun r=>(Zz ((vs.flatMap T.ids).eraseDups) r.out st).map fun st=>(st.coolAll ((List.range r.new.length).map (.loc d ·))).ofRet d r else none
  | .callv d fs x xs=>(fnOf (st.get x).u?).bind fun p=>if fs.contains p.1 then (xs.mapM fun a=>(st.get a).t?).bind fun vs=>(vs.mapM st.lendT).bind fun args=>(E p.1 (args++p.2.map fun c=>.sc (.u c)) []).bind fun r=>
      if r.out.isEmpty then some ((((st.coolAll (if r.quiet then [] else vs.flatMap T.ids)).coolAll ((List.range r.new.length).map (.loc d ·))).ofRet d r)) else none else none
  | .junk d=>some (st.put d .bad)
  | .emp d=>some (st.put d .emp)
  | .cl d a=>(st.get a).t?.bind fun v=>some ((st.coolAll v.ids).put d ((st.coolAll v.ids).get a))
  | .stc n a x=>(st.get x).t?.bind fun v=>Zg9 (st.coolAll v.ids) n a x
  | .slp d sz x hi=>(st.get x).c?.bind fun c=>match c with
    | .own id n=>match st.o id with
      | some (.row z r)=>if z=sz∧n≤r.length then (ZaR st n none (some hi)).map fun p=>((st.mapC (C.kill id)).obj id (some (.row z (r.take p.2)))).put d (.t (.sc (.own id p.2))) else none
      | _=>none
    | _=>none
  | .mkd d n c zero bytes=>(st.get n).int?.bind fun n=>(st.get c).int?.bind fun c=>if 0≤n∧n≤c∧c.toNat*bytes≤140737488355328∧zero.all U.zed=true then
      some ((st.cool (.loc d 0)).make d (.deep zero.length (List.replicate n.toNat zero)) (.down (.loc d 0) n.toNat)) else none
  | .litd d k zero a=>((st.cool (.loc d 0)).get a).t?.bind fun v=>(v.cells.mapM (st.cool (.loc d 0)).give).bind fun us=>if us.length=zero.length∧k=1∧v.ids.Nodup then
      some (((st.cool (.loc d 0)).killAll v.ids).make d (.deep zero.length [us]) (.down (.loc d 0) 1)) else none
  | .appd d sz x y bytes=>match st.get y with
    | .t (.sc (.down idy m))=>match st.o idy with
      | some (.deep zy ry)=>if zy=sz∧ry.length=m∧Zk idy=true∧0<m then (match (st.get x).base? with
        | some (.u .nil)=>if m≤maxLen∧m*bytes≤140737488355328 then some (((st.kill idy).cool (.loc d 0)).make d (.deep sz ry) (.down (.loc d 0) m)) else none
        | some (.down id n)=>match st.o id with
          | some (.deep z r)=>if z=sz∧r.length=n∧Zk id=true∧id≠idy∧n+m≤maxLen∧(n+m)*bytes≤140737488355328 then some ((((st.kill idy).kill id).obj id (some (.deep sz (r++ry)))).put d (.t (.sc (.down id (n+m))))) else none
          | _=>none
        | _=>none) else none
      | _=>none
    | _=>none
  | .std n a x=>match st.get a with
    | .t (.sc (.ptr id i o))=>match st.o id with
      | some (.deep z r)=>(st.get x).t?.bind fun v=>(v.cells.mapM st.give).bind fun us=>(r[i]?).bind fun cs=>if us.length=n∧Zk id=true∧v.ids.Nodup∧id∉v.ids then
          (Zx cs o us).map fun c=>((st.killAll v.ids).mapC (C.unsub id)).obj id (some (.deep z (r.set i c))) else none
      | _=>none
    | _=>none
  | .callc d f xs=>(xs.mapM fun a=>(st.get a).t?).bind fun vs=>(((vs.flatMap T.ids).eraseDups).mapM st.o).bind fun ins=>if ins.all Obj.data then
      (E f (vs.map (T.mapC (C.ren (Zat ((vs.flatMap T.ids).eraseDups))))) ins).bind fun r=>if r.out.isEmpty=true then some (((st.killAll ((vs.flatMap T.ids).eraseDups)).coolAll ((List.range r.new.length).map (.loc d ·))).ofRet d r) else none else none
  | .mkf d f caps=>(caps.mapM st.capOf).map fun ps=>(st.coolAll (ps.map (·.1))).put d (DU (.fn f (ps.map fun p=>.rp p.2)))
  | .callk d f dp xs=>(xs.mapM fun a=>(st.get a).t?).bind fun vs=>match vs.flatMap fun v=>v.cells.filterMap C.sub? with
    | [(id,i,c,n)]=>match st.o id with
      | some (.deep z r)=>(ZaY r i c n).bind fun x=>(Zbk dp x).bind fun ob=>(E f (vs.map (T.mapC (C.foc dp))) [ob]).bind fun rt=>(Zai dp x.sz? n rt.out).bind fun x'=>
          if rt.new=[]∧rt.quiet=true then some ((st.obj id (some (.deep z (Zam r i c x')))).put d (retD rt.res)) else none
      | _=>none
    | _=>none
def IOp.dst:IOp→Option Nat
 | .st ..|.stc ..|.std ..=>none
 | .mkd d ..|.litd d ..|.appd d ..|.callk d ..|.mkf d ..|.callc d ..=>some d
 | .mv d _|.pick d ..|.alloc d _|.box d _|.build d ..|.lit d ..|.ld d ..|.fa d ..|.ia d ..|.ix d ..|.bin d ..|.eqs d ..|.beq d ..|.isn d ..|.not d _|.neg d _|.conv d ..|.cstr d _|.bstr d _|.len d _|.slen d _|.mnmx d ..|.slc d ..|.ssl d ..|.nilr d _|.mk d ..|.app d ..|.ext d ..|.fld d ..|.nilc d _|.call d ..|.callr d ..|.callv d ..|.junk d|.emp d|.cl d _|.slp d ..=>some d
def St.putO (st:St):Option Nat→D→St
 | some d,x=>st.put d x
 | none,_=>st
abbrev DBad:D:=.bad
/-- What stands in the slot of an operation that was not carried out. -/
abbrev DUnd:D:=.tup []
/-- What a guard's slot says. -/
def ZaJ (x:D):Option (Option Bool):=match x with
 | .tup []=>some none
 | x=>x.bool?.map some
def Zaf (E:Zb) (st:St) (o:GOp):Option St:=match o.g with
 | none=>step E st o.op
 | some (t,b)=>(ZaJ (st.s t)).bind fun x=>if x=some b then step E st o.op else some (st.putO o.op.dst DUnd)
def Zaq (E:Zb):List GOp→St→Option St
 | [],st=>some st
 | o::os,st=>(Zaf E st o).bind (Zaq E os)
/-! ### Regions whose order is drawn: effects -/
def D.ids:D→List Id
 | .t x=>x.ids
 | .tup xs=>xs.flatMap T.ids
 | _=>[]
def IOp.args:IOp→List Arg
 | .mv _ a|.cl _ a|.box _ a|.ld _ a _ _|.fa _ a _|.not _ a|.neg _ a|.conv _ _ a|.cstr _ a|.bstr _ a|.len _ a|.slen _ a|.ext _ a _|.fld _ a _ _ _|.nilc _ a|.isn _ _ a=>[a]
 | .pick _ c a b=>[c,a,b]
 | .alloc ..|.nilr ..|.junk _|.emp _=>[]
 | .callv _ _ x xs=>x::xs
 | .slp _ _ x hi=>[x,hi]
 | .mkd _ n c _ _=>[n,c]
 | .litd _ _ _ a=>[a]
 | .appd _ _ x y _=>[x,y]
 | .std _ a x=>[a,x]
 | .callk _ _ _ xs|.callc _ _ xs=>xs
 | .mkf _ _ caps=>caps
 | .build _ _ ps=>ps.map fun p=>p.2.2
 | .lit _ _ _ ps=>ps.map (·.2)
 | .st _ a x|.stc _ a x|.ia _ _ a x|.ix _ a x|.bin _ _ a x|.eqs _ _ _ a x|.beq _ _ a x|.mnmx _ _ a x|.mk _ a x _ _|.app _ _ a x _=>[a,x]
 | .slc _ _ x lo hi|.ssl _ x lo hi=>x::lo.toList++hi.toList
 | .call _ _ xs|.callr _ _ xs=>xs
/-- What an operation does: its slot, its value, the objects that it sets, those that it reads. -/
structure Fx where
 d:Option Nat
 v:D
 set:List (Id×Obj)
 rd:List Id
def St.objs (st:St) (l:List (Id×Obj)):St:=l.foldl (fun s p=>s.obj p.1 (some p.2)) st
def Fx.app (e:Fx) (st:St):St:=(st.objs e.set).putO e.d e.v
def Zt (st:St) (op:IOp):List Id:=op.args.flatMap fun a=>(st.get a).ids
def fxF (E:Zb) (st:St) (op:IOp):Option Fx:=(step E st op).bind fun s=>op.dst.map fun d=>(⟨some d,s.s d,[],Zt st op⟩:Fx)
def Zw (d:Nat):Nat→List Obj→List (Id×Obj)
 | _,[]=>[]
 | j,x::xs=>(.loc d j,x)::Zw d (j+1) xs
def St.dead (st:St) (d k:Nat):Bool:=(List.range k).all fun j=>(st.o (.loc d j)).isNone
def fx (E:Zb) (st:St) (op:IOp):Option Fx:=match op with
  | .alloc d zero=>if st.dead d 1 then some ⟨some d,.t (.sc (.ptr (.loc d 0) 0 0)),[(.loc d 0,.box (zero.map .u))],[]⟩ else none
  | .nilr d sz=>if st.dead d 1 then some ⟨some d,.t (.sc (.own (.loc d 0) 0)),[(.loc d 0,.row sz [])],[]⟩ else none
  | .box d a=>if st.dead d 1 then (st.get a).t?.bind fun x=>if x.ids=[] then some ⟨some d,.t (.sc (.ptr (.loc d 0) 0 0)),[(.loc d 0,.box x.cells)],[]⟩ else none else none
  | .lit d n zero parts=>if st.dead d 1∧st.partIds parts=[] then (st.fillRows zero.length (List.replicate n zero) parts).map fun r=>⟨some d,.t (.sc (.own (.loc d 0) n)),[(.loc d 0,.row zero.length r)],[]⟩ else none
  | .mk d n c zero bytes=>if st.dead d 1 then (st.get n).int?.bind fun n=>(st.get c).int?.bind fun c=>if 0≤n∧n≤c∧c.toNat*bytes≤140737488355328 then
      some ⟨some d,.t (.sc (.own (.loc d 0) n.toNat)),[(.loc d 0,.row zero.length (List.replicate n.toNat zero))],[]⟩ else none else none
  | .st n a x=>match st.get a with
    | .t (.sc (.ptr id i o))=>(st.get x).t?.bind fun v=>if v.cells.length=n∧(v.ids=[]∨st.isRow id=false) then (st.write id i o v.cells).bind fun s=>(s.o id).map fun ob=>⟨none,.bad,[(id,ob)],[id]⟩ else none
    | _=>none
  | .mv d a=>if (st.get a).isPtr=true then some ⟨some d,st.get a,[],[]⟩ else fxF E st (.mv d a)
  | .slc d sz x lo hi=>if (st.get x).u?.isSome=true then fxF E st (.slc d sz x lo hi) else none
  | .app d sz x y bytes=>if (st.get x).isNil=true∧st.dead d 1=true then (Zbe st sz (st.get y)).bind fun ys=>if ys.1=sz∧ys.2.length≤maxLen∧ys.2.length*bytes≤140737488355328 then
      some ⟨some d,.t (.sc (.own (.loc d 0) ys.2.length)),[(.loc d 0,.row sz ys.2)],Zt st (.app d sz x y bytes)⟩ else none else none
  | .callv ..=>none
  | .cl ..=>none
  | .stc ..=>none
  | .slp ..=>none
  | .mkd ..=>none
  | .litd ..=>none
  | .appd ..=>none
  | .std ..=>none
  | .callk ..=>none
  | .mkf ..=>none
  | .callc ..=>none
  | .call d f xs=>(xs.mapM fun a=>(st.get a).t?).bind fun vs=>(vs.mapM st.lendT).bind fun args=>(E f args []).bind fun r=>
      if r.out=[]∧(r.quiet=true∨vs.flatMap T.ids=[])∧st.dead d r.new.length=true then some ⟨some d,retD (r.res.map (T.mapC (C.ren (Zah d)))),Zw d 0 r.new,vs.flatMap T.ids⟩ else none
  | .callr d f xs=>(xs.mapM fun a=>(st.get a).t?).bind fun vs=>(((vs.flatMap T.ids).eraseDups).mapM st.o).bind fun ins=>if ins.all Obj.data then
      (E f (vs.map (T.mapC (C.ren (Zat ((vs.flatMap T.ids).eraseDups))))) ins).bind fun r=>if (Zz ((vs.flatMap T.ids).eraseDups) r.out st).isSome=true∧st.dead d r.new.length=true∧r.out.all Obj.data=true then
        some ⟨some d,retD (r.res.map (T.mapC (C.ren (Zah d)))),((vs.flatMap T.ids).eraseDups).zip r.out++Zw d 0 r.new,(vs.flatMap T.ids).eraseDups⟩ else none else none
  | op=>fxF E st op
def gfx (E:Zb) (st:St) (o:GOp):Option Fx:=match o.g with
 | none=>fx E st o.op
 | some (t,b)=>(ZaJ (st.s t)).bind fun x=>if x=some b then fx E st o.op else some ⟨o.op.dst,DUnd,[],[]⟩
def ZaW (a b:List Id):Bool:=a.all fun i=>!b.contains i
/-- Two effects that may come in either order. -/
def Fx.apart (e f:Fx):Bool:=ZaW (e.set.map (·.1)) (f.rd++f.set.map (·.1))&&ZaW (f.set.map (·.1)) e.rd
def ZaN (done:List Fx) (e:Fx) (free:List Nat):Bool:=free.all fun k=>match done[k]? with
 | some f=>f.apart e
 | none=>true
/-- The mark of an operation that comes after all that stand ahead of it, and ahead of all others. -/
def ZbQ:List Nat→Bool
 | k::_=>k==1000000
 | []=>false
def noFx:Fx:=⟨none,.bad,[],[]⟩
/-- How many objects of a call are data from a drawn region's beginning on. -/
def cnt2:Bool→List Nat→Nat
 | true,m::_=>m - 1000
 | _,_=>2
def cnt:List Nat→Nat
 | []=>2
 | k::ks=>if k==1000000 then 0 else cnt2 (k==2000000) ks
def St.coolTo (st:St) (d:Nat):Nat→St
 | 0=>st
 | k+1=>(st.coolTo d k).cool (.loc d k)
def Zy (E:Zb):List (GOp×List Nat)→List Fx→St→Option St
 | [],_,st=>some st
 | (o,free)::os,done,st=>if ZbQ free=true then (Zaf E st o).bind fun st=>Zy E os (done++[noFx]) st else
   (gfx E st o).bind fun e=>if ZaN done e free then Zy E os (done++[e]) (e.app st) else none
/-- The objects of the slots that a region writes are data from its beginning on. -/
def coolDsts (st:St):List (GOp×List Nat)→St
 | []=>st
 | (o,free)::os=>coolDsts (match o.op with
  | .alloc d _|.nilr d _|.box d _|.lit d _ _ _|.mk d _ _ _ _=>st.cool (.loc d 0)
  | .app d _ _ _ _=>if cnt free=0 then st else st.cool (.loc d 0)
  | .call d _ _|.callr d _ _=>st.coolTo d (cnt free)
  | _=>st) os
def exitTo (id:Nat):List Za→Option (List Za)
 | []=>none
 | .inBlock j::rest=>if j=id then some rest else exitTo id rest
 | _::rest=>exitTo id rest
/-! ### Calls -/
def Zbn (xs:List T):Nat→D:=fun t=>match xs[t]? with
 | some x=>.t x
 | none=>DBad
def Zj (ins:List Obj):Id→Option Obj
 | .par j=>ins[j]?
 | .loc ..=>none
def Zen (x:D):Option T:=x.t?
def St.rawCell (st:St) (x:D) (n:Nat) (agg:Bool):Option T:=match x with
 | .t (.sc (.ptr id i o))=>(st.read id i o n).bind (Zl agg)
 | _=>none
def St.raw (st:St):IRes→Option T
 | .tmp t|.tmpd t=>Zen (st.s t)
 | .cell t n agg|.celld t n agg=>st.rawCell (st.s t) n agg
/-- Results that are handed back as data. -/
def IRes.isD:IRes→Bool
 | .tmpd _|.celld ..=>true
 | _=>false
def St.result (st:St) (r:IRes):Option T:=if r.isD=true then (st.raw r).bind st.lendT else st.raw r
def St.lent (st:St) (r:IRes):List Id:=if r.isD=true then (match st.raw r with
 | some x=>x.ids
 | none=>[]) else []
/-- An object that is handed back: with its whole content. -/
def C.fits (st:St):C→Bool
 | .own id n=>match st.o id with
  | some (.row _ r)=>r.length==n
  | _=>false
 | .down id n=>match st.o id with
  | some (.deep _ r)=>r.length==n
  | _=>false
 | .sub ..=>false
 | .ptr id i o=>(match st.o id with
  | some (.box _)=>true
  | _=>false)&&i==0&&o==0
 | .u _=>true
 | .bad=>false
def Zcb (fn:IFn) (nout:Nat) (st:St):Option Ret:=(fn.res.mapM st.result).bind fun xs=>
 let ids:=xs.flatMap T.ids
 let tk:=fn.tk&&nout != 0
 (ids.mapM st.o).bind fun new=>(((List.range (if tk=true then 0 else nout)).map Id.par).mapM st.o).bind fun out=>
  if ((tk||ids.all Zk)&&ids.Nodup&&xs.all (fun x=>x.cells.all (C.fits st))&&new.all Obj.data&&out.all Obj.data&&((tk||(fn.res.flatMap st.lent).all Zk)&&((fn.res.flatMap st.lent).isEmpty||ids.isEmpty)))=true then some ⟨xs.map (T.mapC (C.ren (Zat ids))),new,out⟩ else none
def ZaM (F:Nat→Option IFn) (run:List Za→St→Option St):Zb:=fun f args ins=>(F f).bind fun fn=>
 if args.length=fn.np then (run [.code fn.body] ⟨Zbn args,Zj ins⟩).bind (Zcb fn ins.length) else none
def Zu (F:Nat→Option IFn):Nat→List Za→St→Option St
 | 0,_,_=>none
 | _+1,[],st=>some st
 | k+1,.inBlock _::rest,st=>Zu F k rest st
 | k+1,.inLoop c::rest,st=>Zu F k (.code c::.inLoop c::rest) st
 | k+1,.code c::rest,st=>match c with
  | .skip=>Zu F k rest st
  | .region ops=>(Zaq (ZaM F (Zu F k)) ops st).bind (Zu F k rest)
  | .draw ops=>(Zy (ZaM F (Zu F k)) ops [] (coolDsts st ops)).bind (Zu F k rest)
  | .seq a b=>Zu F k (.code a::.code b::rest) st
  | .cond c a b=>(st.get c).bool?.bind fun x=>Zu F k (.code (if x then a else b)::rest) st
  | .block id c=>Zu F k (.code c::.inBlock id::rest) st
  | .loop c=>Zu F k (.code c::.inLoop c::rest) st
  | .exit id=>(exitTo id rest).bind fun r=>Zu F k r st
  | .ret=>some st
end Go.Proofs.YtfajcehhcjmofaaV
