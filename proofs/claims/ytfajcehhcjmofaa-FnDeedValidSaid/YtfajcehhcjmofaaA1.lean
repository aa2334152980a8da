/- Lemmas of functions that the law FnDeedValid reaches. No conditions but those that the lemmas state. -/
import Derived.Test.YtfajcehhcjmofaaJ
import Derived.Test.YtfajcehhcjmofaaS7
import Derived.Test.YtfajcehhcjmofaaS8
import Derived.Test.YtfajcehhcjmofaaV28
namespace Go.Proofs.YtfajcehhcjmofaaV
open Go Go.RowKit
open Nat renaming reduceLT → rL, reduceAdd → rA, reduceSub → rS, reduceBEq → rB
open IOp (dst isF args)
set_option linter.unusedVariables false
set_option linter.unusedSimpArgs false
set_option maxRecDepth 4000
abbrev Str:=List UInt8
abbrev B (b:Bool):T:=.sc (.u (.bool b))
abbrev S (b:Str):T:=.sc (.u (.str b))
abbrev I (n:Int):T:=.sc (.u (.int .i64 n))
abbrev L (z:Nat) (r:List (List U)):T:=.sc (.u (.sl z r))
abbrev ok1 (t:T):Option Ret:=some ⟨[t],[],[]⟩
def iU (n:Int):List U:=[.int .i64 n]
def bU (b:Bool):List U:=[.bool b]
/-- Whole numbers of 64 bits. -/
def ZX (x:Int):Prop:=-9223372036854775808≤x∧x≤9223372036854775807
theorem UT.int_of {u:U} (h:UT (.i .i64) u):∃ n,u=.int .i64 n∧ZX n:=by
 cases h with
 | i k n h=>exact ⟨n,rfl,bounds_i64 h⟩
theorem UT.u8_of {u:U} (h:UT (.i .u8) u):∃ n,u=.int .u8 n∧0≤n∧n≤255:=by
 cases h with
 | i k n h=>exact ⟨n,rfl,bounds_u8 h⟩
theorem UT.bool_of {u:U} (h:UT .b u):∃ b,u=.bool b:=by
 cases h with
 | b x=>exact ⟨x,rfl⟩
theorem UT.str_of {u:U} (h:UT .s u):∃ s,u=.str s∧s.length≤9223372036854775807:=by
 cases h with
 | s x h=>exact ⟨x,rfl,h⟩
theorem ZIg {α:Type} {f:α→List U} {p:α→Prop}:∀ {rows:List (List U)},(∀ row,row∈rows→∃ x,row=f x∧p x)→∃ l:List α,rows=l.map f∧∀ y,y∈l→p y
 | [],_=>⟨[],rfl,fun y h=>by cases h⟩
 | r::rs,h=>by
  obtain ⟨x,hx,px⟩:=h r (List.mem_cons_self ..)
  obtain ⟨l,hl,pl⟩:=ZIg (rows:=rs) (fun row hr=>h row (List.mem_cons_of_mem _ hr))
  refine ⟨x::l,by rw [hx,hl]; rfl,fun y hy=>?_⟩
  rcases List.mem_cons.1 hy with rfl|hy
  ·exact px
  ·exact pl y hy
/-- A slice of elements that are read. -/
theorem UT.sl_of {fs:List Ty} {u:U} (h:UT (.sl fs) u) {α:Type} {f:α→List U} {p:α→Prop} (he:∀ us:List U,us.length=fs.length→(∀ (j:Nat) ty u,fs[j]?=some ty→us[j]?=some u→UT ty u)→∃ x,us=f x∧p x) :
  ∃ l:List α,u=.sl fs.length (l.map f)∧l.length≤9223372036854775807∧∀ y,y∈l→p y:=by
 cases h with
 | sl _ rows hl hr hc=>
  obtain ⟨l,rfl,hp⟩:=ZIg (f:=f) (p:=p) (rows:=rows) (fun row hrow=>he row (hr row hrow) (fun j ty u hj hu=>by
   obtain ⟨i,hi⟩:=List.mem_iff_getElem?.1 hrow
   exact hc i j row ty u hi hj hu))
  have hm:maxLen=9223372036854775807:=by decide
  rw [hm,List.length_map] at hl
  exact ⟨l,rfl,hl,hp⟩
theorem ZHO (us:List U) (hl:us.length=1) (ht:∀ (j:Nat) ty u,[Ty.i .i64][j]?=some ty→us[j]?=some u→UT ty u):∃ x,us=iU x∧ZX x:=by
 match us,hl with
 | [a],_=>obtain ⟨n,rfl,h⟩:=(ht 0 _ a rfl rfl).int_of; exact ⟨n,rfl,h⟩
theorem ZIP (us:List U) (hl:us.length=1) (ht:∀ (j:Nat) ty u,[Ty.b][j]?=some ty→us[j]?=some u→UT ty u):∃ x,us=bU x∧True:=by
 match us,hl with
 | [a],_=>obtain ⟨n,rfl⟩:=(ht 0 _ a rfl rfl).bool_of; exact ⟨n,rfl,trivial⟩
structure Interval where
 low:Str
 high:Str
def Interval.u (x:Interval):List U:=[.str x.low,.str x.high]
def Interval.Fit (x:Interval):Prop:=x.low.length≤9223372036854775807∧x.high.length≤9223372036854775807
theorem Interval.of (us:List U) (hl:us.length=2) (ht:∀ (j:Nat) ty u,[Ty.s,.s][j]?=some ty→us[j]?=some u→UT ty u):∃ x,us=Interval.u x∧Interval.Fit x:=by
 match us,hl with
 | [c0,c1],_=>
  obtain ⟨x0,rfl,f0⟩:=(ht 0 _ c0 rfl rfl).str_of
  obtain ⟨x1,rfl,f1⟩:=(ht 1 _ c1 rfl rfl).str_of
  exact ⟨⟨x0,x1⟩,rfl,⟨f0,f1⟩⟩
structure Pair where
 key:Str
 value:Int
def Pair.u (x:Pair):List U:=[.str x.key,.int .i64 x.value]
def Pair.Fit (x:Pair):Prop:=x.key.length≤9223372036854775807∧ZX x.value
theorem Pair.of (us:List U) (hl:us.length=2) (ht:∀ (j:Nat) ty u,[Ty.s,.i .i64][j]?=some ty→us[j]?=some u→UT ty u):∃ x,us=Pair.u x∧Pair.Fit x:=by
 match us,hl with
 | [c0,c1],_=>
  obtain ⟨x0,rfl,f0⟩:=(ht 0 _ c0 rfl rfl).str_of
  obtain ⟨x1,rfl,f1⟩:=(ht 1 _ c1 rfl rfl).int_of
  exact ⟨⟨x0,x1⟩,rfl,⟨f0,f1⟩⟩
structure Command where
 kind:Int
 key:Str
 value:Int
 old:Int
def Command.u (x:Command):List U:=[.int .i64 x.kind,.str x.key,.int .i64 x.value,.int .i64 x.old]
def Command.Fit (x:Command):Prop:=ZX x.kind∧x.key.length≤9223372036854775807∧ZX x.value∧ZX x.old
theorem Command.of (us:List U) (hl:us.length=4) (ht:∀ (j:Nat) ty u,[Ty.i .i64,.s,.i .i64,.i .i64][j]?=some ty→us[j]?=some u→UT ty u):∃ x,us=Command.u x∧Command.Fit x:=by
 match us,hl with
 | [c0,c1,c2,c3],_=>
  obtain ⟨x0,rfl,f0⟩:=(ht 0 _ c0 rfl rfl).int_of
  obtain ⟨x1,rfl,f1⟩:=(ht 1 _ c1 rfl rfl).str_of
  obtain ⟨x2,rfl,f2⟩:=(ht 2 _ c2 rfl rfl).int_of
  obtain ⟨x3,rfl,f3⟩:=(ht 3 _ c3 rfl rfl).int_of
  exact ⟨⟨x0,x1,x2,x3⟩,rfl,⟨f0,f1,f2,f3⟩⟩
structure Session where
 client:Int
 seq:Int
 reply:Int
def Session.u (x:Session):List U:=[.int .i64 x.client,.int .i64 x.seq,.int .i64 x.reply]
def Session.Fit (x:Session):Prop:=ZX x.client∧ZX x.seq∧ZX x.reply
theorem Session.of (us:List U) (hl:us.length=3) (ht:∀ (j:Nat) ty u,[Ty.i .i64,.i .i64,.i .i64][j]?=some ty→us[j]?=some u→UT ty u):∃ x,us=Session.u x∧Session.Fit x:=by
 match us,hl with
 | [c0,c1,c2],_=>
  obtain ⟨x0,rfl,f0⟩:=(ht 0 _ c0 rfl rfl).int_of
  obtain ⟨x1,rfl,f1⟩:=(ht 1 _ c1 rfl rfl).int_of
  obtain ⟨x2,rfl,f2⟩:=(ht 2 _ c2 rfl rfl).int_of
  exact ⟨⟨x0,x1,x2⟩,rfl,⟨f0,f1,f2⟩⟩
structure Entry where
 client:Int
 seq:Int
 cmd:Command
def Entry.u (x:Entry):List U:=[.int .i64 x.client,.int .i64 x.seq,.int .i64 x.cmd.kind,.str x.cmd.key,.int .i64 x.cmd.value,.int .i64 x.cmd.old]
def Entry.Fit (x:Entry):Prop:=ZX x.client∧ZX x.seq∧Command.Fit x.cmd
theorem Entry.of (us:List U) (hl:us.length=6) (ht:∀ (j:Nat) ty u,[Ty.i .i64,.i .i64,.i .i64,.s,.i .i64,.i .i64][j]?=some ty→us[j]?=some u→UT ty u):∃ x,us=Entry.u x∧Entry.Fit x:=by
 match us,hl with
 | [c0,c1,c2,c3,c4,c5],_=>
  obtain ⟨x0,rfl,f0⟩:=(ht 0 _ c0 rfl rfl).int_of
  obtain ⟨x1,rfl,f1⟩:=(ht 1 _ c1 rfl rfl).int_of
  obtain ⟨x2,rfl,f2⟩:=(ht 2 _ c2 rfl rfl).int_of
  obtain ⟨x3,rfl,f3⟩:=(ht 3 _ c3 rfl rfl).str_of
  obtain ⟨x4,rfl,f4⟩:=(ht 4 _ c4 rfl rfl).int_of
  obtain ⟨x5,rfl,f5⟩:=(ht 5 _ c5 rfl rfl).int_of
  exact ⟨⟨x0,x1,⟨x2,x3,x4,x5⟩⟩,rfl,⟨f0,f1,⟨f2,f3,f4,f5⟩⟩⟩
structure Answer where
 asked:Entry
 reply:Int
def Answer.u (x:Answer):List U:=[.int .i64 x.asked.client,.int .i64 x.asked.seq,.int .i64 x.asked.cmd.kind,.str x.asked.cmd.key,.int .i64 x.asked.cmd.value,.int .i64 x.asked.cmd.old,.int .i64 x.reply]
def Answer.Fit (x:Answer):Prop:=Entry.Fit x.asked∧ZX x.reply
theorem Answer.of (us:List U) (hl:us.length=7) (ht:∀ (j:Nat) ty u,[Ty.i .i64,.i .i64,.i .i64,.s,.i .i64,.i .i64,.i .i64][j]?=some ty→us[j]?=some u→UT ty u):∃ x,us=Answer.u x∧Answer.Fit x:=by
 match us,hl with
 | [c0,c1,c2,c3,c4,c5,c6],_=>
  obtain ⟨x0,rfl,f0⟩:=(ht 0 _ c0 rfl rfl).int_of
  obtain ⟨x1,rfl,f1⟩:=(ht 1 _ c1 rfl rfl).int_of
  obtain ⟨x2,rfl,f2⟩:=(ht 2 _ c2 rfl rfl).int_of
  obtain ⟨x3,rfl,f3⟩:=(ht 3 _ c3 rfl rfl).str_of
  obtain ⟨x4,rfl,f4⟩:=(ht 4 _ c4 rfl rfl).int_of
  obtain ⟨x5,rfl,f5⟩:=(ht 5 _ c5 rfl rfl).int_of
  obtain ⟨x6,rfl,f6⟩:=(ht 6 _ c6 rfl rfl).int_of
  exact ⟨⟨⟨x0,x1,⟨x2,x3,x4,x5⟩⟩,x6⟩,rfl,⟨⟨f0,f1,⟨f2,f3,f4,f5⟩⟩,f6⟩⟩
structure State where
 span:Interval
 pairs:(List Pair)
 known:(List Session)
 sealed:Bool
 cut:Str
def State.u (x:State):List U:=[.str x.span.low,.str x.span.high,.sl 2 (x.pairs.map Pair.u),.sl 3 (x.known.map Session.u),.bool x.sealed,.str x.cut]
def State.Fit (x:State):Prop:=Interval.Fit x.span∧(x.pairs.length≤9223372036854775807∧∀ y,y∈x.pairs→Pair.Fit y)∧(x.known.length≤9223372036854775807∧∀ y,y∈x.known→Session.Fit y)∧True∧x.cut.length≤9223372036854775807
theorem State.of (us:List U) (hl:us.length=6) (ht:∀ (j:Nat) ty u,[Ty.s,.s,.sl [.s,.i .i64],.sl [.i .i64,.i .i64,.i .i64],.b,.s][j]?=some ty→us[j]?=some u→UT ty u):∃ x,us=State.u x∧State.Fit x:=by
 match us,hl with
 | [c0,c1,c2,c3,c4,c5],_=>
  obtain ⟨x0,rfl,f0⟩:=(ht 0 _ c0 rfl rfl).str_of
  obtain ⟨x1,rfl,f1⟩:=(ht 1 _ c1 rfl rfl).str_of
  obtain ⟨x2,rfl,f2⟩:=(ht 2 _ c2 rfl rfl).sl_of Pair.of
  obtain ⟨x3,rfl,f3⟩:=(ht 3 _ c3 rfl rfl).sl_of Session.of
  obtain ⟨x4,rfl⟩:=(ht 4 _ c4 rfl rfl).bool_of
  obtain ⟨x5,rfl,f5⟩:=(ht 5 _ c5 rfl rfl).str_of
  exact ⟨⟨⟨x0,x1⟩,x2,x3,x4,x5⟩,rfl,⟨⟨f0,f1⟩,f2,f3,trivial,f5⟩⟩
structure Piece where
 span:Interval
 pairs:(List Pair)
def Piece.u (x:Piece):List U:=[.str x.span.low,.str x.span.high,.sl 2 (x.pairs.map Pair.u)]
def Piece.Fit (x:Piece):Prop:=Interval.Fit x.span∧(x.pairs.length≤9223372036854775807∧∀ y,y∈x.pairs→Pair.Fit y)
theorem Piece.of (us:List U) (hl:us.length=3) (ht:∀ (j:Nat) ty u,[Ty.s,.s,.sl [.s,.i .i64]][j]?=some ty→us[j]?=some u→UT ty u):∃ x,us=Piece.u x∧Piece.Fit x:=by
 match us,hl with
 | [c0,c1,c2],_=>
  obtain ⟨x0,rfl,f0⟩:=(ht 0 _ c0 rfl rfl).str_of
  obtain ⟨x1,rfl,f1⟩:=(ht 1 _ c1 rfl rfl).str_of
  obtain ⟨x2,rfl,f2⟩:=(ht 2 _ c2 rfl rfl).sl_of Pair.of
  exact ⟨⟨⟨x0,x1⟩,x2⟩,rfl,⟨⟨f0,f1⟩,f2⟩⟩
structure Config where
 epoch:Int
 members:(List Int)
 fresh:Bool
def Config.u (x:Config):List U:=[.int .i64 x.epoch,.sl 1 (x.members.map iU),.bool x.fresh]
def Config.Fit (x:Config):Prop:=ZX x.epoch∧(x.members.length≤9223372036854775807∧∀ y,y∈x.members→ZX y)∧True
theorem Config.of (us:List U) (hl:us.length=3) (ht:∀ (j:Nat) ty u,[Ty.i .i64,.sl [.i .i64],.b][j]?=some ty→us[j]?=some u→UT ty u):∃ x,us=Config.u x∧Config.Fit x:=by
 match us,hl with
 | [c0,c1,c2],_=>
  obtain ⟨x0,rfl,f0⟩:=(ht 0 _ c0 rfl rfl).int_of
  obtain ⟨x1,rfl,f1⟩:=(ht 1 _ c1 rfl rfl).sl_of ZHO
  obtain ⟨x2,rfl⟩:=(ht 2 _ c2 rfl rfl).bool_of
  exact ⟨⟨x0,x1,x2⟩,rfl,⟨f0,f1,trivial⟩⟩
structure Event where
 kind:Int
 node:Int
 place:Int
 sent:Entry
def Event.u (x:Event):List U:=[.int .i64 x.kind,.int .i64 x.node,.int .i64 x.place,.int .i64 x.sent.client,.int .i64 x.sent.seq,.int .i64 x.sent.cmd.kind,.str x.sent.cmd.key,.int .i64 x.sent.cmd.value,.int .i64 x.sent.cmd.old]
def Event.Fit (x:Event):Prop:=ZX x.kind∧ZX x.node∧ZX x.place∧Entry.Fit x.sent
theorem Event.of (us:List U) (hl:us.length=9) (ht:∀ (j:Nat) ty u,[Ty.i .i64,.i .i64,.i .i64,.i .i64,.i .i64,.i .i64,.s,.i .i64,.i .i64][j]?=some ty→us[j]?=some u→UT ty u):∃ x,us=Event.u x∧Event.Fit x:=by
 match us,hl with
 | [c0,c1,c2,c3,c4,c5,c6,c7,c8],_=>
  obtain ⟨x0,rfl,f0⟩:=(ht 0 _ c0 rfl rfl).int_of
  obtain ⟨x1,rfl,f1⟩:=(ht 1 _ c1 rfl rfl).int_of
  obtain ⟨x2,rfl,f2⟩:=(ht 2 _ c2 rfl rfl).int_of
  obtain ⟨x3,rfl,f3⟩:=(ht 3 _ c3 rfl rfl).int_of
  obtain ⟨x4,rfl,f4⟩:=(ht 4 _ c4 rfl rfl).int_of
  obtain ⟨x5,rfl,f5⟩:=(ht 5 _ c5 rfl rfl).int_of
  obtain ⟨x6,rfl,f6⟩:=(ht 6 _ c6 rfl rfl).str_of
  obtain ⟨x7,rfl,f7⟩:=(ht 7 _ c7 rfl rfl).int_of
  obtain ⟨x8,rfl,f8⟩:=(ht 8 _ c8 rfl rfl).int_of
  exact ⟨⟨x0,x1,x2,⟨x3,x4,⟨x5,x6,x7,x8⟩⟩⟩,rfl,⟨f0,f1,f2,⟨f3,f4,⟨f5,f6,f7,f8⟩⟩⟩⟩
structure Plan where
 kind:Int
 first:Int
 second:Int
 key:Str
 from_:Int
 to_:Int
 step:Int
def Plan.u (x:Plan):List U:=[.int .i64 x.kind,.int .i64 x.first,.int .i64 x.second,.str x.key,.int .i64 x.from_,.int .i64 x.to_,.int .i64 x.step]
def Plan.Fit (x:Plan):Prop:=ZX x.kind∧ZX x.first∧ZX x.second∧x.key.length≤9223372036854775807∧ZX x.from_∧ZX x.to_∧ZX x.step
theorem Plan.of (us:List U) (hl:us.length=7) (ht:∀ (j:Nat) ty u,[Ty.i .i64,.i .i64,.i .i64,.s,.i .i64,.i .i64,.i .i64][j]?=some ty→us[j]?=some u→UT ty u):∃ x,us=Plan.u x∧Plan.Fit x:=by
 match us,hl with
 | [c0,c1,c2,c3,c4,c5,c6],_=>
  obtain ⟨x0,rfl,f0⟩:=(ht 0 _ c0 rfl rfl).int_of
  obtain ⟨x1,rfl,f1⟩:=(ht 1 _ c1 rfl rfl).int_of
  obtain ⟨x2,rfl,f2⟩:=(ht 2 _ c2 rfl rfl).int_of
  obtain ⟨x3,rfl,f3⟩:=(ht 3 _ c3 rfl rfl).str_of
  obtain ⟨x4,rfl,f4⟩:=(ht 4 _ c4 rfl rfl).int_of
  obtain ⟨x5,rfl,f5⟩:=(ht 5 _ c5 rfl rfl).int_of
  obtain ⟨x6,rfl,f6⟩:=(ht 6 _ c6 rfl rfl).int_of
  exact ⟨⟨x0,x1,x2,x3,x4,x5,x6⟩,rfl,⟨f0,f1,f2,f3,f4,f5,f6⟩⟩
structure Deed where
 kind:Int
 who:Int
 node:Int
 number:Int
 wish:Command
 inner:Event
 work:Plan
def Deed.u (x:Deed):List U:=[.int .i64 x.kind,.int .i64 x.who,.int .i64 x.node,.int .i64 x.number,.int .i64 x.wish.kind,.str x.wish.key,.int .i64 x.wish.value,.int .i64 x.wish.old,.int .i64 x.inner.kind,.int .i64 x.inner.node,.int .i64 x.inner.place,.int .i64 x.inner.sent.client,.int .i64 x.inner.sent.seq,.int .i64 x.inner.sent.cmd.kind,.str x.inner.sent.cmd.key,.int .i64 x.inner.sent.cmd.value,.int .i64 x.inner.sent.cmd.old,.int .i64 x.work.kind,.int .i64 x.work.first,.int .i64 x.work.second,.str x.work.key,.int .i64 x.work.from_,.int .i64 x.work.to_,.int .i64 x.work.step]
def Deed.Fit (x:Deed):Prop:=ZX x.kind∧ZX x.who∧ZX x.node∧ZX x.number∧Command.Fit x.wish∧Event.Fit x.inner∧Plan.Fit x.work
theorem Deed.of (us:List U) (hl:us.length=24) (ht:∀ (j:Nat) ty u,[Ty.i .i64,.i .i64,.i .i64,.i .i64,.i .i64,.s,.i .i64,.i .i64,.i .i64,.i .i64,.i .i64,.i .i64,.i .i64,.i .i64,.s,.i .i64,.i .i64,.i .i64,.i .i64,.i .i64,.s,.i .i64,.i .i64,.i .i64][j]?=some ty→us[j]?=some u→UT ty u):∃ x,us=Deed.u x∧Deed.Fit x:=by
 match us,hl with
 | [c0,c1,c2,c3,c4,c5,c6,c7,c8,c9,c10,c11,c12,c13,c14,c15,c16,c17,c18,c19,c20,c21,c22,c23],_=>
  obtain ⟨x0,rfl,f0⟩:=(ht 0 _ c0 rfl rfl).int_of
  obtain ⟨x1,rfl,f1⟩:=(ht 1 _ c1 rfl rfl).int_of
  obtain ⟨x2,rfl,f2⟩:=(ht 2 _ c2 rfl rfl).int_of
  obtain ⟨x3,rfl,f3⟩:=(ht 3 _ c3 rfl rfl).int_of
  obtain ⟨x4,rfl,f4⟩:=(ht 4 _ c4 rfl rfl).int_of
  obtain ⟨x5,rfl,f5⟩:=(ht 5 _ c5 rfl rfl).str_of
  obtain ⟨x6,rfl,f6⟩:=(ht 6 _ c6 rfl rfl).int_of
  obtain ⟨x7,rfl,f7⟩:=(ht 7 _ c7 rfl rfl).int_of
  obtain ⟨x8,rfl,f8⟩:=(ht 8 _ c8 rfl rfl).int_of
  obtain ⟨x9,rfl,f9⟩:=(ht 9 _ c9 rfl rfl).int_of
  obtain ⟨x10,rfl,f10⟩:=(ht 10 _ c10 rfl rfl).int_of
  obtain ⟨x11,rfl,f11⟩:=(ht 11 _ c11 rfl rfl).int_of
  obtain ⟨x12,rfl,f12⟩:=(ht 12 _ c12 rfl rfl).int_of
  obtain ⟨x13,rfl,f13⟩:=(ht 13 _ c13 rfl rfl).int_of
  obtain ⟨x14,rfl,f14⟩:=(ht 14 _ c14 rfl rfl).str_of
  obtain ⟨x15,rfl,f15⟩:=(ht 15 _ c15 rfl rfl).int_of
  obtain ⟨x16,rfl,f16⟩:=(ht 16 _ c16 rfl rfl).int_of
  obtain ⟨x17,rfl,f17⟩:=(ht 17 _ c17 rfl rfl).int_of
  obtain ⟨x18,rfl,f18⟩:=(ht 18 _ c18 rfl rfl).int_of
  obtain ⟨x19,rfl,f19⟩:=(ht 19 _ c19 rfl rfl).int_of
  obtain ⟨x20,rfl,f20⟩:=(ht 20 _ c20 rfl rfl).str_of
  obtain ⟨x21,rfl,f21⟩:=(ht 21 _ c21 rfl rfl).int_of
  obtain ⟨x22,rfl,f22⟩:=(ht 22 _ c22 rfl rfl).int_of
  obtain ⟨x23,rfl,f23⟩:=(ht 23 _ c23 rfl rfl).int_of
  exact ⟨⟨x0,x1,x2,x3,⟨x4,x5,x6,x7⟩,⟨x8,x9,x10,⟨x11,x12,⟨x13,x14,x15,x16⟩⟩⟩,⟨x17,x18,x19,x20,x21,x22,x23⟩⟩,rfl,⟨f0,f1,f2,f3,⟨f4,f5,f6,f7⟩,⟨f8,f9,f10,⟨f11,f12,⟨f13,f14,f15,f16⟩⟩⟩,⟨f17,f18,f19,f20,f21,f22,f23⟩⟩⟩
structure Replica where
 conf:Config
 ready:Bool
 log:(List Entry)
def Replica.u (x:Replica):List U:=[.int .i64 x.conf.epoch,.sl 1 (x.conf.members.map iU),.bool x.conf.fresh,.bool x.ready,.sl 6 (x.log.map Entry.u)]
def Replica.Fit (x:Replica):Prop:=Config.Fit x.conf∧True∧(x.log.length≤9223372036854775807∧∀ y,y∈x.log→Entry.Fit y)
theorem Replica.of (us:List U) (hl:us.length=5) (ht:∀ (j:Nat) ty u,[Ty.i .i64,.sl [.i .i64],.b,.b,.sl [.i .i64,.i .i64,.i .i64,.s,.i .i64,.i .i64]][j]?=some ty→us[j]?=some u→UT ty u):∃ x,us=Replica.u x∧Replica.Fit x:=by
 match us,hl with
 | [c0,c1,c2,c3,c4],_=>
  obtain ⟨x0,rfl,f0⟩:=(ht 0 _ c0 rfl rfl).int_of
  obtain ⟨x1,rfl,f1⟩:=(ht 1 _ c1 rfl rfl).sl_of ZHO
  obtain ⟨x2,rfl⟩:=(ht 2 _ c2 rfl rfl).bool_of
  obtain ⟨x3,rfl⟩:=(ht 3 _ c3 rfl rfl).bool_of
  obtain ⟨x4,rfl,f4⟩:=(ht 4 _ c4 rfl rfl).sl_of Entry.of
  exact ⟨⟨⟨x0,x1,x2⟩,x3,x4⟩,rfl,⟨⟨f0,f1,trivial⟩,trivial,f4⟩⟩
structure Message where
 kind:Int
 to_:Int
 epoch:Int
 conf:Config
 log:(List Entry)
def Message.u (x:Message):List U:=[.int .i64 x.kind,.int .i64 x.to_,.int .i64 x.epoch,.int .i64 x.conf.epoch,.sl 1 (x.conf.members.map iU),.bool x.conf.fresh,.sl 6 (x.log.map Entry.u)]
def Message.Fit (x:Message):Prop:=ZX x.kind∧ZX x.to_∧ZX x.epoch∧Config.Fit x.conf∧(x.log.length≤9223372036854775807∧∀ y,y∈x.log→Entry.Fit y)
theorem Message.of (us:List U) (hl:us.length=7) (ht:∀ (j:Nat) ty u,[Ty.i .i64,.i .i64,.i .i64,.i .i64,.sl [.i .i64],.b,.sl [.i .i64,.i .i64,.i .i64,.s,.i .i64,.i .i64]][j]?=some ty→us[j]?=some u→UT ty u):∃ x,us=Message.u x∧Message.Fit x:=by
 match us,hl with
 | [c0,c1,c2,c3,c4,c5,c6],_=>
  obtain ⟨x0,rfl,f0⟩:=(ht 0 _ c0 rfl rfl).int_of
  obtain ⟨x1,rfl,f1⟩:=(ht 1 _ c1 rfl rfl).int_of
  obtain ⟨x2,rfl,f2⟩:=(ht 2 _ c2 rfl rfl).int_of
  obtain ⟨x3,rfl,f3⟩:=(ht 3 _ c3 rfl rfl).int_of
  obtain ⟨x4,rfl,f4⟩:=(ht 4 _ c4 rfl rfl).sl_of ZHO
  obtain ⟨x5,rfl⟩:=(ht 5 _ c5 rfl rfl).bool_of
  obtain ⟨x6,rfl,f6⟩:=(ht 6 _ c6 rfl rfl).sl_of Entry.of
  exact ⟨⟨x0,x1,x2,⟨x3,x4,x5⟩,x6⟩,rfl,⟨f0,f1,f2,⟨f3,f4,trivial⟩,f6⟩⟩
structure Chain where
 base:State
 conf:Config
 nodes:(List Replica)
 up:(List Bool)
 bag:(List Message)
 answers:(List Answer)
def Chain.u (x:Chain):List U:=[.str x.base.span.low,.str x.base.span.high,.sl 2 (x.base.pairs.map Pair.u),.sl 3 (x.base.known.map Session.u),.bool x.base.sealed,.str x.base.cut,.int .i64 x.conf.epoch,.sl 1 (x.conf.members.map iU),.bool x.conf.fresh,.sl 5 (x.nodes.map Replica.u),.sl 1 (x.up.map bU),.sl 7 (x.bag.map Message.u),.sl 7 (x.answers.map Answer.u)]
def Chain.Fit (x:Chain):Prop:=State.Fit x.base∧Config.Fit x.conf∧(x.nodes.length≤9223372036854775807∧∀ y,y∈x.nodes→Replica.Fit y)∧(x.up.length≤9223372036854775807∧∀ y,y∈x.up→True)∧(x.bag.length≤9223372036854775807∧∀ y,y∈x.bag→Message.Fit y)∧(x.answers.length≤9223372036854775807∧∀ y,y∈x.answers→Answer.Fit y)
theorem Chain.of (us:List U) (hl:us.length=13) (ht:∀ (j:Nat) ty u,[Ty.s,.s,.sl [.s,.i .i64],.sl [.i .i64,.i .i64,.i .i64],.b,.s,.i .i64,.sl [.i .i64],.b,.sl [.i .i64,.sl [.i .i64],.b,.b,.sl [.i .i64,.i .i64,.i .i64,.s,.i .i64,.i .i64]],.sl [.b],.sl [.i .i64,.i .i64,.i .i64,.i .i64,.sl [.i .i64],.b,.sl [.i .i64,.i .i64,.i .i64,.s,.i .i64,.i .i64]],.sl [.i .i64,.i .i64,.i .i64,.s,.i .i64,.i .i64,.i .i64]][j]?=some ty→us[j]?=some u→UT ty u):∃ x,us=Chain.u x∧Chain.Fit x:=by
 match us,hl with
 | [c0,c1,c2,c3,c4,c5,c6,c7,c8,c9,c10,c11,c12],_=>
  obtain ⟨x0,rfl,f0⟩:=(ht 0 _ c0 rfl rfl).str_of
  obtain ⟨x1,rfl,f1⟩:=(ht 1 _ c1 rfl rfl).str_of
  obtain ⟨x2,rfl,f2⟩:=(ht 2 _ c2 rfl rfl).sl_of Pair.of
  obtain ⟨x3,rfl,f3⟩:=(ht 3 _ c3 rfl rfl).sl_of Session.of
  obtain ⟨x4,rfl⟩:=(ht 4 _ c4 rfl rfl).bool_of
  obtain ⟨x5,rfl,f5⟩:=(ht 5 _ c5 rfl rfl).str_of
  obtain ⟨x6,rfl,f6⟩:=(ht 6 _ c6 rfl rfl).int_of
  obtain ⟨x7,rfl,f7⟩:=(ht 7 _ c7 rfl rfl).sl_of ZHO
  obtain ⟨x8,rfl⟩:=(ht 8 _ c8 rfl rfl).bool_of
  obtain ⟨x9,rfl,f9⟩:=(ht 9 _ c9 rfl rfl).sl_of Replica.of
  obtain ⟨x10,rfl,f10⟩:=(ht 10 _ c10 rfl rfl).sl_of ZIP
  obtain ⟨x11,rfl,f11⟩:=(ht 11 _ c11 rfl rfl).sl_of Message.of
  obtain ⟨x12,rfl,f12⟩:=(ht 12 _ c12 rfl rfl).sl_of Answer.of
  exact ⟨⟨⟨⟨x0,x1⟩,x2,x3,x4,x5⟩,⟨x6,x7,x8⟩,x9,x10,x11,x12⟩,rfl,⟨⟨⟨f0,f1⟩,f2,f3,trivial,f5⟩,⟨f6,f7,trivial⟩,f9,f10,f11,f12⟩⟩
structure Route where
 number:Int
 span:Interval
def Route.u (x:Route):List U:=[.int .i64 x.number,.str x.span.low,.str x.span.high]
def Route.Fit (x:Route):Prop:=ZX x.number∧Interval.Fit x.span
theorem Route.of (us:List U) (hl:us.length=3) (ht:∀ (j:Nat) ty u,[Ty.i .i64,.s,.s][j]?=some ty→us[j]?=some u→UT ty u):∃ x,us=Route.u x∧Route.Fit x:=by
 match us,hl with
 | [c0,c1,c2],_=>
  obtain ⟨x0,rfl,f0⟩:=(ht 0 _ c0 rfl rfl).int_of
  obtain ⟨x1,rfl,f1⟩:=(ht 1 _ c1 rfl rfl).str_of
  obtain ⟨x2,rfl,f2⟩:=(ht 2 _ c2 rfl rfl).str_of
  exact ⟨⟨x0,⟨x1,x2⟩⟩,rfl,⟨f0,⟨f1,f2⟩⟩⟩
structure Caller where
 cache:(List Route)
 seq:Int
 busy:Bool
 wish:Command
 called:Int
def Caller.u (x:Caller):List U:=[.sl 3 (x.cache.map Route.u),.int .i64 x.seq,.bool x.busy,.int .i64 x.wish.kind,.str x.wish.key,.int .i64 x.wish.value,.int .i64 x.wish.old,.int .i64 x.called]
def Caller.Fit (x:Caller):Prop:=(x.cache.length≤9223372036854775807∧∀ y,y∈x.cache→Route.Fit y)∧ZX x.seq∧True∧Command.Fit x.wish∧ZX x.called
theorem Caller.of (us:List U) (hl:us.length=8) (ht:∀ (j:Nat) ty u,[Ty.sl [.i .i64,.s,.s],.i .i64,.b,.i .i64,.s,.i .i64,.i .i64,.i .i64][j]?=some ty→us[j]?=some u→UT ty u):∃ x,us=Caller.u x∧Caller.Fit x:=by
 match us,hl with
 | [c0,c1,c2,c3,c4,c5,c6,c7],_=>
  obtain ⟨x0,rfl,f0⟩:=(ht 0 _ c0 rfl rfl).sl_of Route.of
  obtain ⟨x1,rfl,f1⟩:=(ht 1 _ c1 rfl rfl).int_of
  obtain ⟨x2,rfl⟩:=(ht 2 _ c2 rfl rfl).bool_of
  obtain ⟨x3,rfl,f3⟩:=(ht 3 _ c3 rfl rfl).int_of
  obtain ⟨x4,rfl,f4⟩:=(ht 4 _ c4 rfl rfl).str_of
  obtain ⟨x5,rfl,f5⟩:=(ht 5 _ c5 rfl rfl).int_of
  obtain ⟨x6,rfl,f6⟩:=(ht 6 _ c6 rfl rfl).int_of
  obtain ⟨x7,rfl,f7⟩:=(ht 7 _ c7 rfl rfl).int_of
  exact ⟨⟨x0,x1,x2,⟨x3,x4,x5,x6⟩,x7⟩,rfl,⟨f0,f1,trivial,⟨f3,f4,f5,f6⟩,f7⟩⟩
structure Result where
 client:Int
 seq:Int
 wish:Command
 reply:Int
 called:Int
 returned:Int
def Result.u (x:Result):List U:=[.int .i64 x.client,.int .i64 x.seq,.int .i64 x.wish.kind,.str x.wish.key,.int .i64 x.wish.value,.int .i64 x.wish.old,.int .i64 x.reply,.int .i64 x.called,.int .i64 x.returned]
def Result.Fit (x:Result):Prop:=ZX x.client∧ZX x.seq∧Command.Fit x.wish∧ZX x.reply∧ZX x.called∧ZX x.returned
theorem Result.of (us:List U) (hl:us.length=9) (ht:∀ (j:Nat) ty u,[Ty.i .i64,.i .i64,.i .i64,.s,.i .i64,.i .i64,.i .i64,.i .i64,.i .i64][j]?=some ty→us[j]?=some u→UT ty u):∃ x,us=Result.u x∧Result.Fit x:=by
 match us,hl with
 | [c0,c1,c2,c3,c4,c5,c6,c7,c8],_=>
  obtain ⟨x0,rfl,f0⟩:=(ht 0 _ c0 rfl rfl).int_of
  obtain ⟨x1,rfl,f1⟩:=(ht 1 _ c1 rfl rfl).int_of
  obtain ⟨x2,rfl,f2⟩:=(ht 2 _ c2 rfl rfl).int_of
  obtain ⟨x3,rfl,f3⟩:=(ht 3 _ c3 rfl rfl).str_of
  obtain ⟨x4,rfl,f4⟩:=(ht 4 _ c4 rfl rfl).int_of
  obtain ⟨x5,rfl,f5⟩:=(ht 5 _ c5 rfl rfl).int_of
  obtain ⟨x6,rfl,f6⟩:=(ht 6 _ c6 rfl rfl).int_of
  obtain ⟨x7,rfl,f7⟩:=(ht 7 _ c7 rfl rfl).int_of
  obtain ⟨x8,rfl,f8⟩:=(ht 8 _ c8 rfl rfl).int_of
  exact ⟨⟨x0,x1,⟨x2,x3,x4,x5⟩,x6,x7,x8⟩,rfl,⟨f0,f1,⟨f2,f3,f4,f5⟩,f6,f7,f8⟩⟩
structure Shard where
 live:Bool
 group:Chain
def Shard.u (x:Shard):List U:=[.bool x.live,.str x.group.base.span.low,.str x.group.base.span.high,.sl 2 (x.group.base.pairs.map Pair.u),.sl 3 (x.group.base.known.map Session.u),.bool x.group.base.sealed,.str x.group.base.cut,.int .i64 x.group.conf.epoch,.sl 1 (x.group.conf.members.map iU),.bool x.group.conf.fresh,.sl 5 (x.group.nodes.map Replica.u),.sl 1 (x.group.up.map bU),.sl 7 (x.group.bag.map Message.u),.sl 7 (x.group.answers.map Answer.u)]
def Shard.Fit (x:Shard):Prop:=True∧Chain.Fit x.group
theorem Shard.of (us:List U) (hl:us.length=14) (ht:∀ (j:Nat) ty u,[Ty.b,.s,.s,.sl [.s,.i .i64],.sl [.i .i64,.i .i64,.i .i64],.b,.s,.i .i64,.sl [.i .i64],.b,.sl [.i .i64,.sl [.i .i64],.b,.b,.sl [.i .i64,.i .i64,.i .i64,.s,.i .i64,.i .i64]],.sl [.b],.sl [.i .i64,.i .i64,.i .i64,.i .i64,.sl [.i .i64],.b,.sl [.i .i64,.i .i64,.i .i64,.s,.i .i64,.i .i64]],.sl [.i .i64,.i .i64,.i .i64,.s,.i .i64,.i .i64,.i .i64]][j]?=some ty→us[j]?=some u→UT ty u):∃ x,us=Shard.u x∧Shard.Fit x:=by
 match us,hl with
 | [c0,c1,c2,c3,c4,c5,c6,c7,c8,c9,c10,c11,c12,c13],_=>
  obtain ⟨x0,rfl⟩:=(ht 0 _ c0 rfl rfl).bool_of
  obtain ⟨x1,rfl,f1⟩:=(ht 1 _ c1 rfl rfl).str_of
  obtain ⟨x2,rfl,f2⟩:=(ht 2 _ c2 rfl rfl).str_of
  obtain ⟨x3,rfl,f3⟩:=(ht 3 _ c3 rfl rfl).sl_of Pair.of
  obtain ⟨x4,rfl,f4⟩:=(ht 4 _ c4 rfl rfl).sl_of Session.of
  obtain ⟨x5,rfl⟩:=(ht 5 _ c5 rfl rfl).bool_of
  obtain ⟨x6,rfl,f6⟩:=(ht 6 _ c6 rfl rfl).str_of
  obtain ⟨x7,rfl,f7⟩:=(ht 7 _ c7 rfl rfl).int_of
  obtain ⟨x8,rfl,f8⟩:=(ht 8 _ c8 rfl rfl).sl_of ZHO
  obtain ⟨x9,rfl⟩:=(ht 9 _ c9 rfl rfl).bool_of
  obtain ⟨x10,rfl,f10⟩:=(ht 10 _ c10 rfl rfl).sl_of Replica.of
  obtain ⟨x11,rfl,f11⟩:=(ht 11 _ c11 rfl rfl).sl_of ZIP
  obtain ⟨x12,rfl,f12⟩:=(ht 12 _ c12 rfl rfl).sl_of Message.of
  obtain ⟨x13,rfl,f13⟩:=(ht 13 _ c13 rfl rfl).sl_of Answer.of
  exact ⟨⟨x0,⟨⟨⟨x1,x2⟩,x3,x4,x5,x6⟩,⟨x7,x8,x9⟩,x10,x11,x12,x13⟩⟩,rfl,⟨trivial,⟨⟨⟨f1,f2⟩,f3,f4,trivial,f6⟩,⟨f7,f8,trivial⟩,f10,f11,f12,f13⟩⟩⟩
structure Cluster where
 shards:(List Shard)
 clients:(List Caller)
 results:(List Result)
 work:Plan
 turn:Int
 clock:Int
def Cluster.u (x:Cluster):List U:=[.sl 14 (x.shards.map Shard.u),.sl 8 (x.clients.map Caller.u),.sl 9 (x.results.map Result.u),.int .i64 x.work.kind,.int .i64 x.work.first,.int .i64 x.work.second,.str x.work.key,.int .i64 x.work.from_,.int .i64 x.work.to_,.int .i64 x.work.step,.int .i64 x.turn,.int .i64 x.clock]
def Cluster.Fit (x:Cluster):Prop:=(x.shards.length≤9223372036854775807∧∀ y,y∈x.shards→Shard.Fit y)∧(x.clients.length≤9223372036854775807∧∀ y,y∈x.clients→Caller.Fit y)∧(x.results.length≤9223372036854775807∧∀ y,y∈x.results→Result.Fit y)∧Plan.Fit x.work∧ZX x.turn∧ZX x.clock
theorem Cluster.of (us:List U) (hl:us.length=12) (ht:∀ (j:Nat) ty u,[Ty.sl [.b,.s,.s,.sl [.s,.i .i64],.sl [.i .i64,.i .i64,.i .i64],.b,.s,.i .i64,.sl [.i .i64],.b,.sl [.i .i64,.sl [.i .i64],.b,.b,.sl [.i .i64,.i .i64,.i .i64,.s,.i .i64,.i .i64]],.sl [.b],.sl [.i .i64,.i .i64,.i .i64,.i .i64,.sl [.i .i64],.b,.sl [.i .i64,.i .i64,.i .i64,.s,.i .i64,.i .i64]],.sl [.i .i64,.i .i64,.i .i64,.s,.i .i64,.i .i64,.i .i64]],.sl [.sl [.i .i64,.s,.s],.i .i64,.b,.i .i64,.s,.i .i64,.i .i64,.i .i64],.sl [.i .i64,.i .i64,.i .i64,.s,.i .i64,.i .i64,.i .i64,.i .i64,.i .i64],.i .i64,.i .i64,.i .i64,.s,.i .i64,.i .i64,.i .i64,.i .i64,.i .i64][j]?=some ty→us[j]?=some u→UT ty u):∃ x,us=Cluster.u x∧Cluster.Fit x:=by
 match us,hl with
 | [c0,c1,c2,c3,c4,c5,c6,c7,c8,c9,c10,c11],_=>
  obtain ⟨x0,rfl,f0⟩:=(ht 0 _ c0 rfl rfl).sl_of Shard.of
  obtain ⟨x1,rfl,f1⟩:=(ht 1 _ c1 rfl rfl).sl_of Caller.of
  obtain ⟨x2,rfl,f2⟩:=(ht 2 _ c2 rfl rfl).sl_of Result.of
  obtain ⟨x3,rfl,f3⟩:=(ht 3 _ c3 rfl rfl).int_of
  obtain ⟨x4,rfl,f4⟩:=(ht 4 _ c4 rfl rfl).int_of
  obtain ⟨x5,rfl,f5⟩:=(ht 5 _ c5 rfl rfl).int_of
  obtain ⟨x6,rfl,f6⟩:=(ht 6 _ c6 rfl rfl).str_of
  obtain ⟨x7,rfl,f7⟩:=(ht 7 _ c7 rfl rfl).int_of
  obtain ⟨x8,rfl,f8⟩:=(ht 8 _ c8 rfl rfl).int_of
  obtain ⟨x9,rfl,f9⟩:=(ht 9 _ c9 rfl rfl).int_of
  obtain ⟨x10,rfl,f10⟩:=(ht 10 _ c10 rfl rfl).int_of
  obtain ⟨x11,rfl,f11⟩:=(ht 11 _ c11 rfl rfl).int_of
  exact ⟨⟨x0,x1,x2,⟨x3,x4,x5,x6,x7,x8,x9⟩,x10,x11⟩,rfl,⟨f0,f1,f2,⟨f3,f4,f5,f6,f7,f8,f9⟩,f10,f11⟩⟩
theorem ZFZ:(∀ l:List Pair,ZcM (l.map Pair.u)=true)∧(∀ l:List Session,ZcM (l.map Session.u)=true)∧(∀ l:List Int,ZcM (l.map iU)=true)∧(∀ l:List Answer,ZcM (l.map Answer.u)=true)∧(∀ l:List Entry,ZcM (l.map Entry.u)=true)∧(∀ l:List Bool,ZcM (l.map bU)=true)∧(∀ l:List Route,ZcM (l.map Route.u)=true)∧(∀ l:List Result,ZcM (l.map Result.u)=true)∧(∀ l:List Interval,ZcM (l.map Interval.u)=true)∧(∀ (b:Bool) (x:List Id),sel b x x=x)∧
  (∀ (st:St) d res x0 x1 x2 x3 x4 x5 x6,St.ofRet st d ⟨res,[x0,x1,x2,x3,x4,x5,x6],[]⟩=(((((((st.obj (.loc d 0) (some x0)).obj (.loc d 1) (some x1)).obj (.loc d 2) (some x2)).obj (.loc d 3) (some x3)).obj (.loc d 4) (some x4)).obj (.loc d 5) (some x5)).obj (.loc d 6) (some x6)).put d (retD (res.map (T.mapC (C.ren (Zah d))))))∧List.range 7=[0,1,2,3,4,5,6]∧
  (∀ l:List Pair,Zbm (l.map Pair.u)=true)∧(∀ l:List Session,Zbm (l.map Session.u)=true)∧(∀ l:List Int,Zbm (l.map iU)=true)∧(∀ l:List Answer,Zbm (l.map Answer.u)=true)∧(∀ l:List Entry,Zbm (l.map Entry.u)=true)∧(∀ l:List Bool,Zbm (l.map bU)=true)∧(∀ l:List Route,Zbm (l.map Route.u)=true)∧(∀ l:List Result,Zbm (l.map Result.u)=true)∧(∀ l:List Interval,Zbm (l.map Interval.u)=true):=
 ⟨Zja fun _=>rfl,Zja fun _=>rfl,Zja fun _=>rfl,Zja fun _=>rfl,Zja fun _=>rfl,Zja fun _=>rfl,Zja fun _=>rfl,Zja fun _=>rfl,Zja fun _=>rfl,fun b x=>by cases b<;>rfl,fun st d res x0 x1 x2 x3 x4 x5 x6=>rfl,rfl,Zjj fun _=>rfl,Zjj fun _=>rfl,Zjj fun _=>rfl,Zjj fun _=>rfl,Zjj fun _=>rfl,Zjj fun _=>rfl,Zjj fun _=>rfl,Zjj fun _=>rfl,Zjj fun _=>rfl⟩
theorem xT:(type_of% xQ)∧(type_of% xR)∧(type_of% xS)∧(type_of% ZFZ):=⟨xQ,xR,xS,ZFZ⟩
theorem xU:(type_of% xQ)∧(type_of% xR)∧(type_of% xD)∧(type_of% ZFZ):=⟨xQ,xR,xD,ZFZ⟩
/-- A part is taken off, unless that is too much. -/
def offZ (left:Int) (n:Nat) (k:Int→Int):Int:=if IntKind.i64.wrap (left - n)<0 then -1 else k (IntKind.i64.wrap (left - n))
def chkZ (a:Int) (k:Int→Int):Int:=if a<0 then -1 else k a
def allZ {α:Type} (g:α→Int→Int):List α→Int→Int
 | [],a=>a
 | x::xs,a=>chkZ (g x a) (allZ g xs)
/-- No more is left than was there; what was counted is small. -/
def LeZ (g:Int→Int) (P:Prop):Prop:=∀ a,0≤a→a≤1048576→g a≤a∧(0≤g a→P)
theorem LeZ.off {n:Nat} {k:Int→Int} {P:Prop} (hn:n≤9223372036854775807) (hk:LeZ k P):LeZ (fun a=>offZ a n k) (n≤1048576∧P):=by
 intro a h0 h1
 simp only[offZ]
 rw [w64 (by omega) (by omega)]
 split
 ·exact ⟨by omega,fun h=>by omega⟩
 ·obtain ⟨h2,h3⟩:=hk (a - n) (by omega) (by omega)
  exact ⟨by omega,fun h=>⟨by omega,h3 h⟩⟩
theorem LeZ.chk {g k:Int→Int} {P Q:Prop} (hg:LeZ g P) (hk:LeZ k Q):LeZ (fun a=>chkZ (g a) k) (P∧Q):=by
 intro a h0 h1
 obtain ⟨h2,h3⟩:=hg a h0 h1
 simp only[chkZ]
 split
 ·exact ⟨by omega,fun h=>by omega⟩
 ·obtain ⟨h4,h5⟩:=hk (g a) (by omega) (by omega)
  exact ⟨by omega,fun h=>⟨h3 (by omega),h5 h⟩⟩
theorem LeZ.all {α:Type} {g:α→Int→Int} {P:α→Prop}:∀ {l:List α},(∀ x,x∈l→LeZ (g x) (P x))→LeZ (allZ g l) (∀ x,x∈l→P x)
 | [],_=>fun a _ _=>⟨Int.le_refl _,fun _ x h=>by cases h⟩
 | x::xs,h=>by
  have h1:=(h x (List.mem_cons_self ..)).chk (LeZ.all (l:=xs) (fun y hy=>h y (List.mem_cons_of_mem _ hy)))
  intro a h0 h2
  obtain ⟨h3,h4⟩:=h1 a h0 h2
  refine ⟨h3,fun h y hy=>?_⟩
  rcases List.mem_cons.1 hy with rfl|hy
  ·exact (h4 h).1
  ·exact (h4 h).2 y hy
def ZIk (l:(List Int)):Prop:=l.length≤1048576∧True
def ZHX (l:(List Bool)):Prop:=l.length≤1048576∧True
def Interval.Small (x:Interval):Prop:=x.low.length≤1048576∧x.high.length≤1048576∧True
def Pair.Small (x:Pair):Prop:=x.key.length≤1048576∧True
def ZGW (l:(List Pair)):Prop:=l.length≤1048576∧∀ y,y∈l→Pair.Small y
def Command.Small (x:Command):Prop:=x.key.length≤1048576∧True
def ZHc (l:(List Session)):Prop:=l.length≤1048576∧True
def Entry.Small (x:Entry):Prop:=Command.Small x.cmd∧True
def ZF1 (l:(List Entry)):Prop:=l.length≤1048576∧∀ y,y∈l→Entry.Small y
def Answer.Small (x:Answer):Prop:=Entry.Small x.asked∧True
def ZHu (l:(List Answer)):Prop:=l.length≤1048576∧∀ y,y∈l→Answer.Small y
def State.Small (x:State):Prop:=Interval.Small x.span∧ZGW x.pairs∧ZHc x.known∧x.cut.length≤1048576∧True
def Piece.Small (x:Piece):Prop:=Interval.Small x.span∧ZGW x.pairs∧True
def Config.Small (x:Config):Prop:=ZIk x.members∧True
def Event.Small (x:Event):Prop:=Entry.Small x.sent∧True
def Plan.Small (x:Plan):Prop:=x.key.length≤1048576∧True
def Deed.Small (x:Deed):Prop:=Command.Small x.wish∧Event.Small x.inner∧Plan.Small x.work∧True
def Replica.Small (x:Replica):Prop:=Config.Small x.conf∧ZF1 x.log∧True
def ZHb (l:(List Replica)):Prop:=l.length≤1048576∧∀ y,y∈l→Replica.Small y
def Message.Small (x:Message):Prop:=Config.Small x.conf∧ZF1 x.log∧True
def ZFN (l:(List Message)):Prop:=l.length≤1048576∧∀ y,y∈l→Message.Small y
def Chain.Small (x:Chain):Prop:=State.Small x.base∧Config.Small x.conf∧ZHb x.nodes∧ZHX x.up∧ZFN x.bag∧ZHu x.answers∧True
def Route.Small (x:Route):Prop:=Interval.Small x.span∧True
def ZHJ (l:(List Route)):Prop:=l.length≤1048576∧∀ y,y∈l→Route.Small y
def Caller.Small (x:Caller):Prop:=ZHJ x.cache∧Command.Small x.wish∧True
def ZHv (l:(List Caller)):Prop:=l.length≤1048576∧∀ y,y∈l→Caller.Small y
def Result.Small (x:Result):Prop:=Command.Small x.wish∧True
def ZHw (l:(List Result)):Prop:=l.length≤1048576∧∀ y,y∈l→Result.Small y
def Shard.Small (x:Shard):Prop:=Chain.Small x.group∧True
def ZHK (l:(List Shard)):Prop:=l.length≤1048576∧∀ y,y∈l→Shard.Small y
def Cluster.Small (x:Cluster):Prop:=ZHK x.shards∧ZHv x.clients∧ZHw x.results∧Plan.Small x.work∧True
/-- All from a number on. -/
def allF (n:Nat) (p:Nat→Bool) (i:Nat):Bool:=if i<n then p i&&allF n p (i+1) else true
termination_by n - i
theorem ZFH {n:Nat} {p:Nat→Bool} {i:Nat} (h:i<n):allF n p i=(p i&&allF n p (i+1)):=by rw [allF,if_pos h]
theorem ZFw {n:Nat} {p:Nat→Bool} {i:Nat} (h:¬i<n):allF n p i=true:=by rw [allF,if_neg h]
theorem Z7 {n:Nat} {p:Nat→Bool}:∀ (k i:Nat),n - i=k→(allF n p i=true↔∀ j,i≤j→j<n→p j=true)
 | 0,i,h=>by
  rw [ZFw (by omega)]
  exact ⟨fun _ j h1 h2=>by omega,fun _=>rfl⟩
 | k+1,i,h=>by
  rw [ZFH (by omega),Bool.and_eq_true,Z7 k (i+1) (by omega)]
  refine ⟨fun ⟨h1,h2⟩ j hj hn=>?_,fun h1=>⟨h1 i (Nat.le_refl _) (by omega),fun j hj hn=>h1 j (by omega) hn⟩⟩
  by_cases e:j=i
  ·subst e; exact h1
  ·exact h2 j (by omega) hn
def inR (n a b:Int):Bool:=decide (a≤n)&&decide (n≤b)
theorem ZW (n a b:Int):EE F 34 [I n,I a,I b] []=ok1 (B (inR n a b)):=by
 rw [R34,b34]
 simp only[↓xP,xT,rL,rB,rA,rS]
 repeat' (refine ZiJ (fun h=>?_) (fun h=>?_))
 all_goals (simp_all [inR]<;>(intros; omega))
theorem ZHi (n:Int):EE F 58 [I n] []=ok1 (B (inR n 0 999)):=by
 rw [R58,b58]
 simp only[↓xP,xT,rL,rB,rA,rS]
 repeat' (refine ZiJ (fun h=>?_) (fun h=>?_))
 all_goals (simp_all [inR]<;>(intros; omega))
def ZFF (c:UInt8):Bool:=decide (97≤(c.toNat:Int))&&decide ((c.toNat:Int)≤122)
def ZJ (s:Str):Bool:=decide (1≤s.length)&&decide (s.length≤4)&&s.all ZFF
theorem cut1 (n:Nat):vcut (n+1) (some (DI 1)) none=some (1,n+1):=by
 have:(1:Int)≤(n:Int)+1:=by omega
 simp [vcut,D.int?,this]
theorem ZF8:∀ s:Str,EE F 99 [S s] []=ok1 (B (s.all ZFF))
 | []=>by
  rw [R99,b99]
  simp only[↓xP,xT,rL,rB,rA,rS]
 | c::s=>by
  have h2:(List.take (s.length+1) (c::s)).drop 1=s:=by simp
  rw [R99,b99]
  simp only[↓xP,xT,rL,rB,rA,rS,cut1,ZF8 s,reduceCtorEq,ZFF,List.take_of_length_le]
  repeat' (refine ZiJ (fun h=>?_) (fun h=>?_))
  all_goals (simp_all<;>(intros; omega))
theorem ZGl (s:Str):EE F 57 [S s] []=ok1 (B (ZJ s)):=by
 rw [R57,b57]
 simp only[↓xP,xT,rL,rB,rA,rS,ZF8]
 repeat' (refine ZiJ (fun h=>?_) (fun h=>?_))
 all_goals (simp_all [ZJ]<;>(intros; omega))
theorem Z3 (s:Str):EE F 74 [S s] []=ok1 (B (ZJ s)):=by
 rw [R74,b74]
 simp only[↓xP,xT,rL,rB,rA,rS,ZW]
 refine ZiJ (fun h=>?_) (fun h=>?_)
 ·simp_all [ZJ,inR]
  omega
 ·simp only[Bool.not_eq_false',inR,Bool.and_eq_true,decide_eq_true_eq] at h
  refine (Zji (fun (i:Nat) st=>i≤s.length∧st.s 0=DU (.str s)∧st.s 3=DI i) (fun i=>s.length - i) (fun i=>ok1 (B ((s.drop i).all ZFF))) ?_ 0 ⟨by omega,by simp only[↓xP,xQ,rB],by simp only[↓xP,xQ,rB]; rfl⟩).trans ?_
  ·rintro i st ⟨hle,h0,h3⟩ ih
   by_cases hi:i<s.length
   ·have hc:s[i]?=some s[i]:=List.getElem?_eq_getElem hi
    have hd:s.drop i=s[i]::s.drop (i+1):=List.drop_eq_getElem_cons hi
    have hw:=w_succ (i:=i) (by omega)
    simp only[↓xP,xT,rL,rB,rA,rS,h0,h3,hi,hc,hw]
    rw [hd]
    generalize s[i]=c
    repeat' (refine ZiJ (fun h=>?_) (fun h=>?_))
    ·simp_all [ZFF]
     omega
    ·simp_all [ZFF]
     omega
    ·rw [ih (i+1) _ (by omega) ⟨by omega,by simp only[↓xP,xQ,rB,h0],by simp only[↓xP,xQ,rB]⟩]
     simp_all [ZFF]
   ·simp only[↓xP,xT,rL,rB,rA,rS,h0,h3,hi]
    rw [List.drop_of_length_le (by omega)]; rfl
  ·simp [ZJ]
   omega
theorem ZGH (s:Str):Za2 [] s=decide (s≠[]):=by cases s<;>simp [Za2,Op.bytesLess]
theorem ZHB (s:Str):Za2 s []=false:=by cases s<;>simp [Za2,Op.bytesLess]
theorem ZGy (a b:UInt8) (s t:Str):Za2 (a::s) (b::t)=(decide (a<b)||(a==b&&Za2 s t)):=rfl
theorem lt_irrefl:∀ s:Str,Za2 s s=false
 | []=>rfl
 | a::s=>by rw [ZGy,lt_irrefl s]; simp
theorem lt_trans:∀ {s t u:Str},Za2 s t=true→Za2 t u=true→Za2 s u=true
 | _,[],_,h,_=>by rw [ZHB] at h; cases h
 | _,b::t,[],_,h=>by rw [ZHB] at h; cases h
 | [],b::t,c::u,_,_=>by rw [ZGH]; simp
 | a :: s,b::t,c::u,h1,h2=>by
  rw [ZGy] at h1 h2 ⊢
  simp only[Bool.or_eq_true,Bool.and_eq_true,decide_eq_true_eq,beq_iff_eq] at h1 h2 ⊢
  rcases h1 with h1|⟨rfl,h1⟩
  ·rcases h2 with h2|⟨rfl,h2⟩
   ·exact .inl (UInt8.lt_trans h1 h2)
   ·exact .inl h1
  ·rcases h2 with h2|⟨rfl,h2⟩
   ·exact .inl h2
   ·exact .inr ⟨rfl,lt_trans h1 h2⟩
theorem ZHS {s t:Str} (h:Za2 s t=true):Za2 t s=false:=by
 cases hq:Za2 t s with
 | false=>rfl
 | true=>have:=lt_trans h hq; rw [lt_irrefl] at this; cases this
theorem ZG4:∀ (s t:Str),Za2 s t=true∨s=t∨Za2 t s=true
 | [],[]=>.inr (.inl rfl)
 | [],b::t=>.inl (by rw [ZGH]; simp)
 | a::s,[]=>.inr (.inr (by rw [ZGH]; simp))
 | a :: s,b::t=>by
  rw [ZGy,ZGy]
  simp only[Bool.or_eq_true,Bool.and_eq_true,decide_eq_true_eq,beq_iff_eq,List.cons.injEq]
  rcases Nat.lt_trichotomy a.toNat b.toNat with h|h|h
  ·exact .inl (.inl (UInt8.lt_iff_toNat_lt.2 h))
  rotate_left
  ·exact .inr (.inr (.inl (UInt8.lt_iff_toNat_lt.2 h)))
  ·have h:=UInt8.toNat_inj.1 h
   subst h
   rcases ZG4 s t with h|h|h
   ·exact .inl (.inr ⟨rfl,h⟩)
   ·exact .inr (.inl ⟨rfl,h⟩)
   ·exact .inr (.inr (.inr ⟨rfl,h⟩))
/-- For other strings 'at most' is 'not greater'. -/
theorem ZHz (s t:Str):(Za2 s t||decide (s=t))=!Za2 t s:=by
 rcases ZG4 s t with h|h|h
 ·simp [h,ZHS h]
 ·subst h; simp [lt_irrefl]
 ·have h1:=ZHS h
  have h2:¬s=t:=fun e=>by subst e; rw [lt_irrefl] at h; cases h
  simp [h,h1,h2]
def ZB (v:Interval):Bool:=(decide (v.low=[])||ZJ v.low)&&(decide (v.high=[])||ZJ v.high)&&(decide (v.high=[])||Za2 (if v.low=[] then [97] else v.low) v.high)
/-- A valid key after "a". -/
theorem lt_a {s:Str} (h:ZJ s=true):Za2 [97] s=decide (s≠[97]):=by
 match s,h with
 | [],h=>simp [ZJ] at h
 | c :: t,h=>
  simp only[ZJ,ZFF,List.all_cons,Bool.and_eq_true,decide_eq_true_eq] at h
  have hc:97≤c.toNat:=by omega
  rw [ZGy,ZGH]
  by_cases e:c=97
  ·subst e; simp
  ·have h1:(97:UInt8)<c:=by
    rw [UInt8.lt_iff_toNat_lt]
    have:c.toNat≠97:=fun q=>e (UInt8.toNat_inj.1 q)
    show 97<c.toNat
    omega
   simp [h1,e]
theorem ZV (lo hi:Str):EE F 33 [.ag [.u (.str lo),.u (.str hi)]] []=ok1 (B (ZB ⟨lo,hi⟩)):=by
 rw [R33,b33]
 simp only[↓xP,xT,rL,rB,rA,rS,Z3]
 repeat' (refine ZiJ (fun h=>?_) (fun h=>?_))
 all_goals simp_all [ZB,ZGH,lt_a]
/-- A key is between the bounds. -/
def ZFB (v:Interval) (key:Str):Bool:=!Za2 key v.low&&(decide (v.high=[])||Za2 key v.high)
def ZFn (v:Interval) (key:Str):Bool:=ZB v&&ZJ key&&ZFB v key
theorem ZFs (lo hi key:Str):EE F 75 [.ag [.u (.str lo),.u (.str hi)],S key] []=ok1 (B (ZFn ⟨lo,hi⟩ key)):=by
 rw [R75,b75]
 simp only[↓xP,xT,rL,rB,rA,rS,ZV,Z3]
 repeat' (refine ZiJ (fun h=>?_) (fun h=>?_))
 all_goals simp_all [ZFn,ZFB]
def ZFC (l:List Pair) (i:Nat):Bool:=match l[i]? with
 | some p=>ZJ p.key&&inR p.value 0 999&&(decide (i=0)||(match l[i - 1]? with
  | some q=>Za2 q.key p.key
  | none=>true))
 | none=>true
def ZR (l:List Pair):Bool:=decide (l.length≤48)&&allF l.length (ZFC l) 0
theorem ZGV (l:List Pair):EE F 37 [L 2 (l.map Pair.u)] []=ok1 (B (ZR l)):=by
 rw [R37,b37]
 simp only[↓xP,xT,rL,rB,rA,rS]
 refine ZiJ (fun h=>?_) (fun h=>?_)
 ·simp only[decide_eq_true_eq] at h
  simp [ZR,show ¬l.length≤48 by omega]
 ·simp only[decide_eq_false_iff_not] at h
  refine (Zji (fun (i:Nat) st=>st.s 0=DU (.sl 2 (l.map Pair.u))∧st.s 3=DI i) (fun i=>l.length - i) (fun i=>ok1 (B (allF l.length (ZFC l) i))) ?_ 0 ⟨by simp only[↓xP,xT,rL,rB,rA,rS],by simp only[↓xP,xT,rL,rB,rA,rS]; rfl⟩).trans ?_
  ·rintro i st ⟨h0,h3⟩ ih
   by_cases hi:i<l.length
   ·obtain ⟨⟨pk,pv⟩,hp⟩:∃ p,l[i]?=some p:=⟨_,List.getElem?_eq_getElem hi⟩
    have hw:=w_succ (i:=i) (by omega)
    rw [ZFH hi]
    by_cases hz:i=0
    ·have h01:¬(0:Int)<(i:Int):=by omega
     simp only[↓xP,xT,rL,rB,rA,rS,h0,h3,hi,hp,hw,h01,Pair.u,Z3,ZW]
     repeat' (refine ZiJ (fun h=>?_) (fun h=>?_))
     ·simp_all [ZFC]
     ·simp_all [ZFC]
     ·rw [ih (i+1) _ (by omega) ⟨by simp only[↓xP,xT,rL,rB,rA,rS,h0],by simp only[↓xP,xT,rL,rB,rA,rS]⟩]
      simp_all [ZFC]
    ·obtain ⟨⟨qk,qv⟩,hq⟩:∃ q,l[i - 1]?=some q:=⟨_,List.getElem?_eq_getElem (by omega)⟩
     have hw2:IntKind.i64.wrap ((i:Int) - 1)=((i - 1:Nat):Int):=by rw [w64 (by omega) (by omega)]; omega
     have h01:(0:Int)<(i:Int):=by omega
     simp only[↓xP,xT,rL,rB,rA,rS,h0,h3,hi,hp,hw,hw2,hq,h01,Pair.u,Z3,ZW,ZHz]
     repeat' (refine ZiJ (fun h=>?_) (fun h=>?_))
     ·simp_all [ZFC]
     ·simp_all [ZFC]
     ·simp_all [ZFC]
     ·rw [ih (i+1) _ (by omega) ⟨by simp only[↓xP,xT,rL,rB,rA,rS,h0],by simp only[↓xP,xT,rL,rB,rA,rS]⟩]
      simp_all [ZFC]
   ·simp only[↓xP,xT,rL,rB,rA,rS,h0,h3,hi]
    rw [ZFw hi]
  ·simp [ZR,show l.length≤48 by omega]
theorem ZFP {l:List Pair} (h:ZR l=true) {i:Nat} {p:Pair} (hp:l[i]?=some p):ZJ p.key=true∧inR p.value 0 999=true:=by
 simp only[ZR,Bool.and_eq_true,decide_eq_true_eq] at h
 have:=(Z7 _ 0 rfl).1 h.2 i (by omega) (List.getElem?_eq_some_iff.1 hp).1
 simp only[ZFC,hp,Bool.and_eq_true] at this
 exact this.1
theorem ZGR (n:Int):EE F 64 [I n] []=ok1 (B (inR n 1 3)):=by
 rw [R64,b64]
 simp only[↓xP,xT,rL,rB,rA,rS]
 repeat' (refine ZiJ (fun h=>?_) (fun h=>?_))
 all_goals (simp_all [inR]<;>(intros; omega))
theorem ZFU (n:Int):EE F 66 [I n] []=ok1 (B (inR n 0 4)):=by
 rw [R66,b66]
 simp only[↓xP,xT,rL,rB,rA,rS]
 repeat' (refine ZiJ (fun h=>?_) (fun h=>?_))
 all_goals (simp_all [inR]<;>(intros; omega))
theorem ZGc (n:Int):EE F 67 [I n] []=ok1 (B (inR n 0 7)):=by
 rw [R67,b67]
 simp only[↓xP,xT,rL,rB,rA,rS]
 repeat' (refine ZiJ (fun h=>?_) (fun h=>?_))
 all_goals (simp_all [inR]<;>(intros; omega))
theorem ZHV (n:Int):EE F 86 [I n] []=ok1 (B (inR n 1 999)):=by
 rw [R86,b86]
 simp only[↓xP,xT,rL,rB,rA,rS]
 repeat' (refine ZiJ (fun h=>?_) (fun h=>?_))
 all_goals (simp_all [inR]<;>(intros; omega))
def ZT (c:Command):Bool:=(ZJ c.key||decide (c.kind=5)&&decide (c.key=[])) &&
 ((decide (c.kind=1)||decide (c.kind=3)||decide (c.kind=5))&&decide (c.value=0)&&decide (c.old=0)||decide (c.kind=2)&&inR c.value 0 999&&decide (c.old=0)||decide (c.kind=4)&&inR c.value 0 999&&inR c.old (-1) 999)
theorem ZHM (k:Int):k=1∨k=2∨k=3∨k=4∨k=5∨(k<1∧¬5<k∧¬k=1∧¬k=2∧¬k=3∧¬k=4∧¬k=5)∨(¬k<1∧5<k∧¬k=1∧¬k=2∧¬k=3∧¬k=4∧¬k=5):=by omega
theorem ZFK (k:Int) (key:Str) (v o:Int):EE F 81 [.ag [.u (.int .i64 k),.u (.str key),.u (.int .i64 v),.u (.int .i64 o)]] []=ok1 (B (ZT ⟨k,key,v,o⟩)):=by
 rw [R81,b81]
 rcases ZHM k with h|h|h|h|h|h|h<;>(try subst h)<;>(try obtain ⟨_,_,_,_,_,_,_⟩:=h)<;>simp only[↓xP,xT,rL,rB,rA,rS,Z3,ZW, *]<;>
  repeat' (refine ZiJ (fun h=>?_) (fun h=>?_))
 all_goals (simp_all [ZT]<;>(intros; omega))
theorem ZFJ (k:Int) (key:Str) (v o:Int):EE F 87 [.ag [.u (.int .i64 k),.u (.str key),.u (.int .i64 v),.u (.int .i64 o)]] []=ok1 (B (ZT ⟨k,key,v,o⟩)):=by
 rw [R87,b87]
 rcases ZHM k with h|h|h|h|h|h|h<;>(try subst h)<;>(try obtain ⟨_,_,_,_,_,_,_⟩:=h)<;>simp only[↓xP,xT,rL,rB,rA,rS,ZGl,ZHi, *]<;>
  repeat' (refine ZiJ (fun h=>?_) (fun h=>?_))
 all_goals first|(simp_all [ZT,inR]; done)|(simp_all [ZT,inR]<;>(intros; omega))|(simp_all [ZT,inR]; rw [Bool.eq_iff_iff]; simp; omega)
def Z9 (c:Command):Bool:=ZT c&&!decide (c.kind=5)
theorem ZGq (k:Int) (key:Str) (v o:Int):EE F 70 [.ag [.u (.int .i64 k),.u (.str key),.u (.int .i64 v),.u (.int .i64 o)]] []=ok1 (B (Z9 ⟨k,key,v,o⟩)):=by
 rw [R70,b70]
 simp only[↓xP,xT,rL,rB,rA,rS,ZFK]
 repeat' (refine ZiJ (fun h=>?_) (fun h=>?_))
 all_goals (simp_all [Z9])
theorem ZHH (k:Int) (key:Str) (v o:Int):EE F 65 [.ag [.u (.int .i64 k),.u (.str key),.u (.int .i64 v),.u (.int .i64 o)]] []=ok1 (B (Z9 ⟨k,key,v,o⟩)):=by
 rw [R65,b65]
 simp only[↓xP,xT,rL,rB,rA,rS,ZFJ]
 repeat' (refine ZiJ (fun h=>?_) (fun h=>?_))
 all_goals (simp_all [Z9])
def Z2 (e:Entry):Bool:=inR e.client 0 3&&inR e.seq 1 999&&ZT e.cmd
theorem ZFj (c s k:Int) (key:Str) (v o:Int):EE F 47 [.ag [.u (.int .i64 c),.u (.int .i64 s),.u (.int .i64 k),.u (.str key),.u (.int .i64 v),.u (.int .i64 o)]] []=ok1 (B (Z2 ⟨c,s,⟨k,key,v,o⟩⟩)):=by
 rw [R47,b47]
 simp only[↓xP,xT,rL,rB,rA,rS,ZFK,ZW]
 repeat' (refine ZiJ (fun h=>?_) (fun h=>?_))
 all_goals (simp_all [Z2])
theorem ZGS (c s k:Int) (key:Str) (v o:Int):EE F 50 [.ag [.u (.int .i64 c),.u (.int .i64 s),.u (.int .i64 k),.u (.str key),.u (.int .i64 v),.u (.int .i64 o)]] []=ok1 (B (Z2 ⟨c,s,⟨k,key,v,o⟩⟩)):=by
 rw [R50,b50]
 simp only[↓xP,xT,rL,rB,rA,rS,ZFJ,ZHV]
 repeat' (refine ZiJ (fun h=>?_) (fun h=>?_))
 all_goals first|(simp_all [Z2,inR]; done)|(simp_all [Z2,inR]<;>(intros; omega))|(simp_all [Z2,inR]; rw [Bool.eq_iff_iff]; simp; omega)
def ZFl (e:Entry):Bool:=decide (e.client=0)&&(decide (e.seq=0)&&(decide (e.cmd.kind=0)&&(decide (e.cmd.key=[])&&(decide (e.cmd.value=0)&&decide (e.cmd.old=0)))))
def ZFc (e:Event):Bool:=inR e.kind 1 12&&inR e.node 0 4&&inR e.place 0 9&&(if e.kind=1 then Z2 e.sent else ZFl e.sent)
theorem ZGU (ek en ep c s k:Int) (key:Str) (v o:Int):EE F 71 [.ag [.u (.int .i64 ek),.u (.int .i64 en),.u (.int .i64 ep),.u (.int .i64 c),.u (.int .i64 s),.u (.int .i64 k),.u (.str key),.u (.int .i64 v),.u (.int .i64 o)]] []=ok1 (B (ZFc ⟨ek,en,ep,⟨c,s,⟨k,key,v,o⟩⟩⟩)):=by
 rw [R71,b71]
 simp only[↓xP,xT,rL,rB,rA,rS,ZFj,ZW]
 repeat' (refine ZiJ (fun h=>?_) (fun h=>?_))
 all_goals (simp_all [ZFc,ZFl])
theorem ZGT (ek en ep c s k:Int) (key:Str) (v o:Int):EE F 68 [.ag [.u (.int .i64 ek),.u (.int .i64 en),.u (.int .i64 ep),.u (.int .i64 c),.u (.int .i64 s),.u (.int .i64 k),.u (.str key),.u (.int .i64 v),.u (.int .i64 o)]] []=ok1 (B (ZFc ⟨ek,en,ep,⟨c,s,⟨k,key,v,o⟩⟩⟩)):=by
 rw [R68,b68]
 simp only[↓xP,xT,rL,rB,rA,rS,ZGS,ZFU]
 repeat' (refine ZiJ (fun h=>?_) (fun h=>?_))
 all_goals first|(simp_all [ZFc,ZFl,inR]; done)|(simp_all [ZFc,ZFl,inR]<;>(intros; omega))|(simp_all [ZFc,ZFl,inR]; rw [Bool.eq_iff_iff]; simp; omega)
def Z6 (p:Plan):Bool:=inR p.first 0 7&&(decide (p.kind=1)&&ZJ p.key&&decide (p.second=0)&&decide (p.from_=0)&&decide (p.to_=0)&&decide (p.step=0) ||
 decide (p.kind=2)&&inR p.second 0 7&&!decide (p.second=p.first)&&decide (p.key=[])&&decide (p.from_=0)&&decide (p.to_=0)&&decide (p.step=0) ||
 decide (p.kind=3)&&inR p.from_ 0 4&&inR p.to_ 0 4&&!decide (p.from_=p.to_)&&inR p.step 0 1&&decide (p.second=0)&&decide (p.key=[]))
theorem ZHs (k:Int):k=1∨k=2∨k=3∨(¬k=1∧¬k=2∧¬k=3):=by omega
theorem ZGa (k f s:Int) (key:Str) (a b c:Int):EE F 72 [.ag [.u (.int .i64 k),.u (.int .i64 f),.u (.int .i64 s),.u (.str key),.u (.int .i64 a),.u (.int .i64 b),.u (.int .i64 c)]] []=ok1 (B (Z6 ⟨k,f,s,key,a,b,c⟩)):=by
 rw [R72,b72]
 rcases ZHs k with h|h|h|h<;>(try subst h)<;>(try obtain ⟨_,_,_⟩:=h)<;>simp only[↓xP,xT,rL,rB,rA,rS,Z3,ZW, *]<;>
  repeat' (refine ZiJ (fun h=>?_) (fun h=>?_))
 all_goals first|(simp_all [Z6]; done)|(simp_all [Z6]<;>(intros; omega))|(simp_all [Z6]; rw [Bool.eq_iff_iff]; simp; omega)
theorem ZG9 (k f s:Int) (key:Str) (a b c:Int):EE F 69 [.ag [.u (.int .i64 k),.u (.int .i64 f),.u (.int .i64 s),.u (.str key),.u (.int .i64 a),.u (.int .i64 b),.u (.int .i64 c)]] []=ok1 (B (Z6 ⟨k,f,s,key,a,b,c⟩)):=by
 rw [R69,b69]
 rcases ZHs k with h|h|h|h<;>(try subst h)<;>(try obtain ⟨_,_,_⟩:=h)<;>simp only[↓xP,xT,rL,rB,rA,rS,ZGl,ZGc,ZFU, *]<;>
  repeat' (refine ZiJ (fun h=>?_) (fun h=>?_))
 all_goals first|(simp_all [Z6]; done)|(simp_all [Z6,inR]<;>(intros; omega))|(simp_all [Z6,Bool.and_assoc]; done)|(simp_all [Z6,inR]; rw [Bool.eq_iff_iff]; simp; omega)
def ZFz (c:Command):Bool:=decide (c.kind=0)&&(decide (c.key=[])&&(decide (c.value=0)&&decide (c.old=0)))
def ZFQ (e:Event):Bool:=decide (e.kind=0)&&(decide (e.node=0)&&(decide (e.place=0)&&ZFl e.sent))
def ZGb (p:Plan):Bool:=decide (p.kind=0)&&(decide (p.first=0)&&(decide (p.second=0)&&(decide (p.key=[])&&(decide (p.from_=0)&&(decide (p.to_=0)&&decide (p.step=0))))))
def ZY (d:Deed):Bool:=inR d.kind 1 9&&(if inR d.kind 1 5 then inR d.who 1 3 else decide (d.who=0))&&(if decide (d.kind=3)||decide (d.kind=8) then inR d.node 0 4 else decide (d.node=0)) &&
 (if decide (d.kind=6)||decide (d.kind=8) then inR d.number 0 7 else decide (d.number=0))&&(if d.kind=1 then Z9 d.wish else ZFz d.wish) &&
 (if d.kind=6 then ZFc d.inner&&!decide (d.inner.kind=1) else ZFQ d.inner)&&(if d.kind=7 then Z6 d.work&&decide (d.work.step=0) else ZGb d.work)
theorem ZHl (k:Int):k=1∨k=2∨k=3∨k=4∨k=5∨k=6∨k=7∨k=8∨k=9∨(¬1≤k∧k≤5∧k≤9∧¬k=1∧¬k=2∧¬k=3∧¬k=4∧¬k=5∧¬k=6∧¬k=7∧¬k=8∧¬k=9)∨(1≤k∧¬k≤5∧¬k≤9∧¬k=1∧¬k=2∧¬k=3∧¬k=4∧¬k=5∧¬k=6∧¬k=7∧¬k=8∧¬k=9):=by omega
set_option maxHeartbeats 4000000 in
theorem ZGY (k who node num wk:Int) (wkey:Str) (wv wo ek en ep ec es ck:Int) (ckey:Str) (cv co pk pf ps:Int) (pkey:Str) (pa pb pc:Int):EE F 31 [.ag [.u (.int .i64 k),.u (.int .i64 who),.u (.int .i64 node),.u (.int .i64 num),.u (.int .i64 wk),.u (.str wkey),.u (.int .i64 wv),.u (.int .i64 wo),.u (.int .i64 ek),.u (.int .i64 en),.u (.int .i64 ep),.u (.int .i64 ec),.u (.int .i64 es),.u (.int .i64 ck),.u (.str ckey),.u (.int .i64 cv),.u (.int .i64 co),.u (.int .i64 pk),.u (.int .i64 pf),.u (.int .i64 ps),.u (.str pkey),.u (.int .i64 pa),.u (.int .i64 pb),.u (.int .i64 pc)]] []=ok1 (B (ZY ⟨k,who,node,num,⟨wk,wkey,wv,wo⟩,⟨ek,en,ep,⟨ec,es,⟨ck,ckey,cv,co⟩⟩⟩,⟨pk,pf,ps,pkey,pa,pb,pc⟩⟩)):=by
 rw [R31,b31]
 have z1:(decide (wk=0)&&(decide (wkey=[])&&(decide (wv=0)&&decide (wo=0))))=ZFz ⟨wk,wkey,wv,wo⟩:=rfl
 have z2:(decide (ek=0)&&(decide (en=0)&&(decide (ep=0)&&(decide (ec=0)&&(decide (es=0)&&(decide (ck=0)&&(decide (ckey=[])&&(decide (cv=0)&&decide (co=0)))))))))=ZFQ ⟨ek,en,ep,⟨ec,es,⟨ck,ckey,cv,co⟩⟩⟩:=rfl
 have z3:(decide (pk=0)&&(decide (pf=0)&&(decide (ps=0)&&(decide (pkey=[])&&(decide (pa=0)&&(decide (pb=0)&&decide (pc=0)))))))=ZGb ⟨pk,pf,ps,pkey,pa,pb,pc⟩:=rfl
 rcases ZHl k with h|h|h|h|h|h|h|h|h|h|h<;>(try subst h)<;>(try obtain ⟨_,_,_,_,_,_,_,_,_,_,_,_⟩:=h)<;>simp only[↓xP,xT,rL,rB,rA,rS,ZW,ZGq,ZGU,ZGa,z1,z2,z3,inR,ne_eq,Int.reduceLE,Int.reduceEq,not_true_eq_false,not_false_eq_true,decide_true,decide_false,Bool.and_true,Bool.and_false,Bool.true_and,Bool.false_and,Bool.not_true,Bool.not_false, *]
 all_goals clear z1 z2 z3
 all_goals repeat' (refine ZiJ (fun h=>?_) (fun h=>?_))
 all_goals first|(simp_all [ZY,inR]; done)|(simp_all [ZY,inR]<;>(intros; omega))
set_option maxHeartbeats 4000000 in
theorem ZGX (k who node num wk:Int) (wkey:Str) (wv wo ek en ep ec es ck:Int) (ckey:Str) (cv co pk pf ps:Int) (pkey:Str) (pa pb pc:Int):EE F 30 [.ag [.u (.int .i64 k),.u (.int .i64 who),.u (.int .i64 node),.u (.int .i64 num),.u (.int .i64 wk),.u (.str wkey),.u (.int .i64 wv),.u (.int .i64 wo),.u (.int .i64 ek),.u (.int .i64 en),.u (.int .i64 ep),.u (.int .i64 ec),.u (.int .i64 es),.u (.int .i64 ck),.u (.str ckey),.u (.int .i64 cv),.u (.int .i64 co),.u (.int .i64 pk),.u (.int .i64 pf),.u (.int .i64 ps),.u (.str pkey),.u (.int .i64 pa),.u (.int .i64 pb),.u (.int .i64 pc)]] []=ok1 (B (ZY ⟨k,who,node,num,⟨wk,wkey,wv,wo⟩,⟨ek,en,ep,⟨ec,es,⟨ck,ckey,cv,co⟩⟩⟩,⟨pk,pf,ps,pkey,pa,pb,pc⟩⟩)):=by
 rw [R30,b30]
 rcases ZHl k with h|h|h|h|h|h|h|h|h|h|h<;>(try subst h)<;>(try obtain ⟨_,_,_,_,_,_,_,_,_,_,_,_⟩:=h)<;>simp only[↓xP,xT,rL,rB,rA,rS,ZGR,ZHH,ZFU,ZGc,ZGT,ZG9, *]
 all_goals repeat' (refine ZiJ (fun h=>?_) (fun h=>?_))
 all_goals first|(simp_all [ZY,ZFz,ZFQ,ZGb,ZFl,inR,Bool.and_assoc]; done)|(simp_all [ZY,ZFz,ZFQ,ZGb,ZFl,inR,Bool.and_assoc]<;>(intros; omega))
def ZHk (v:Interval) (key:Str):Bool:=ZB v&&ZJ key&&ZB ⟨v.low,key⟩&&ZB ⟨key,v.high⟩
def ZHY (v:Interval) (key:Str):Option Ret:=sel (ZHk v key) (some ⟨[.ag [.u (.str v.low),.u (.str key)],.ag [.u (.str key),.u (.str v.high)],B true],[],[]⟩) (some ⟨[.ag [.u (.str []),.u (.str [])],.ag [.u (.str []),.u (.str [])],B false],[],[]⟩)
theorem ZGD (lo hi key:Str):EE F 148 [.ag [.u (.str lo),.u (.str hi)],S key] []=ZHY ⟨lo,hi⟩ key:=by
 rw [R148,b148]
 simp only[↓xP,xT,rL,rB,rA,rS,ZV,Z3]
 repeat' (refine ZiJ (fun h=>?_) (fun h=>?_))
 all_goals simp_all [ZHk,ZHY,sel]
def ZGo (a b:Interval):Bool:=ZB a&&ZB b&&!decide (a.high=[])&&decide (a.high=b.low)
def ZHy (a b:Interval):Option Ret:=sel (ZGo a b) (some ⟨[.ag [.u (.str a.low),.u (.str b.high)],B true],[],[]⟩) (some ⟨[.ag [.u (.str []),.u (.str [])],B false],[],[]⟩)
theorem ZGu (al ah bl bh:Str):EE F 36 [.ag [.u (.str al),.u (.str ah)],.ag [.u (.str bl),.u (.str bh)]] []=ZHy ⟨al,ah⟩ ⟨bl,bh⟩:=by
 rw [R36,b36]
 simp only[↓xP,xT,rL,rB,rA,rS,ZV]
 repeat' (refine ZiJ (fun h=>?_) (fun h=>?_))
 all_goals simp_all [ZGo,ZHy,sel]
def ZFe (l:List Session) (i:Nat):Bool:=match l[i]? with
 | none=>true
 | some s=>inR s.client 0 3&&inR s.seq 1 999&&inR s.reply (-2) 999&&(decide (i=0)||(match l[i - 1]? with
  | some r=>decide (r.client<s.client)
  | none=>true))
def Z1 (l:List Session):Bool:=allF l.length (ZFe l) 0
theorem ZGr (l:List Session) (hn:l.length≤4611686018427387904):EE F 147 [L 3 (l.map Session.u)] []=ok1 (B (Z1 l)):=by
 rw [R147,b147]
 simp only[↓xP,xT,rL,rB,rA,rS]
 refine (Zji (fun (i:Nat) st=>st.s 0=DU (.sl 3 (l.map Session.u))∧st.s 3=DI i) (fun i=>l.length - i) (fun i=>ok1 (B (allF l.length (ZFe l) i))) ?_ 0 ⟨by simp only[↓xP,xT,rL,rB,rA,rS],by simp only[↓xP,xT,rL,rB,rA,rS]; rfl⟩).trans ?_
 ·rintro i st ⟨h0,h3⟩ ih
  by_cases hi:i<l.length
  ·obtain ⟨⟨c,s,r⟩,hp⟩:∃ p,l[i]?=some p:=⟨_,List.getElem?_eq_getElem hi⟩
   have hw:=w_succ (i:=i) (by omega)
   rw [ZFH hi]
   by_cases hz:i=0
   ·have h01:¬(0:Int)<(i:Int):=by omega
    simp only[↓xP,xT,rL,rB,rA,rS,h0,h3,hi,hp,hw,h01,Session.u,ZW]
    repeat' (refine ZiJ (fun h=>?_) (fun h=>?_))
    all_goals first|(rw [ih (i+1) _ (by omega) ⟨by simp only[↓xP,xT,rL,rB,rA,rS,h0],by simp only[↓xP,xT,rL,rB,rA,rS]⟩]; simp_all [ZFe]; done)|(simp_all [ZFe]; done)
   ·obtain ⟨⟨qc,qs,qr⟩,hq⟩:∃ q,l[i - 1]?=some q:=⟨_,List.getElem?_eq_getElem (by omega)⟩
    have hw2:IntKind.i64.wrap ((i:Int) - 1)=((i - 1:Nat):Int):=by rw [w64 (by omega) (by omega)]; omega
    have h01:(0:Int)<(i:Int):=by omega
    simp only[↓xP,xT,rL,rB,rA,rS,h0,h3,hi,hp,hw,hw2,hq,h01,Session.u,ZW]
    repeat' (refine ZiJ (fun h=>?_) (fun h=>?_))
    all_goals first|(rw [ih (i+1) _ (by omega) ⟨by simp only[↓xP,xT,rL,rB,rA,rS,h0],by simp only[↓xP,xT,rL,rB,rA,rS]⟩]; simp_all [ZFe]; done)|(simp_all [ZFe]; done)|(simp_all [ZFe]<;>(intros; omega))
  ·simp only[↓xP,xT,rL,rB,rA,rS,h0,h3,hi]
   rw [ZFw hi]
 ·rfl
def ZS (s:State):Bool:=ZB s.span&&ZR s.pairs&&Z1 s.known&&(s.pairs.all fun q=>ZFB s.span q.key)&&(decide (s.cut=[])||s.sealed&&ZHk s.span s.cut)
theorem ZFG {l:List Pair} (h:ZR l=true):l.length≤48:=by
 simp only[ZR,Bool.and_eq_true,decide_eq_true_eq] at h; exact h.1
theorem ZF0 (lo hi:Str) (l:List Pair) (k:List Session) (se:Bool) (cut:Str) (hn:k.length≤4611686018427387904):EE F 125 [.ag [.u (.str lo),.u (.str hi),.u (.sl 2 (l.map Pair.u)),.u (.sl 3 (k.map Session.u)),.u (.bool se),.u (.str cut)]] []=ok1 (B (ZS ⟨⟨lo,hi⟩,l,k,se,cut⟩)):=by
 rw [R125,b125]
 simp only[↓xP,xT,rL,rB,rA,rS,ZV,ZGV,ZGr k hn]
 refine ZiJ (fun h=>?_) (fun h=>?_)
 ·simp_all [ZS]
 refine ZiJ (fun h2=>?_) (fun h2=>?_)
 ·simp_all [ZS]
 refine ZiJ (fun h3=>?_) (fun h3=>?_)
 ·simp_all [ZS]
 simp only[Bool.not_eq_false'] at h h2 h3
 have hlen:=ZFG h2
 refine (Zji (fun (i:Nat) st=>st.s 1=.t (.sc (.ptr (.loc 1 0) 0 0))∧st.o (.loc 1 0)=some (.box [.u (.str lo),.u (.str hi),.u (.sl 2 (l.map Pair.u)),.u (.sl 3 (k.map Session.u)),.u (.bool se),.u (.str cut)])∧st.s 3=DI i) (fun i=>l.length - i) (fun i=>ok1 (B (((l.drop i).all fun q=>ZFB ⟨lo,hi⟩ q.key)&&(decide (cut=[])||se&&ZHk ⟨lo,hi⟩ cut)))) ?_ 0 ⟨by simp only[↓xP,xT,rL,rB,rA,rS],by simp only[↓xP,xT,rL,rB,rA,rS],by simp only[↓xP,xT,rL,rB,rA,rS]; rfl⟩).trans ?_
 ·rintro i st ⟨h1,ho,h3'⟩ ih
  by_cases hi':i<l.length
  ·obtain ⟨⟨pk,pv⟩,hp⟩:∃ p,l[i]?=some p:=⟨_,List.getElem?_eq_getElem hi'⟩
   have hd:l.drop i=⟨pk,pv⟩::l.drop (i+1):=by rw [List.drop_eq_getElem_cons hi',(List.getElem?_eq_some_iff.1 hp).2]
   have hw:=w_succ (i:=i) (by omega)
   have hk:=(ZFP h2 hp).1
   simp only[↓xP,xT,rL,rB,rA,rS,h1,ho,h3',hi',hp,hw,Pair.u,ZFs]
   rw [hd]
   refine ZiJ (fun h=>?_) (fun h=>?_)
   ·simp_all [ZFn]
   ·rw [ih (i+1) _ (by omega) ⟨by simp only[↓xP,xT,rL,rB,rA,rS,h1],by simp only[↓xP,xT,rL,rB,rA,rS,ho],by simp only[↓xP,xT,rL,rB,rA,rS]⟩]
    simp_all [ZFn]
  ·simp only[↓xP,xT,rL,rB,rA,rS,h1,ho,h3',hi',ZGD]
   rw [List.drop_of_length_le (by omega)]
   cases hc:ZHk ⟨lo,hi⟩ cut<;>simp only[↓xP,xT,rL,rB,rA,rS,ZHY,hc,h1,ho]
   all_goals repeat' (refine ZiJ (fun h=>?_) (fun h=>?_))
   all_goals simp_all
 ·simp [ZS,h,h2,h3]
def place (key:Str):List Pair→Nat
 | []=>0
 | p::l=>if Za2 p.key key=true then place key l+1 else 0
/-- The keys ascend. -/
def Asc (l:List Pair):Prop:=∀ (s t:Nat) p q,s<t→l[s]?=some p→l[t]?=some q→Za2 p.key q.key=true
theorem ZIS {l:List Pair} (h:ZR l=true):Asc l:=by
 have hc:∀ (t:Nat) p q,l[t]?=some p→l[t+1]?=some q→Za2 p.key q.key=true:=by
  intro t p q hp hq
  simp only[ZR,Bool.and_eq_true,decide_eq_true_eq] at h
  have:=(Z7 _ 0 rfl).1 h.2 (t+1) (by omega) (List.getElem?_eq_some_iff.1 hq).1
  simp only[ZFC,hq,Nat.add_sub_cancel,hp] at this
  simp_all
 intro s t p q hst hp hq
 induction t generalizing q with
 | zero=>omega
 | succ t ih=>
  obtain ⟨r,hr⟩:∃ r,l[t]?=some r:=⟨_,List.getElem?_eq_getElem (by have:=(List.getElem?_eq_some_iff.1 hq).1; omega)⟩
  by_cases e:s=t
  ·subst e; exact hc _ _ _ hp hq
  ·exact lt_trans (ih r (by omega) hr) (hc _ _ _ hr hq)
/-- The place of the first such number, or -1. -/
def idxI (l:List Int) (x:Int):Int:=if x∈l then (l.idxOf x:Int) else -1
theorem ZIK {x:Int} {l:List Int}:idxI (x::l) x=0:=by simp [idxI]
theorem ZIL {x y:Int} {l:List Int} (h:y≠x):idxI (y::l) x=if x∈l then idxI l x+1 else -1:=by
 have h':x≠y:=fun e=>h e.symm
 simp only[idxI,List.mem_cons,h',false_or]
 by_cases hm:x∈l
 ·simp only[hm,if_true]
  have:(y==x)=false:=by simpa using h
  simp [List.idxOf_cons,this]
 ·simp [hm]
/-- From a place on. -/
def idxF (l:List Int) (x:Int) (i:Nat):Int:=if x∈l.drop i then (i:Int)+idxI (l.drop i) x else -1
theorem ZIT (l:List Int) (x:Int):idxF l x 0=idxI l x:=by
 simp only[idxF,List.drop_zero,idxI]
 split<;>simp
theorem ZIB (l:List Int) (x:Int) {i:Nat} (h:¬i<l.length):idxF l x i = -1:=by
 simp [idxF,List.drop_of_length_le (show l.length≤i by omega)]
theorem ZIC {l:List Int} {x:Int} {i:Nat} (h:l[i]?=some x):idxF l x i=i:=by
 obtain ⟨hi,hx⟩:=List.getElem?_eq_some_iff.1 h
 simp [idxF,List.drop_eq_getElem_cons hi,hx,ZIK]
theorem ZIo {l:List Int} {x y:Int} {i:Nat} (h:l[i]?=some y) (hn:y≠x):idxF l x i=idxF l x (i+1):=by
 obtain ⟨hi,hx⟩:=List.getElem?_eq_some_iff.1 h
 have hn':x≠y:=fun e=>hn e.symm
 simp only[idxF,List.drop_eq_getElem_cons hi,hx,List.mem_cons,hn',false_or,ZIL hn]
 by_cases hm:x∈l.drop (i+1)
 ·simp only[hm,if_true]; omega
 ·simp [hm]
theorem ZHP (e:Int) (l:List Int) (f:Bool) (x:Int) (hn:l.length≤4611686018427387904):EE F 141 [.ag [.u (.int .i64 e),.u (.sl 1 (l.map iU)),.u (.bool f)],I x] []=ok1 (I (idxI l x)):=by
 rw [R141,b141]
 simp only[↓xP,xT,rL,rB,rA,rS]
 refine (Zji (fun (i:Nat) st=>i≤l.length∧st.s 2=.t (.sc (.ptr (.loc 2 0) 0 0))∧st.o (.loc 2 0)=some (.box [.u (.int .i64 e),.u (.sl 1 (l.map iU)),.u (.bool f)])∧st.s 1=DI x∧st.s 5=DI i) (fun i=>l.length - i) (fun i=>ok1 (I (idxF l x i))) ?_ 0 (by and_intros<;>first|omega|rfl|(simp only[↓xP,xT,rL,rB,rA,rS]<;>first|done|rfl|omega))).trans (by rw [ZIT])
 rintro i st ⟨hle,h2,ho,h1,h5⟩ ih
 by_cases hi:i<l.length
 ·obtain ⟨y,hy⟩:∃ y,l[i]?=some y:=⟨_,List.getElem?_eq_getElem hi⟩
  have hw:=w_succ (i:=i) (by omega)
  simp only[↓xP,xT,rL,rB,rA,rS,h2,ho,h1,h5,hi,hy,hw,iU]
  refine ZiJ (fun h=>?_) (fun h=>?_)
  ·simp only[decide_eq_true_eq] at h
   rw [ZIC (by rw [hy,h])]
  ·simp only[decide_eq_false_iff_not] at h
   rw [ZIo hy h]
   exact ih (i+1) _ (by omega) (by and_intros<;>first|omega|rfl|(simp only[↓xP,xT,rL,rB,rA,rS,h2,ho,h1]<;>first|done|rfl|omega))
 ·simp only[↓xP,xT,rL,rB,rA,rS,h2,ho,h1,h5,hi]
  rw [ZIB l x hi]
def okAt (l:List Int) (k:Nat):Bool:=match l[k]? with
 | some x=>inR x 0 4&&!decide (x∈l.take k)
 | none=>true
def ZF (c:Config):Bool:=decide (1≤c.epoch)&&decide (c.epoch≤60)&&decide (1≤c.members.length)&&decide (c.members.length≤4)&&!(c.fresh&&decide (c.members.length<2))&&allF c.members.length (okAt c.members) 0
theorem ZGe {l:List Int} {k:Nat} {x:Int} (h:l[k]?=some x):okAt l k=(inR x 0 4&&!decide (x∈l.take k)):=by simp [okAt,h]
theorem ZO {c:Config} (h:ZF c=true):1≤c.members.length∧c.members.length≤4:=by
 simp only[ZF,Bool.and_eq_true,decide_eq_true_eq] at h; exact ⟨h.1.1.1.2,h.1.1.2⟩
theorem ZHx {n:Nat} {i:Nat} (h:i≤n):vcut n none (some (DI (i:Int)))=some (0,i):=by
 simp [vcut,D.int?]
 omega
theorem ZFd (e:Int) (l:List Int) (f:Bool) (hn:l.length≤4611686018427387904):EE F 139 [.ag [.u (.int .i64 e),.u (.sl 1 (l.map iU)),.u (.bool f)]] []=ok1 (B (ZF ⟨e,l,f⟩)):=by
 rw [R139,b139]
 simp only[↓xP,xT,rL,rB,rA,rS,ZW]
 by_cases hg:(decide (1≤e)&&decide (e≤60)&&decide (1≤l.length)&&decide (l.length≤4)&&!(f&&decide (l.length<2)))=true
 ·have e1 : ZF ⟨e,l,f⟩=allF l.length (okAt l) 0:=by simp only[ZF,hg,Bool.true_and]
  rw [e1]
  simp only[Bool.and_eq_true,decide_eq_true_eq,Bool.not_eq_true',Bool.and_eq_false_iff,decide_eq_false_iff_not] at hg
  obtain ⟨⟨⟨⟨h1,h2⟩,h3⟩,h4⟩,h5⟩:=hg
  have g1:inR e 1 60=true:=by simp [inR,h1,h2]
  have g2:inR (l.length:Int) 1 4=true:=by simp [inR]; omega
  simp only[g1,g2,↓xP,xT,rL,rB,rA,rS]
  repeat' (refine ZiJ (fun h=>?_) (fun h=>?_))
  all_goals (try (exfalso; simp only[decide_eq_true_eq] at *; simp_all; omega))
  all_goals
   refine (Zji (fun (i:Nat) st=>i≤l.length∧st.s 1=.t (.sc (.ptr (.loc 1 0) 0 0))∧st.o (.loc 1 0)=some (.box [.u (.int .i64 e),.u (.sl 1 (l.map iU)),.u (.bool f)])∧st.s 3=DI i) (fun i=>l.length - i) (fun i=>ok1 (B (allF l.length (okAt l) i))) ?_ 0 (by and_intros<;>first|omega|rfl|(simp only[↓xP,xT,rL,rB,rA,rS]<;>first|done|rfl|omega))).trans rfl
   rintro i st ⟨hle,hb,ho,h3⟩ ih
   by_cases hi:i<l.length
   ·obtain ⟨y,hy⟩:∃ y,l[i]?=some y:=⟨_,List.getElem?_eq_getElem hi⟩
    have hw:=w_succ (i:=i) (by omega)
    simp only[↓xP,xT,rL,rB,rA,rS,hb,ho,h3,hi,hy,iU,ZW]
    rw [ZFH hi,ZGe hy]
    refine ZiJ (fun h=>?_) (fun h=>?_)
    ·simp_all
    refine (Zji (fun (j:Nat) st=>j≤i∧st.s 1=.t (.sc (.ptr (.loc 1 0) 0 0))∧st.o (.loc 1 0)=some (.box [.u (.int .i64 e),.u (.sl 1 (l.map iU)),.u (.bool f)])∧st.s 3=DI i∧st.s 4=DI j) (fun j=>i - j) (fun j=>ok1 (B (!decide (y∈(l.take i).drop j)&&allF l.length (okAt l) (i+1)))) ?_ 0 (by and_intros<;>first|omega|rfl|(simp only[↓xP,xT,rL,rB,rA,rS,hb,ho,h3]<;>first|done|rfl|omega))).trans (by simp_all)
    rintro j st ⟨hlj,hb,ho,h3,h4⟩ ihj
    by_cases hj:j<i
    ·obtain ⟨z,hz⟩:∃ z,l[j]?=some z:=⟨_,List.getElem?_eq_getElem (by omega)⟩
     have hwj:=w_succ (i:=j) (by omega)
     have hd:(l.take i).drop j=z::(l.take i).drop (j+1):=by
      rw [List.drop_eq_getElem_cons (by simp; omega)]
      simp [(List.getElem?_eq_some_iff.1 hz).2]
     simp only[↓xP,xT,rL,rB,rA,rS,hb,ho,h3,h4,hj,hz,hy,iU,hwj]
     rw [hd]
     refine ZiJ (fun h=>?_) (fun h=>?_)
     ·simp_all
     ·rw [ihj (j+1) _ (by omega) (by and_intros<;>first|omega|rfl|(simp only[↓xP,xT,rL,rB,rA,rS,hb,ho,h3]<;>first|done|rfl|omega))]
      simp only[decide_eq_false_iff_not] at h
      have h':¬y=z:=fun e=>h e.symm
      simp [h']
    ·simp only[↓xP,xT,rL,rB,rA,rS,hb,ho,h3,h4,hj,hw]
     rw [List.drop_of_length_le (by simp; omega)]
     rw [ih (i+1) _ (by omega) (by and_intros<;>first|omega|rfl|(simp only[↓xP,xT,rL,rB,rA,rS,hb,ho]<;>first|done|rfl|omega))]
     simp
   ·simp only[↓xP,xT,rL,rB,rA,rS,hb,ho,h3,hi]
    rw [ZFw hi]
 ·have hg2:=hg
  rw [Bool.not_eq_true] at hg2
  have e1:ZF ⟨e,l,f⟩=false:=by simp only[ZF,hg2,Bool.false_and]
  clear hg2
  rw [e1]
  repeat' (refine ZiJ (fun h=>?_) (fun h=>?_))
  all_goals first
   | rfl
   | (exfalso; apply hg; simp only[decide_eq_true_eq,decide_eq_false_iff_not,inR] at *; simp_all; omega)
theorem ZL {n k:Nat} (h:n≤1048576) (hk:k≤100000000):n≤maxLen∧n*k≤140737488355328:=by
 refine ⟨by simp [maxLen]; omega,?_⟩
 have:=Nat.mul_le_mul h hk
 omega
theorem ZIA {n i:Nat} (h:i≤n):vcut n (some (DI (i:Int))) none=some (i,n):=by
 simp [vcut,D.int?]
 omega
theorem ZFS {α β:Type} (f:α→β) (l:List α):List.take l.length (List.map f l)=List.map f l:=List.take_of_length_le (by simp)
theorem ZIu (l:List Int):allF l.length (okAt l) 0=true↔(∀ y,y∈l→inR y 0 4=true)∧l.Nodup:=by
 rw [Z7 l.length 0 (by omega)]
 constructor
 ·intro h
  refine ⟨fun y hy=>?_,List.pairwise_iff_getElem.2 (fun i j hi hj hij=>?_)⟩
  ·obtain ⟨k,hk⟩:=List.mem_iff_getElem?.1 hy
   have:=h k (by omega) (List.getElem?_eq_some_iff.1 hk).1
   rw [ZGe hk,Bool.and_eq_true] at this
   exact this.1
  ·have:=h j (by omega) hj
   rw [ZGe (List.getElem?_eq_getElem hj),Bool.and_eq_true,Bool.not_eq_true',decide_eq_false_iff_not] at this
   intro e
   apply this.2
   rw [←e]
   exact List.mem_iff_getElem?.2 ⟨i,by rw [List.getElem?_take,if_pos hij]; exact List.getElem?_eq_getElem hi⟩
 ·rintro ⟨h1,h2⟩ j _ hj
  rw [ZGe (List.getElem?_eq_getElem hj),Bool.and_eq_true,Bool.not_eq_true',decide_eq_false_iff_not]
  refine ⟨h1 _ (List.getElem_mem hj),fun hm=>?_⟩
  obtain ⟨i,hi⟩:=List.mem_iff_getElem?.1 hm
  rw [List.getElem?_take] at hi
  split at hi
  ·rename_i hij
   obtain ⟨hi2,hi3⟩:=List.getElem?_eq_some_iff.1 hi
   exact List.pairwise_iff_getElem.1 h2 i j hi2 hj hij hi3
  ·cases hi
theorem ZFY (c:Config):ZF c=true↔1≤c.epoch∧c.epoch≤60∧1≤c.members.length∧c.members.length≤4∧(c.fresh=true→2≤c.members.length)∧(∀ y,y∈c.members→inR y 0 4=true)∧c.members.Nodup:=by
 simp only[ZF,Bool.and_eq_true,decide_eq_true_eq,ZIu,Bool.not_eq_true',Bool.and_eq_false_iff,decide_eq_false_iff_not]
 constructor
 ·rintro ⟨⟨⟨⟨⟨h1,h2⟩,h3⟩,h4⟩,h5⟩,h6,h7⟩
  exact ⟨h1,h2,h3,h4,fun hf=>by rcases h5 with h|h; rw [hf] at h; cases h; omega,h6,h7⟩
 ·rintro ⟨h1,h2,h3,h4,h5,h6,h7⟩
  refine ⟨⟨⟨⟨⟨h1,h2⟩,h3⟩,h4⟩,?_⟩,h6,h7⟩
  cases hf:c.fresh with
  | false=>exact .inl rfl
  | true=>have:=h5 hf; exact .inr (by omega)
def yU (n:Int):List U:=[.int .u8 n]
/-- A reader: its bytes, and how many numbers it drew. -/
def rd (bs:List Int) (p:Nat):Obj:=.box [.u (.sl 1 (bs.map yU)),.u (.int .i64 p)]
abbrev RP0:T:=.sc (.ptr (.par 0) 0 0)
def ZFk (bs:List Int):Prop:=bs.length≤2000∧∀ b,b∈bs→0≤b∧b≤255
theorem ZH9 {a b:Int} (ha:0≤a) (ha':a<4611686018427387904) (hb:0≤b) (hb':b<4611686018427387904):0≤Go.bits .xor .i64 a b:=by
 obtain ⟨m,rfl⟩:=Int.eq_ofNat_of_zero_le ha
 obtain ⟨n,rfl⟩:=Int.eq_ofNat_of_zero_le hb
 have h62:(4611686018427387904:Nat)=2 ^ 62:=by decide
 have e1:(BitVec.ofInt IntKind.i64.bits (m:Int)).toNat=m:=by
  rw [BitVec.toNat_ofInt]
  show (((m:Int) % ((2 ^ 64:Nat):Int)).toNat)=m
  omega
 have e2:(BitVec.ofInt IntKind.i64.bits (n:Int)).toNat=n:=by
  rw [BitVec.toNat_ofInt]
  show (((n:Int) % ((2 ^ 64:Nat):Int)).toNat)=n
  omega
 have hx:m ^^^ n<2 ^ 62:=Nat.xor_lt_two_pow (by omega) (by omega)
 have key:Go.bits .xor .i64 (m:Int) (n:Int)=IntKind.i64.wrap (((m ^^^ n:Nat)):Int):=by
  show IntKind.i64.wrap (((BitVec.ofInt IntKind.i64.bits (m:Int) ^^^ BitVec.ofInt IntKind.i64.bits (n:Int)).toNat:Nat):Int)=_
  rw [BitVec.toNat_xor,e1,e2]
 rw [key,IntKind.wrap_i64]
 omega
theorem ZIe {bs:List Int} (hb:ZFk bs) (p:Nat) (n:Int) (hp:p≤1099511627776):∃ v,EE F 55 [RP0,I n] [rd bs p]=some ⟨[I v],[],[rd bs (p+1)]⟩∧0≤v∧(1≤n→v<n):=by
 have e1:=w_succ (i:=p) (by omega)
 have e2:IntKind.i64.wrap (((p+1:Nat):Int) - 1)=(p:Int):=by rw [w64 (by omega) (by omega)]; omega
 by_cases hn:n<1
 ·refine ⟨0,(EE_run (fn:=i55) (by kernel_rfl) rfl).trans ?_,by omega,fun h=>by omega⟩
  simp only[i55,b55,Zdi,Zcu,List.length_cons,List.length_nil]
  simp only[↓xP,xT,rL,rB,rA,rS,rd,e1,hn]
 have hn0:¬n=0:=by omega
 by_cases hl:bs.length=0
 ·have hl':((bs.length:Nat):Int)=0:=by omega
  refine ⟨0,(EE_run (fn:=i55) (by kernel_rfl) rfl).trans ?_,by omega,fun h=>by omega⟩
  simp only[i55,b55,Zdi,Zcu,List.length_cons,List.length_nil]
  simp only[↓xP,xT,rL,rB,rA,rS,rd,e1,hn,List.length_map,hl']
 have hl':¬((bs.length:Nat):Int)=0:=by omega
 by_cases hlt:p<bs.length
 ·obtain ⟨b,hx⟩:∃ b,bs[p]?=some b:=⟨_,List.getElem?_eq_getElem hlt⟩
  have hb2:=hb.2 b (List.mem_of_getElem? hx)
  have hlt':(p:Int)<((bs.length:Nat):Int):=by omega
  have hwb:IntKind.i64.wrap b=b:=by rw [w64 (by omega) (by omega)]
  refine ⟨b.tmod n,(EE_run (fn:=i55) (by kernel_rfl) rfl).trans ?_,Int.tmod_nonneg _ hb2.1,fun h=>Int.tmod_lt_of_pos _ (by omega)⟩
  simp only[i55,b55,Zdi,Zcu,List.length_cons,List.length_nil]
  simp only[↓xP,xT,rL,rB,rA,rS,rd,e1,e2,hn,hn0,List.length_map,hl',hlt,hx,yU,hwb]
  done
 ·have hlt':¬(p:Int)<((bs.length:Nat):Int):=by omega
  have t1:(p:Int).tmod ((bs.length:Nat):Int)=((p % bs.length:Nat):Int):=rfl
  have t2:(((p*7+3:Nat)):Int).tmod ((bs.length:Nat):Int)=(((p*7+3) % bs.length:Nat):Int):=rfl
  have t3:(p:Int).tdiv ((bs.length:Nat):Int)=((p / bs.length:Nat):Int):=rfl
  have w1:IntKind.i64.wrap ((p:Int)*7)=(p:Int)*7:=by rw [w64 (by omega) (by omega)]
  have w2:IntKind.i64.wrap ((p:Int)*7+3)=((p*7+3:Nat):Int):=by rw [w64 (by omega) (by omega)]; omega
  obtain ⟨a,ha⟩:∃ a,bs[p % bs.length]?=some a:=⟨_,List.getElem?_eq_getElem (Nat.mod_lt _ (by omega))⟩
  obtain ⟨b,hx⟩:∃ b,bs[(p*7+3) % bs.length]?=some b:=⟨_,List.getElem?_eq_getElem (Nat.mod_lt _ (by omega))⟩
  have ha2:=hb.2 a (List.mem_of_getElem? ha)
  have hb2:=hb.2 b (List.mem_of_getElem? hx)
  have hwa:IntKind.i64.wrap a=a:=by rw [w64 (by omega) (by omega)]
  have hwb:IntKind.i64.wrap b=b:=by rw [w64 (by omega) (by omega)]
  have hq:p / bs.length≤p:=Nat.div_le_self ..
  generalize p / bs.length=q at t3 hq
  have hwq:IntKind.i64.wrap (q:Int)=(q:Int):=by rw [w64 (by omega) (by omega)]
  have v1:IntKind.i64.wrap (a*131)=a*131:=by rw [w64 (by omega) (by omega)]
  have v2:IntKind.i64.wrap (b*1117)=b*1117:=by rw [w64 (by omega) (by omega)]
  have v3:IntKind.i64.wrap (a*131+b*1117)=a*131+b*1117:=by rw [w64 (by omega) (by omega)]
  have v4:IntKind.i64.wrap ((p:Int)*29)=(p:Int)*29:=by rw [w64 (by omega) (by omega)]
  have v5:IntKind.i64.wrap (a*131+b*1117 + (p:Int)*29)=a*131+b*1117 + (p:Int)*29:=by rw [w64 (by omega) (by omega)]
  have v6:IntKind.i64.wrap ((q:Int)*53)=(q:Int)*53:=by rw [w64 (by omega) (by omega)]
  obtain ⟨A,hA⟩:∃ A,A=a*131+b*1117 + (p:Int)*29 + (q:Int)*53:=⟨_,rfl⟩
  have v7:IntKind.i64.wrap (a*131+b*1117 + (p:Int)*29 + (q:Int)*53)=A:=by rw [w64 (by omega) (by omega),hA]
  have hA0:0≤A:=by omega
  have hA1:A<4611686018427387904:=by omega
  have hB:0≤A.tdiv 64:=Int.tdiv_nonneg hA0 (by omega)
  have hB':A.tdiv 64≤A:=Int.tdiv_le_self _ hA0
  have v8:IntKind.i64.wrap (A.tdiv 64)=A.tdiv 64:=by rw [w64 (by omega) (by omega)]
  have h64:¬(64:Int)=0:=by omega
  refine ⟨(Go.bits .xor .i64 A (A.tdiv 64)).tmod n,(EE_run (fn:=i55) (by kernel_rfl) rfl).trans ?_,Int.tmod_nonneg _ (ZH9 hA0 hA1 hB (by omega)),fun h=>Int.tmod_lt_of_pos _ (by omega)⟩
  simp only[i55,b55,Zdi,Zcu,List.length_cons,List.length_nil]
  simp only[↓xP,xT,rL,rB,rA,rS,rd,e1,e2,hn,hn0,List.length_map,hl',hlt,t1,t2,t3,w1,w2,ha,hx,yU,hwa,hwb,hwq,v1,v2,v3,v4,v5,v6,v7,v8,h64]
  done
theorem ZFV {bs:List Int} (hb:ZFk bs) (p:Nat) (n:Int) (hp:p≤1099511627776) (hn:n≤1048576):∃ b q,EE F 97 [RP0,I n] [rd bs p]=some ⟨[B b],[],[rd bs q]⟩∧p≤q∧q≤p+1∧(n≤0→b=false):=by
 by_cases hn0:0<n
 ·obtain ⟨v,h1,h2,h3⟩:=ZIe hb p n hp
  have hw:IntKind.i64.wrap (n - 1)=n - 1:=by rw [w64 (by omega) (by omega)]
  refine ⟨decide (v=n - 1),p+1,(EE_run (fn:=i97) (by kernel_rfl) rfl).trans ?_,by omega,by omega,fun h=>by omega⟩
  simp only[i97,b97,Zdi,Zcu,List.length_cons,List.length_nil]
  have h1':=h1
  simp only[rd] at h1'
  simp only[↓xP,xT,rL,rB,rA,rS,rd,hn0,h1',hw,gt_iff_lt]
  done
 ·refine ⟨false,p,(EE_run (fn:=i97) (by kernel_rfl) rfl).trans ?_,by omega,by omega,fun h=>rfl⟩
  simp only[i97,b97,Zdi,Zcu,List.length_cons,List.length_nil]
  simp only[↓xP,xT,rL,rB,rA,rS,rd,hn0,gt_iff_lt]
  done
theorem ZIN (code:List Int) (hc:code.length≤9223372036854775807∧∀ b,b∈code→0≤b∧b≤255):∃ bs,EE F 53 [L 1 (code.map yU)] []=some ⟨[RP0],[rd bs 0],[]⟩∧ZFk bs:=by
 by_cases h:2000<code.length
 ·have h':(2000:Int)<((code.length:Nat):Int):=by omega
  have hct:=ZHx (n:=code.length) (i:=2000) (by omega)
  refine ⟨code.take 2000,?_,by simp; omega,fun b hb=>hc.2 b (List.mem_of_mem_take hb)⟩
  rw [R53,b53]
  have hct':vcut code.length none (some (DI 2000))=some (0,2000):=hct
  simp only[↓xP,xT,rL,rB,rA,rS,List.length_map,h',hct',gt_iff_lt,List.drop_zero,←List.map_take,rd]
  rfl
 ·have h':¬(2000:Int)<((code.length:Nat):Int):=by omega
  refine ⟨code,?_,by omega,hc.2⟩
  rw [R53,b53]
  simp only[↓xP,xT,rL,rB,rA,rS,List.length_map,h',gt_iff_lt,rd]
  rfl
/-- What some rounds tell. -/
theorem ZIY {f:Nat} {a:List T} {i:List Obj} {r:Ret} (k:Nat) (h:ZaM F (Zu F k) f a i=some r):EE F f a i=some r:=(Ze6 F f a i).eq.symm.trans (ZbJ (Ze6 F f a i).mono (k:=k) h)
theorem ZIz:EE F 26 [] []=ok1 (B true):=ZIY 120 (by kernel_rfl)
/-- What a function that draws comes to: results of a kind; the reader went on by at most so many. -/
def Gd (bs:List Int) (p c:Nat) (R:List T→List Obj→Prop) (x:Option Ret):Prop:=∃ r n q,x=some ⟨r,n,[rd bs q]⟩∧p≤q∧q≤p+c∧R r n
theorem ZFt {fin:St→Option Ret} {is:List Za} {c:IC} {α:Type} {G:Option Ret→Prop} (Inv:α→St→Prop) (μ:α→Nat)
  (h:∀ a st,Inv a st→(∀ a' st',μ a'<μ a→Inv a' st'→G (KK F fin (.inLoop c::is) st'))→G (KK F fin (.code c::.inLoop c::is) st)) {st:St} (a:α) (hI:Inv a st):G (KK F fin (.code (.loop c)::is) st):=by
 rw [ZgP]
 have all:∀ n a st,μ a<n→Inv a st→G (KK F fin (.inLoop c::is) st):=by
  intro n
  induction n with
  | zero=>intro a st h0; omega
  | succ n ih=>
   intro a st hn hI
   rw [ZfS]
   exact h a st hI (fun a' st' hm hI'=>ih a' st' (by omega) hI')
 exact all (μ a+1) a st (by omega) hI
theorem ZHU {x:Bool} {a b:Option Ret} {G:Option Ret→Prop} (ht:x=true→G a) (hf:x=false→G b):G (sel x a b):=by
 cases x
 ·exact hf rfl
 ·exact ht rfl
theorem rdx:(∀ bs p,(rd bs p).data=true)∧(∀ bs p q,ZaL (some (rd bs p)) (rd bs q)=true)∧(∀ id bs p,Obj.mapC (C.kill id) (rd bs p)=rd bs p)∧(∀ st id bs p,Obj.mapC (St.coolC st id) (rd bs p)=rd bs p):=by
 refine ⟨fun _ _=>rfl,fun _ _ _=>rfl,fun _ _ _=>rfl,fun st id bs p=>?_⟩
 have h:∀ u,st.coolC id (.u u)=.u u:=by
  intro u
  unfold St.coolC
  cases st.o id with
  | none=>rfl
  | some ob=>cases ob<;>rfl
 simp [rd,Obj.mapC,h]
theorem Gd.run {f:Nat} {a:List T} {bs:List Int} {p c:Nat} {R:List T→List Obj→Prop} {fn:IFn} (hF:Go.Proofs.YtfajcehhcjmofaaV.F f=some fn) (hn:a.length=fn.np) (h:Gd bs p c R (KK F (FF fn.res 1) [.code fn.body] (Zdi 0 a (Zcu 0 [rd bs p] S0)))) (ht:fn.tk=false:=by rfl):Gd bs p c R (EE F f a [rd bs p]):=by
 rw [EE_run hF hn ht]; exact h
theorem ZHG {i:Nat} (h:i≤1048576):IntKind.i64.wrap (((i+1:Nat):Int) - 1)=(i:Int):=by rw [w64 (by omega) (by omega)]; omega
theorem rdx2:(∀ bs p,Obj.flat (rd bs p)=(bs.map yU).isEmpty)∧(∀ bs p,Obj.data (rd bs p)=true)∧(∀ (x:Bool) (a:List Id),sel x a a=a):=by
 refine ⟨fun bs p=>?_,fun bs p=>rfl,fun x a=>by cases x<;>rfl⟩
 simp [rd,Obj.flat,C.isSl,U.flat]
def Code (code:List Int):Prop:=code.length≤9223372036854775807∧∀ b,b∈code→0≤b∧b≤255
/-- A property of a call's end. -/
def Ok (R:Ret→Prop) (x:Option Ret):Prop:=∃ r,x=some r∧R r
theorem Ok.run {f:Nat} {a:List T} {R:Ret→Prop} {fn:IFn} (hF:Go.Proofs.YtfajcehhcjmofaaV.F f=some fn) (hn:a.length=fn.np) (h:Ok R (KK F (FF fn.res 0) [.code fn.body] (Zdi 0 a (Zcu 0 [] S0)))) (ht:fn.tk=false:=by rfl):Ok R (EE F f a []):=by
 rw [EE_run hF hn ht]; exact h
theorem ZI3 (us:List U) (hl:us.length=1) (ht:∀ (j:Nat) ty u,[Ty.i .u8][j]?=some ty→us[j]?=some u→UT ty u):∃ x,us=yU x∧(0≤x∧x≤255):=by
 match us,hl with
 | [a],_=>obtain ⟨n,rfl,h⟩:=(ht 0 _ a rfl rfl).u8_of; exact ⟨n,rfl,h⟩
theorem Code.of {u:U} (hu:UT (.sl [.i .u8]) u):∃ code:List Int,u=.sl 1 (code.map yU)∧Code code:=by
 obtain ⟨code,rfl,hl,hb⟩:=hu.sl_of ZI3
 exact ⟨code,rfl,hl,hb⟩
theorem ZA {bs:List Int} (hb:ZFk bs) (p:Nat) (n:Int) (hp:p≤1000000000000) (hn:1≤n):∃ v:Nat,EE F 55 [RP0,I n] [rd bs p]=some ⟨[I (v:Int)],[],[rd bs (p+1)]⟩∧(v:Int)<n:=by
 obtain ⟨v,h1,h2,h3⟩:=ZIe hb p n (by omega)
 have:=h3 hn
 obtain ⟨k,rfl⟩:=Int.eq_ofNat_of_zero_le h2
 exact ⟨k,h1,this⟩
theorem ZHo {bs:List Int} (hb:ZFk bs) (p:Nat) (n:Int) (hn:n≤1048576) (hp:p≤1000000000):Gd bs p 6 (fun r m=>m=[]∧∃ s:Str,r=[.sc (.u (.str s))]∧s.length≤5) (EE F 119 [RP0,I n] [rd bs p]):=by
 refine Gd.run (fn:=i119) (by kernel_rfl) rfl ?_
 simp only[i119,b119,Zdi,Zcu]
 obtain ⟨b,q,ho,hq1,hq2,_⟩:=ZFV hb p n (by omega) hn
 cases b with
 | true=>
  obtain ⟨v,hv,hvl⟩:=ZA hb q 6 (by omega) (by omega)
  rcases (show v=0∨v=1∨v=2∨v=3∨v=4∨v=5 by omega) with rfl|rfl|rfl|rfl|rfl|rfl<;>simp only[↓xP,xT,rL,rB,rA,rS,rdx,ho,hv]<;>exact ⟨_,_,q+1,rfl,by omega,by omega,rfl,_,rfl,by simp⟩
 | false=>
  obtain ⟨v,hv,hvl⟩:=ZA hb q 12 (by omega) (by omega)
  by_cases h11:(v:Int)=11
  ·obtain ⟨w,hw,hwl⟩:=ZA hb (q+1) 5 (by omega) (by omega)
   rcases (show w=0∨w=1∨w=2∨w=3∨w=4 by omega) with rfl|rfl|rfl|rfl|rfl<;>simp only[↓xP,xT,rL,rB,rA,rS,rdx,ho,hv,h11,hw]<;>exact ⟨_,_,q+2,rfl,by omega,by omega,rfl,_,rfl,by simp⟩
  ·obtain ⟨w,hw,hwl⟩:=ZA hb (q+1) 2 (by omega) (by omega)
   have hw1:IntKind.i64.wrap (1 + (w:Int))=((1+w:Nat):Int):=by rw [w64 (by omega) (by omega)]; omega
   simp only[↓xP,xT,rL,rB,rA,rS,rdx,ho,hv,h11,hw,hw1]
   refine ZFt (fun (a:Nat×Nat×Str) st=>a.1+a.2.2.length≤2∧q+2≤a.2.1∧a.2.1+a.1≤q+4∧st.s 0=.t RP0∧st.s 5=DS a.2.2∧st.s 6=DI a.1∧st.o (.par 0)=some (rd bs a.2.1)) (fun a=>a.1) ?_ (1+w,q+1+1,[]) ⟨by simp; omega,by simp,by dsimp only; omega,(by and_intros<;>first|omega|rfl|(simp only[↓xP,xT,rL,rB,rA,rS,rdx]<;>first|done|rfl|omega))⟩
   rintro ⟨k,q1,s⟩ st ⟨hl,hq,hq',h0,h5,h6,hr⟩ ih
   dsimp only at *
   cases k with
   | zero=>
    have hk:¬(0:Int)<((0:Nat):Int):=by omega
    simp only[↓xP,xT,rL,rB,rA,rS,rdx,h0,h5,h6,hr,gt_iff_lt,hk]
    exact ⟨_,_,q1,rfl,by omega,by omega,rfl,s,rfl,by omega⟩
   | succ k=>
    have hk:(0:Int)<((k+1:Nat):Int):=by omega
    have hwk:=ZHG (i:=k) (by omega)
    obtain ⟨v2,hv2,hvl2⟩:=ZA hb q1 4 (by omega) (by omega)
    have hs1:s.length+1≤9223372036854775807:=by omega
    simp only[↓xP,xT,rL,rB,rA,rS,rdx,h0,h5,h6,hr,gt_iff_lt,hk,hv2,hwk,hs1]
    exact ih (k,q1+1,s++[UInt8.ofNat (IntKind.u8.wrap (IntKind.i64.wrap (97 + (v2:Int)))).toNat]) _ (by dsimp only; omega) ⟨by simp; omega,by dsimp only; omega,by dsimp only; omega,(by and_intros<;>first|omega|rfl|(simp only[↓xP,xT,rL,rB,rA,rS,rdx,h0,h5,h6,hr,hwk]<;>first|done|rfl|omega))⟩
theorem ZGO {bs:List Int} (hb:ZFk bs) (p:Nat) (n:Int) (hn:n≤1048576) (hp:p≤1000000000):Gd bs p 3 (fun r m=>m=[]∧∃ v:Int,r=[I v]∧-1≤v∧v≤1000) (EE F 120 [RP0,I n] [rd bs p]):=by
 refine Gd.run (fn:=i120) (by kernel_rfl) rfl ?_
 simp only[i120,b120,Zdi,Zcu]
 obtain ⟨b,q,ho,hq1,hq2,_⟩:=ZFV hb p n (by omega) hn
 cases b with
 | true=>
  obtain ⟨v,hv,hvl⟩:=ZA hb q 2 (by omega) (by omega)
  rcases (show v=0∨v=1 by omega) with rfl|rfl<;>simp only[↓xP,xT,rL,rB,rA,rS,rdx,ho,hv]<;>exact ⟨_,_,q+1,rfl,by omega,by omega,rfl,_,rfl,by omega,by omega⟩
 | false=>
  obtain ⟨v,hv,hvl⟩:=ZA hb q 20 (by omega) (by omega)
  obtain ⟨w,hw,hwl⟩:=ZA hb (q+1) 9 (by omega) (by omega)
  have h80:¬(8:Int)=0:=by omega
  have e00:IntKind.i64.wrap ((0:Nat):Int)=((0:Nat):Int):=by rw [w64 (by omega) (by omega)]
  have e11:IntKind.i64.wrap ((1:Nat):Int)=((1:Nat):Int):=by rw [w64 (by omega) (by omega)]
  have h8:((w:Int)).tdiv 8=((w / 8:Nat):Int):=rfl
  by_cases h0:w / 8=0
  ·simp only[↓xP,xT,rL,rB,rA,rS,rdx,ho,hv,hw,h8,h0,h80,e00]
   exact ⟨_,_,q+2,rfl,by omega,by omega,rfl,(v:Int),rfl,by omega,by omega⟩
  ·have h1:w / 8=1:=by omega
   simp only[↓xP,xT,rL,rB,rA,rS,rdx,ho,hv,hw,h8,h1,h80,e11]
   exact ⟨_,_,q+2,rfl,by omega,by omega,rfl,(999:Int),rfl,by omega,by omega⟩
def ZIJ (p:Pair):Prop:=ZJ p.key=true∧inR p.value 0 999=true
def Up (a b:Pair):Prop:=Za2 a.key b.key=true
theorem ZG6 (l:List Pair):ZR l=true↔l.length≤48∧(∀ p,p∈l→ZIJ p)∧l.Pairwise Up:=by
 constructor
 ·intro h
  refine ⟨ZFG h,fun p hp=>?_,?_⟩
  ·obtain ⟨i,hi⟩:=List.mem_iff_getElem?.1 hp
   exact ZFP h hi
  ·rw [List.pairwise_iff_getElem]
   intro i j hi hj hij
   exact ZIS h i j _ _ hij (List.getElem?_eq_getElem hi) (List.getElem?_eq_getElem hj)
 ·rintro ⟨h1,h2,h3⟩
  simp only[ZR,Bool.and_eq_true,decide_eq_true_eq]
  refine ⟨h1,(Z7 _ 0 rfl).2 fun j _ hj=>?_⟩
  obtain ⟨p,hp⟩:∃ p,l[j]?=some p:=⟨_,List.getElem?_eq_getElem hj⟩
  have hf:=h2 p (List.mem_of_getElem? hp)
  simp only[ZFC,hp,hf.1,hf.2,Bool.and_true,Bool.true_and,Bool.or_eq_true,decide_eq_true_eq]
  by_cases h0:j=0
  ·exact .inl h0
  ·right
   obtain ⟨q,hq⟩:∃ q,l[j - 1]?=some q:=⟨_,List.getElem?_eq_getElem (by omega)⟩
   rw [hq]
   have:=List.pairwise_iff_getElem.1 h3 (j - 1) j (by omega) hj (by omega)
   rw [(List.getElem?_eq_some_iff.1 hq).2,(List.getElem?_eq_some_iff.1 hp).2] at this
   exact this
def pc (id:Id) (b:Bool) (l:List Pair):C:=match b with
 | false=>.u (.sl 2 (l.map Pair.u))
 | true=>.own id l.length
theorem ZI1 {a b c:Str} (h1:Za2 b a=false) (h2:Za2 b c=true):Za2 a c=true:=by
 rcases ZG4 a b with h|h|h
 ·exact lt_trans h h2
 ·subst h; exact h2
 ·rw [h] at h1; cases h1
/-- What a drawn command is, and a drawn entry. -/
def ZIb (t:T):Prop:=∃ (k:Int) (key:Str) (v o:Int),t=.ag [.u (.int .i64 k),.u (.str key),.u (.int .i64 v),.u (.int .i64 o)]
def ZIc (t:T):Prop:=∃ (c s k:Int) (key:Str) (v o:Int),t=.ag [.u (.int .i64 c),.u (.int .i64 s),.u (.int .i64 k),.u (.str key),.u (.int .i64 v),.u (.int .i64 o)]
/-- Literals of slices in drawn regions. -/
def fxl1 (d n k:Nat) (ok:Bool) (ids:List Id) (r:Option (List (List U))):Option Fx:=if ok=true∧ids=[] then r.map fun r=>⟨some d,.t (.sc (.own (.loc d 0) n)),[(.loc d 0,.row k r)],[]⟩ else none
theorem ZGk:(∀ (E:Zb) (st:St) d n zero ps,fx E st (.lit d n zero ps)=fxl1 d n zero.length (st.dead d 1) (st.partIds ps) (st.fillRows zero.length (List.replicate n zero) ps))∧
 (∀ d n k r,fxl1 d n k true [] (some r)=some ⟨some d,.t (.sc (.own (.loc d 0) n)),[(.loc d 0,.row k r)],[]⟩):=by
 refine ⟨fun E st d n zero ps=>?_,fun d n k r=>rfl⟩
 simp only[fx,fxl1]
set_option maxHeartbeats 4000000 in
theorem ZGF {bs:List Int} (hb:ZFk bs) (p:Nat) (n:Int) (hn:n≤1048576) (hp:p≤10000000):Gd bs p 20 (fun r m=>m=[]∧∃ t,r=[t]∧ZIb t) (EE F 135 [RP0,I n] [rd bs p]):=by
  refine Gd.run (fn:=i135) (by kernel_rfl) rfl ?_
  simp only[i135,b135,Zdi,Zcu]
  have one:∀ (k:Int) (key:Str) (v o:Int) (q:Nat),p≤q→q≤p+20→Gd bs p 20 (fun r m=>m=[]∧∃ t,r=[t]∧ZIb t) (some ⟨[.ag [.u (.int .i64 k),.u (.str key),.u (.int .i64 v),.u (.int .i64 o)]],[],[rd bs q]⟩):=fun k key v o q h1 h2=>⟨_,_,q,rfl,h1,h2,rfl,_,rfl,k,key,v,o,rfl⟩
  obtain ⟨b,q,ho,hq1,hq2,_⟩:=ZFV hb p n (by omega) hn
  cases b with
  | true=>
    obtain ⟨v,hv,hvl⟩:=ZA hb q 10 (by omega) (by omega)
    rcases (show v=0∨v=1∨v=2∨v=3∨v=4∨v=5∨v=6∨v=7∨v=8∨v=9 by omega) with rfl|rfl|rfl|rfl|rfl|rfl|rfl|rfl|rfl|rfl<;>simp only[↓xP,xT,rL,rB,rA,rS,rdx,ho,hv]<;>exact one _ _ _ _ (q+1) (by omega) (by omega)
  | false =>
    obtain ⟨r1,n1,q1,h1,hq1,hq1',rfl,key0,rfl,_⟩:=ZHo hb q 0 (by omega) (by omega)
    obtain ⟨v2,hv2,_⟩:=ZA hb q1 2 (by omega) (by omega)
    obtain ⟨v4,hv4,hvl4⟩:=ZA hb (q1+1) 4 (by omega) (by omega)
    have h1000:¬(1000:Int)=0:=by omega
    have n10:¬(1:Int)=0:=by omega
    have n20:¬(2:Int)=0:=by omega
    have n21:¬(2:Int)=1:=by omega
    obtain ⟨Q,hc⟩:∃ Q,((v2:Int)=0∧Q=q1+1+1)∨(¬(v2:Int)=0∧Q=q1+1):=by
      by_cases e:(v2:Int)=0
      · exact ⟨_,.inl ⟨e,rfl⟩⟩
      · exact ⟨_,.inr ⟨e,rfl⟩⟩
    have hQ:q1+1≤Q∧Q≤q1+2:=by omega
    obtain ⟨v8,hv8,_⟩:=ZA hb Q 8 (by omega) (by omega)
    obtain ⟨a1,ha1,_⟩:=ZA hb (Q+1) 5 (by omega) (by omega)
    obtain ⟨a2,ha2,_⟩:=ZA hb (Q+1+1) 5 (by omega) (by omega)
    obtain ⟨r3,n3,q3,h3,hq3,hq3',rfl,vv,rfl,_,_⟩:=ZGO hb (Q+1) 0 (by omega) (by omega)
    rcases hc with ⟨e2,rfl⟩|⟨e2,rfl⟩
    · rcases (show v4=0∨v4=1∨v4=2∨v4=3 by omega) with rfl|rfl|rfl|rfl
      all_goals
        by_cases e0:(v8:Int)=0
        · simp only[↓xP,xT,rL,rB,rA,rS,rdx,ho,h1,hv2,e2,hv4,hv8,e0]
          exact one _ _ _ _ _ (by omega) (by omega)
        by_cases e1:(v8:Int)=1
        · simp only[↓xP,xT,rL,rB,rA,rS,rdx,ho,h1,hv2,e2,hv4,hv8,e1,n10]
          exact one _ _ _ _ _ (by omega) (by omega)
        by_cases e2':(v8:Int)=2
        · simp only[↓xP,xT,rL,rB,rA,rS,rdx,ho,h1,hv2,e2,hv4,hv8,e2',n20,n21,ha1,ha2]
          exact one _ _ _ _ _ (by omega) (by omega)
        · simp only[↓xP,xT,rL,rB,rA,rS,rdx,ho,h1,hv2,e2,hv4,hv8,e0,e1,e2',h3,h1000]
          exact one _ _ _ _ _ (by omega) (by omega)
    · by_cases e0:(v8:Int)=0
      · simp only[↓xP,xT,rL,rB,rA,rS,rdx,ho,h1,hv2,e2,hv8,e0]
        exact one _ _ _ _ _ (by omega) (by omega)
      by_cases e1:(v8:Int)=1
      · simp only[↓xP,xT,rL,rB,rA,rS,rdx,ho,h1,hv2,e2,hv8,e1,n10]
        exact one _ _ _ _ _ (by omega) (by omega)
      by_cases e2':(v8:Int)=2
      · simp only[↓xP,xT,rL,rB,rA,rS,rdx,ho,h1,hv2,e2,hv8,e2',n20,n21,ha1,ha2]
        exact one _ _ _ _ _ (by omega) (by omega)
      · simp only[↓xP,xT,rL,rB,rA,rS,rdx,ho,h1,hv2,e2,hv8,e0,e1,e2',h3,h1000]
        exact one _ _ _ _ _ (by omega) (by omega)
theorem ZGE {bs:List Int} (hb:ZFk bs) (p:Nat) (n:Int) (hn:n≤1048576) (hp:p≤1000000):Gd bs p 40 (fun r m=>m=[]∧∃ t,r=[t]∧ZIb t) (EE F 105 [RP0,I n] [rd bs p]):=by
 refine Gd.run (fn:=i105) (by kernel_rfl) rfl ?_
 simp only[i105,b105,Zdi,Zcu]
 have one:∀ (k:Int) (key:Str) (v o:Int) (q:Nat),p≤q→q≤p+40→Gd bs p 40 (fun r m=>m=[]∧∃ t,r=[t]∧ZIb t) (some ⟨[.ag [.u (.int .i64 k),.u (.str key),.u (.int .i64 v),.u (.int .i64 o)]],[],[rd bs q]⟩):=fun k key v o q h1 h2=>⟨_,_,q,rfl,h1,h2,rfl,_,rfl,k,key,v,o,rfl⟩
 obtain ⟨r1,n1,q1,h1,hq1,hq1',rfl,_,rfl,k,key,v,o,rfl⟩:=ZGF hb p n hn (by omega)
 obtain ⟨v5,hv5,_⟩:=ZA hb q1 5 (by omega) (by omega)
 by_cases e5:(v5:Int)=0
 ·obtain ⟨r2,n2,q2,h2,hq2,hq2',rfl,key2,rfl,_⟩:=ZHo hb (q1+1) 0 (by omega) (by omega)
  obtain ⟨w,hw,hwl⟩:=ZA hb q2 4 (by omega) (by omega)
  rcases (show w=0∨w=1∨w=2∨w=3 by omega) with rfl|rfl|rfl|rfl<;>simp only[↓xP,xT,rL,rB,rA,rS,rdx,h1,hv5,e5,h2,hw]<;>exact one _ _ _ _ _ (by omega) (by omega)
 ·simp only[↓xP,xT,rL,rB,rA,rS,rdx,h1,hv5,e5]
  exact one _ _ _ _ _ (by omega) (by omega)
theorem ZHR {bs:List Int} (hb:ZFk bs) (p:Nat) (n:Int) (hn:n≤1048576) (hp:p≤100000):Gd bs p 60 (fun r m=>m=[]∧∃ t,r=[t]∧ZIc t) (EE F 106 [RP0,I n] [rd bs p]):=by
 refine Gd.run (fn:=i106) (by kernel_rfl) rfl ?_
 simp only[i106,b106,Zdi,Zcu]
 have one:∀ (c s k:Int) (key:Str) (v o:Int) (q:Nat),p≤q→q≤p+60→Gd bs p 60 (fun r m=>m=[]∧∃ t,r=[t]∧ZIc t) (some ⟨[.ag [.u (.int .i64 c),.u (.int .i64 s),.u (.int .i64 k),.u (.str key),.u (.int .i64 v),.u (.int .i64 o)]],[],[rd bs q]⟩):=fun c s k key v o q h1 h2=>⟨_,_,q,rfl,h1,h2,rfl,_,rfl,c,s,k,key,v,o,rfl⟩
 obtain ⟨v4,hv4,_⟩:=ZA hb p 4 (by omega) (by omega)
 obtain ⟨v6,hv6,_⟩:=ZA hb (p+1) 6 (by omega) (by omega)
 obtain ⟨r1,n1,q1,h1,hq1,hq1',rfl,_,rfl,k,key,v,o,rfl⟩:=ZGE hb (p+1+1) 0 (by omega) (by omega)
 obtain ⟨b,q,ho,hq2,hq2',_⟩:=ZFV hb q1 n (by omega) hn
 cases b with
 | true=>
  obtain ⟨w,hw,hwl⟩:=ZA hb q 6 (by omega) (by omega)
  rcases (show w=0∨w=1∨w=2∨w=3∨w=4∨w=5 by omega) with rfl|rfl|rfl|rfl|rfl|rfl<;>simp only[↓xP,xT,rL,rB,rA,rS,rdx,ZGk,hv4,hv6,h1,ho,hw]<;>exact one _ _ _ _ _ _ (q+1) (by omega) (by omega)
 | false=>
  simp only[↓xP,xT,rL,rB,rA,rS,rdx,hv4,hv6,h1,ho]
  exact one _ _ _ _ _ _ _ (by omega) (by omega)
theorem ZHA {d:Nat} (h:d≤25):ZFF (UInt8.ofNat (97+d))=true:=by
 have:(UInt8.ofNat (97+d)).toNat=97+d:=by simp [UInt8.toNat_ofNat']; omega
 simp only[ZFF,this,Bool.and_eq_true,decide_eq_true_eq]
 omega
theorem ZGw {bs:List Int} (hb:ZFk bs) (p:Nat) (hp:p≤1000000000):Gd bs p 6 (fun r m=>m=[]∧∃ s:Str,r=[.sc (.u (.str s))]∧ZJ s=true) (EE F 119 [RP0,I 0] [rd bs p]):=by
 refine Gd.run (fn:=i119) (by kernel_rfl) rfl ?_
 simp only[i119,b119,Zdi,Zcu]
 obtain ⟨b,q,ho,hq1,hq2,hb0⟩:=ZFV hb p 0 (by omega) (by omega)
 obtain rfl:=hb0 (by omega)
 obtain ⟨v,hv,hvl⟩:=ZA hb q 12 (by omega) (by omega)
 by_cases h11:(v:Int)=11
 ·obtain ⟨w,hw,hwl⟩:=ZA hb (q+1) 5 (by omega) (by omega)
  rcases (show w=0∨w=1∨w=2∨w=3∨w=4 by omega) with rfl|rfl|rfl|rfl|rfl<;>simp only[↓xP,xT,rL,rB,rA,rS,rdx,ho,hv,h11,hw]<;>exact ⟨_,_,q+2,rfl,by omega,by omega,rfl,_,rfl,by decide⟩
 ·obtain ⟨w,hw,hwl⟩:=ZA hb (q+1) 2 (by omega) (by omega)
  have hw1:IntKind.i64.wrap (1 + (w:Int))=((1+w:Nat):Int):=by rw [w64 (by omega) (by omega)]; omega
  simp only[↓xP,xT,rL,rB,rA,rS,rdx,ho,hv,h11,hw,hw1]
  refine ZFt (fun (a:Nat×Nat×Str) st=>a.1+a.2.2.length≤2∧1≤a.1+a.2.2.length∧a.2.2.all ZFF=true∧q+2≤a.2.1∧a.2.1+a.1≤q+4∧st.s 0=.t RP0∧st.s 5=DS a.2.2∧st.s 6=DI a.1∧st.o (.par 0)=some (rd bs a.2.1)) (fun a=>a.1) ?_ (1+w,q+1+1,[]) ⟨by simp; omega,by simp,by rfl,by simp,by dsimp only; omega,(by and_intros<;>first|omega|rfl|(simp only[↓xP,xT,rL,rB,rA,rS,rdx]<;>first|done|rfl|omega))⟩
  rintro ⟨k,q1,s⟩ st ⟨hl,hl1,hlet,hq,hq',h0,h5,h6,hr⟩ ih
  dsimp only at *
  cases k with
  | zero=>
   have hk:¬(0:Int)<((0:Nat):Int):=by omega
   simp only[↓xP,xT,rL,rB,rA,rS,rdx,h0,h5,h6,hr,gt_iff_lt,hk]
   refine ⟨_,_,q1,rfl,by omega,by omega,rfl,s,rfl,?_⟩
   have g1:1≤s.length:=by omega
   have g2:s.length≤4:=by omega
   simp only[ZJ,hlet,g1,g2,decide_true,Bool.and_self]
  | succ k=>
   have hk:(0:Int)<((k+1:Nat):Int):=by omega
   have hwk:=ZHG (i:=k) (by omega)
   obtain ⟨v2,hv2,hvl2⟩:=ZA hb q1 4 (by omega) (by omega)
   have hs1:s.length+1≤9223372036854775807:=by omega
   have w1:IntKind.i64.wrap (97 + (v2:Int))=((97+v2:Nat):Int):=by rw [w64 (by omega) (by omega)]; omega
   have w2:IntKind.u8.wrap ((97+v2:Nat):Int)=((97+v2:Nat):Int):=by rw [IntKind.wrap_u8]; omega
   simp only[↓xP,xT,rL,rB,rA,rS,rdx,h0,h5,h6,hr,gt_iff_lt,hk,hv2,hwk,hs1,w1,w2,Int.toNat_natCast]
   exact ih (k,q1+1,s++[UInt8.ofNat (97+v2)]) _ (by dsimp only; omega) ⟨by simp; omega,by simp; omega,by rw [List.all_append,hlet,List.all_cons,ZHA (show v2≤25 by omega)]; rfl,by dsimp only; omega,by dsimp only; omega,(by and_intros<;>first|omega|rfl|(simp only[↓xP,xT,rL,rB,rA,rS,rdx,h0,h5,h6,hr,hwk]<;>first|done|rfl|omega))⟩
theorem ZFi {α:Type} {l:List α} {i:Nat} {x:α} (h:l[i]?=some x):l.drop i=x::l.drop (i+1):=by
 have hi:=(List.getElem?_eq_some_iff.1 h).1
 rw [List.drop_eq_getElem_cons hi,(List.getElem?_eq_some_iff.1 h).2]
def ZFT (c:Config):Bool:=decide (c.epoch=0)&&decide (c.members.length=0)&&!c.fresh
theorem ZGP (e:Int) (l:List Int) (f:Bool):EE F 155 [.ag [.u (.int .i64 e),.u (.sl 1 (l.map iU)),.u (.bool f)]] []=ok1 (B (ZFT ⟨e,l,f⟩)):=by
 rw [R155,b155]
 simp only[↓xP,xT,rL,rB,rA,rS]
 repeat' (refine ZiJ (fun h=>?_) (fun h=>?_))
 all_goals simp_all [ZFT]
def ZZ (l:List Entry):Bool:=decide (l.length≤24)&&l.all Z2
theorem ZFL (l:List Entry) (hn:l.length≤4611686018427387904):EE F 156 [L 6 (l.map Entry.u)] []=ok1 (B (ZZ l)):=by
 rw [R156,b156]
 simp only[↓xP,xT,rL,rB,rA,rS]
 refine (Zji (fun (i:Nat) st=>i≤24∧i≤l.length∧st.s 0=DU (.sl 6 (l.map Entry.u))∧st.s 3=DI i) (fun i=>l.length - i) (fun i=>ok1 (B (decide (l.length≤24)&&(l.drop i).all Z2))) ?_ 0 (by and_intros<;>first|omega|rfl|(simp only[↓xP,xT,rL,rB,rA,rS]<;>first|done|rfl|omega))).trans (by simp [ZZ])
 rintro i st ⟨h24,hle,h0,h3⟩ ih
 by_cases hi:i<l.length
 ·obtain ⟨⟨c,s,k,key,v,o⟩,hx⟩:∃ x,l[i]?=some x:=⟨_,List.getElem?_eq_getElem hi⟩
  have hw:=w_succ (i:=i) (by omega)
  by_cases hc:i=24
  ·have hc2:((24:Int)≤(i:Int))=True:=by simp; omega
   simp only[↓xP,xT,rL,rB,rA,rS,h0,h3,hi,hx,hw,hc2,Entry.u,ZFj]
   have:¬l.length≤24:=by omega
   simp [this]
  ·have hc2:((24:Int)≤(i:Int))=False:=by simp; omega
   simp only[↓xP,xT,rL,rB,rA,rS,h0,h3,hi,hx,hw,hc2,Entry.u,ZFj]
   rw [ZFi hx]
   refine ZiJ (fun h=>?_) (fun h=>?_)
   ·simp_all
   ·rw [ih (i+1) _ (by omega) (by and_intros<;>first|omega|rfl|(simp only[↓xP,xT,rL,rB,rA,rS,h0]<;>first|done|rfl|omega))]; simp_all
 ·simp only[↓xP,xT,rL,rB,rA,rS,h0,h3,hi]
  rw [List.drop_of_length_le (by omega)]
  have:l.length≤24:=by omega
  simp [this]
def ZP (r:Replica):Bool:=if ZFT r.conf=true then !r.ready&&decide (r.log.length=0) else ZF r.conf&&ZZ r.log&&(r.ready||decide (r.log.length=0))
theorem ZGA (e:Int) (ms:List Int) (f rd:Bool) (lg:List Entry) (h1:ms.length≤4611686018427387904) (h2:lg.length≤4611686018427387904):EE F 144 [.ag [.u (.int .i64 e),.u (.sl 1 (ms.map iU)),.u (.bool f),.u (.bool rd),.u (.sl 6 (lg.map Entry.u))]] []=ok1 (B (ZP ⟨⟨e,ms,f⟩,rd,lg⟩)):=by
 rw [R144,b144]
 have a:=ZFd e ms f h1
 have b:=ZFL lg h2
 simp only[↓xP,xT,rL,rB,rA,rS,ZGP,a,b]
 repeat' (refine ZiJ (fun h=>?_) (fun h=>?_))
 all_goals simp_all [ZP]
def ZU (m:Message):Bool:=decide (1≤m.epoch)&&decide (m.epoch≤60)&&(if m.kind=1 then inR m.to_ 0 4&&ZF m.conf&&decide (m.conf.epoch=m.epoch)&&decide (m.log.length=0) else if m.kind=2 then inR m.to_ 0 4&&ZFT m.conf&&ZZ m.log else if m.kind=3 then decide (m.to_ = -1)&&ZFT m.conf&&decide (m.log.length=0) else false)
theorem ZGz (k t ep e:Int) (ms:List Int) (f:Bool) (lg:List Entry) (h1:ms.length≤4611686018427387904) (h2:lg.length≤4611686018427387904):EE F 154 [.ag [.u (.int .i64 k),.u (.int .i64 t),.u (.int .i64 ep),.u (.int .i64 e),.u (.sl 1 (ms.map iU)),.u (.bool f),.u (.sl 6 (lg.map Entry.u))]] []=ok1 (B (ZU ⟨k,t,ep,⟨e,ms,f⟩,lg⟩)):=by
 rw [R154,b154]
 have a:=ZFd e ms f h1
 have b:=ZFL lg h2
 simp only[↓xP,xT,rL,rB,rA,rS,ZGP,a,b,ZW]
 repeat' (refine ZiJ (fun h=>?_) (fun h=>?_))
 all_goals first|(simp_all [ZU,inR]; done)|(simp_all [ZU,inR]; grind)|(simp_all [ZU,inR,ZF]; done)|(simp_all [ZU,inR,ZF]; grind)|skip
def ZGt (l:List Message):Bool:=decide (l.length≤10)&&l.all ZU
theorem ZHd (l:List Message) (hs:ZFN l):EE F 143 [L 7 (l.map Message.u)] []=ok1 (B (ZGt l)):=by
 have hn:=hs.1
 rw [R143,b143]
 simp only[↓xP,xT,rL,rB,rA,rS]
 refine (Zji (fun (i:Nat) st=>i≤10∧i≤l.length∧st.s 0=DU (.sl 7 (l.map Message.u))∧st.s 3=DI i) (fun i=>l.length - i) (fun i=>ok1 (B (decide (l.length≤10)&&(l.drop i).all ZU))) ?_ 0 (by and_intros<;>first|omega|rfl|(simp only[↓xP,xT,rL,rB,rA,rS]<;>first|done|rfl|omega))).trans (by simp [ZGt])
 rintro i st ⟨h24,hle,h0,h3⟩ ih
 by_cases hi:i<l.length
 ·obtain ⟨⟨k,t,ep,⟨e,ms,f⟩,lg⟩,hx⟩:∃ x,l[i]?=some x:=⟨_,List.getElem?_eq_getElem hi⟩
  have hw:=w_succ (i:=i) (by omega)
  have hsx:=hs.2 _ (List.mem_of_getElem? hx)
  have hm:=ZGz k t ep e ms f lg (by have:=hsx.1.1.1; simp only at this; omega) (by have:=hsx.2.1.1; simp only at this; omega)
  by_cases hc:i=10
  ·have hc2:((10:Int)≤(i:Int))=True:=by simp; omega
   simp only[↓xP,xT,rL,rB,rA,rS,h0,h3,hi,hx,hw,hc2,Message.u,hm]
   have:¬l.length≤10:=by omega
   simp [this]
  ·have hc2:((10:Int)≤(i:Int))=False:=by simp; omega
   simp only[↓xP,xT,rL,rB,rA,rS,h0,h3,hi,hx,hw,hc2,Message.u,hm]
   rw [ZFi hx]
   refine ZiJ (fun h=>?_) (fun h=>?_)
   ·simp_all
   ·rw [ih (i+1) _ (by omega) (by and_intros<;>first|omega|rfl|(simp only[↓xP,xT,rL,rB,rA,rS,h0]<;>first|done|rfl|omega))]; simp_all
 ·simp only[↓xP,xT,rL,rB,rA,rS,h0,h3,hi]
  rw [List.drop_of_length_le (by omega)]
  have:l.length≤10:=by omega
  simp [this]
def ZFb (a:Answer):Bool:=Z2 a.asked&&inR a.reply (-4) 999
def ZFa (l:List Answer):Bool:=decide (l.length≤24)&&l.all ZFb
def ZQ (c:Chain):Bool:=ZS c.base&&ZF c.conf&&decide (c.nodes.length=5)&&decide (c.up.length=5)&&ZGt c.bag&&(c.nodes.all fun r=>ZP r&&decide (r.conf.epoch≤c.conf.epoch))&&(c.bag.all fun m=>decide (m.epoch≤c.conf.epoch))&&ZFa c.answers
theorem ZFX (c0 c1:Str) (c2:List Pair) (c3:List Session) (c4:Bool) (c5:Str) (c6:Int) (c7:List Int) (c8:Bool) (c9:List Replica) (c10:List Bool) (c11:List Message) (c12:List Answer) (hs:Chain.Small ⟨⟨⟨c0,c1⟩,c2,c3,c4,c5⟩,⟨c6,c7,c8⟩,c9,c10,c11,c12⟩):EE F 110 [.ag [.u (.str c0),.u (.str c1),.u (.sl 2 (c2.map Pair.u)),.u (.sl 3 (c3.map Session.u)),.u (.bool c4),.u (.str c5),.u (.int .i64 c6),.u (.sl 1 (c7.map iU)),.u (.bool c8),.u (.sl 5 (c9.map Replica.u)),.u (.sl 1 (c10.map bU)),.u (.sl 7 (c11.map Message.u)),.u (.sl 7 (c12.map Answer.u))]] []=ok1 (B (ZQ ⟨⟨⟨c0,c1⟩,c2,c3,c4,c5⟩,⟨c6,c7,c8⟩,c9,c10,c11,c12⟩)):=by
  rw [R110,b110]
  obtain ⟨hb,hcf,hnd,hup,hbag,hans,_⟩:=hs
  have a1:=ZF0 c0 c1 c2 c3 c4 c5 (by have:=hb.2.2.1.1; simp only at this; omega)
  have a2:=ZFd c6 c7 c8 (by have:=hcf.1.1; simp only at this; omega)
  have a3:=ZHd c11 hbag
  have hnl:c9.length≤1048576:=hnd.1
  have hbl:c11.length≤1048576:=hbag.1
  have hal:c12.length≤1048576:=hans.1
  simp only[↓xP,xT,rL,rB,rA,rS,a1,a2,a3,List.length_map,ne_eq]
  refine ZiJ (fun h=>?_) (fun g1=>?_)
  · rw [Bool.not_eq_true'] at h; simp [ZQ,h]
  refine ZiJ (fun h=>?_) (fun g2=>?_)
  · rw [Bool.not_eq_true'] at h; simp [ZQ,h]
  refine ZiJ (fun h=>?_) (fun g3=>?_)
  · have:¬c9.length=5:=by simp at h; omega
    simp [ZQ,this]
  refine ZiJ (fun h=>?_) (fun g4=>?_)
  · have:¬c10.length=5:=by simp at h; omega
    simp [ZQ,this]
  refine ZiJ (fun h=>?_) (fun g5=>?_)
  · rw [Bool.not_eq_true'] at h; simp [ZQ,h]
  refine ZiJ (fun h=>?_) (fun g6=>?_)
  · have:¬c12.length≤24:=by simp at h; omega
    simp [ZQ,ZFa,this]
  rw [Bool.not_eq_false'] at g1 g2 g5
  have g3':c9.length=5:=by simp at g3; omega
  have g4':c10.length=5:=by simp at g4; omega
  have g6':c12.length≤24:=by simp at g6; omega
  have hcv:ZQ ⟨⟨⟨c0,c1⟩,c2,c3,c4,c5⟩,⟨c6,c7,c8⟩,c9,c10,c11,c12⟩=((c9.all fun r=>ZP r&&decide (r.conf.epoch≤c6))&&((c11.all fun m=>decide (m.epoch≤c6))&&ZFa c12)):=by
    simp only[ZQ,g1,g2,g3',g4',g5,decide_true,Bool.and_true,Bool.true_and,Bool.and_assoc]
  rw [hcv]
  refine Zji (fun (i:Nat) st=>i≤5∧st.s 1=.t (.sc (.ptr (.loc 1 0) 0 0))∧st.o (.loc 1 0)=some (.box [.u (.str c0),.u (.str c1),.u (.sl 2 (c2.map Pair.u)),.u (.sl 3 (c3.map Session.u)),.u (.bool c4),.u (.str c5),.u (.int .i64 c6),.u (.sl 1 (c7.map iU)),.u (.bool c8),.u (.sl 5 (c9.map Replica.u)),.u (.sl 1 (c10.map bU)),.u (.sl 7 (c11.map Message.u)),.u (.sl 7 (c12.map Answer.u))])∧st.s 3=DI i) (fun i=>5 - i) (fun i=>ok1 (B (((c9.drop i).all fun r=>ZP r&&decide (r.conf.epoch≤c6))&&((c11.all fun m=>decide (m.epoch≤c6))&&ZFa c12)))) ?_ 0 (by and_intros<;>first|omega|rfl|(simp only[↓xP,xT,rL,rB,rA,rS]<;>first|done|rfl|omega))
  rintro i st ⟨hi5,h1,ho,h3⟩ ih
  by_cases hi:i<5
  · obtain ⟨⟨⟨e,ms,f⟩,rd,lg⟩,hx⟩:∃ x,c9[i]?=some x:=⟨_,List.getElem?_eq_getElem (by omega)⟩
    have hw:=w_succ (i:=i) (by omega)
    have hlt:((i:Int)<5)=True:=by simp; omega
    have hsx:=hnd.2 _ (List.mem_of_getElem? hx)
    have hr:=ZGA e ms f rd lg (by have:=hsx.1.1.1; simp only at this; omega) (by have:=hsx.2.1.1; simp only at this; omega)
    rw [ZFi hx,List.all_cons]
    cases q1:ZP ⟨⟨e,ms,f⟩,rd,lg⟩
    · simp only[↓xP,xT,rL,rB,rA,rS,rdx2,h1,ho,h3,hlt,hx,hw,Replica.u,hr,q1]
      try simp
    · by_cases q2:e≤c6
      · have q2':(c6<e)=False:=by simp; omega
        simp only[↓xP,xT,rL,rB,rA,rS,rdx2,h1,ho,h3,hlt,hx,hw,Replica.u,hr,q1,q2']
        rw [ih (i+1) _ (by omega) ⟨by omega,(by and_intros<;>first|omega|rfl|(simp only[↓xP,xT,rL,rB,rA,rS,h1,ho,hw]<;>first|done|rfl|omega))⟩]
        simp [q2]
      · have q2':(c6<e)=True:=by simp; omega
        simp only[↓xP,xT,rL,rB,rA,rS,rdx2,h1,ho,h3,hlt,hx,hw,Replica.u,hr,q1,q2']
        try simp [q2]
  have hlt:((i:Int)<5)=False:=by simp; omega
  simp only[↓xP,xT,rL,rB,rA,rS,h1,ho,h3,hlt]
  rw [List.drop_of_length_le (by omega),List.all_nil,Bool.true_and]
  refine Zji (fun (i:Nat) st=>st.s 1=.t (.sc (.ptr (.loc 1 0) 0 0))∧st.o (.loc 1 0)=some (.box [.u (.str c0),.u (.str c1),.u (.sl 2 (c2.map Pair.u)),.u (.sl 3 (c3.map Session.u)),.u (.bool c4),.u (.str c5),.u (.int .i64 c6),.u (.sl 1 (c7.map iU)),.u (.bool c8),.u (.sl 5 (c9.map Replica.u)),.u (.sl 1 (c10.map bU)),.u (.sl 7 (c11.map Message.u)),.u (.sl 7 (c12.map Answer.u))])∧st.s 4=DI i) (fun i=>c11.length - i) (fun i=>ok1 (B (((c11.drop i).all fun m=>decide (m.epoch≤c6))&&ZFa c12))) ?_ 0 (by and_intros<;>first|omega|rfl|(simp only[↓xP,xT,rL,rB,rA,rS,h1,ho]<;>first|done|rfl|omega))
  clear h1 ho h3 hi ih hlt
  rintro i st ⟨h1,ho,h3⟩ ih
  by_cases hi:i<c11.length
  · obtain ⟨⟨k,t,ep,⟨e,ms,f⟩,lg⟩,hx⟩:∃ x,c11[i]?=some x:=⟨_,List.getElem?_eq_getElem hi⟩
    have hw:=w_succ (i:=i) (by omega)
    rw [ZFi hx,List.all_cons]
    by_cases q2:ep≤c6
    · have q2':(c6<ep)=False:=by simp; omega
      simp only[↓xP,xT,rL,rB,rA,rS,rdx2,h1,ho,h3,hi,hx,hw,Message.u,q2']
      rw [ih (i+1) _ (by omega) (by and_intros<;>first|omega|rfl|(simp only[↓xP,xT,rL,rB,rA,rS,h1,ho,hw]<;>first|done|rfl|omega))]
      try simp [q2]
    · have q2':(c6<ep)=True:=by simp; omega
      simp only[↓xP,xT,rL,rB,rA,rS,rdx2,h1,ho,h3,hi,hx,hw,Message.u,q2']
      try simp [q2]
  simp only[↓xP,xT,rL,rB,rA,rS,h1,ho,h3,hi]
  rw [List.drop_of_length_le (by omega),List.all_nil,Bool.true_and]
  have han:ZFa c12=(c12.drop 0).all ZFb:=by simp [ZFa,g6']
  rw [han]
  refine Zji (fun (i:Nat) st=>st.s 1=.t (.sc (.ptr (.loc 1 0) 0 0))∧st.o (.loc 1 0)=some (.box [.u (.str c0),.u (.str c1),.u (.sl 2 (c2.map Pair.u)),.u (.sl 3 (c3.map Session.u)),.u (.bool c4),.u (.str c5),.u (.int .i64 c6),.u (.sl 1 (c7.map iU)),.u (.bool c8),.u (.sl 5 (c9.map Replica.u)),.u (.sl 1 (c10.map bU)),.u (.sl 7 (c11.map Message.u)),.u (.sl 7 (c12.map Answer.u))])∧st.s 5=DI i) (fun i=>c12.length - i) (fun i=>ok1 (B ((c12.drop i).all ZFb))) ?_ 0 (by and_intros<;>first|omega|rfl|(simp only[↓xP,xT,rL,rB,rA,rS,h1,ho]<;>first|done|rfl|omega))
  clear h1 ho h3 hi ih
  rintro i st ⟨h1,ho,h3⟩ ih
  by_cases hi:i<c12.length
  · obtain ⟨⟨⟨c,s,k,key,v,o⟩,r⟩,hx⟩:∃ x,c12[i]?=some x:=⟨_,List.getElem?_eq_getElem hi⟩
    have hw:=w_succ (i:=i) (by omega)
    simp only[↓xP,xT,rL,rB,rA,rS,h1,ho,h3,hi,hx,hw,Answer.u,ZFj,ZW]
    rw [ZFi hx,List.all_cons]
    refine ZiJ (fun h=>?_) (fun q1=>?_)
    · rw [Bool.not_eq_true'] at h; simp [ZFb,h]
    refine ZiJ (fun h=>?_) (fun q2=>?_)
    · rw [Bool.not_eq_true'] at h; simp [ZFb,h]
    rw [Bool.not_eq_false'] at q1 q2
    rw [ih (i+1) _ (by omega) (by and_intros<;>first|omega|rfl|(simp only[↓xP,xT,rL,rB,rA,rS,h1,ho]<;>first|done|rfl|omega))]
    simp [ZFb,q1,q2]
  simp only[↓xP,xT,rL,rB,rA,rS,h1,ho,h3,hi]
  rw [List.drop_of_length_le (by omega),List.all_nil]
def ZGn (l:List Interval) (j:Nat):Bool:=match l[j - 1]?,l[j]? with
 | some a,some b=>ZGo a b
 | _,_=>true
def ZI (l:List Interval):Bool:=match l[0]?,l[l.length - 1]? with
 | some a,some b=>decide (l.length≤6)&&ZB a&&decide (a.low=[])&&decide (b.high=[])&&allF l.length (ZGn l) 1
 | _,_=>false
theorem ZGi (l:List Interval) (hn:l.length≤1048576):EE F 146 [L 2 (l.map Interval.u)] []=ok1 (B (ZI l)):=by
 rw [R146,b146]
 by_cases hl:l=[]
 ·subst hl
  have:inR (0:Int) 1 6=false:=by decide
  simp only[↓xP,xT,rL,rB,rA,rS,List.map_nil,ZW,List.length_nil,List.length_map]
  refine ZiJ (fun h=>?_) (fun h=>?_)
  ·rfl
  ·exact absurd h (by decide)
 have h1:1≤l.length:=List.length_pos_iff.2 hl
 obtain ⟨⟨alo,ahi⟩,ha⟩:∃ a,l[0]?=some a:=⟨_,List.getElem?_eq_getElem (by omega)⟩
 obtain ⟨⟨blo,bhi⟩,hb⟩:∃ a,l[l.length - 1]?=some a:=⟨_,List.getElem?_eq_getElem (by omega)⟩
 have hw1:IntKind.i64.wrap ((l.length:Int) - 1)=((l.length - 1:Nat):Int):=by rw [w64 (by omega) (by omega)]; omega
 have hin:inR (l.length:Int) 1 6=decide (l.length≤6):=by
  rw [Bool.eq_iff_iff]; simp only[inR,Bool.and_eq_true,decide_eq_true_eq]; omega
 have hpv:ZI l=(decide (l.length≤6)&&ZB ⟨alo,ahi⟩&&decide (alo=[])&&decide (bhi=[])&&allF l.length (ZGn l) 1):=by simp only[ZI,ha,hb]
 rw [hpv]
 simp only[↓xP,xT,rL,rB,rA,rS,List.length_map,ZW,hin,ha,hb,ZV,Interval.u,hw1,ne_eq]
 refine ZiJ (fun h=>?_) (fun g1=>?_)
 ·rw [Bool.not_eq_true'] at h; simp [h]
 refine ZiJ (fun h=>?_) (fun g2=>?_)
 ·rw [Bool.not_eq_true'] at h; simp [h]
 refine ZiJ (fun h=>?_) (fun g3=>?_)
 ·have:¬alo=[]:=by simpa using h
  simp [this]
 refine ZiJ (fun h=>?_) (fun g4=>?_)
 ·have:¬bhi=[]:=by simpa using h
  simp [this]
 have hg:(decide (l.length≤6)&&ZB ⟨alo,ahi⟩&&decide (alo=[])&&decide (bhi=[]))=true:=by
  have a2:alo=[]:=by simpa using g3
  have a3:bhi=[]:=by simpa using g4
  rw [Bool.not_eq_false'] at g1 g2
  rw [g1,g2]; simp [a2,a3]
 rw [hg,Bool.true_and]
 refine Zji (fun (i:Nat) st=>1≤i∧i≤l.length∧st.s 0=DU (.sl 2 (l.map Interval.u))∧st.s 3=DI i) (fun i=>l.length - i) (fun i=>ok1 (B (allF l.length (ZGn l) i))) ?_ 1 ⟨by omega,h1,(by and_intros<;>first|omega|rfl|(simp only[↓xP,xT,rL,rB,rA,rS]<;>first|done|rfl|omega))⟩
 rintro i st ⟨hi1,hle,hs0,hs3⟩ ih
 by_cases hi:i<l.length
 ·obtain ⟨i,rfl⟩:∃ k,i=k+1:=⟨i - 1,by omega⟩
  obtain ⟨⟨clo,chi⟩,hc⟩:∃ a,l[i]?=some a:=⟨_,List.getElem?_eq_getElem (by omega)⟩
  obtain ⟨⟨dlo,dhi⟩,hd⟩:∃ a,l[i+1]?=some a:=⟨_,List.getElem?_eq_getElem (by omega)⟩
  have hw:=w_succ (i:=i+1) (by omega)
  have hp:=ZHG (i:=i) (by omega)
  have hjo:=ZGu clo chi dlo dhi
  have hja:ZGn l (i+1)=ZGo ⟨clo,chi⟩ ⟨dlo,dhi⟩:=by simp [ZGn,hc,hd]
  rw [ZFH hi,hja]
  cases hj:ZGo ⟨clo,chi⟩ ⟨dlo,dhi⟩<;>simp only[ZHy,hj,↓xP,xT,rL,rB,rA,rS] at hjo
  ·simp only[↓xP,xT,rL,rB,rA,rS,rdx2,hs0,hs3,List.length_map,hi,hp,hc,hd,Interval.u,hjo,hw]
   try simp
  ·simp only[↓xP,xT,rL,rB,rA,rS,rdx2,hs0,hs3,List.length_map,hi,hp,hc,hd,Interval.u,hjo,hw]
   rw [ih (i+1+1) _ (by omega) ⟨by omega,by omega,(by and_intros<;>first|omega|rfl|(simp only[↓xP,xT,rL,rB,rA,rS,hs0,hs3,hw]<;>first|done|rfl|omega))⟩]
   try simp
 ·simp only[↓xP,xT,rL,rB,rA,rS,hs0,hs3,List.length_map,hi]
  rw [ZFw hi]
def ZFr (l:List Route) (n:Int):Bool:=l.any (fun q=>decide (q.number=n))
def ZFq (l:List Route) (i:Nat):Bool:=match l[i]? with
 | some r=>inR r.number 0 7&&!ZFr (l.take i) r.number
 | none=>true
def Z5 (l:List Route):Bool:=allF l.length (ZFq l) 0
def ZFo (l:List Route):List Interval:=l.map Route.span
theorem ZH8 {l:List Route} {i:Nat} {m:Int} {lo up:Str} (hx:l[i]?=some ⟨m,⟨lo,up⟩⟩):(ZFo (l.take (i+1))).map Interval.u=(ZFo (l.take i)).map Interval.u++[[.str lo,.str up]]:=by
 rw [List.take_add_one,hx]; simp [Interval.u,ZFo]
theorem ZGg (l:List Route):(ZFo l).length=l.length:=by simp [ZFo]
def ZGQ (a b:Str):Bool:=!Za2 a b&&!decide (a=b)
def ZFv (l:List Route) (i:Nat):Bool:=match l[i]? with
 | some r=>ZB r.span&&!(match l[i - 1]? with
  | some q=>decide (0<i)&&(decide (q.span.high=[])||ZGQ q.span.high r.span.low)
  | none=>false)
 | none=>true
def Z8 (l:List Route):Bool:=Z5 l&&allF l.length (ZFv l) 0
/-- Numbers that differ and lie in 0..7 are at most eight. -/
theorem ZHN:∀ (n:Nat) (l:List Int),l.Pairwise (·≠·)→(∀ x,x∈l→0≤x∧x<(n:Int))→l.length≤n
 | 0,l,_,h=>by
  cases l with
  | nil=>simp
  | cons a l=>have:=h a (by simp); omega
 | n + 1,l,hd,h=>by
  have hk:∀ (m:List Int),m.Pairwise (·≠·)→m.length≤(m.filter (fun x=>decide (x≠(n:Int)))).length+1:=by
   intro m
   induction m with
   | nil=>intro _; simp
   | cons a m ih=>
    intro hp
    rw [List.pairwise_cons] at hp
    by_cases e:a=(n:Int)
    ·have:m.filter (fun x=>decide (x≠(n:Int)))=m:=List.filter_eq_self.2 (fun x hx=>by have:=hp.1 x hx; simp; omega)
     rw [List.filter_cons_of_neg (by simp [e]),this]; simp
    ·rw [List.filter_cons_of_pos (by simp [e])]
     have:=ih hp.2
     simp only[List.length_cons]; omega
  have h1:=hk l hd
  have h2:=ZHN n (l.filter (fun x=>decide (x≠(n:Int)))) (hd.filter _) (by
   intro x hx
   rw [List.mem_filter] at hx
   have:=h x hx.1
   have h3:x≠(n:Int):=by simpa using hx.2
   omega)
  omega
theorem ZF4 {l:List Route} (h:Z5 l=true):(l.map Route.number).Pairwise (·≠·)∧∀ x,x∈l.map Route.number→0≤x∧x<8:=by
 have ha:=(Z7 _ 0 rfl).1 h
 refine ⟨?_,?_⟩
 ·rw [List.pairwise_iff_getElem]
  intro i j hi hj hij
  simp only[List.length_map] at hi hj
  have:=ha j (by omega) hj
  simp only[ZFq,List.getElem?_eq_getElem hj,Bool.and_eq_true,Bool.not_eq_true',ZFr] at this
  have h2:=List.any_eq_false.1 this.2 l[i] (by rw [List.mem_take_iff_getElem]; exact ⟨i,by omega,rfl⟩)
  simpa using h2
 ·intro x hx
  obtain ⟨r,hr,rfl⟩:=List.mem_map.1 hx
  obtain ⟨i,hi,rfl⟩:=List.mem_iff_getElem.1 hr
  have:=ha i (by omega) hi
  simp only[ZFq,List.getElem?_eq_getElem hi,Bool.and_eq_true,inR,decide_eq_true_eq] at this
  omega
theorem ZGZ {l:List Route} (h:Z5 l=true):l.length≤8:=by
 have:=ZHN 8 (l.map Route.number) (ZF4 h).1 (fun x hx=>by have:=(ZF4 h).2 x hx; omega)
 simpa using this
theorem ZFW (l:List Route) (hn:l.length≤1048576):EE F 149 [L 3 (l.map Route.u)] []=ok1 (B (Z8 l)):=by
 rw [R149,b149]
 simp only[↓xP,xT,rL,rB,rA,rS]
 have hc:Z8 l=allF l.length (fun i=>ZFq l i&&ZFv l i) 0:=by
  rw [Bool.eq_iff_iff,Z8,Bool.and_eq_true,Z5,Z7 _ 0 rfl,Z7 _ 0 rfl,Z7 _ 0 rfl]
  simp only[Bool.and_eq_true]
  exact ⟨fun h j h1 h2=>⟨h.1 j h1 h2,h.2 j h1 h2⟩,fun h=>⟨fun j h1 h2=>(h j h1 h2).1,fun j h1 h2=>(h j h1 h2).2⟩⟩
 rw [hc]
 refine Zji (fun (i:Nat) st=>i≤l.length∧st.s 0=DU (.sl 3 (l.map Route.u))∧st.s 3=DI i) (fun i=>l.length - i) (fun i=>ok1 (B (allF l.length (fun i=>ZFq l i&&ZFv l i) i))) ?_ 0 (by and_intros<;>first|omega|rfl|(simp only[↓xP,xT,rL,rB,rA,rS]<;>first|done|rfl|omega))
 rintro i st ⟨hle,h0,h3⟩ ih
 by_cases hi:i<l.length
 ·obtain ⟨⟨m,⟨lo,up⟩⟩,hx⟩:∃ x,l[i]?=some x:=⟨_,List.getElem?_eq_getElem hi⟩
  have hw:=w_succ (i:=i) (by omega)
  rw [ZFH hi]
  simp only[↓xP,xT,rL,rB,rA,rS,h0,h3,hi,hx,hw,Route.u,ZV,ZW]
  refine ZiJ (fun h=>?_) (fun q1=>?_)
  ·rw [Bool.not_eq_true'] at h
   have:ZFv l i=false:=by simp [ZFv,hx,h]
   simp [this]
  rw [Bool.not_eq_false'] at q1
  refine ZiJ (fun h=>?_) (fun q2=>?_)
  ·rw [Bool.not_eq_true'] at h
   have:ZFq l i=false:=by simp [ZFq,hx,h]
   simp [this]
  rw [Bool.not_eq_false'] at q2
  have hna:ZFq l i=!ZFr ((l.take i).drop 0) m:=by simp [ZFq,hx,q2]
  rw [hna]
  refine Zji (fun (j:Nat) st=>j≤i∧st.s 0=DU (.sl 3 (l.map Route.u))∧st.s 3=DI i∧st.s 4=DI j) (fun j=>i - j) (fun j=>ok1 (B (!ZFr ((l.take i).drop j) m&&ZFv l i&&allF l.length (fun i=>ZFq l i&&ZFv l i) (i+1)))) ?_ 0 (by and_intros<;>first|omega|rfl|(simp only[↓xP,xT,rL,rB,rA,rS,h0,h3]<;>first|done|rfl|omega))
  clear h0 h3
  rintro j st ⟨hle2,h0,h3,h4⟩ ih2
  by_cases hj:j<i
  ·obtain ⟨⟨k,⟨lo2,up2⟩⟩,hy⟩:∃ x,l[j]?=some x:=⟨_,List.getElem?_eq_getElem (by omega)⟩
   have hyt:(l.take i)[j]?=some ⟨k,⟨lo2,up2⟩⟩:=by rw [List.getElem?_take,if_pos hj]; exact hy
   have hw2:=w_succ (i:=j) (by omega)
   have hh:ZFr ((l.take i).drop j) m=(decide (k=m)||ZFr ((l.take i).drop (j+1)) m):=by rw [ZFi hyt]; rfl
   rw [hh]
   by_cases e:k=m
   ·simp only[↓xP,xT,rL,rB,rA,rS,rdx2,h0,h3,h4,hj,hx,hy,hw2,Route.u,e]
    try simp
   ·simp only[↓xP,xT,rL,rB,rA,rS,rdx2,h0,h3,h4,hj,hx,hy,hw2,Route.u,e]
    rw [ih2 (j+1) _ (by omega) (by and_intros<;>first|omega|rfl|(simp only[↓xP,xT,rL,rB,rA,rS,h0,h3,hw2]<;>first|done|rfl|omega))]
    try simp
  have hdr:(l.take i).drop j=[]:=List.drop_of_length_le (by rw [List.length_take]; omega)
  have hnn:ZFr ([]:List Route) m=false:=rfl
  rw [hdr,hnn]
  cases i with
  | zero=>
   have hgt:(((0:Nat):Int) > 0)=False:=by simp
   have:ZFv l 0=true:=by simp only[ZFv,hx,q1]; cases l[0 - 1]?<;>simp
   simp only[↓xP,xT,rL,rB,rA,rS,rdx2,h0,h3,h4,hj,hx,hw,Route.u,hgt]
   rw [ih 1 _ (by omega) (by and_intros<;>first|omega|rfl|(simp only[↓xP,xT,rL,rB,rA,rS,h0,hw]<;>first|done|rfl|omega))]
   simp [this]
  | succ k=>
   have hgt:(((k+1:Nat):Int) > 0)=True:=by simp
   have hp:=ZHG (i:=k) (by omega)
   obtain ⟨⟨cm,⟨clo,chi⟩⟩,hc⟩:∃ a,l[k]?=some a:=⟨_,List.getElem?_eq_getElem (by omega)⟩
   have hsp:ZFv l (k+1)=!(decide (chi=[])||ZGQ chi lo):=by simp [ZFv,hx,hc,q1]
   rw [hsp]
   by_cases q2:chi=[]
   ·subst q2
    simp only[↓xP,xT,rL,rB,rA,rS,rdx2,h0,h3,h4,hj,hx,hc,hw,hp,Route.u,hgt]
    try simp
   ·simp only[↓xP,xT,rL,rB,rA,rS,rdx2,h0,h3,h4,hj,hx,hc,hw,hp,Route.u,hgt,q2]
    refine ZiJ (fun h=>?_) (fun h=>?_)
    ·have:ZGQ chi lo=true:=by simpa [ZGQ] using h
     simp [this]
    ·have:ZGQ chi lo=false:=by simpa [ZGQ] using h
     rw [ih (k+1+1) _ (by omega) (by and_intros<;>first|omega|rfl|(simp only[↓xP,xT,rL,rB,rA,rS,h0,hw]<;>first|done|rfl|omega))]
     simp [this,q2]
 ·simp only[↓xP,xT,rL,rB,rA,rS,h0,h3,hi]
  rw [ZFw hi]
def ZG (l:List Route):Bool:=decide (l.length≤6)&&ZI (ZFo l)&&Z5 l
theorem ZFR (l:List Route) (hn:l.length≤1048576):EE F 131 [L 3 (l.map Route.u)] []=ok1 (B (ZG l)):=by
 rw [R131,b131]
 simp only[↓xP,xT,rL,rB,rA,rS]
 have hdef:ZG l=(decide (l.length≤6)&&allF l.length (ZFq l) 0&&ZI (ZFo l)):=by
  simp only[ZG,Z5]; cases decide (l.length≤6)<;>cases ZI (ZFo l)<;>simp
 rw [hdef]
 refine Zji (fun (i:Nat) st=>i≤6∧i≤l.length∧st.s 0=DU (.sl 3 (l.map Route.u))∧st.s 3=.t (.sc (.own (.loc 6 0) i))∧st.o (.loc 6 0)=some (.row 2 ((ZFo (l.take i)).map Interval.u))∧st.s 4=DI i) (fun i=>l.length - i) (fun i=>ok1 (B (decide (l.length≤6)&&allF l.length (ZFq l) i&&ZI (ZFo l)))) ?_ 0 (by and_intros<;>first|omega|rfl|(simp only[↓xP,xT,rL,rB,rA,rS]<;>first|done|rfl|omega))
 rintro i st ⟨hi6,hle,h0,h3,ho,h4⟩ ih
 by_cases hi:i<l.length
 ·obtain ⟨⟨m,⟨lo,up⟩⟩,hx⟩:∃ x,l[i]?=some x:=⟨_,List.getElem?_eq_getElem hi⟩
  have hw:=w_succ (i:=i) (by omega)
  rw [ZFH hi]
  by_cases h6:i=6
  ·have hge:((6:Int)≤(i:Int))=True:=by simp; omega
   have hl:¬l.length≤6:=by omega
   simp only[↓xP,xT,rL,rB,rA,rS,h0,h3,ho,h4,hi,hx,hw,Route.u,ge_iff_le,hge]
   simp [hl]
  have hge:((6:Int)≤(i:Int))=False:=by simp; omega
  cases q2:inR m 0 7
  ·have:ZFq l i=false:=by simp [ZFq,hx,q2]
   simp only[↓xP,xT,rL,rB,rA,rS,h0,h3,ho,h4,hi,hx,hw,Route.u,ge_iff_le,hge,ZW,q2]
   simp [this]
  simp only[↓xP,xT,rL,rB,rA,rS,h0,h3,ho,h4,hi,hx,hw,Route.u,ge_iff_le,hge,ZW,q2]
  have hna:ZFq l i=!ZFr ((l.take i).drop 0) m:=by simp [ZFq,hx,q2]
  rw [hna]
  refine Zji (fun (j:Nat) st=>j≤i∧st.s 0=DU (.sl 3 (l.map Route.u))∧st.s 3=.t (.sc (.own (.loc 6 0) i))∧st.o (.loc 6 0)=some (.row 2 ((ZFo (l.take i)).map Interval.u))∧st.s 4=DI i∧st.s 5=DI j) (fun j=>i - j) (fun j=>ok1 (B (decide (l.length≤6)&&(!ZFr ((l.take i).drop j) m&&allF l.length (ZFq l) (i+1))&&ZI (ZFo l)))) ?_ 0 (by and_intros<;>first|omega|rfl|(simp only[↓xP,xT,rL,rB,rA,rS,h0,h3,ho,h4]<;>first|done|rfl|omega))
  clear h0 h3 h4 ho
  rintro j st ⟨hle2,h0,h3,ho,h4,h5⟩ ih2
  by_cases hj:j<i
  ·obtain ⟨⟨k,⟨lo2,up2⟩⟩,hy⟩:∃ x,l[j]?=some x:=⟨_,List.getElem?_eq_getElem (by omega)⟩
   have hyt:(l.take i)[j]?=some ⟨k,⟨lo2,up2⟩⟩:=by rw [List.getElem?_take,if_pos hj]; exact hy
   have hw2:=w_succ (i:=j) (by omega)
   have hh:ZFr ((l.take i).drop j) m=(decide (k=m)||ZFr ((l.take i).drop (j+1)) m):=by rw [ZFi hyt]; rfl
   rw [hh]
   by_cases e:k=m
   ·simp only[↓xP,xT,rL,rB,rA,rS,rdx2,h0,h3,ho,h4,h5,hj,hx,hy,hw2,Route.u,e]
    try simp
   ·simp only[↓xP,xT,rL,rB,rA,rS,rdx2,h0,h3,ho,h4,h5,hj,hx,hy,hw2,Route.u,e]
    rw [ih2 (j+1) _ (by omega) (by and_intros<;>first|omega|rfl|(simp only[↓xP,xT,rL,rB,rA,rS,h0,h3,ho,h4,hw2]<;>first|done|rfl|omega))]
    try simp
  have hdr:(l.take i).drop j=[]:=List.drop_of_length_le (by rw [List.length_take]; omega)
  have hnn:ZFr ([]:List Route) m=false:=rfl
  rw [hdr,hnn]
  obtain ⟨q1,q2⟩:=ZL (n:=i+1) (k:=32) (by omega) (by omega)
  have hst:=ZH8 hx
  have hlt:(List.map Interval.u (ZFo (List.take i l))).length=i:=by rw [List.length_map,ZGg,List.length_take]; omega
  have hta:List.take i (List.map Interval.u (ZFo (List.take i l)))=List.map Interval.u (ZFo (List.take i l)):=List.take_of_length_le (by omega)
  simp only[↓xP,xT,rL,rB,rA,rS,rdx2,h0,h3,ho,h4,h5,hj,hx,hw,Route.u,q1,q2,hlt,hta]
  rw [ih (i+1) _ (by omega) ⟨by omega,by omega,(by and_intros<;>first|omega|rfl|(simp only[↓xP,xT,rL,rB,rA,rS,h0,h3,ho,hw,hst]<;>first|done|rfl|omega))⟩]
  try simp
 ·have hp:=ZGi (ZFo l) (by rw [ZGg]; omega)
  obtain rfl:i=l.length:=by omega
  have hta:List.take l.length (List.map Interval.u (ZFo l))=List.map Interval.u (ZFo l):=List.take_of_length_le (by rw [List.length_map,ZGg]; omega)
  rw [List.take_length] at ho
  simp only[↓xP,xT,rL,rB,rA,rS,h0,h3,ho,h4,hi,hp,ZGg,hta,Nat.le_refl]
  rw [ZFw (by omega)]
  simp [hi6]
def ZGd (c:Command):Bool:=decide (c.kind=0)&&decide (c.key=[])&&decide (c.value=0)&&decide (c.old=0)
def ZK (c:Caller):Bool:=Z8 c.cache&&inR c.seq 0 999&&(if c.busy=true then decide (1≤c.seq)&&Z9 c.wish&&inR c.called 0 200 else ZGd c.wish&&decide (c.called=0))
theorem ZGB (l:List Route) (s:Int) (bz:Bool) (k:Int) (key:Str) (v o cd:Int) (hn:l.length≤1048576):EE F 129 [.ag [.u (.sl 3 (l.map Route.u)),.u (.int .i64 s),.u (.bool bz),.u (.int .i64 k),.u (.str key),.u (.int .i64 v),.u (.int .i64 o),.u (.int .i64 cd)]] []=ok1 (B (ZK ⟨l,s,bz,⟨k,key,v,o⟩,cd⟩)):=by
 rw [R129,b129]
 have a:=ZFW l hn
 cases bz<;>simp only[↓xP,xT,rL,rB,rA,rS,a,ZGq,ZW,ZW]
 all_goals repeat' (refine ZiJ (fun h=>?_) (fun h=>?_))
 all_goals first|(simp_all [ZK,ZGd,inR]; done)|(simp_all [ZK,ZGd,inR]; grind)|skip
def ZN (r:Result):Bool:=inR r.client 1 3&&inR r.seq 1 999&&Z9 r.wish&&inR r.reply (-4) 999&&inR r.returned 0 200&&decide (0≤r.called)&&decide (r.called≤r.returned)
theorem ZGK (c s k:Int) (key:Str) (v o r cd rt:Int):EE F 130 [.ag [.u (.int .i64 c),.u (.int .i64 s),.u (.int .i64 k),.u (.str key),.u (.int .i64 v),.u (.int .i64 o),.u (.int .i64 r),.u (.int .i64 cd),.u (.int .i64 rt)]] []=ok1 (B (ZN ⟨c,s,⟨k,key,v,o⟩,r,cd,rt⟩)):=by
 rw [R130,b130]
 simp only[↓xP,xT,rL,rB,rA,rS,ZW,ZGq]
 repeat' (refine ZiJ (fun h=>?_) (fun h=>?_))
 all_goals first|(simp_all [ZN]; done)|(simp_all [ZN,inR]; done)|(simp_all [ZN,inR]; grind)|skip
def rle (a b:Route):Bool:=!Za2 b.span.low a.span.low
def insL (l:List Route) (x:Route):List Route:=l.takeWhile (fun q=>rle q x)++x::l.dropWhile (fun q=>rle q x)
def ZFp (l:List Route):List Route:=l.foldl insL []
theorem ZIM {a b:List Route} {x:Route} (ha:∀ q,q∈a→rle q x=true) (hb:∀ q,b.head?=some q→rle q x=false):insL (a++b) x=a++x::b:=by
 have h1:(a++b).takeWhile (fun q=>rle q x)=a:=by
  rw [List.takeWhile_append_of_pos ha]
  cases b with
  | nil=>simp
  | cons q b=>rw [List.takeWhile_cons_of_neg (by rw [hb q rfl]; simp)]; simp
 have h2:(a++b).dropWhile (fun q=>rle q x)=b:=by
  rw [List.dropWhile_append_of_pos ha]
  cases b with
  | nil=>simp
  | cons q b=>rw [List.dropWhile_cons_of_neg (by rw [hb q rfl]; simp)]
 rw [insL,h1,h2]
theorem ZG1 (l:List Route) (x:Route):(insL l x).length=l.length+1:=by
 have:=congrArg List.length (List.takeWhile_append_dropWhile (p:=fun q=>rle q x) (l:=l))
 simp only[List.length_append] at this
 simp only[insL,List.length_append,List.length_cons]
 omega
theorem ZHn:∀ (m l:List Route),(m.foldl insL l).length=l.length+m.length
 | [],l=>by simp
 | a::m,l=>by rw [List.foldl_cons,ZHn m,ZG1]; simp only[List.length_cons]; omega
theorem ZHt (l:List Route):(ZFp l).length=l.length:=by rw [ZFp,ZHn]; simp
def Z4:List Shard→Nat→List Route
 | [],_=>[]
 | s::l,i=>if s.live=true then ⟨(i:Int),s.group.base.span⟩::Z4 l (i+1) else Z4 l (i+1)
theorem ZHp:∀ (a b:List Shard) (i:Nat),Z4 (a++b) i=Z4 a i++Z4 b (i+a.length)
 | [],b,i=>by simp [Z4]
 | s::a,b,i=>by
  have h:=ZHp a b (i+1)
  have e:i+1+a.length=i + (s::a).length:=by simp only[List.length_cons]; omega
  rw [e] at h
  simp only[List.cons_append,Z4,h]
  split<;>rfl
theorem ZGG:∀ (a:List Shard) (i:Nat),(Z4 a i).length≤a.length
 | [],i=>by simp [Z4]
 | s::a,i=>by
  have h:=ZGG a (i+1)
  simp only[Z4]; split<;>simp only[List.length_cons]<;>omega
theorem ZH2 {l:List Shard} {i:Nat} {s:Shard} (h:l[i]?=some s):Z4 (l.take (i+1)) 0=Z4 (l.take i) 0++(if s.live=true then [⟨(i:Int),s.group.base.span⟩] else []):=by
 have hi:=(List.getElem?_eq_some_iff.1 h).1
 have hl:(l.take i).length=i:=by rw [List.length_take]; omega
 rw [List.take_add_one,h,Option.toList_some,ZHp,hl]
 simp [Z4]
def ZD (l:List Shard):List Route:=ZFp (Z4 l 0)
def ZFu (l:List Shard):Option Ret:=some ⟨[.sc (.own (.par 0) (ZD l).length)],[.row 3 ((ZD l).map Route.u)],[]⟩
theorem ZH7 (l:List Route) (x:Route):ZFp (l++[x])=insL (ZFp l) x:=by simp [ZFp]
def swid:Bool→Id
 | false=>.loc 8 0
 | true=>.loc 33 0
theorem ZIH {l:List Route} {j:Nat} {x:Route} (hj:j≤l.length) (ha:∀ q,q∈l.take j→rle q x=true) (hb:∀ q,l[j]?=some q→rle q x=false):l.take j++x::l.drop j=insL l x:=by
 have:=ZIM (a:=l.take j) (b:=l.drop j) (x:=x) ha (fun q hq=>hb q (by rw [List.head?_drop] at hq; exact hq))
 rw [List.take_append_drop] at this
 exact this.symm
theorem ZGx (c0:List Shard) (c1:List Caller) (c2:List Result) (c3 c4 c5:Int) (c6:Str) (c7 c8 c9 c10 c11:Int) (h8:c0.length≤8):EE F 132 [.ag [.u (.sl 14 (c0.map Shard.u)),.u (.sl 8 (c1.map Caller.u)),.u (.sl 9 (c2.map Result.u)),.u (.int .i64 c3),.u (.int .i64 c4),.u (.int .i64 c5),.u (.str c6),.u (.int .i64 c7),.u (.int .i64 c8),.u (.int .i64 c9),.u (.int .i64 c10),.u (.int .i64 c11)]] []=ZFu c0:=by
 rw [R132,b132]
 simp only[↓xP,xT,rL,rB,rA,rS]
 refine Zji (fun (a:Nat×Bool) st=>a.1≤c0.length∧(a.2=false→ZFp (Z4 (c0.take a.1) 0)=[])∧st.s 1=.t (.sc (.ptr (.loc 1 0) 0 0))∧st.o (.loc 1 0)=some (.box [.u (.sl 14 (c0.map Shard.u)),.u (.sl 8 (c1.map Caller.u)),.u (.sl 9 (c2.map Result.u)),.u (.int .i64 c3),.u (.int .i64 c4),.u (.int .i64 c5),.u (.str c6),.u (.int .i64 c7),.u (.int .i64 c8),.u (.int .i64 c9),.u (.int .i64 c10),.u (.int .i64 c11)])∧st.s 3=.t (.sc (.own (swid a.2) (ZFp (Z4 (c0.take a.1) 0)).length))∧st.o (swid a.2)=some (.row 3 ((ZFp (Z4 (c0.take a.1) 0)).map Route.u))∧st.s 4=DI a.1) (fun a=>c0.length - a.1) (fun _=>ZFu c0) ?_ (0,false) ⟨by omega,fun _=>rfl,(by and_intros<;>first|omega|rfl|(simp only[↓xP,xT,rL,rB,rA,rS]<;>first|done|rfl|omega))⟩
 rintro ⟨i,b⟩ st ⟨hle,hb,h1,hbx,h3,ho,h4⟩ ih
 dsimp only at *
 by_cases hi:i<c0.length
 ·obtain ⟨⟨live,⟨⟨⟨lo,up⟩,prs,kn,sld,cut⟩,⟨ep,ms,fr⟩,nds,ups,bag,ans⟩⟩,hx⟩:∃ x,c0[i]?=some x:=⟨_,List.getElem?_eq_getElem hi⟩
  have hw:=w_succ (i:=i) (by omega)
  have hst:=ZH2 hx
  have hll:=ZGG (c0.take i) 0
  have hlt:(c0.take i).length=i:=by rw [List.length_take]; omega
  have hsl:=ZHt (Z4 (c0.take i) 0)
  cases live
  ·simp only[Bool.false_eq_true,if_false,List.append_nil] at hst
   rw [←hst] at hb h3 ho
   cases b<;>simp only[swid] at h3 ho<;>simp only[↓xP,xT,rL,rB,rA,rS,h1,hbx,h3,ho,h4,hi,hx,hw,Shard.u]
   ·exact ih (i+1,false) _ (by dsimp only; omega) ⟨by dsimp only; omega,hb,(by and_intros<;>first|omega|rfl|(simp only[↓xP,xT,rL,rB,rA,rS,h1,hbx,h3,ho,swid]<;>first|done|rfl|omega))⟩
   ·exact ih (i+1,true) _ (by dsimp only; omega) ⟨by dsimp only; omega,hb,(by and_intros<;>first|omega|rfl|(simp only[↓xP,xT,rL,rB,rA,rS,h1,hbx,h3,ho,swid]<;>first|done|rfl|omega))⟩
  ·simp only[if_true] at hst
   have hso:ZFp (Z4 (c0.take (i+1)) 0)=insL (ZFp (Z4 (c0.take i) 0)) ⟨(i:Int),⟨lo,up⟩⟩:=by rw [hst,ZH7]
   obtain ⟨o,hoo⟩:∃ o,o=ZFp (Z4 (c0.take i) 0):=⟨_,rfl⟩
   rw [←hoo] at hb h3 ho hso hsl
   obtain ⟨q1,q2⟩:=ZL (n:=o.length+1) (k:=40) (by omega) (by omega)
   cases b
   ·have ho0:o=[]:=hb rfl
    subst ho0
    simp only[swid,List.length_nil,List.map_nil] at h3 ho
    simp only[↓xP,xT,rL,rB,rA,rS,h1,hbx,h3,ho,h4,hi,hx,hw,Shard.u]
    refine Zji (fun (_:Unit) st=>st.s 1=.t (.sc (.ptr (.loc 1 0) 0 0))∧st.o (.loc 1 0)=some (.box [.u (.sl 14 (c0.map Shard.u)),.u (.sl 8 (c1.map Caller.u)),.u (.sl 9 (c2.map Result.u)),.u (.int .i64 c3),.u (.int .i64 c4),.u (.int .i64 c5),.u (.str c6),.u (.int .i64 c7),.u (.int .i64 c8),.u (.int .i64 c9),.u (.int .i64 c10),.u (.int .i64 c11)])∧st.s 4=DI i∧st.s 5=.t (.sc (.ptr (.loc 5 0) 0 0))∧st.o (.loc 5 0)=some (.box [.u (.int .i64 (i:Int)),.u (.str lo),.u (.str up)])∧st.s 6=.t (.sc (.own (.loc 33 0) 0))∧st.o (.loc 33 0)=some (.row 3 [])∧st.s 7=DI 0∧st.s 3=.t (.sc (.own (.loc 8 0) 0))∧st.o (.loc 8 0)=some (.row 3 [])) (fun _=>0) (fun _=>ZFu c0) ?_ () (by and_intros<;>first|omega|rfl|(simp only[↓xP,xT,rL,rB,rA,rS,h1,hbx,h3,ho,h4]<;>first|done|rfl|omega))
    clear h1 hbx h3 ho h4
    rintro _ st ⟨h1,hbx,h4,h5,hb5,h6,hb6,h7,h3,ho⟩ _
    have hc1:vcut 0 none (some (DI 0))=some (0,0):=by decide
    have hc2:vcut 0 (some (DI 0)) none=some (0,0):=by decide
    have z1:0≤maxLen:=Nat.zero_le _
    have z2:0*40≤140737488355328:=by omega
    have z3:1≤maxLen:=by simp [maxLen]
    have z4:1*40≤140737488355328:=by omega
    have hz:((0:Int)<((0:Nat):Int))=False:=by simp
    simp only[↓xP,xT,rL,rB,rA,rS,rdx2,h1,hbx,h4,h5,hb5,h6,hb6,h7,h3,ho,hz,hc1,hc2,z1,z2,z3,z4,List.length_nil,List.length_cons,Nat.zero_add,Nat.add_zero,List.nil_append,List.append_nil]
    have hrow : [[U.int .i64 (i:Int),.str lo,.str up]]=(ZFp (Z4 (c0.take (i+1)) 0)).map Route.u:=by rw [hso]; rfl
    have hlen2:1=(ZFp (Z4 (c0.take (i+1)) 0)).length:=by rw [hso]; rfl
    exact ih (i+1,true) _ (by dsimp only; omega) ⟨by dsimp only; omega,(fun h=>by cases h),(by and_intros<;>first|omega|rfl|(simp only[↓xP,xT,rL,rB,rA,rS,h1,hbx,hw,swid,hrow,←hlen2]<;>first|done|rfl|omega))⟩
   ·simp only[swid] at h3 ho
    simp only[↓xP,xT,rL,rB,rA,rS,h1,hbx,h3,ho,h4,hi,hx,hw,Shard.u]
    refine Zji (fun (j:Nat) st=>j≤o.length∧(∀ q,q∈o.take j→rle q ⟨(i:Int),⟨lo,up⟩⟩=true)∧st.s 1=.t (.sc (.ptr (.loc 1 0) 0 0))∧st.o (.loc 1 0)=some (.box [.u (.sl 14 (c0.map Shard.u)),.u (.sl 8 (c1.map Caller.u)),.u (.sl 9 (c2.map Result.u)),.u (.int .i64 c3),.u (.int .i64 c4),.u (.int .i64 c5),.u (.str c6),.u (.int .i64 c7),.u (.int .i64 c8),.u (.int .i64 c9),.u (.int .i64 c10),.u (.int .i64 c11)])∧st.s 4=DI i∧st.s 5=.t (.sc (.ptr (.loc 5 0) 0 0))∧st.o (.loc 5 0)=some (.box [.u (.int .i64 (i:Int)),.u (.str lo),.u (.str up)])∧st.s 6=.t (.sc (.own (.loc 33 0) 0))∧st.o (.loc 33 0)=some (.row 3 [])∧st.s 7=DI j∧st.s 3=DU (.sl 3 (o.map Route.u))) (fun j=>o.length - j) (fun _=>ZFu c0) ?_ 0 ⟨by omega,(by intro q hq; simp at hq),(by and_intros<;>first|omega|rfl|(simp only[↓xP,xT,rL,rB,rA,rS,h1,hbx,h3,ho,h4]<;>first|done|rfl|omega))⟩
    clear h1 hbx h3 ho h4
    rintro j st ⟨hj,hta,h1,hbx,h4,h5,hb5,h6,hb6,h7,h3⟩ ih2
    have hdone:(∀ q,o[j]?=some q→rle q ⟨(i:Int),⟨lo,up⟩⟩=false)→o.take j++⟨(i:Int),⟨lo,up⟩⟩::o.drop j=insL o ⟨(i:Int),⟨lo,up⟩⟩:=fun h=>ZIH hj hta h
    have hc1:vcut o.length none (some (DI (j:Int)))=some (0,j):=ZHx (by omega)
    have hc2:vcut o.length (some (DI (j:Int))) none=some (j,o.length):=ZIA (by omega)
    obtain ⟨m1,m2⟩:=ZL (n:=j) (k:=40) (by omega) (by omega)
    obtain ⟨m3,m4⟩:=ZL (n:=j+1) (k:=40) (by omega) (by omega)
    obtain ⟨m5,m6⟩:=ZL (n:=j+1 + (o.length - j)) (k:=40) (by omega) (by omega)
    have ht1:(List.take j (o.map Route.u)).length=j:=by rw [List.length_take,List.length_map]; omega
    have ht2:(List.drop j (o.map Route.u)).length=o.length - j:=by rw [List.length_drop,List.length_map]
    by_cases hjo:j<o.length
    ·obtain ⟨⟨qn,⟨qlo,qup⟩⟩,hq⟩:∃ x,o[j]?=some x:=⟨_,List.getElem?_eq_getElem hjo⟩
     have hw2:=w_succ (i:=j) (by omega)
     cases hr:Za2 lo qlo
     ·simp only[↓xP,xT,rL,rB,rA,rS,rdx2,h1,hbx,h4,h5,hb5,h6,hb6,h7,h3,hjo,hq,hw2,Route.u,ZHz,hr]
      have hta':∀ q,q∈o.take (j+1)→rle q ⟨(i:Int),⟨lo,up⟩⟩=true:=by
       intro q hq2
       rw [List.take_add_one,hq] at hq2
       rcases List.mem_append.1 hq2 with hq2|hq2
       ·exact hta q hq2
       ·simp at hq2; subst hq2; simp [rle,hr]
      exact ih2 (j+1) _ (by omega) ⟨by omega,hta',(by and_intros<;>first|omega|rfl|(simp only[↓xP,xT,rL,rB,rA,rS,h1,hbx,h4,h5,hb5,h6,hb6,h3,hw2]<;>first|done|rfl|omega))⟩
     ·simp only[↓xP,xT,rL,rB,rA,rS,rdx2,h1,hbx,h4,h5,hb5,h6,hb6,h7,h3,hjo,hq,hw2,Route.u,ZHz,hr,hc1,hc2,List.length_map,m1,m2,m3,m4,m5,m6,ht1,ht2,Nat.zero_add,List.nil_append,List.length_append,List.length_cons,List.length_nil,List.drop_zero]
      have hrow:List.take j (o.map Route.u)++[[U.int .i64 (i:Int),.str lo,.str up]]++List.drop j (o.map Route.u)=(ZFp (Z4 (c0.take (i+1)) 0)).map Route.u:=by
       rw [hso,←hdone (fun q hq2=>by rw [hq] at hq2; cases hq2; simp [rle,hr])]; simp [Route.u]
      have hlen2:j+1 + (o.length - j)=(ZFp (Z4 (c0.take (i+1)) 0)).length:=by rw [hso,ZG1]; omega
      exact ih (i+1,true) _ (by dsimp only; omega) ⟨by dsimp only; omega,(fun h=>by cases h),(by and_intros<;>first|omega|rfl|(simp only[↓xP,xT,rL,rB,rA,rS,h1,hbx,hw,swid,hrow,hlen2]<;>first|done|rfl|omega))⟩
    ·simp only[↓xP,xT,rL,rB,rA,rS,rdx2,h1,hbx,h4,h5,hb5,h6,hb6,h7,h3,hjo,hc1,hc2,List.length_map,m1,m2,m3,m4,m5,m6,ht1,ht2,Nat.zero_add,List.nil_append,List.length_append,List.length_cons,List.length_nil,List.drop_zero]
     have hrow:List.take j (o.map Route.u)++[[U.int .i64 (i:Int),.str lo,.str up]]++List.drop j (o.map Route.u)=(ZFp (Z4 (c0.take (i+1)) 0)).map Route.u:=by
      rw [hso,←hdone (fun q hq2=>by rw [List.getElem?_eq_none (by omega)] at hq2; cases hq2)]; simp [Route.u]
     have hlen2:j+1 + (o.length - j)=(ZFp (Z4 (c0.take (i+1)) 0)).length:=by rw [hso,ZG1]; omega
     exact ih (i+1,true) _ (by dsimp only; omega) ⟨by dsimp only; omega,(fun h=>by cases h),(by and_intros<;>first|omega|rfl|(simp only[↓xP,xT,rL,rB,rA,rS,h1,hbx,hw,swid,hrow,hlen2]<;>first|done|rfl|omega))⟩
 ·obtain rfl:i=c0.length:=by omega
  rw [List.take_length] at h3 ho
  cases b<;>simp only[swid] at h3 ho<;>simp only[↓xP,xT,rL,rB,rA,rS,h1,hbx,h3,ho,h4,hi,ZFu,ZD,List.length_map]
def ZHD (p:Plan):Bool:=decide (p.kind=0)&&decide (p.first=0)&&decide (p.second=0)&&decide (p.key=[])&&decide (p.from_=0)&&decide (p.to_=0)&&decide (p.step=0)
def ZGs (p:Plan) (n:Nat):Bool:=ZHD p||(Z6 p&&decide (p.first<n)&&decide (p.second<n))
theorem ZH1 (k f s:Int) (key:Str) (a b c:Int) (n:Nat):EE F 128 [.ag [.u (.int .i64 k),.u (.int .i64 f),.u (.int .i64 s),.u (.str key),.u (.int .i64 a),.u (.int .i64 b),.u (.int .i64 c)],I n] []=ok1 (B (ZGs ⟨k,f,s,key,a,b,c⟩ n)):=by
 rw [R128,b128]
 simp only[↓xP,xT,rL,rB,rA,rS,ZGa]
 repeat' (refine ZiJ (fun h=>?_) (fun h=>?_))
 all_goals first|(simp_all [ZGs,ZHD]; done)|(simp_all [ZGs,ZHD]; grind)|skip
def ZFE (c:Caller):Bool:=decide (c.cache.length=0)&&decide (c.seq=0)
def upOf (l:List Shard):List Bool:=match l with
 | []=>[]
 | s::_=>s.group.up
def ZFm (l:List Caller):Bool:=match l with
 | []=>false
 | c::_=>ZFE c
def ZFM (u:List Bool) (s:Shard):Bool:=ZQ s.group&&decide (s.group.up=u)
def ZFx (x:Cluster):Bool:=decide (1≤x.shards.length)&&decide (x.shards.length≤8)&&decide (x.clients.length=4)&&decide (x.results.length≤40)
def ZG0 (x:Cluster):Bool:=ZG (ZD x.shards)&&ZFm x.clients&&inR x.turn 0 999&&inR x.clock 0 200
def ZH (x:Cluster):Bool:=ZFx x&&x.shards.all (ZFM (upOf x.shards))&&x.clients.all ZK&&x.results.all ZN&&ZGs x.work x.shards.length&&ZG0 x
theorem ZHe {c:Chain} (h:ZQ c=true):c.up.length=5:=by
 simp only[ZQ,Bool.and_eq_true,decide_eq_true_eq] at h
 exact h.1.1.1.1.2
def ZF5 (l:List Caller) (i:Nat):Bool:=if i=0 then ZFm l else true
theorem ZFI (c0:List Shard) (c1:List Caller) (c2:List Result) (c3 c4 c5:Int) (c6:Str) (c7 c8 c9 c10 c11:Int) (hs:Cluster.Small ⟨c0,c1,c2,⟨c3,c4,c5,c6,c7,c8,c9⟩,c10,c11⟩):EE F 103 [.ag [.u (.sl 14 (c0.map Shard.u)),.u (.sl 8 (c1.map Caller.u)),.u (.sl 9 (c2.map Result.u)),.u (.int .i64 c3),.u (.int .i64 c4),.u (.int .i64 c5),.u (.str c6),.u (.int .i64 c7),.u (.int .i64 c8),.u (.int .i64 c9),.u (.int .i64 c10),.u (.int .i64 c11)]] []=ok1 (B (ZH ⟨c0,c1,c2,⟨c3,c4,c5,c6,c7,c8,c9⟩,c10,c11⟩)):=by
 obtain ⟨hsh,hcl,hrs,hwk,_⟩:=hs
 have hn0:c0.length≤1048576:=hsh.1
 have hn1:c1.length≤1048576:=hcl.1
 have hn2:c2.length≤1048576:=hrs.1
 rw [R103,b103]
 simp only[↓xP,xT,rL,rB,rA,rS,List.length_map,ne_eq,ZW,ZH1]
 refine ZiJ (fun h=>?_) (fun g1=>?_)
 ·have:¬(1≤c0.length∧c0.length≤8):=by simp [inR] at h; omega
  have:ZFx ⟨c0,c1,c2,⟨c3,c4,c5,c6,c7,c8,c9⟩,c10,c11⟩=false:=by
   by_cases e1:1≤c0.length
   ·have e2:¬c0.length≤8:=fun e2=>this ⟨e1,e2⟩
    simp [ZFx,e2]
   ·simp [ZFx,e1]
  simp [ZH,this]
 refine ZiJ (fun h=>?_) (fun g3=>?_)
 ·have:¬c1.length=4:=by simp at h; omega
  simp [ZH,ZFx,this]
 refine ZiJ (fun h=>?_) (fun g4=>?_)
 ·have:¬c2.length≤40:=by simp at h; omega
  simp [ZH,ZFx,this]
 refine ZiJ (fun h=>?_) (fun g5=>?_)
 ·rw [Bool.not_eq_true'] at h; simp [ZH,h]
 refine ZiJ (fun h=>?_) (fun g6=>?_)
 ·rw [Bool.not_eq_true'] at h; simp [ZH,ZG0,h]
 refine ZiJ (fun h=>?_) (fun g7=>?_)
 ·rw [Bool.not_eq_true'] at h; simp [ZH,ZG0,h]
 rw [Bool.not_eq_false'] at g1 g5 g6 g7
 have g12:1≤c0.length∧c0.length≤8:=by simp [inR] at g1; omega
 have g3':c1.length=4:=by simp at g3; omega
 have g4':c2.length≤40:=by simp at g4; omega
 have hsz:ZFx ⟨c0,c1,c2,⟨c3,c4,c5,c6,c7,c8,c9⟩,c10,c11⟩=true:=by simp [ZFx,g12.1,g12.2,g3',g4']
 obtain ⟨fs,hf0⟩:∃ x,c0[0]?=some x:=⟨_,List.getElem?_eq_getElem (by omega)⟩
 have hup:upOf c0=fs.group.up:=by
  cases c0 with
  | nil=>simp at hf0
  | cons a l=>simp at hf0; subst hf0; rfl
 obtain ⟨flive,⟨⟨⟨flo,fup⟩,fprs,fkn,fsld,fcut⟩,⟨fep,fms,ffr⟩,fnds,fups,fbag,fans⟩⟩:=fs
 simp only at hup
 have hcv:ZH ⟨c0,c1,c2,⟨c3,c4,c5,c6,c7,c8,c9⟩,c10,c11⟩=((c0.drop 0).all (ZFM fups)&&(c1.all ZK&&ZFm c1&&(c2.all ZN&&ZG (ZD c0)))):=by
  simp only[ZH,hsz,hup,ZG0,g5,g6,g7,Bool.true_and,Bool.and_true,List.drop_zero]
  cases c0.all (ZFM fups)<;>cases c1.all ZK<;>cases c2.all ZN<;>cases ZFm c1<;>cases ZG (ZD c0)<;>rfl
 rw [hcv]
 refine Zji (fun (i:Nat) st=>st.s 1=.t (.sc (.ptr (.loc 1 0) 0 0))∧st.o (.loc 1 0)=some (.box [.u (.sl 14 (c0.map Shard.u)),.u (.sl 8 (c1.map Caller.u)),.u (.sl 9 (c2.map Result.u)),.u (.int .i64 c3),.u (.int .i64 c4),.u (.int .i64 c5),.u (.str c6),.u (.int .i64 c7),.u (.int .i64 c8),.u (.int .i64 c9),.u (.int .i64 c10),.u (.int .i64 c11)])∧st.s 3=DI i∧(i=0∨fups.length=5)) (fun i=>c0.length - i) (fun i=>ok1 (B ((c0.drop i).all (ZFM fups)&&(c1.all ZK&&ZFm c1&&(c2.all ZN&&ZG (ZD c0)))))) ?_ 0 (by and_intros<;>first|omega|rfl|(simp only[↓xP,xT,rL,rB,rA,rS]<;>first|done|rfl|omega))
 rintro i st ⟨h1,hb,h3,hf5⟩ ih
 by_cases hi:i<c0.length
 ·obtain ⟨⟨live,⟨⟨⟨lo,up⟩,prs,kn,sld,cut⟩,⟨ep,ms,fr⟩,nds,ups,bag,ans⟩⟩,hx⟩:∃ x,c0[i]?=some x:=⟨_,List.getElem?_eq_getElem hi⟩
  have hw:=w_succ (i:=i) (by omega)
  have hsx:=hsh.2 _ (List.mem_of_getElem? hx)
  have hch:=ZFX lo up prs kn sld cut ep ms fr nds ups bag ans hsx.1
  rw [ZFi hx,List.all_cons,ZFM]
  cases q1:ZQ ⟨⟨⟨lo,up⟩,prs,kn,sld,cut⟩,⟨ep,ms,fr⟩,nds,ups,bag,ans⟩
  ·simp only[↓xP,xT,rL,rB,rA,rS,rdx2,h1,hb,h3,hi,hx,hw,Shard.u,hch,q1]
   try simp
  have hu5:ups.length=5:=ZHe q1
  have hfu5:fups.length=5:=by
   rcases hf5 with rfl|e
   ·rw [hf0] at hx; cases hx; exact hu5
   ·exact e
  have hd0:decide (ups=fups)=decide (ups.drop 0=fups.drop 0):=by simp
  simp only[↓xP,xT,rL,rB,rA,rS,rdx2,h1,hb,h3,hi,hx,hw,Shard.u,hch,q1]
  try rw [Bool.true_and]
  rw [hd0]
  refine Zji (fun (j:Nat) st=>j≤5∧st.s 1=.t (.sc (.ptr (.loc 1 0) 0 0))∧st.o (.loc 1 0)=some (.box [.u (.sl 14 (c0.map Shard.u)),.u (.sl 8 (c1.map Caller.u)),.u (.sl 9 (c2.map Result.u)),.u (.int .i64 c3),.u (.int .i64 c4),.u (.int .i64 c5),.u (.str c6),.u (.int .i64 c7),.u (.int .i64 c8),.u (.int .i64 c9),.u (.int .i64 c10),.u (.int .i64 c11)])∧st.s 3=DI i∧st.s 4=DI j) (fun j=>5 - j) (fun j=>ok1 (B (decide (ups.drop j=fups.drop j)&&(c0.drop (i+1)).all (ZFM fups)&&(c1.all ZK&&ZFm c1&&(c2.all ZN&&ZG (ZD c0)))))) ?_ 0 (by and_intros<;>first|omega|rfl|(simp only[↓xP,xT,rL,rB,rA,rS,h1,hb,h3]<;>first|done|rfl|omega))
  clear h1 hb h3
  rintro j st ⟨hj5,h1,hb,h3,h4⟩ ih2
  by_cases hj:j<5
  ·obtain ⟨x,hxx⟩:∃ x,ups[j]?=some x:=⟨_,List.getElem?_eq_getElem (by omega)⟩
   obtain ⟨y,hyy⟩:∃ x,fups[j]?=some x:=⟨_,List.getElem?_eq_getElem (by omega)⟩
   have hw2:=w_succ (i:=j) (by omega)
   have hlt:((j:Int)<5)=True:=by simp; omega
   rw [ZFi hxx,ZFi hyy]
   by_cases e:x=y
   ·subst e
    simp only[↓xP,xT,rL,rB,rA,rS,rdx2,h1,hb,h3,h4,hi,hx,hf0,hxx,hyy,hw2,hlt,Shard.u,bU]
    rw [ih2 (j+1) _ (by omega) (by and_intros<;>first|omega|rfl|(simp only[↓xP,xT,rL,rB,rA,rS,h1,hb,h3,hw2]<;>first|done|rfl|omega))]
    simp
   ·have hbe:(x==y)=false:=by simpa using e
    simp only[↓xP,xT,rL,rB,rA,rS,rdx2,h1,hb,h3,h4,hi,hx,hf0,hxx,hyy,hw2,hlt,Shard.u,bU,hbe]
    simp [e]
  have hlt:((j:Int)<5)=False:=by simp; omega
  simp only[↓xP,xT,rL,rB,rA,rS,h1,hb,h3,h4,hlt]
  rw [List.drop_of_length_le (by omega),List.drop_of_length_le (by omega)]
  rw [ih (i+1) _ (by omega) ⟨(by and_intros<;>first|omega|rfl|(simp only[↓xP,xT,rL,rB,rA,rS,h1]<;>first|done|rfl|omega)),(by and_intros<;>first|omega|rfl|(simp only[↓xP,xT,rL,rB,rA,rS,hb]<;>first|done|rfl|omega)),(by and_intros<;>first|omega|rfl|(simp only[↓xP,xT,rL,rB,rA,rS,hw]<;>first|done|rfl|omega)),.inr hfu5⟩]
  simp
 simp only[↓xP,xT,rL,rB,rA,rS,h1,hb,h3,hi]
 rw [List.drop_of_length_le (by omega),List.all_nil,Bool.true_and]
 have hc10:(c1.all ZK&&ZFm c1&&(c2.all ZN&&ZG (ZD c0)))=((c1.drop 0).all ZK&&ZF5 c1 0&&(c2.all ZN&&ZG (ZD c0))):=rfl
 rw [hc10]
 refine Zji (fun (i:Nat) st=>i≤4∧st.s 1=.t (.sc (.ptr (.loc 1 0) 0 0))∧st.o (.loc 1 0)=some (.box [.u (.sl 14 (c0.map Shard.u)),.u (.sl 8 (c1.map Caller.u)),.u (.sl 9 (c2.map Result.u)),.u (.int .i64 c3),.u (.int .i64 c4),.u (.int .i64 c5),.u (.str c6),.u (.int .i64 c7),.u (.int .i64 c8),.u (.int .i64 c9),.u (.int .i64 c10),.u (.int .i64 c11)])∧st.s 5=DI i) (fun i=>4 - i) (fun i=>ok1 (B ((c1.drop i).all ZK&&ZF5 c1 i&&(c2.all ZN&&ZG (ZD c0))))) ?_ 0 (by and_intros<;>first|omega|rfl|(simp only[↓xP,xT,rL,rB,rA,rS,h1,hb]<;>first|done|rfl|omega))
 clear h1 hb h3 hi ih
 rintro i st ⟨hi4,h1,hb,h3⟩ ih
 by_cases hi:i<4
 ·obtain ⟨⟨cch,csq,cbz,⟨ck,ckey,cv,co⟩,ccd⟩,hx⟩:∃ x,c1[i]?=some x:=⟨_,List.getElem?_eq_getElem (by omega)⟩
  have hw:=w_succ (i:=i) (by omega)
  have hlt:((i:Int)<4)=True:=by simp; omega
  have hsx:=hcl.2 _ (List.mem_of_getElem? hx)
  have hch:=ZGB cch csq cbz ck ckey cv co ccd hsx.1.1
  rw [ZFi hx,List.all_cons]
  have hnext:ZF5 c1 (i+1)=true:=rfl
  by_cases e0:i=0
  ·subst e0
   have hff:ZF5 c1 0=ZFE ⟨cch,csq,cbz,⟨ck,ckey,cv,co⟩,ccd⟩:=by
    cases c1 with
    | nil=>simp at hx
    | cons a l=>simp at hx; subst hx; rfl
   have hz:(((0:Nat):Int)=0)=True:=by simp
   rw [hff]
   simp only[↓xP,xT,rL,rB,rA,rS,h1,hb,h3,hlt,hx,hw,hz,Caller.u,hch,ne_eq,List.length_map]
   refine ZiJ (fun h=>?_) (fun q1=>?_)
   ·rw [Bool.not_eq_true'] at h; simp [h]
   rw [Bool.not_eq_false'] at q1
   refine ZiJ (fun h=>?_) (fun q2=>?_)
   ·have:¬csq=0:=by simpa using h
    simp [ZFE,this]
   refine ZiJ (fun h=>?_) (fun q3=>?_)
   ·have:¬cch=[]:=by intro e; subst e; simp at h
    simp [ZFE,this]
   have q2':csq=0:=by simpa using q2
   have q3':cch.length=0:=by simp at q3; simpa using q3
   rw [ih 1 _ (by omega) (by and_intros<;>first|omega|rfl|(simp only[↓xP,xT,rL,rB,rA,rS,h1,hb]<;>first|done|rfl|omega))]
   rw [q1]; simp [ZFE,q2',q3',ZF5]
  ·have hz:((i:Int)=0)=False:=by simp; omega
   simp only[↓xP,xT,rL,rB,rA,rS,h1,hb,h3,hlt,hx,hw,hz,Caller.u,hch,ne_eq,List.length_map]
   refine ZiJ (fun h=>?_) (fun q1=>?_)
   ·rw [Bool.not_eq_true'] at h; simp [h]
   rw [Bool.not_eq_false'] at q1
   rw [ih (i+1) _ (by omega) (by and_intros<;>first|omega|rfl|(simp only[↓xP,xT,rL,rB,rA,rS,h1,hb]<;>first|done|rfl|omega))]
   simp [q1,ZF5,e0]
 have hlt:((i:Int)<4)=False:=by simp; omega
 have hfi:ZF5 c1 i=true:=by simp only[ZF5]; rw [if_neg (by omega)]
 simp only[↓xP,xT,rL,rB,rA,rS,h1,hb,h3,hlt]
 rw [List.drop_of_length_le (by omega),List.all_nil,hfi,Bool.true_and,Bool.true_and]
 refine Zji (fun (i:Nat) st=>st.s 1=.t (.sc (.ptr (.loc 1 0) 0 0))∧st.o (.loc 1 0)=some (.box [.u (.sl 14 (c0.map Shard.u)),.u (.sl 8 (c1.map Caller.u)),.u (.sl 9 (c2.map Result.u)),.u (.int .i64 c3),.u (.int .i64 c4),.u (.int .i64 c5),.u (.str c6),.u (.int .i64 c7),.u (.int .i64 c8),.u (.int .i64 c9),.u (.int .i64 c10),.u (.int .i64 c11)])∧st.s 6=DI i) (fun i=>c2.length - i) (fun i=>ok1 (B ((c2.drop i).all ZN&&ZG (ZD c0)))) ?_ 0 (by and_intros<;>first|omega|rfl|(simp only[↓xP,xT,rL,rB,rA,rS,h1,hb]<;>first|done|rfl|omega))
 clear h1 hb h3 hi ih hlt hfi
 rintro i st ⟨h1,hb,h3⟩ ih
 by_cases hi:i<c2.length
 ·obtain ⟨⟨rc,rs,⟨rk,rkey,rv,ro⟩,rr,rcd,rrt⟩,hx⟩:∃ x,c2[i]?=some x:=⟨_,List.getElem?_eq_getElem hi⟩
  have hw:=w_succ (i:=i) (by omega)
  simp only[↓xP,xT,rL,rB,rA,rS,h1,hb,h3,hi,hx,hw,Result.u,ZGK]
  rw [ZFi hx,List.all_cons]
  refine ZiJ (fun h=>?_) (fun q1=>?_)
  ·rw [Bool.not_eq_true'] at h; simp [h]
  rw [Bool.not_eq_false'] at q1
  rw [ih (i+1) _ (by omega) (by and_intros<;>first|omega|rfl|(simp only[↓xP,xT,rL,rB,rA,rS,h1,hb]<;>first|done|rfl|omega))]
  simp [q1]
 have hlr:=ZGx c0 c1 c2 c3 c4 c5 c6 c7 c8 c9 c10 c11 g12.2
 simp only[ZFu] at hlr
 have hrl:(ZD c0).length≤1048576:=by
  have:=ZHt (Z4 c0 0)
  have:=ZGG c0 0
  simp only[ZD]; omega
 have hrv:=ZFR (ZD c0) hrl
 have htk:List.take (ZD c0).length (List.map Route.u (ZD c0))=List.map Route.u (ZD c0):=List.take_of_length_le (by simp)
 simp only[↓xP,xT,rL,rB,rA,rS,h1,hb,h3,hi,hlr,hrv,htk,Nat.le_refl,List.length_map]
 rw [List.drop_of_length_le (by omega),List.all_nil,Bool.true_and]
theorem ZHf {c0:List Shard} {c1:List Caller} {c2:List Result} {w:Plan} {a b:Int} (h:ZH ⟨c0,c1,c2,w,a,b⟩=true):c0.length≤8:=by
 simp only[ZH,ZFx,Bool.and_eq_true,decide_eq_true_eq] at h
 exact h.1.1.1.1.1.1.1.2
theorem ZIF {l:List Route} {x y:Route} (h:y∈insL l x):y=x∨y∈l:=by
 simp only[insL,List.mem_append,List.mem_cons] at h
 rcases h with h|h|h
 ·exact .inr ((List.takeWhile_sublist _).mem h)
 ·exact .inl h
 ·exact .inr ((List.dropWhile_sublist _).mem h)
theorem ZHq:∀ (m l:List Route) (y:Route),y∈m.foldl insL l→y∈l∨y∈m
 | [],l,y,h=>.inl h
 | a :: m,l,y,h=>by
  rcases ZHq m (insL l a) y h with h|h
  ·rcases ZIF h with rfl|h
   ·exact .inr (by simp)
   ·exact .inl h
  ·exact .inr (by simp [h])
theorem ZGI:∀ (l:List Shard) (i:Nat) (r:Route),r∈Z4 l i→∃ (j:Nat) (s:Shard),l[j]?=some s∧r.number=((i+j:Nat):Int)∧s.live=true
 | [],i,r,h=>by simp [Z4] at h
 | s :: l,i,r,h=>by
  simp only[Z4] at h
  split at h
  ·rcases List.mem_cons.1 h with rfl|h
   ·exact ⟨0,s,rfl,by simp,by assumption⟩
   ·obtain ⟨j,s',h1,h2,h3⟩:=ZGI l (i+1) r h
    exact ⟨j+1,s',by simpa using h1,by rw [h2]; congr 1; omega,h3⟩
  ·obtain ⟨j,s',h1,h2,h3⟩:=ZGI l (i+1) r h
   exact ⟨j+1,s',by simpa using h1,by rw [h2]; congr 1; omega,h3⟩
theorem ZG5 {l:List Shard} {r:Route} (h:r∈ZD l):∃ (j:Nat) (s:Shard),l[j]?=some s∧r.number=(j:Int)∧s.live=true:=by
 rcases ZHq _ _ _ h with h|h
 ·cases h
 ·obtain ⟨j,s,h1,h2,h3⟩:=ZGI l 0 r h
  exact ⟨j,s,h1,by rw [h2]; simp,h3⟩
def ZFy (x:Cluster):List Route:=if ZH x=true then ZD x.shards else []
theorem ZFD (c0:List Shard) (c1:List Caller) (c2:List Result) (c3 c4 c5:Int) (c6:Str) (c7 c8 c9 c10 c11:Int) (hs:Cluster.Small ⟨c0,c1,c2,⟨c3,c4,c5,c6,c7,c8,c9⟩,c10,c11⟩):EE F 152 [.ag [.u (.sl 14 (c0.map Shard.u)),.u (.sl 8 (c1.map Caller.u)),.u (.sl 9 (c2.map Result.u)),.u (.int .i64 c3),.u (.int .i64 c4),.u (.int .i64 c5),.u (.str c6),.u (.int .i64 c7),.u (.int .i64 c8),.u (.int .i64 c9),.u (.int .i64 c10),.u (.int .i64 c11)]] []=some ⟨[.sc (.own (.par 0) (ZFy ⟨c0,c1,c2,⟨c3,c4,c5,c6,c7,c8,c9⟩,c10,c11⟩).length)],[.row 3 ((ZFy ⟨c0,c1,c2,⟨c3,c4,c5,c6,c7,c8,c9⟩,c10,c11⟩).map Route.u)],[]⟩:=by
 have hcvs:=ZFI c0 c1 c2 c3 c4 c5 c6 c7 c8 c9 c10 c11 hs
 rw [R152,b152]
 cases hv:ZH ⟨c0,c1,c2,⟨c3,c4,c5,c6,c7,c8,c9⟩,c10,c11⟩
 ·simp only[↓xP,xT,rL,rB,rA,rS,hcvs,hv]
  simp [ZFy,hv]
 ·have hlr:=ZGx c0 c1 c2 c3 c4 c5 c6 c7 c8 c9 c10 c11 (ZHf hv)
  simp only[ZFu] at hlr
  simp only[↓xP,xT,rL,rB,rA,rS,hcvs,hv,hlr,List.length_map,Nat.le_refl]
  simp [ZFy,hv]
def sumW {α:Type} (w:α→Nat):List α→Nat
 | []=>0
 | x::xs=>w x+sumW w xs
def Cost (g:Int→Int) (w:Nat):Prop:=∀ a,0≤a→a≤1048576→0≤g a→g a≤a∧9*g a+w≤9*a
theorem Cost.nil:Cost (fun a=>a) 0:=fun a _ _ _=>⟨Int.le_refl _,by show 9*a + ((0:Nat):Int)≤9*a; omega⟩
theorem Cost.off {n:Nat} {k:Int→Int} {w w':Nat} (hn:n≤1048576) (hw:w≤9*n+w') (hk:Cost k w'):Cost (fun a=>offZ a n k) w:=by
 intro a h0 h1 h2
 simp only[offZ] at h2 ⊢
 rw [w64 (by omega) (by omega)] at h2 ⊢
 split at h2
 ·omega
 ·rename_i hlt
  rw [if_neg hlt]
  obtain ⟨h3,h4⟩:=hk (a - n) (by omega) (by omega) h2
  omega
theorem Cost.chk {g k:Int→Int} {w w':Nat} (hg:Cost g w) (hk:Cost k w'):Cost (fun a=>chkZ (g a) k) (w+w'):=by
 intro a h0 h1 h2
 simp only[chkZ] at h2 ⊢
 split at h2
 ·omega
 ·rename_i hlt
  rw [if_neg hlt]
  obtain ⟨h3,h4⟩:=hg a h0 h1 (by omega)
  obtain ⟨h5,h6⟩:=hk (g a) (by omega) (by omega) h2
  omega
theorem Cost.all {α:Type} {g:α→Int→Int} {w:α→Nat}:∀ {l:List α},(∀ x,x∈l→Cost (g x) (w x))→Cost (allZ g l) (sumW w l)
 | [],_=>Cost.nil
 | x::xs,h=>(h x (List.mem_cons_self ..)).chk (Cost.all (l:=xs) fun y hy=>h y (List.mem_cons_of_mem _ hy))
theorem Cost.key {n:Nat} (h:n≤1048576):Cost (fun a=>offZ a n fun a=>a) 0:=Cost.off h (by omega) Cost.nil
theorem ZHE {l:List Session} (h:Z1 l=true) {i:Nat} {p:Session} (hp:l[i]?=some p):inR p.client 0 3=true∧inR p.seq 1 999=true∧inR p.reply (-2) 999=true∧∀ q,0<i→l[i - 1]?=some q→q.client<p.client:=by
 have:=(Z7 (n:=l.length) (p:=ZFe l) _ 0 rfl).1 h i (by omega) (List.getElem?_eq_some_iff.1 hp).1
 simp only[ZFe,hp,Bool.and_eq_true,Bool.or_eq_true,decide_eq_true_eq] at this
 refine ⟨this.1.1.1,this.1.1.2,this.1.2,fun q h0 hq=>?_⟩
 rw [hq] at this
 rcases this.2 with h|h
 ·omega
 ·simpa using h
theorem ZIi {l:List Session} (h:Z1 l=true):∀ (j i:Nat) (p q:Session),i<j→l[i]?=some p→l[j]?=some q→p.client<q.client
 | 0,i,p,q,hij,_,_=>by omega
 | j + 1,i,p,q,hij,hp,hq=>by
  obtain ⟨r,hr⟩:∃ r,l[j]?=some r:=⟨_,List.getElem?_eq_getElem (by have:=(List.getElem?_eq_some_iff.1 hq).1; omega)⟩
  have h1:=(ZHE h hq).2.2.2 r (by omega) (by simpa using hr)
  by_cases e:i=j
  ·subst e; rw [hp] at hr; cases hr; exact h1
  ·have:=ZIi h j i p r (by omega) hp hr
   omega
theorem ZIh {l:List Session} (h:Z1 l=true):∀ (i:Nat) (p:Session),l[i]?=some p→(i:Int)≤p.client
 | 0,p,hp=>by
  have:=(ZHE h hp).1
  simp only[inR,Bool.and_eq_true,decide_eq_true_eq] at this
  omega
 | i+1,p,hp=>by
  obtain ⟨r,hr⟩:∃ r,l[i]?=some r:=⟨_,List.getElem?_eq_getElem (by have:=(List.getElem?_eq_some_iff.1 hp).1; omega)⟩
  have h1:=ZIh h i r hr
  have h2:=ZIi h (i+1) i r p (by omega) hr hp
  omega
theorem ZGf {l:List Session} (h:Z1 l=true):l.length≤4:=by
 by_cases h4:l.length≤4
 ·exact h4
 ·obtain ⟨p,hp⟩:∃ p,l[4]?=some p:=⟨_,List.getElem?_eq_getElem (by omega)⟩
  have h1:=ZIh h 4 p hp
  have h2:=(ZHE h hp).1
  simp only[inR,Bool.and_eq_true,decide_eq_true_eq] at h2
  omega
theorem ZFA {s:State} (h:ZS s=true):ZB s.span=true∧ZR s.pairs=true∧Z1 s.known=true:=by
 simp only[ZS,Bool.and_eq_true] at h
 exact ⟨h.1.1.1.1,h.1.1.1.2,h.1.1.2⟩
theorem ZIO {α:Type} {l:List α} {i:Nat} {a:α} (h:a∈l.take i):∃ t:Nat,t<i∧l[t]?=some a:=by
 obtain ⟨t,ht⟩:=List.getElem?_of_mem h
 rw [List.getElem?_take] at ht
 split at ht
 ·exact ⟨t,by assumption,ht⟩
 ·cases ht
theorem ZIU:ZR []=true:=(ZG6 []).2 ⟨by simp,fun p h=>(by cases h),List.Pairwise.nil⟩
def zCfg:Config:=⟨0,[],false⟩
def zRep:Replica:=⟨zCfg,false,[]⟩
structure ChainOk (c:Chain):Prop where
 base:ZS c.base=true
 conf:ZF c.conf=true
 nodes:c.nodes.length=5
 up:c.up.length=5
 bagn:c.bag.length≤10
 bagv:∀ m,m∈c.bag→ZU m=true∧m.epoch≤c.conf.epoch
 node:∀ r,r∈c.nodes→ZP r=true∧r.conf.epoch≤c.conf.epoch
 ansn:c.answers.length≤24
 ansv:∀ a,a∈c.answers→ZFb a=true
theorem ZF3 (c:Chain):ZQ c=true↔ChainOk c:=by
 simp only[ZQ,ZGt,ZFa,Bool.and_eq_true,decide_eq_true_eq,List.all_eq_true]
 constructor
 ·rintro ⟨⟨⟨⟨⟨⟨⟨h1,h2⟩,h3⟩,h4⟩,h5,h6⟩,h7⟩,h8⟩,h9,h10⟩
  exact ⟨h1,h2,h3,h4,h5,fun m hm=>⟨h6 m hm,h8 m hm⟩,h7,h9,h10⟩
 ·rintro ⟨h1,h2,h3,h4,h5,h6,h7,h8,h9⟩
  exact ⟨⟨⟨⟨⟨⟨⟨h1,h2⟩,h3⟩,h4⟩,h5,fun m hm=>(h6 m hm).1⟩,h7⟩,fun m hm=>(h6 m hm).2⟩,h8,h9⟩
theorem ZIV {c:Config} {b:Bool} {l:List Entry} (hc:ZF c=true) (hl:ZZ l=true) (hb:b=true∨l=[]):ZP ⟨c,b,l⟩=true:=by
 unfold ZP
 split
 ·rename_i h
  have:=(ZFY c).1 hc
  simp only[ZFT,Bool.and_eq_true,decide_eq_true_eq] at h
  omega
 ·simp only[hc,hl,Bool.true_and,Bool.or_eq_true,decide_eq_true_eq]
  rcases hb with h|h
  ·exact .inl h
  ·exact .inr (by rw [h]; rfl)
theorem ZIf {r:Replica} (h:ZP r=true):ZZ r.log=true∧(r.ready=true∨r.log=[]):=by
 unfold ZP at h
 split at h
 ·simp only[Bool.and_eq_true,decide_eq_true_eq] at h
  have:=List.eq_nil_of_length_eq_zero h.2
  rw [this]; exact ⟨rfl,.inr rfl⟩
 ·simp only[Bool.and_eq_true,Bool.or_eq_true,decide_eq_true_eq] at h
  exact ⟨h.1.2,h.2.imp (fun h=>h) List.eq_nil_of_length_eq_zero⟩
def ZFf (key:Str):List Route→Int
 | []=>-1
 | q::l=>if ZFB q.span key=true then q.number else ZFf key l
/-- One route lies wholly ahead of another. -/
def Ahead (a b:Route):Prop:=a.span.high≠[]∧Za2 b.span.low a.span.high=false
structure ZII (l:List Route):Prop where
 num:(l.map Route.number).Pairwise (·≠·)
 rng:∀ q,q∈l→inR q.number 0 7=true
 span:∀ q,q∈l→ZB q.span=true
 ord:l.Pairwise Ahead
theorem ZIE {v:Interval} (h:ZB v=true) (hh:v.high≠[]):Za2 v.low v.high=true∧(v.low=[]→Za2 [97] v.high=true):=by
 simp only[ZB,Bool.and_eq_true,Bool.or_eq_true,decide_eq_true_eq] at h
 obtain ⟨_,h⟩:=h
 have h:=h.resolve_left hh
 by_cases e:v.low=[]
 ·rw [if_pos e] at h
  refine ⟨?_,fun _=>h⟩
  rw [e,ZGH]; simp [hh]
 ·rw [if_neg e] at h
  exact ⟨h,fun e2=>absurd e2 e⟩
theorem Ahead.trans {a b c:Route} (hb:ZB b.span=true) (h1:Ahead a b) (h2:Ahead b c):Ahead a c:=by
 refine ⟨h1.1,?_⟩
 have h3:=(ZIE hb h2.1).1
 have h4:Za2 a.span.high b.span.high=true:=ZI1 h1.2 h3
 cases h:Za2 c.span.low a.span.high with
 | false=>rfl
 | true=>
  have:=lt_trans h h4
  rw [h2.2] at this; cases this
theorem ZHW (a b:Str):ZGQ a b=Za2 b a:=by
 unfold ZGQ
 have:=ZHz a b
 cases h1:Za2 a b<;>cases h2:decide (a=b)<;>simp_all
theorem ZF2 (l:List Route):Z8 l=true↔ZII l:=by
 simp only[Z8,Bool.and_eq_true]
 constructor
 ·rintro ⟨h1,h2⟩
  obtain ⟨h3,h4⟩:=ZF4 h1
  have h5:=(Z7 _ _ rfl).1 h2
  have h6:∀ (i:Nat) q,l[i]?=some q→ZB q.span=true∧∀ p,0<i→l[i - 1]?=some p→Ahead p q:=by
   intro i q hq
   have hi:=(List.getElem?_eq_some_iff.1 hq).1
   have:=h5 i (by omega) hi
   simp only[ZFv,hq,Bool.and_eq_true] at this
   refine ⟨this.1,fun p hp hpi=>?_⟩
   have h7:=this.2
   simp only[hpi,hp,decide_true,Bool.true_and,Bool.not_eq_true',Bool.or_eq_false_iff,decide_eq_false_iff_not,ZHW] at h7
   exact h7
  have h7:∀ (k i:Nat) (p q:Route),l[i]?=some p→l[i+k+1]?=some q→Ahead p q:=by
   intro k
   induction k with
   | zero=>intro i p q hp hq; exact (h6 (i+1) q hq).2 p (by omega) hp
   | succ k ih=>
    intro i p q hp hq
    have hlt:=(List.getElem?_eq_some_iff.1 hq).1
    obtain ⟨m,hm⟩:∃ m,l[i+k+1]?=some m:=⟨_,List.getElem?_eq_getElem (by omega)⟩
    exact (ih i p m hp hm).trans (h6 _ m hm).1 ((h6 (i + (k+1)+1) q hq).2 m (by omega) hm)
  refine ⟨h3,fun q hq=>?_,fun q hq=>?_,?_⟩
  ·have:=h4 q.number (List.mem_map_of_mem hq)
   simp only[inR,Bool.and_eq_true,decide_eq_true_eq]
   omega
  ·obtain ⟨i,hi⟩:=List.mem_iff_getElem?.1 hq
   exact (h6 i q hi).1
  ·rw [List.pairwise_iff_getElem]
   intro i j hi hj hij
   have:=h7 (j - i - 1) i l[i] l[j] (List.getElem?_eq_getElem hi) (by rw [show i + (j - i - 1)+1=j by omega]; exact List.getElem?_eq_getElem hj)
   exact this
 ·rintro ⟨h1,h2,h3,h4⟩
  constructor
  ·refine (Z7 _ _ rfl).2 fun j _ hj=>?_
   obtain ⟨q,hq⟩:∃ q,l[j]?=some q:=⟨_,List.getElem?_eq_getElem hj⟩
   simp only[ZFq,hq,Bool.and_eq_true,Bool.not_eq_true']
   refine ⟨h2 q (List.mem_of_getElem? hq),?_⟩
   simp only[ZFr,List.any_eq_false,decide_eq_true_eq]
   intro p hp e
   obtain ⟨i,hi,hpi⟩:=ZIO hp
   rw [List.pairwise_map,List.pairwise_iff_getElem] at h1
   have hil:=(List.getElem?_eq_some_iff.1 hpi)
   obtain ⟨hil,hie⟩:=hil
   have hqe:=(List.getElem?_eq_some_iff.1 hq).2
   exact h1 i j hil hj hi (by rw [hie,hqe]; exact e)
  ·refine (Z7 _ _ rfl).2 fun j _ hj=>?_
   obtain ⟨q,hq⟩:∃ q,l[j]?=some q:=⟨_,List.getElem?_eq_getElem hj⟩
   simp only[ZFv,hq,h3 q (List.mem_of_getElem? hq),Bool.true_and]
   cases hp:l[j - 1]? with
   | none=>rfl
   | some p=>
    by_cases h0:0<j
    ·rw [List.pairwise_iff_getElem] at h4
     obtain ⟨hpl,hpe⟩:=List.getElem?_eq_some_iff.1 hp
     have hqe:=(List.getElem?_eq_some_iff.1 hq).2
     have:=h4 (j - 1) j hpl hj (by omega)
     rw [hpe,hqe] at this
     simp [h0,this.1,ZHW,this.2]
    ·simp [h0]
def zCmd:Command:=⟨0,[],0,0⟩
def ZHa:Interval:=⟨[],[]⟩
def zState:State:=⟨ZHa,[],[],false,[]⟩
def ZIX:Chain:=⟨zState,zCfg,[],[],[],[]⟩
def ZGh:Caller:=⟨[],0,false,zCmd,0⟩
def ZIj:Plan:=⟨0,0,0,[],0,0,0⟩
def ZI2 (x:Cluster) (w:Plan):Cluster:=⟨x.shards,x.clients,x.results,w,x.turn,x.clock⟩
/-- A new chain, and a cluster with one more shard. -/
def ZM (k:Config) (i:Nat):Replica:=if (i:Int)∈k.members then ⟨k,true,[]⟩ else zRep
def ZE (s:State) (ms:List Int):Chain:=if (ZS s&&ZF ⟨1,ms,false⟩)=true then ⟨s,⟨1,ms,false⟩,(List.range 5).map (ZM ⟨1,ms,false⟩),[true,true,true,true,true],[],[]⟩ else ZIX
structure XOk (x:Cluster):Prop where
 s1:1≤x.shards.length
 s8:x.shards.length≤8
 cn:x.clients.length=4
 rn:x.results.length≤40
 sh:∀ s,s∈x.shards→ChainOk s.group∧s.group.up=upOf x.shards
 cl:∀ c,c∈x.clients→ZK c=true
 rs:∀ r,r∈x.results→ZN r=true
 wk:ZGs x.work x.shards.length=true
 rt:ZG (ZD x.shards)=true
 fc:ZFm x.clients=true
 tn:inR x.turn 0 999=true
 ck:inR x.clock 0 200=true
theorem ZHI (x:Cluster):ZH x=true↔XOk x:=by
 simp only[ZH,ZFx,ZG0,Bool.and_eq_true,decide_eq_true_eq,List.all_eq_true]
 constructor
 ·rintro ⟨⟨⟨⟨⟨⟨⟨⟨h1,h2⟩,h3⟩,h4⟩,h5⟩,h6⟩,h7⟩,h8⟩,⟨⟨h9,h10⟩,h11⟩,h12⟩
  refine ⟨h1,h2,h3,h4,fun s hs=>?_,h6,h7,h8,h9,h10,h11,h12⟩
  have:=h5 s hs
  simp only[ZFM,Bool.and_eq_true,decide_eq_true_eq] at this
  exact ⟨(ZF3 _).1 this.1,this.2⟩
 ·rintro ⟨h1,h2,h3,h4,h5,h6,h7,h8,h9,h10,h11,h12⟩
  refine ⟨⟨⟨⟨⟨⟨⟨⟨h1,h2⟩,h3⟩,h4⟩,fun s hs=>?_⟩,h6⟩,h7⟩,h8⟩,⟨⟨h9,h10⟩,h11⟩,h12⟩
  simp only[ZFM,Bool.and_eq_true,decide_eq_true_eq]
  exact ⟨(ZF3 _).2 (h5 s hs).1,(h5 s hs).2⟩
theorem ZGL:ZS zState=true:=by
 have hp:ZR []=true:=ZIU
 have hs:Z1 []=true:=by unfold Z1; rw [ZFw (by simp)]
 simp [ZS,zState,ZHa,ZB,hp,hs]
theorem XOk.work {x:Cluster} (h:XOk x) {w:Plan} (hw:ZGs w x.shards.length=true):XOk (ZI2 x w):=⟨h.s1,h.s8,h.cn,h.rn,h.sh,h.cl,h.rs,hw,h.rt,h.fc,h.tn,h.ck⟩
theorem ZIa:ZK ZGh=true:=by
 have h0:Z8 []=true:=(ZF2 _).2 ⟨by simp,by simp,by simp,by simp⟩
 simp only[ZK,ZGh,h0]
 rfl
theorem ZHj {c:Caller} (h:ZK c=true):Z8 c.cache=true∧inR c.seq 0 999=true∧(c.busy=true→1≤c.seq∧Z9 c.wish=true∧inR c.called 0 200=true):=by
 simp only[ZK,Bool.and_eq_true] at h
 refine ⟨h.1.1,h.1.2,fun hb=>?_⟩
 have h2:=h.2
 rw [if_pos hb] at h2
 simp only[Bool.and_eq_true,decide_eq_true_eq] at h2
 exact ⟨h2.1.1,h2.1.2,h2.2⟩
theorem ZIv {l:List Interval} (h:ZI l=true):∀ v,v∈l→ZB v=true:=by
 intro v hv
 unfold ZI at h
 split at h
 ·rename_i a b ha hb
  simp only[Bool.and_eq_true] at h
  obtain ⟨⟨⟨⟨_,h1⟩,_⟩,_⟩,h2⟩:=h
  obtain ⟨i,hi⟩:=List.mem_iff_getElem?.1 hv
  cases i with
  | zero=>rw [ha] at hi; cases hi; exact h1
  | succ i=>
   have hlt:=(List.getElem?_eq_some_iff.1 hi).1
   have:=(Z7 _ 1 rfl).1 h2 (i+1) (by omega) hlt
   obtain ⟨p,hp⟩:∃ p,l[i]?=some p:=⟨_,List.getElem?_eq_getElem (by omega)⟩
   simp only[ZGn,Nat.add_sub_cancel,hp,hi,ZGo,Bool.and_eq_true] at this
   exact this.1.1.2
 ·cases h
theorem ZIq (c0:Int) (c1:(List Int)) (c2:Bool) (hn:c1.length≤1048576):EE F 142 [.ag [.u (.int .i64 c0),.u (.sl 1 (c1.map iU)),.u (.bool c2)]] []=some ⟨[.ag [.u (.int .i64 c0),.u (.sl 1 (c1.map iU)),.u (.bool c2)]],[],[]⟩:=by
 rw [R142,b142]
 obtain ⟨h1,h2⟩:=ZL (k:=8) hn (by omega)
 simp only[↓xP,xT,rL,rB,rA,rS,rdx2,Bool.or_true,h1,h2,List.length_map,ZFS]
theorem ZIp (c0 c1:Str) (c2:(List Pair)) (c3:(List Session)) (c4:Bool) (c5:Str) (hl:c2.length≤1048576) (hk:c3.length≤1048576):EE F 140 [.ag [.u (.str c0),.u (.str c1),.u (.sl 2 (c2.map Pair.u)),.u (.sl 3 (c3.map Session.u)),.u (.bool c4),.u (.str c5)]] []=some ⟨[.ag [.u (.str c0),.u (.str c1),.u (.sl 2 (c2.map Pair.u)),.u (.sl 3 (c3.map Session.u)),.u (.bool c4),.u (.str c5)]],[],[]⟩:=by
 have q0:c2.length≤maxLen∧c2.length*24≤140737488355328:=ZL (by omega) (by omega)
 have q1:c3.length≤maxLen∧c3.length*24≤140737488355328:=ZL (by omega) (by omega)
 rw [R140,b140]
 simp only[↓xP,xT,rL,rB,rA,rS,rdx,rdx2,Bool.or_true,q0.1,q0.2,q1.1,q1.2,List.length_map,ZFS]
/-- Messages of a bag are small. -/
def ZIy (l:List Message):Prop:=∀ m,m∈l→m.conf.members.length≤1048576∧m.log.length≤1048576
theorem ZG7 {l:List Pair} (h:ZR l=true):l.length≤48:=ZFG h
theorem ZGm {l:List Entry} (h:ZZ l=true):l.length≤24:=by
 simp only[ZZ,Bool.and_eq_true,decide_eq_true_eq] at h; exact h.1
theorem ZIw {r:Replica} (h:ZP r=true):r.conf.members.length≤4∧r.log.length≤24:=by
 refine ⟨?_,ZGm (ZIf h).1⟩
 unfold ZP at h
 split at h
 ·rename_i h2
  simp only[ZFT,Bool.and_eq_true,decide_eq_true_eq] at h2
  omega
 ·simp only[Bool.and_eq_true] at h
  exact (ZO h.1.1).2
theorem ZGJ {m:Message} (h:ZU m=true):m.conf.members.length≤4∧m.log.length≤24:=by
 simp only[ZU,Bool.and_eq_true] at h
 have h3:=h.2
 split at h3
 ·simp only[Bool.and_eq_true,decide_eq_true_eq] at h3
  exact ⟨(ZO h3.1.1.2).2,by omega⟩
 ·have hz:ZFT m.conf=true→m.conf.members.length≤4:=fun h2=>by
   simp only[ZFT,Bool.and_eq_true,decide_eq_true_eq] at h2
   omega
  split at h3
  ·simp only[Bool.and_eq_true] at h3
   exact ⟨hz h3.1.2,ZGm h3.2⟩
  ·split at h3
   ·simp only[Bool.and_eq_true,decide_eq_true_eq] at h3
    exact ⟨hz h3.1.2,by omega⟩
   ·cases h3
structure ZIZ (c:Chain):Prop where
 pr:c.base.pairs.length≤1000
 kn:c.base.known.length≤1000
 mb:c.conf.members.length≤1000
 nd:c.nodes.length=5
 up:c.up.length=5
 bg:c.bag.length≤1000
 an:c.answers.length≤1000
 bs:ZIy c.bag
 ns:∀ r,r∈c.nodes→r.conf.members.length≤1000∧r.log.length≤1000
theorem ChainOk.sizes {c:Chain} (h:ChainOk c):ZIZ c:=by
 obtain ⟨h1,h2,h3⟩:=ZFA h.base
 have:=ZG7 h2
 have:=ZGf h3
 have:=ZO h.conf
 have:=h.bagn
 have:=h.ansn
 refine ⟨by omega,by omega,by omega,h.nodes,h.up,by omega,by omega,fun m hm=>?_,fun r hr=>?_⟩
 ·have:=ZGJ (h.bagv m hm).1; omega
 ·have:=ZIw (h.node r hr).1; omega
def ndC (a:Nat):Nat→C
 | 0=>.u .nil
 | i+1=>.own (.loc a 0) (i+1)
def ndO (st:St) (a z:Nat) (rows:List (List U)):Nat→Prop
 | 0=>True
 | i+1=>st.o (.loc a 0)=some (.row z rows)
theorem ZID {l:List Int} {x:Int} (h:x∈l):idxI l x=(l.idxOf x:Int)∧¬idxI l x<0:=by
 have:idxI l x=(l.idxOf x:Int):=by simp [idxI,h]
 exact ⟨this,by omega⟩
theorem ZId {l:List Int} {x:Int} (h:¬x∈l):idxI l x = -1∧idxI l x<0:=by
 have:idxI l x = -1:=by simp [idxI,h]
 exact ⟨this,by omega⟩
theorem ZGp {s:Str} (h:s=[]∨ZJ s=true):s.length≤1048576:=by
 rcases h with h|h
 ·subst h; simp
 ·simp only[ZJ,Bool.and_eq_true,decide_eq_true_eq] at h; omega
theorem ZF6 {v:Interval} (h:ZB v=true):Interval.Small v:=by
 simp only[ZB,Bool.and_eq_true,Bool.or_eq_true,decide_eq_true_eq] at h
 exact ⟨ZGp h.1.1,ZGp h.1.2,trivial⟩
theorem ZFO {c:Command} (h:ZT c=true):Command.Small c:=by
 simp only[ZT,Bool.and_eq_true,Bool.or_eq_true,decide_eq_true_eq] at h
 exact ⟨ZGp (h.1.symm.imp (fun h=>h.2) (fun h=>h)),trivial⟩
theorem ZGM {e:Entry} (h:Z2 e=true):Entry.Small e:=by
 simp only[Z2,Bool.and_eq_true] at h
 exact ⟨ZFO h.2,trivial⟩
theorem ZGj {l:List Entry} (h:ZZ l=true):ZF1 l:=by
 have:=ZGm h
 simp only[ZZ,Bool.and_eq_true,List.all_eq_true] at h
 exact ⟨by omega,fun e he=>ZGM (h.2 e he)⟩
theorem ZIm {l:List Message} (h:∀ m,m∈l→ZU m=true) (hn:l.length≤1048576):ZFN l∧ZIy l:=by
 refine ⟨⟨hn,fun m hm=>?_⟩,fun m hm=>?_⟩
 ·obtain ⟨z1,z2⟩:=ZGJ (h m hm)
  refine ⟨⟨⟨by omega,trivial⟩,trivial⟩,⟨by omega,fun e he=>?_⟩,trivial⟩
  have hv:=h m hm
  simp only[ZU,Bool.and_eq_true] at hv
  have h3:=hv.2
  have hnil:m.log.length=0→Entry.Small e:=fun h0=>by rw [List.eq_nil_of_length_eq_zero h0] at he; cases he
  split at h3
  ·simp only[Bool.and_eq_true,decide_eq_true_eq] at h3
   exact hnil h3.2
  ·split at h3
   ·simp only[Bool.and_eq_true] at h3
    exact (ZGj h3.2).2 e he
   ·split at h3
    ·simp only[Bool.and_eq_true,decide_eq_true_eq] at h3
     exact hnil h3.2
    ·cases h3
 ·have:=ZGJ (h m hm); omega
theorem ZHF {s:State} (h:ZS s=true):State.Small s:=by
 obtain ⟨h1,h2,h3⟩:=ZFA h
 have hc:s.cut=[]∨ZJ s.cut=true:=by
  simp only[ZS,ZHk,Bool.and_eq_true,Bool.or_eq_true,decide_eq_true_eq] at h
  exact h.2.imp (fun h=>h) (fun h=>h.2.1.1.2)
 refine ⟨ZF6 h1,⟨by have:=ZG7 h2; omega,fun p hp=>?_⟩,⟨by have:=ZGf h3; omega,trivial⟩,ZGp hc,trivial⟩
 obtain ⟨i,hi⟩:=List.mem_iff_getElem?.1 hp
 exact ⟨ZGp (.inr (ZFP h2 hi).1),trivial⟩
theorem ChainOk.small {c:Chain} (h:ChainOk c):Chain.Small c:=by
 have z:=h.sizes
 refine ⟨ZHF h.base,⟨⟨by have:=z.mb; omega,trivial⟩,trivial⟩,⟨by have:=z.nd; omega,fun r hr=>?_⟩,⟨by have:=z.up; omega,trivial⟩,(ZIm (fun m hm=>(h.bagv m hm).1) (by have:=z.bg; omega)).1,⟨by have:=z.an; omega,fun a ha=>?_⟩,trivial⟩
 ·obtain ⟨z1,z2⟩:=z.ns r hr
  exact ⟨⟨⟨by omega,trivial⟩,trivial⟩,ZGj (ZIf (h.node r hr).1).1,trivial⟩
 ·have:=h.ansv a ha
  simp only[ZFb,Bool.and_eq_true] at this
  exact ⟨ZGM this.1,trivial⟩
theorem XOk.small {x:Cluster} (h:XOk x):Cluster.Small x:=by
 refine ⟨⟨by have:=h.s8; omega,fun s hs=>⟨(h.sh s hs).1.small,trivial⟩⟩,⟨by have:=h.cn; omega,fun c hc=>?_⟩,⟨by have:=h.rn; omega,fun r hr=>?_⟩,?_,trivial⟩
 ·have hv:=h.cl c hc
  obtain ⟨g1,g2,g3⟩:=ZHj hv
  have g4:=(ZF2 _).1 g1
  have g5:=ZGZ (by simp only[Z8,Bool.and_eq_true] at g1; exact g1.1)
  refine ⟨⟨by omega,fun q hq=>⟨ZF6 (g4.span q hq),trivial⟩⟩,?_,trivial⟩
  cases hb:c.busy
  ·simp only[ZK,hb,Bool.false_eq_true,if_false,ZGd,Bool.and_eq_true,decide_eq_true_eq] at hv
   exact ⟨ZGp (.inl hv.2.1.1.1.2),trivial⟩
  ·have:=(g3 hb).2.1
   simp only[Z9,Bool.and_eq_true] at this
   exact ZFO this.1
 ·have:=h.rs r hr
  simp only[ZN,Z9,Bool.and_eq_true] at this
  exact ⟨ZFO this.1.1.1.1.2.1,trivial⟩
 ·have hw:=h.wk
  refine ⟨ZGp ?_,trivial⟩
  simp only[ZGs,ZHD,Z6,Bool.and_eq_true,Bool.or_eq_true,decide_eq_true_eq] at hw
  rcases hw with hw|hw
  ·exact .inl hw.1.1.1.2
  ·rcases hw.1.1.2 with (h4|h4)|h4
   ·exact .inr h4.1.1.1.1.2
   ·exact .inl h4.1.1.1.2
   ·exact .inl h4.2
def mems (v s k:Nat):List Int:=(List.range k).map fun i=>(((v+i*s) % 5:Nat):Int)
theorem ZIt (v s k:Nat):mems v s (k+1)=mems v s k++[(((v+k*s) % 5:Nat):Int)]:=by simp [mems,List.range_succ]
theorem ZFh (v s k:Nat):(mems v s k).length=k:=by simp [mems]
theorem ZHr (v s:Nat) {j k:Nat} (h:j≤k):(mems v s k).take j=mems v s j:=by
 simp only[mems,←List.map_take,List.take_range,Nat.min_eq_left h]
theorem ZIG:∀ v,v<5→∀ s,s<5→∀ k,k<5→1≤s→((mems v s k).all (fun y=>inR y 0 4)=true∧(mems v s k).Nodup):=by decide
def Mems (l:List Int):Prop:=∃ v s k,v<5∧1≤s∧s<5∧1≤k∧k<5∧l=mems v s k
theorem Mems.valid {l:List Int} (h:Mems l):ZF ⟨1,l,false⟩=true:=by
 obtain ⟨v,s,k,h1,h2,h3,h4,h5,rfl⟩:=h
 obtain ⟨g1,g2⟩:=ZIG v h1 s h3 k h5 h2
 rw [ZFY]
 refine ⟨by simp,by simp,by simp only[ZFh]; omega,by simp only[ZFh]; omega,fun e=>(by cases e),fun y hy=>List.all_eq_true.1 g1 y hy,g2⟩
set_option maxHeartbeats 1000000 in
theorem ZHg {bs:List Int} (hb:ZFk bs) (p:Nat) (hp:p≤1000000):Gd bs p 5 (fun r m=>m=[]∧∃ l,r=[L 1 (l.map iU)]∧Mems l) (EE F 111 [RP0,I 0] [rd bs p]):=by
 refine Gd.run (fn:=i111) (by kernel_rfl) rfl ?_
 simp only[i111,b111,Zdi,Zcu]
 obtain ⟨v,hv,hvl⟩:=ZA hb p 5 (by omega) (by omega)
 obtain ⟨s,hs,hsl⟩:=ZA hb (p+1) 4 (by omega) (by omega)
 obtain ⟨k,hk,hkl⟩:=ZA hb (p+1+1) 4 (by omega) (by omega)
 obtain ⟨b,q,hod,hq1,hq2,hb0⟩:=ZFV hb (p+1+1+1) 0 (by omega) (by omega)
 obtain rfl:=hb0 (by omega)
 have ws:IntKind.i64.wrap (1 + (s:Int))=((s+1:Nat):Int):=by rw [w64 (by omega) (by omega)]; omega
 have wk:IntKind.i64.wrap (1 + (k:Int))=((k+1:Nat):Int):=by rw [w64 (by omega) (by omega)]; omega
 have n50:¬(5:Int)=0:=by omega
 simp only[↓xP,xT,rL,rB,rA,rS,rdx,hv,hs,hk,ws,wk]
 refine ZFt (fun (i:Nat) st=>i≤k+1∧st.s 0=.t RP0∧st.s 1=DI 0∧st.o (.par 0)=some (rd bs (p+1+1+1))∧st.s 5=.t (.sc (.own (.loc 9 0) i))∧st.o (.loc 9 0)=some (.row 1 ((mems v (s+1) i).map iU))∧st.s 6=DI (((v+i * (s+1)) % 5:Nat):Int)∧st.s 7=DI ((s+1:Nat):Int)∧st.s 8=DI ((k+1 - i:Nat):Int)) (fun i=>k+1 - i) ?_ 0 ⟨by omega,rfl,rfl,rfl,rfl,rfl,?_,rfl,?_⟩
 ·rintro i st ⟨hle,h0,h1,hr,h5,o5,h6,h7,h8⟩ ih
  by_cases hi:i<k+1
  ·have c1:((k+1 - i:Nat):Int) > 0:=by omega
   have w1:IntKind.i64.wrap ((((v+i * (s+1)) % 5:Nat):Int) + ((s+1:Nat):Int))=(((v+i * (s+1)) % 5 + (s+1):Nat):Int):=by rw [w64 (by omega) (by omega)]; omega
   have w2:((((v+i * (s+1)) % 5 + (s+1):Nat):Int)).tmod 5=(((v + (i+1) * (s+1)) % 5:Nat):Int):=by
    have e:(((v+i * (s+1)) % 5 + (s+1):Nat):Int).tmod 5=((((v+i * (s+1)) % 5 + (s+1)) % 5:Nat):Int):=rfl
    rw [e]
    congr 1
    rw [Nat.mod_add_mod]
    congr 1
    rw [Nat.add_mul]
    omega
   have w3:IntKind.i64.wrap (((k+1 - i:Nat):Int) - 1)=((k+1 - (i+1):Nat):Int):=by rw [w64 (by omega) (by omega)]; omega
   have q1:i+1≤maxLen∧(i+1)*8≤140737488355328:=ZL (by omega) (by omega)
   simp only[↓xP,xT,rL,rB,rA,rS,rdx,h0,h1,hr,h5,o5,h6,h7,h8,c1,w1,w2,w3,n50,List.length_map,ZFh,q1.1,q1.2]
   exact ih (i+1) _ (by omega) ⟨by omega,(by and_intros<;>first|omega|rfl|(simp only[↓xP,xT,rL,rB,rA,rS,rdx,h0,h1,hr,h5,o5,h6,h7,h8,ZIt,List.map_append,List.map_cons,List.map_nil,iU]<;>first|done|rfl|omega))⟩
  ·have hi:i=k+1:=by omega
   subst hi
   have c1:¬((k+1 - (k+1):Nat):Int) > 0:=by omega
   have htk:∀ l:List U,True:=fun _=>trivial
   have hl:=ZFh v (s+1) (k+1)
   have hm:List.take (k+1) (List.map iU (mems v (s+1) (k+1)))=List.map iU (mems v (s+1) (k+1)):=List.take_of_length_le (by simp [ZFh])
   simp only[↓xP,xT,rL,rB,rA,rS,rdx,h0,h1,hr,h5,o5,h6,h7,h8,c1,hod,List.length_map,ZFh,hm,Nat.le_refl]
   exact ⟨_,_,q,rfl,by omega,by omega,rfl,_,rfl,v,s+1,k+1,by omega,by omega,by omega,by omega,by omega,rfl⟩
 ·simp only[↓xP,xT,rL,rB,rA,rS,rdx]
  congr 4
  have:v<5:=by omega
  simp [Nat.mod_eq_of_lt this]
 ·simp only[↓xP,xT,rL,rB,rA,rS,rdx]; rfl
theorem ZIs {bs:List Int} (hb:ZFk bs) (p:Nat) (hp:p≤1000000):Gd bs p 8 (fun r m=>m=[]∧∃ l,r=[L 1 (l.map iU)]∧Mems l) (EE F 63 [RP0] [rd bs p]):=by
 refine Gd.run (fn:=i63) (by kernel_rfl) rfl ?_
 simp only[i63,b63,Zdi,Zcu]
 obtain ⟨r1,n1,q1,h1,hq1,hq1',rfl,l,rfl,v,s,k,hv,hs1,hs,hk1,hk,rfl⟩:=ZHg hb p (by omega)
 obtain ⟨a,ha,hal⟩:=ZA hb q1 2 (by omega) (by omega)
 obtain ⟨c,hc,hcl⟩:=ZA hb (q1+1) 2 (by omega) (by omega)
 have fin:∀ (j q:Nat),1≤j→j≤k→p≤q→q≤p+8→Gd bs p 8 (fun r m=>m=[]∧∃ l,r=[L 1 (l.map iU)]∧Mems l) (some ⟨[L 1 ((mems v s j).map iU)],[],[rd bs q]⟩):=fun j q h1 h2 h3 h4=>⟨_,_,q,rfl,h3,h4,rfl,_,rfl,v,s,j,hv,hs1,hs,h1,by omega,rfl⟩
 have wa:IntKind.i64.wrap (1 + (a:Int))=((a+1:Nat):Int):=by rw [w64 (by omega) (by omega)]; omega
 have wc:IntKind.i64.wrap (1 + (c:Int))=((c+1:Nat):Int):=by rw [w64 (by omega) (by omega)]; omega
 by_cases h3:3<k
 ·have h3':(k:Int) > 3:=by omega
  have hct:vcut k none (some (DI ((a+1:Nat):Int)))=some (0,a+1):=ZHx (by omega)
  simp only[↓xP,xT,rL,rB,rA,rS,rdx,rdx2,h1,h3',ha,wa,hct,List.length_map,ZFh,List.drop_zero,←List.map_take,ZHr v s (show a+1≤k by omega)]
  exact fin (a+1) (q1+1) (by omega) (by omega) (by omega) (by omega)
 ·have h3':¬(k:Int) > 3:=by omega
  by_cases h2:1<k
  ·have h2':(k:Int) > 1:=by omega
   by_cases h0:(a:Int)=0
   ·have hct:vcut k none (some (DI ((c+1:Nat):Int)))=some (0,c+1):=ZHx (by omega)
    simp only[↓xP,xT,rL,rB,rA,rS,rdx,rdx2,h1,h3',h2',ha,h0,hc,wc,hct,List.length_map,ZFh,List.drop_zero,←List.map_take,ZHr v s (show c+1≤k by omega)]
    exact fin (c+1) (q1+1+1) (by omega) (by omega) (by omega) (by omega)
   ·simp only[↓xP,xT,rL,rB,rA,rS,rdx,rdx2,h1,h3',h2',ha,h0,List.length_map,ZFh]
    exact fin k (q1+1) (by omega) (by omega) (by omega) (by omega)
  ·have h2':¬(k:Int) > 1:=by omega
   simp only[↓xP,xT,rL,rB,rA,rS,rdx,rdx2,h1,h3',h2',List.length_map,ZFh]
   exact fin k q1 (by omega) (by omega) (by omega) (by omega)
theorem ZHL (l:List Route) (key:Str) (hc:Z8 l=true) (hk:ZJ key=true):EE F 150 [L 3 (l.map Route.u),S key] []=ok1 (I (ZFf key l)):=by
 have hl:=ZGZ (by simp only[Z8,Bool.and_eq_true] at hc; exact hc.1)
 have hsp:=((ZF2 l).1 hc).span
 rw [R150,b150]
 have hv:=ZFW l (by omega)
 rw [hc] at hv
 simp only[↓xP,xT,rL,rB,rA,rS,hv]
 refine (Zji (fun (i:Nat) st=>i≤l.length∧st.s 0=.t (L 3 (l.map Route.u))∧st.s 1=.t (S key)∧st.s 5=DI i) (fun i=>l.length - i) (fun i=>ok1 (I (ZFf key (l.drop i)))) ?_ 0 ⟨by omega,(by and_intros<;>first|omega|rfl|(simp only[↓xP,xT,rL,rB,rA,rS]<;>first|done|rfl|omega))⟩).trans (by rw [List.drop_zero])
 rintro i st ⟨hle,h0,h1,h5⟩ ih
 by_cases hi:i<l.length
 ·obtain ⟨⟨n,⟨lo,up⟩⟩,hx⟩:∃ x,l[i]?=some x:=⟨_,List.getElem?_eq_getElem hi⟩
  have hw:=w_succ (i:=i) (by omega)
  have hd:l.drop i=⟨n,⟨lo,up⟩⟩::l.drop (i+1):=by rw [List.drop_eq_getElem_cons hi,(List.getElem?_eq_some_iff.1 hx).2]
  have hih:=ZFs lo up key
  have hiv:=hsp _ (List.mem_of_getElem? hx)
  simp only[ZFn,hiv,hk,Bool.true_and] at hih
  rw [hd]
  cases hin:ZFB ⟨lo,up⟩ key
  ·rw [hin] at hih
   simp only[↓xP,xT,rL,rB,rA,rS,h0,h1,h5,hi,hx,hw,hih,Route.u,List.length_map,ZFf,hin,Bool.false_eq_true,if_false]
   exact ih (i+1) _ (by omega) ⟨by omega,(by and_intros<;>first|omega|rfl|(simp only[↓xP,xT,rL,rB,rA,rS,h0,h1,h5,hw]<;>first|done|rfl|omega))⟩
  ·rw [hin] at hih
   simp only[↓xP,xT,rL,rB,rA,rS,h0,h1,h5,hi,hx,hw,hih,Route.u,List.length_map,ZFf,hin,if_true]
 ·simp only[↓xP,xT,rL,rB,rA,rS,h0,h1,h5,hi,List.length_map,List.drop_of_length_le (show l.length≤i by omega),ZFf]
theorem ZIx (l:List Route) (key:Str) (hr:ZG l=true) (hk:ZJ key=true):EE F 151 [L 3 (l.map Route.u),S key] []=ok1 (I (ZFf key l)):=by
 have hr2:=hr
 simp only[ZG,Bool.and_eq_true,decide_eq_true_eq] at hr2
 have hl:=hr2.1.1
 have hsp:∀ q,q∈l→ZB q.span=true:=fun q hq=>ZIv hr2.1.2 _ (List.mem_map_of_mem hq)
 rw [R151,b151]
 have hv:=ZFR l (by omega)
 have hkv:=Z3 key
 rw [hr] at hv
 rw [hk] at hkv
 simp only[↓xP,xT,rL,rB,rA,rS,hv,hkv]
 refine (Zji (fun (i:Nat) st=>i≤l.length∧st.s 0=.t (L 3 (l.map Route.u))∧st.s 1=.t (S key)∧st.s 5=DI i) (fun i=>l.length - i) (fun i=>ok1 (I (ZFf key (l.drop i)))) ?_ 0 ⟨by omega,(by and_intros<;>first|omega|rfl|(simp only[↓xP,xT,rL,rB,rA,rS]<;>first|done|rfl|omega))⟩).trans (by rw [List.drop_zero])
 rintro i st ⟨hle,h0,h1,h5⟩ ih
 by_cases hi:i<l.length
 ·obtain ⟨⟨n,⟨lo,up⟩⟩,hx⟩:∃ x,l[i]?=some x:=⟨_,List.getElem?_eq_getElem hi⟩
  have hw:=w_succ (i:=i) (by omega)
  have hd:l.drop i=⟨n,⟨lo,up⟩⟩::l.drop (i+1):=by rw [List.drop_eq_getElem_cons hi,(List.getElem?_eq_some_iff.1 hx).2]
  have hih:=ZFs lo up key
  have hiv:=hsp _ (List.mem_of_getElem? hx)
  simp only[ZFn,hiv,hk,Bool.true_and] at hih
  rw [hd]
  cases hin:ZFB ⟨lo,up⟩ key
  ·rw [hin] at hih
   simp only[↓xP,xT,rL,rB,rA,rS,h0,h1,h5,hi,hx,hw,hih,Route.u,List.length_map,ZFf,hin,Bool.false_eq_true,if_false]
   exact ih (i+1) _ (by omega) ⟨by omega,(by and_intros<;>first|omega|rfl|(simp only[↓xP,xT,rL,rB,rA,rS,h0,h1,h5,hw]<;>first|done|rfl|omega))⟩
  ·rw [hin] at hih
   simp only[↓xP,xT,rL,rB,rA,rS,h0,h1,h5,hi,hx,hw,hih,Route.u,List.length_map,ZFf,hin,if_true]
 ·simp only[↓xP,xT,rL,rB,rA,rS,h0,h1,h5,hi,List.length_map,List.drop_of_length_le (show l.length≤i by omega),ZFf]
theorem ZH5 (c0 c1:Str) (hv:ZB ⟨c0,c1⟩=true):EE F 109 [.ag [.u (.str c0),.u (.str c1)]] []=some ⟨[.ag [.u (.str c0),.u (.str c1),.u (.sl 2 []),.u (.sl 3 []),.u (.bool false),.u (.str [])]],[],[]⟩:=by
 rw [R109,b109]
 have h1:=ZV c0 c1
 rw [hv] at h1
 simp only[↓xP,xT,rL,rB,rA,rS,h1]
theorem ZF9 {s:State} {ms:List Int} (hs:ZS s=true) (hm:ZF ⟨1,ms,false⟩=true):ZE s ms=⟨s,⟨1,ms,false⟩,(List.range 5).map (ZM ⟨1,ms,false⟩),[true,true,true,true,true],[],[]⟩∧ChainOk (ZE s ms):=by
 have e:ZE s ms=⟨s,⟨1,ms,false⟩,(List.range 5).map (ZM ⟨1,ms,false⟩),[true,true,true,true,true],[],[]⟩:=by
  unfold ZE; rw [if_pos (by simp [hs,hm])]
 refine ⟨e,?_⟩
 rw [e]
 refine ⟨hs,hm,by simp,rfl,by simp,fun m hm=>(by cases hm),fun r hr=>?_,by simp,fun a ha=>(by cases ha)⟩
 obtain ⟨k,_,rfl⟩:=List.mem_map.1 hr
 unfold ZM
 split
 ·exact ⟨ZIV hm rfl (.inl rfl),by simp⟩
 ·exact ⟨rfl,by simp [zRep,zCfg]⟩
set_option maxHeartbeats 1000000 in
theorem ZH4 (c0 c1:Str) (c2:(List Pair)) (c3:(List Session)) (c4:Bool) (c5:Str) (ms:List Int) (hs:ZS ⟨⟨c0,c1⟩,c2,c3,c4,c5⟩=true) (hm:ZF ⟨1,ms,false⟩=true):EE F 108 [.ag [.u (.str c0),.u (.str c1),.u (.sl 2 (c2.map Pair.u)),.u (.sl 3 (c3.map Session.u)),.u (.bool c4),.u (.str c5)],L 1 (ms.map iU)] []=some ⟨[.ag [.u (.str (ZE ⟨⟨c0,c1⟩,c2,c3,c4,c5⟩ ms).base.span.low),.u (.str (ZE ⟨⟨c0,c1⟩,c2,c3,c4,c5⟩ ms).base.span.high),.u (.sl 2 ((ZE ⟨⟨c0,c1⟩,c2,c3,c4,c5⟩ ms).base.pairs.map Pair.u)),.u (.sl 3 ((ZE ⟨⟨c0,c1⟩,c2,c3,c4,c5⟩ ms).base.known.map Session.u)),.u (.bool (ZE ⟨⟨c0,c1⟩,c2,c3,c4,c5⟩ ms).base.sealed),.u (.str (ZE ⟨⟨c0,c1⟩,c2,c3,c4,c5⟩ ms).base.cut),.u (.int .i64 (ZE ⟨⟨c0,c1⟩,c2,c3,c4,c5⟩ ms).conf.epoch),.u (.sl 1 ((ZE ⟨⟨c0,c1⟩,c2,c3,c4,c5⟩ ms).conf.members.map iU)),.u (.bool (ZE ⟨⟨c0,c1⟩,c2,c3,c4,c5⟩ ms).conf.fresh),.u (.sl 5 ((ZE ⟨⟨c0,c1⟩,c2,c3,c4,c5⟩ ms).nodes.map Replica.u)),.u (.sl 1 ((ZE ⟨⟨c0,c1⟩,c2,c3,c4,c5⟩ ms).up.map bU)),.u (.sl 7 ((ZE ⟨⟨c0,c1⟩,c2,c3,c4,c5⟩ ms).bag.map Message.u)),.u (.sl 7 ((ZE ⟨⟨c0,c1⟩,c2,c3,c4,c5⟩ ms).answers.map Answer.u))]],[],[]⟩:=by
 rw [(ZF9 hs hm).1]
 rw [R108,b108]
 have h1:=ZF0 c0 c1 c2 c3 c4 c5 (by have:=ZGf (ZFA hs).2.2; dsimp only at this; omega)
 have hl:=(ZO hm).2
 dsimp only at hl
 have h2:=ZFd 1 ms false (by omega)
 rw [hs] at h1
 rw [hm] at h2
 have h3:=ZIp c0 c1 c2 c3 c4 c5 (by have:=ZG7 (ZFA hs).2.1; dsimp only at this; omega) (by have:=ZGf (ZFA hs).2.2; dsimp only at this; omega)
 have h4:=ZIq 1 ms false (by omega)
 have h5:=fun x=>ZHP 1 ms false x (by omega)
 have q1:ms.length≤maxLen∧ms.length*8≤140737488355328:=ZL (by omega) (by omega)
 have hc11:∀ l:List U,True:=fun _=>trivial
 simp only[↓xP,xT,rL,rB,rA,rS,rdx2,h1,h2,h3,q1.1,q1.2,Nat.zero_add,List.nil_append,List.length_map,ZFS]
 refine Zji (fun (i:Nat) st=>i≤5∧st.s 4=.t (.sc (.ptr (.loc 4 0) 0 0))∧st.o (.loc 4 0)=some (.box [.u (.str []),.u (.str []),.u (.sl 2 []),.u (.sl 3 []),.u (.bool false),.u (.str []),.u (.int .i64 0),.u (.sl 1 []),.u (.bool false),.u (.sl 5 []),.u (.sl 1 []),.u (.sl 7 []),.u (.sl 7 [])])∧
  st.s 5=.t (.sc (.ptr (.loc 5 0) 0 0))∧st.o (.loc 5 0)=some (.box [.u (.int .i64 1),.u (.sl 1 (ms.map iU)),.u (.bool false)])∧
  st.s 6=.t (.sc (.ptr (.loc 6 0) 0 0))∧st.o (.loc 6 0)=some (.box [.u (.str c0),.u (.str c1),.u (.sl 2 (c2.map Pair.u)),.u (.sl 3 (c3.map Session.u)),.u (.bool c4),.u (.str c5),.u (.int .i64 1),.u (.sl 1 (ms.map iU)),.u (.bool false),ndC 42 i,ndC 47 i,.u (.sl 7 []),.u (.sl 7 [])])∧
  ndO st 42 5 (((List.range i).map (ZM ⟨1,ms,false⟩)).map Replica.u) i∧ndO st 47 1 ((List.replicate i true).map bU) i∧st.s 7=DI i) (fun i=>5 - i) (fun _=>some ⟨[.ag [.u (.str (⟨⟨⟨c0,c1⟩,c2,c3,c4,c5⟩,⟨1,ms,false⟩,(List.range 5).map (ZM ⟨1,ms,false⟩),[true,true,true,true,true],[],[]⟩:Chain).base.span.low),.u (.str (⟨⟨⟨c0,c1⟩,c2,c3,c4,c5⟩,⟨1,ms,false⟩,(List.range 5).map (ZM ⟨1,ms,false⟩),[true,true,true,true,true],[],[]⟩:Chain).base.span.high),.u (.sl 2 ((⟨⟨⟨c0,c1⟩,c2,c3,c4,c5⟩,⟨1,ms,false⟩,(List.range 5).map (ZM ⟨1,ms,false⟩),[true,true,true,true,true],[],[]⟩:Chain).base.pairs.map Pair.u)),.u (.sl 3 ((⟨⟨⟨c0,c1⟩,c2,c3,c4,c5⟩,⟨1,ms,false⟩,(List.range 5).map (ZM ⟨1,ms,false⟩),[true,true,true,true,true],[],[]⟩:Chain).base.known.map Session.u)),.u (.bool (⟨⟨⟨c0,c1⟩,c2,c3,c4,c5⟩,⟨1,ms,false⟩,(List.range 5).map (ZM ⟨1,ms,false⟩),[true,true,true,true,true],[],[]⟩:Chain).base.sealed),.u (.str (⟨⟨⟨c0,c1⟩,c2,c3,c4,c5⟩,⟨1,ms,false⟩,(List.range 5).map (ZM ⟨1,ms,false⟩),[true,true,true,true,true],[],[]⟩:Chain).base.cut),.u (.int .i64 (⟨⟨⟨c0,c1⟩,c2,c3,c4,c5⟩,⟨1,ms,false⟩,(List.range 5).map (ZM ⟨1,ms,false⟩),[true,true,true,true,true],[],[]⟩:Chain).conf.epoch),.u (.sl 1 ((⟨⟨⟨c0,c1⟩,c2,c3,c4,c5⟩,⟨1,ms,false⟩,(List.range 5).map (ZM ⟨1,ms,false⟩),[true,true,true,true,true],[],[]⟩:Chain).conf.members.map iU)),.u (.bool (⟨⟨⟨c0,c1⟩,c2,c3,c4,c5⟩,⟨1,ms,false⟩,(List.range 5).map (ZM ⟨1,ms,false⟩),[true,true,true,true,true],[],[]⟩:Chain).conf.fresh),.u (.sl 5 ((⟨⟨⟨c0,c1⟩,c2,c3,c4,c5⟩,⟨1,ms,false⟩,(List.range 5).map (ZM ⟨1,ms,false⟩),[true,true,true,true,true],[],[]⟩:Chain).nodes.map Replica.u)),.u (.sl 1 ((⟨⟨⟨c0,c1⟩,c2,c3,c4,c5⟩,⟨1,ms,false⟩,(List.range 5).map (ZM ⟨1,ms,false⟩),[true,true,true,true,true],[],[]⟩:Chain).up.map bU)),.u (.sl 7 ((⟨⟨⟨c0,c1⟩,c2,c3,c4,c5⟩,⟨1,ms,false⟩,(List.range 5).map (ZM ⟨1,ms,false⟩),[true,true,true,true,true],[],[]⟩:Chain).bag.map Message.u)),.u (.sl 7 ((⟨⟨⟨c0,c1⟩,c2,c3,c4,c5⟩,⟨1,ms,false⟩,(List.range 5).map (ZM ⟨1,ms,false⟩),[true,true,true,true,true],[],[]⟩:Chain).answers.map Answer.u))]],[],[]⟩) ?_ 0 ⟨by omega,(by and_intros<;>first|omega|rfl|(simp only[↓xP,xT,rL,rB,rA,rS,ndC,ndO]<;>first|done|rfl|omega))⟩
 rintro i st ⟨hle,h4',o4,h5',o5,h6,o6,hn,hu,h7⟩ ih
 by_cases hi:i<5
 ·have hi':(i:Int)<5:=by omega
  have hw:=w_succ (i:=i) (by omega)
  have hr1:(List.range (i+1)).map (ZM ⟨1,ms,false⟩)=(List.range i).map (ZM ⟨1,ms,false⟩)++[ZM ⟨1,ms,false⟩ i]:=by simp [List.range_succ]
  have hr2:List.replicate (i+1) true=List.replicate i true++[true]:=by simp [List.replicate_succ']
  have q2:i+1≤maxLen∧(i+1)*72≤140737488355328:=ZL (by omega) (by omega)
  have q3:i+1≤maxLen∧(i+1)*1≤140737488355328:=ZL (by omega) (by omega)
  have q4:1≤maxLen∧1*72≤140737488355328∧1*1≤140737488355328:=⟨(ZL (n:=1) (k:=1) (by omega) (by omega)).1,by omega,by omega⟩
  have hix:=h5 (i:Int)
  by_cases hm:(i:Int)∈ms
  all_goals
   first|obtain ⟨j1,j2⟩:=ZID hm|obtain ⟨j1,j2⟩:=ZId hm
   have hnn:Replica.u (ZM ⟨1,ms,false⟩ i)=if (i:Int)∈ms then [.int .i64 1,.sl 1 (ms.map iU),.bool false,.bool true,.sl 6 []] else [.int .i64 0,.sl 1 [],.bool false,.bool false,.sl 6 []]:=by
    unfold ZM; split<;>rfl
   have hge:(idxI ms (i:Int)≥0)=((i:Int)∈ms):=by
    apply propext
    constructor
    ·intro h; exact Classical.byContradiction fun h2=>by have:=(ZId h2).2; omega
    ·intro h; have:=(ZID h).2; omega
   simp only[hm,if_true,if_false] at hnn hge
   cases i with
   | zero=>
    simp only[ndC] at o6
    simp only[↓xP,xT,rL,rB,rA,rS,rdx2,h4',o4,h5',o5,h6,o6,h7,hi',hix,hge,h4,hw,q4.1,q4.2.1,q4.2.2,List.length_map,ZFS]
    exact ih 1 _ (by omega) ⟨by omega,(by and_intros<;>first|omega|rfl|(simp only[↓xP,xT,rL,rB,rA,rS,rdx2,h4',o4,h5',o5,h6,o6,h7,hw,ndC,ndO,hr1,hr2,hnn,bU,List.range_zero,List.map_nil,List.nil_append,List.map_cons,List.replicate_zero,List.map_append]<;>first|done|rfl|omega))⟩
   | succ i=>
    simp only[ndC] at o6
    simp only[ndO] at hn hu
    simp only[↓xP,xT,rL,rB,rA,rS,rdx2,h4',o4,h5',o5,h6,o6,hn,hu,h7,hi',hix,hge,h4,hw,q2.1,q2.2,q3.1,q3.2,List.length_map,List.length_range,List.length_replicate,ZFS]
    exact ih (i+2) _ (by omega) ⟨by omega,(by and_intros<;>first|omega|rfl|(simp only[↓xP,xT,rL,rB,rA,rS,rdx2,h4',o4,h5',o5,h6,o6,hn,hu,h7,hw,ndC,ndO,hr1,hr2,hnn,bU,List.map_nil,List.nil_append,List.map_cons,List.map_append,List.length_map,List.length_range,List.length_replicate]<;>first|done|rfl|omega))⟩
 ·have:i=5:=by omega
  subst this
  have hi':¬((5:Nat):Int)<5:=by omega
  have ho1:st.o (.loc 42 0)=some (.row 5 (((List.range 5).map (ZM ⟨1,ms,false⟩)).map Replica.u)):=hn
  have ho2:st.o (.loc 47 0)=some (.row 1 ((List.replicate 5 true).map bU)):=hu
  have hl5:((List.range 5).map (ZM ⟨1,ms,false⟩)).length=5:=by simp
  have ht5:List.take 5 (List.map Replica.u ((List.range 5).map (ZM ⟨1,ms,false⟩)))=List.map Replica.u ((List.range 5).map (ZM ⟨1,ms,false⟩)):=List.take_of_length_le (by simp)
  have hb5:List.take 5 (List.map bU (List.replicate 5 true))=List.map bU [true,true,true,true,true]:=rfl
  simp only[ndC] at o6
  generalize (List.range 5).map (ZM ⟨1,ms,false⟩)=nds at *
  simp only[↓xP,xT,rL,rB,rA,rS,rdx2,h4',o4,h5',o5,h6,o6,ho1,ho2,h7,hi',hl5,ht5,hb5,List.length_map,List.length_replicate,List.map_nil,Nat.le_refl,ZFS]
/-- The cluster that begins with a chain of all keys. -/
def ZC (ms:List Int):Cluster:=⟨[⟨true,ZE zState ms⟩],[ZGh,ZGh,ZGh,ZGh],[],ZIj,0,0⟩
theorem ZHh {ms:List Int} (hm:ZF ⟨1,ms,false⟩=true):XOk (ZC ms):=by
 obtain ⟨e,hc⟩:=ZF9 ZGL hm
 refine ⟨by simp [ZC],by simp [ZC],rfl,by simp [ZC],fun s hs=>?_,fun c hc=>?_,fun r hr=>(by cases hr),rfl,?_,rfl,rfl,rfl⟩
 ·simp [ZC] at hs
  subst hs
  exact ⟨hc,rfl⟩
 ·simp [ZC] at hc
  subst hc
  exact ZIa
 ·have hr:ZD (ZC ms).shards=[⟨0,ZHa⟩]:=by
   have hb:(ZE zState ms).base=zState:=by rw [e]
   unfold ZC ZD
   simp only[Z4,if_true,hb,ZFp,List.foldl,insL,List.takeWhile_nil,List.dropWhile_nil,List.nil_append]
   rfl
  rw [hr]
  have h1:ZI (ZFo [⟨0,ZHa⟩])=true:=by
   simp [ZI,ZFo,ZHa,ZB,ZFw]
  have h2:Z5 [⟨0,ZHa⟩]=true:=by
   unfold Z5
   rw [ZFH (by simp),ZFw (by simp)]
   rfl
  simp [ZG,h1,h2]
theorem ZI0 (E:Zb) (st:St) (d:Nat) (zero:List U):fx E st (.mk d (ki 4) (ki 4) zero 88)=sel (st.dead d 1) (some ⟨some d,.t (.sc (.own (.loc d 0) 4)),[(.loc d 0,.row zero.length [zero,zero,zero,zero])],[]⟩) none:=by
 simp only[fx,St.get,D.int?,sel]
 rfl
theorem ZHC (ms:List Int) (hm:ZF ⟨1,ms,false⟩=true):EE F 62 [L 1 (ms.map iU)] []=some ⟨[.ag [.u (.sl 14 ((ZC ms).shards.map Shard.u)),.u (.sl 8 ((ZC ms).clients.map Caller.u)),.u (.sl 9 ((ZC ms).results.map Result.u)),.u (.int .i64 (ZC ms).work.kind),.u (.int .i64 (ZC ms).work.first),.u (.int .i64 (ZC ms).work.second),.u (.str (ZC ms).work.key),.u (.int .i64 (ZC ms).work.from_),.u (.int .i64 (ZC ms).work.to_),.u (.int .i64 (ZC ms).work.step),.u (.int .i64 (ZC ms).turn),.u (.int .i64 (ZC ms).clock)]],[],[]⟩:=by
 obtain ⟨e,hc⟩:=ZF9 ZGL hm
 rw [R62,b62]
 have h1:=ZH5 [] [] rfl
 have h2:=ZH4 [] [] [] [] false [] ms ZGL hm
 have h2:EE F 108 [.ag [.u (.str zState.span.low),.u (.str zState.span.high),.u (.sl 2 (zState.pairs.map Pair.u)),.u (.sl 3 (zState.known.map Session.u)),.u (.bool zState.sealed),.u (.str zState.cut)],L 1 (ms.map iU)] []=some ⟨[.ag [.u (.str (ZE zState ms).base.span.low),.u (.str (ZE zState ms).base.span.high),.u (.sl 2 ((ZE zState ms).base.pairs.map Pair.u)),.u (.sl 3 ((ZE zState ms).base.known.map Session.u)),.u (.bool (ZE zState ms).base.sealed),.u (.str (ZE zState ms).base.cut),.u (.int .i64 (ZE zState ms).conf.epoch),.u (.sl 1 ((ZE zState ms).conf.members.map iU)),.u (.bool (ZE zState ms).conf.fresh),.u (.sl 5 ((ZE zState ms).nodes.map Replica.u)),.u (.sl 1 ((ZE zState ms).up.map bU)),.u (.sl 7 ((ZE zState ms).bag.map Message.u)),.u (.sl 7 ((ZE zState ms).answers.map Answer.u))]],[],[]⟩:=h2
 simp only[zState,ZHa,List.map_nil] at h2
 obtain ⟨c,hcc⟩:∃ c,c=ZE zState ms:=⟨_,rfl⟩
 have h3:=ZFX c.base.span.low c.base.span.high c.base.pairs c.base.known c.base.sealed c.base.cut c.conf.epoch c.conf.members c.conf.fresh c.nodes c.up c.bag c.answers (by rw [hcc]; exact hc.small)
 have hv:ZQ c=true:=by rw [hcc]; exact (ZF3 _).2 hc
 rw [show (⟨⟨⟨c.base.span.low,c.base.span.high⟩,c.base.pairs,c.base.known,c.base.sealed,c.base.cut⟩,⟨c.conf.epoch,c.conf.members,c.conf.fresh⟩,c.nodes,c.up,c.bag,c.answers⟩:Chain)=c from rfl,hv] at h3
 have h2':ZE ⟨⟨[],[]⟩,[],[],false,[]⟩ ms=c:=hcc.symm
 simp only[h2'] at h2
 have q1:4≤maxLen∧4*88≤140737488355328:=ZL (by omega) (by omega)
 simp only[↓xP,xT,rL,rB,rA,rS,rdx2,ZGk,ZI0,h1,h2,h3,q1.1,q1.2,List.map_nil,ZC,←hcc,Shard.u,ZIj,List.map_cons]
 rfl
set_option maxHeartbeats 8000000 in
theorem ZGN {bs:List Int} (hb:ZFk bs) (p:Nat) (hp:p≤100000) (c0 c1:Str) (c2:(List Pair)) (c3:(List Session)) (c4:Bool) (c5:Str) (c6:Int) (c7:(List Int)) (c8:Bool) (c9:(List Replica)) (c10:(List Bool)) (c11:(List Message)) (c12:(List Answer)) (seq:Int) (hm1:1≤c7.length) (hm:c7.length≤1000) (hg:c11.length≤1000) :
  Gd bs p 80 (fun r m=>m=[]∧∃ e:Event,r=[.ag [.u (.int .i64 e.kind),.u (.int .i64 e.node),.u (.int .i64 e.place),.u (.int .i64 e.sent.client),.u (.int .i64 e.sent.seq),.u (.int .i64 e.sent.cmd.kind),.u (.str e.sent.cmd.key),.u (.int .i64 e.sent.cmd.value),.u (.int .i64 e.sent.cmd.old)]]) (EE F 138 [RP0,.ag [.u (.str c0),.u (.str c1),.u (.sl 2 (c2.map Pair.u)),.u (.sl 3 (c3.map Session.u)),.u (.bool c4),.u (.str c5),.u (.int .i64 c6),.u (.sl 1 (c7.map iU)),.u (.bool c8),.u (.sl 5 (c9.map Replica.u)),.u (.sl 1 (c10.map bU)),.u (.sl 7 (c11.map Message.u)),.u (.sl 7 (c12.map Answer.u))],I seq] [rd bs p]):=by
 refine Gd.run (fn:=i138) (by kernel_rfl) rfl ?_
 simp only[i138,b138,Zdi,Zcu]
 have fin:∀ (e:Event) (q:Nat),p≤q→q≤p+80→Gd bs p 80 (fun r m=>m=[]∧∃ e:Event,r=[.ag [.u (.int .i64 e.kind),.u (.int .i64 e.node),.u (.int .i64 e.place),.u (.int .i64 e.sent.client),.u (.int .i64 e.sent.seq),.u (.int .i64 e.sent.cmd.kind),.u (.str e.sent.cmd.key),.u (.int .i64 e.sent.cmd.value),.u (.int .i64 e.sent.cmd.old)]]) (some ⟨[.ag [.u (.int .i64 e.kind),.u (.int .i64 e.node),.u (.int .i64 e.place),.u (.int .i64 e.sent.client),.u (.int .i64 e.sent.seq),.u (.int .i64 e.sent.cmd.kind),.u (.str e.sent.cmd.key),.u (.int .i64 e.sent.cmd.value),.u (.int .i64 e.sent.cmd.old)]],[],[rd bs q]⟩):=fun e q h1 h2=>⟨_,_,q,rfl,h1,h2,rfl,e,rfl⟩
 obtain ⟨v,hv,hvl⟩:=ZA hb p (c7.length:Int) (by omega) (by omega)
 obtain ⟨xh,hxh⟩:∃ x,c7[0]?=some x:=⟨_,List.getElem?_eq_getElem (by omega)⟩
 obtain ⟨xl,hxl⟩:∃ x,c7[c7.length - 1]?=some x:=⟨_,List.getElem?_eq_getElem (by omega)⟩
 obtain ⟨xm,hxm⟩:∃ x,c7[v]?=some x:=⟨_,List.getElem?_eq_getElem (by omega)⟩
 have hwl:IntKind.i64.wrap ((c7.length:Int) - 1)=((c7.length - 1:Nat):Int):=by rw [w64 (by omega) (by omega)]; omega
 obtain ⟨a,ha,hal⟩:=ZA hb (p+1) 5 (by omega) (by omega)
 obtain ⟨Q,place,hQ⟩:∃ Q,∃ place:Nat,(c11.length=0∧Q=p+1+1∧place=0)∨(0<c11.length∧EE F 55 [RP0,I (c11.length:Int)] [rd bs (p+1+1)]=some ⟨[I (place:Int)],[],[rd bs (p+1+1+1)]⟩∧Q=p+1+1+1):=by
  by_cases h:c11.length=0
  ·exact ⟨_,_,.inl ⟨h,rfl,rfl⟩⟩
  ·obtain ⟨u,hu,_⟩:=ZA hb (p+1+1) (c11.length:Int) (by omega) (by omega)
   exact ⟨_,u,.inr ⟨by omega,hu,rfl⟩⟩
 have hQ1:p+2≤Q∧Q≤p+3:=by omega
 obtain ⟨k,hk,hkl⟩:=ZA hb Q 3 (by omega) (by omega)
 have wk:IntKind.i64.wrap (1 + (k:Int))=((k+1:Nat):Int):=by rw [w64 (by omega) (by omega)]; omega
 obtain ⟨w,hw,hwl2⟩:=ZA hb (Q+1) 24 (by omega) (by omega)
 obtain ⟨r1,n1,q1,h1,hq1,hq1',rfl,_,rfl,k1,y1,v1,o1,rfl⟩:=ZGE hb (Q+1+1) 0 (by omega) (by omega)
 obtain ⟨r2,n2,q2,h2,hq2,hq2',rfl,_,rfl,k2,y2,v2,o2,rfl⟩:=ZGF hb (Q+1+1) 0 (by omega) (by omega)
 obtain ⟨u,hu,hul⟩:=ZA hb (Q+1+1) 9 (by omega) (by omega)
 have wu:IntKind.i64.wrap (1 + (u:Int))=((u+1:Nat):Int):=by rw [w64 (by omega) (by omega)]; omega
 obtain ⟨r3,n3,q3,h3,hq3,hq3',rfl,_,rfl,k3,y3,v3,o3,rfl⟩:=ZGF hb (Q+1+1+1) 0 (by omega) (by omega)
 rcases hQ with ⟨g0,rfl,rfl⟩|⟨g0,gp,rfl⟩
 ·have g1:¬(c11.length:Int) > 0:=by omega
  simp only[↓xP,xT,rL,rB,rA,rS,rdx,rdx2,hv,hxh,hxl,hxm,hwl,ha,g1,hk,wk,hw,h1,h2,hu,wu,h3,iU,List.length_map]
  repeat' (refine ZHU (fun h=>?_) (fun h=>?_))
  all_goals exact fin ⟨_,_,_,⟨_,_,⟨_,_,_,_⟩⟩⟩ _ (by omega) (by omega)
 ·have g1:(c11.length:Int) > 0:=by omega
  simp only[↓xP,xT,rL,rB,rA,rS,rdx,rdx2,hv,hxh,hxl,hxm,hwl,ha,g1,gp,hk,wk,hw,h1,h2,hu,wu,h3,iU,List.length_map]
  repeat' (refine ZHU (fun h=>?_) (fun h=>?_))
  all_goals exact fin ⟨_,_,_,⟨_,_,⟨_,_,_,_⟩⟩⟩ _ (by omega) (by omega)
/-- Some list of events; some list of deeds. -/
def ZIR (n:Nat) (x:Option Ret):Prop:=∃ l:List Event,x=some ⟨[L 9 (l.map Event.u)],[],[]⟩∧l.length≤n
def ZIQ (n:Nat) (x:Option Ret):Prop:=∃ l:List Deed,x=some ⟨[L 24 (l.map Deed.u)],[],[]⟩∧l.length≤n
set_option maxHeartbeats 4000000 in
theorem ZG3 (c0 c1:Str) (c2:(List Pair)) (c3:(List Session)) (c4:Bool) (c5:Str) (c6:Int) (c7:(List Int)) (c8:Bool) (c9:(List Replica)) (c10:(List Bool)) (c11:(List Message)) (c12:(List Answer)) (many:Int) (hm1:1≤c7.length) (hm:c7.length≤4) (hg:c11.length≤1000):ZIR 20 (EE F 153 [.ag [.u (.str c0),.u (.str c1),.u (.sl 2 (c2.map Pair.u)),.u (.sl 3 (c3.map Session.u)),.u (.bool c4),.u (.str c5),.u (.int .i64 c6),.u (.sl 1 (c7.map iU)),.u (.bool c8),.u (.sl 5 (c9.map Replica.u)),.u (.sl 1 (c10.map bU)),.u (.sl 7 (c11.map Message.u)),.u (.sl 7 (c12.map Answer.u))],I many] []):=by
 rw [R153,b153]
 simp only[↓xP,xT,rL,rB,rA,rS]
 have ev2:∀ (o:List Event) a b a' b' c',o.map Event.u++[[.int .i64 a,.int .i64 b,.int .i64 0,.int .i64 0,.int .i64 0,.int .i64 0,.str [],.int .i64 0,.int .i64 0],[.int .i64 a',.int .i64 b',.int .i64 c',.int .i64 0,.int .i64 0,.int .i64 0,.str [],.int .i64 0,.int .i64 0]]=(o++[(⟨a,b,0,⟨0,0,zCmd⟩⟩:Event),⟨a',b',c',⟨0,0,zCmd⟩⟩]).map Event.u:=fun o a b a' b' c'=>by simp [Event.u,zCmd]
 have ev3:∀ (o:List Event) a b a' b' a'' c'',o.map Event.u++[[.int .i64 a,.int .i64 b,.int .i64 0,.int .i64 0,.int .i64 0,.int .i64 0,.str [],.int .i64 0,.int .i64 0],[.int .i64 a',.int .i64 b',.int .i64 0,.int .i64 0,.int .i64 0,.int .i64 0,.str [],.int .i64 0,.int .i64 0],[.int .i64 a'',.int .i64 0,.int .i64 c'',.int .i64 0,.int .i64 0,.int .i64 0,.str [],.int .i64 0,.int .i64 0]]=(o++[(⟨a,b,0,⟨0,0,zCmd⟩⟩:Event),⟨a',b',0,⟨0,0,zCmd⟩⟩,⟨a'',0,c'',⟨0,0,zCmd⟩⟩]).map Event.u:=fun o a b a' b' a'' c''=>by simp [Event.u,zCmd]
 refine ZFt (fun (a:Nat×List Event×Int) st=>a.1≤c7.length∧a.2.1.length=2*a.1∧st.s 1=DI many∧st.s 5=.t (.sc (.own (.loc 11 0) a.2.1.length))∧st.o (.loc 11 0)=some (.row 9 (a.2.1.map Event.u))∧st.s 6=DU (.sl 1 (c7.map iU))∧st.s 7=DI a.2.2∧st.s 8=DI a.1) (fun a=>c7.length - a.1) ?_ (0,[],_) ⟨by simp,by simp,rfl,rfl,rfl,rfl,rfl,rfl⟩
 rintro ⟨i,o,pl⟩ st ⟨hle,hol,h1,h5,o5,h6,h7,h8⟩ ih
 dsimp only at *
 by_cases hi:i<c7.length∧(i:Int)<many
 ·obtain ⟨hi,hi2⟩:=hi
  obtain ⟨x,hx⟩:∃ x,c7[i]?=some x:=⟨_,List.getElem?_eq_getElem hi⟩
  have hw:=w_succ (i:=i) (by omega)
  have q1:o.length+2≤maxLen∧(o.length+2)*80≤140737488355328:=ZL (by omega) (by omega)
  simp only[↓xP,xT,rL,rB,rA,rS,h1,h5,o5,h6,h7,h8,hi,hi2,hx,hw,iU,List.length_map,q1.1,q1.2,ev2]
  exact ih (i+1,o++[_,_],pl) _ (by dsimp only; omega) ⟨by dsimp only; omega,by simp; omega,(by and_intros<;>first|omega|rfl|(simp only[↓xP,xT,rL,rB,rA,rS,h1,h5,o5,h6,h7,h8,hw,ev2,List.length_append,List.length_cons,List.length_nil]<;>first|done|rfl|omega))⟩
 ·have hcase:¬i<c7.length∨(i<c7.length∧¬(i:Int)<many):=by omega
  have ho8:o.length≤8:=by omega
  obtain ⟨xl,hxl⟩:∃ x,c7[c7.length - 1]?=some x:=⟨_,List.getElem?_eq_getElem (by omega)⟩
  have hwl:IntKind.i64.wrap ((c7.length:Int) - 1)=((c7.length - 1:Nat):Int):=by rw [w64 (by omega) (by omega)]; omega
  rcases hcase with hs|⟨hs,hs2⟩
  case' inl=>simp only[↓xP,xT,rL,rB,rA,rS,h1,h5,o5,h6,h7,h8,hs,List.length_map]
  case' inr=>simp only[↓xP,xT,rL,rB,rA,rS,h1,h5,o5,h6,h7,h8,hs,hs2,List.length_map]
  all_goals
   refine ZFt (fun (a:Nat×List Event) st=>a.1≤c7.length∧a.2.length≤8+2*a.1∧st.s 1=DI many∧st.s 5=.t (.sc (.own (.loc 11 0) a.2.length))∧st.o (.loc 11 0)=some (.row 9 (a.2.map Event.u))∧st.s 6=DU (.sl 1 (c7.map iU))∧st.s 7=DI pl∧st.s 9=DI a.1) (fun a=>c7.length - a.1) ?_ (0,o) ⟨Nat.zero_le _,(by dsimp only; omega),(by and_intros<;>first|omega|rfl|(simp only[↓xP,xT,rL,rB,rA,rS,h1,h5,o5,h6,h7]<;>first|done|rfl|omega))⟩
   clear h1 h5 o5 h6 h7 h8 ih
   rintro ⟨j,o2⟩ st ⟨hle2,hol2,h1,h5,o5,h6,h7,h9⟩ ih
   dsimp only at *
   have hw:=w_succ (i:=j) (by omega)
   by_cases hj:j+1<c7.length∧(j:Int)<many
   ·obtain ⟨hj,hj2⟩:=hj
    obtain ⟨x,hx⟩:∃ x,c7[j]?=some x:=⟨_,List.getElem?_eq_getElem (by omega)⟩
    have hjl:j<c7.length:=by omega
    have q1:o2.length+2≤maxLen∧(o2.length+2)*80≤140737488355328:=ZL (by omega) (by omega)
    simp only[↓xP,xT,rL,rB,rA,rS,h1,h5,o5,h6,h7,h9,hj,hj2,hjl,hx,hw,iU,List.length_map,q1.1,q1.2,ev2]
    exact ih (j+1,o2++[_,_]) _ (by dsimp only; omega) ⟨by dsimp only; omega,by simp; omega,(by and_intros<;>first|omega|rfl|(simp only[↓xP,xT,rL,rB,rA,rS,h1,h5,o5,h6,h7,h9,hw,ev2,List.length_append,List.length_cons,List.length_nil]<;>first|done|rfl|omega))⟩
   ·have hcase:¬j+1<c7.length∨(j+1<c7.length∧¬(j:Int)<many):=by omega
    have q1:o2.length+3≤maxLen∧(o2.length+3)*80≤140737488355328:=ZL (by omega) (by omega)
    have htk:∀ a b c,List.take (o2.length+3) (List.map Event.u (o2++[a,b,c]))=List.map Event.u (o2++[a,b,c]):=fun a b c=>List.take_of_length_le (by simp)
    rcases hcase with hs|⟨hs,hs2⟩
    case' inl=>simp only[↓xP,xT,rL,rB,rA,rS,h1,h5,o5,h6,h7,h9,hw,hs,hwl,hxl,iU,List.length_map,q1.1,q1.2,ev3,htk,List.length_append,List.length_cons,List.length_nil]
    case' inr=>simp only[↓xP,xT,rL,rB,rA,rS,h1,h5,o5,h6,h7,h9,hw,hs,hs2,hwl,hxl,iU,List.length_map,q1.1,q1.2,ev3,htk,List.length_append,List.length_cons,List.length_nil]
    all_goals exact ⟨_,rfl,by simp; omega⟩
theorem ZFg (sh:Int) (l:List Event) (hn:l.length≤1000):ZIQ l.length (EE F 137 [I sh,L 9 (l.map Event.u)] []):=by
 rw [R137,b137]
 simp only[↓xP,xT,rL,rB,rA,rS]
 refine ZFt (fun (a:Nat×List Deed) st=>a.1≤l.length∧a.2.length≤a.1∧st.s 0=DI sh∧st.s 1=DU (.sl 9 (l.map Event.u))∧st.s 5=.t (.sc (.own (.loc 7 0) a.2.length))∧st.o (.loc 7 0)=some (.row 24 (a.2.map Deed.u))∧st.s 6=DI a.1) (fun a=>l.length - a.1) ?_ (0,[]) ⟨by simp,by simp,(by and_intros<;>first|omega|rfl|(simp only[↓xP,xT,rL,rB,rA,rS]<;>first|done|rfl|omega))⟩
 rintro ⟨i,o⟩ st ⟨hle,hol,h0,h1,h5,o5,h6⟩ ih
 dsimp only at *
 by_cases hi:i<l.length
 ·obtain ⟨e,hx⟩:∃ x,l[i]?=some x:=⟨_,List.getElem?_eq_getElem hi⟩
  have hw:=w_succ (i:=i) (by omega)
  have q1:o.length+1≤maxLen∧(o.length+1)*216≤140737488355328:=ZL (by omega) (by omega)
  by_cases hk:e.kind=1
  ·simp only[↓xP,xT,rL,rB,rA,rS,h0,h1,h5,o5,h6,hi,hx,hw,Event.u,hk,ne_eq,not_true_eq_false,List.length_map]
   exact ih (i+1,o) _ (by dsimp only; omega) ⟨by dsimp only; omega,by dsimp only; omega,(by and_intros<;>first|omega|rfl|(simp only[↓xP,xT,rL,rB,rA,rS,h0,h1,h5,o5,h6,hw]<;>first|done|rfl|omega))⟩
  ·simp only[↓xP,xT,rL,rB,rA,rS,h0,h1,h5,o5,h6,hi,hx,hw,Event.u,hk,ne_eq,not_false_eq_true,List.length_map,q1.1,q1.2]
   exact ih (i+1,o++[⟨6,0,0,sh,zCmd,e,ZIj⟩]) _ (by dsimp only; omega) ⟨by dsimp only; omega,by simp; omega,(by and_intros<;>first|omega|rfl|(simp only[↓xP,xT,rL,rB,rA,rS,h0,h1,h5,o5,h6,hw,Deed.u,zCmd,ZIj,List.map_append,List.map_cons,List.map_nil,List.length_append,List.length_cons,List.length_nil]<;>first|done|rfl|omega))⟩
 ·have:i=l.length:=by omega
  subst this
  simp only[↓xP,xT,rL,rB,rA,rS,h0,h1,h5,o5,h6,Nat.lt_irrefl,List.length_map,ZFS]
  exact ⟨o,rfl,hol⟩
set_option maxHeartbeats 4000000 in
theorem ZGv {bs:List Int} (hb:ZFk bs) (p:Nat) (hp:p≤10000000):Gd bs p 20 (fun r m=>m=[]∧∃ (k:Int) (key:Str) (v o:Int),r=[.ag [.u (.int .i64 k),.u (.str key),.u (.int .i64 v),.u (.int .i64 o)]]∧ZJ key=true) (EE F 135 [RP0,I 0] [rd bs p]):=by
  refine Gd.run (fn:=i135) (by kernel_rfl) rfl ?_
  simp only[i135,b135,Zdi,Zcu]
  have one:∀ (k:Int) (key:Str) (v o:Int) (q:Nat),ZJ key=true→p≤q→q≤p+20→Gd bs p 20 (fun r m=>m=[]∧∃ (k:Int) (key:Str) (v o:Int),r=[.ag [.u (.int .i64 k),.u (.str key),.u (.int .i64 v),.u (.int .i64 o)]]∧ZJ key=true) (some ⟨[.ag [.u (.int .i64 k),.u (.str key),.u (.int .i64 v),.u (.int .i64 o)]],[],[rd bs q]⟩):=fun k key v o q hk h1 h2=>⟨_,_,q,rfl,h1,h2,rfl,k,key,v,o,rfl,hk⟩
  obtain ⟨b,q,ho,hq1,hq2,hb0⟩:=ZFV hb p 0 (by omega) (by omega)
  obtain rfl:=hb0 (by omega)
  obtain ⟨r1,n1,q1,h1,hq1,hq1',rfl,key0,rfl,hk0⟩:=ZGw hb q (by omega)
  obtain ⟨v2,hv2,_⟩:=ZA hb q1 2 (by omega) (by omega)
  obtain ⟨v4,hv4,hvl4⟩:=ZA hb (q1+1) 4 (by omega) (by omega)
  have h1000:¬(1000:Int)=0:=by omega
  have n10:¬(1:Int)=0:=by omega
  have n20:¬(2:Int)=0:=by omega
  have n21:¬(2:Int)=1:=by omega
  obtain ⟨Q,hc⟩:∃ Q,((v2:Int)=0∧Q=q1+1+1)∨(¬(v2:Int)=0∧Q=q1+1):=by
    by_cases e:(v2:Int)=0
    · exact ⟨_,.inl ⟨e,rfl⟩⟩
    · exact ⟨_,.inr ⟨e,rfl⟩⟩
  have hQ:q1+1≤Q∧Q≤q1+2:=by omega
  obtain ⟨v8,hv8,_⟩:=ZA hb Q 8 (by omega) (by omega)
  obtain ⟨a1,ha1,_⟩:=ZA hb (Q+1) 5 (by omega) (by omega)
  obtain ⟨a2,ha2,_⟩:=ZA hb (Q+1+1) 5 (by omega) (by omega)
  obtain ⟨r3,n3,q3,h3,hq3,hq3',rfl,vv,rfl,_,_⟩:=ZGO hb (Q+1) 0 (by omega) (by omega)
  rcases hc with ⟨e2,rfl⟩|⟨e2,rfl⟩
  · rcases (show v4=0∨v4=1∨v4=2∨v4=3 by omega) with rfl|rfl|rfl|rfl
    all_goals
      by_cases e0:(v8:Int)=0
      · simp only[↓xP,xT,rL,rB,rA,rS,rdx,ho,h1,hv2,e2,hv4,hv8,e0]
        exact one _ _ _ _ _ (by decide) (by omega) (by omega)
      by_cases e1:(v8:Int)=1
      · simp only[↓xP,xT,rL,rB,rA,rS,rdx,ho,h1,hv2,e2,hv4,hv8,e1,n10]
        exact one _ _ _ _ _ (by decide) (by omega) (by omega)
      by_cases e2':(v8:Int)=2
      · simp only[↓xP,xT,rL,rB,rA,rS,rdx,ho,h1,hv2,e2,hv4,hv8,e2',n20,n21,ha1,ha2]
        exact one _ _ _ _ _ (by decide) (by omega) (by omega)
      · simp only[↓xP,xT,rL,rB,rA,rS,rdx,ho,h1,hv2,e2,hv4,hv8,e0,e1,e2',h3,h1000]
        exact one _ _ _ _ _ (by decide) (by omega) (by omega)
  · by_cases e0:(v8:Int)=0
    · simp only[↓xP,xT,rL,rB,rA,rS,rdx,ho,h1,hv2,e2,hv8,e0]
      exact one _ _ _ _ _ hk0 (by omega) (by omega)
    by_cases e1:(v8:Int)=1
    · simp only[↓xP,xT,rL,rB,rA,rS,rdx,ho,h1,hv2,e2,hv8,e1,n10]
      exact one _ _ _ _ _ hk0 (by omega) (by omega)
    by_cases e2':(v8:Int)=2
    · simp only[↓xP,xT,rL,rB,rA,rS,rdx,ho,h1,hv2,e2,hv8,e2',n20,n21,ha1,ha2]
      exact one _ _ _ _ _ hk0 (by omega) (by omega)
    · simp only[↓xP,xT,rL,rB,rA,rS,rdx,ho,h1,hv2,e2,hv8,e0,e1,e2',h3,h1000]
      exact one _ _ _ _ _ hk0 (by omega) (by omega)
/-- Some deeds, after at most so many draws. -/
def GdD (bs:List Int) (p c N:Nat) (x:Option Ret):Prop:=Gd bs p c (fun r m=>m=[]∧∃ l:List Deed,r=[L 24 (l.map Deed.u)]∧l.length≤N) x
theorem GdD.mk {bs:List Int} {p c N:Nat} (l:List Deed) (q:Nat) (h1:p≤q) (h2:q≤p+c) (h3:l.length≤N):GdD bs p c N (some ⟨[L 24 (l.map Deed.u)],[],[rd bs q]⟩):=⟨_,_,q,rfl,h1,h2,rfl,l,rfl,h3⟩
set_option maxHeartbeats 4000000 in
theorem ZF7 {bs:List Int} (hb:ZFk bs) (p:Nat) (hp:p≤100000) (c0:(List Shard)) (c1:(List Caller)) (c2:(List Result)) (c3 c4 c5:Int) (c6:Str) (c7 c8 c9 c10 c11:Int) (k:Nat) (s:Shard) (hx:c0[k]?=some s) (h8:c0.length≤8) (hm1:1≤s.group.conf.members.length) (hm:s.group.conf.members.length≤4) (hg:s.group.bag.length≤1000) :
  GdD bs p 1 20 (EE F 136 [RP0,.ag [.u (.sl 14 (c0.map Shard.u)),.u (.sl 8 (c1.map Caller.u)),.u (.sl 9 (c2.map Result.u)),.u (.int .i64 c3),.u (.int .i64 c4),.u (.int .i64 c5),.u (.str c6),.u (.int .i64 c7),.u (.int .i64 c8),.u (.int .i64 c9),.u (.int .i64 c10),.u (.int .i64 c11)],I (k:Int)] [rd bs p]):=by
 refine Gd.run (fn:=i136) (by kernel_rfl) rfl ?_
 simp only[i136,b136,Zdi,Zcu]
 show GdD bs p 1 20 _
 obtain ⟨v,hv,hvl⟩:=ZA hb p 4 (by omega) (by omega)
 have hkl:=(List.getElem?_eq_some_iff.1 hx).1
 by_cases h0:(v:Int)=0
 ·obtain ⟨ev,h1,hl1⟩:=ZG3 s.group.base.span.low s.group.base.span.high s.group.base.pairs s.group.base.known s.group.base.sealed s.group.base.cut s.group.conf.epoch s.group.conf.members s.group.conf.fresh s.group.nodes s.group.up s.group.bag s.group.answers 4 hm1 hm hg
  obtain ⟨dd,h2,hl2⟩:=ZFg (k:Int) ev (by omega)
  simp only[↓xP,xT,rL,rB,rA,rS,rdx,rdx2,hv,h0,hkl,hx,Shard.u,h1,h2,List.length_map]
  exact GdD.mk dd (p+1) (by omega) (by omega) (by omega)
 ·generalize hms:s.group.conf.members=ms at *
  have ev2:∀ (o:List Event) a b a' b' c',o.map Event.u++[[.int .i64 a,.int .i64 b,.int .i64 0,.int .i64 0,.int .i64 0,.int .i64 0,.str [],.int .i64 0,.int .i64 0],[.int .i64 a',.int .i64 b',.int .i64 c',.int .i64 0,.int .i64 0,.int .i64 0,.str [],.int .i64 0,.int .i64 0]]=(o++[(⟨a,b,0,⟨0,0,zCmd⟩⟩:Event),⟨a',b',c',⟨0,0,zCmd⟩⟩]).map Event.u:=fun o a b a' b' c'=>by simp [Event.u,zCmd]
  have ev1:∀ (o:List Event) a b,o.map Event.u++[[.int .i64 a,.int .i64 b,.int .i64 0,.int .i64 0,.int .i64 0,.int .i64 0,.str [],.int .i64 0,.int .i64 0]]=(o++[(⟨a,b,0,⟨0,0,zCmd⟩⟩:Event)]).map Event.u:=fun o a b=>by simp [Event.u,zCmd]
  simp only[↓xP,xT,rL,rB,rA,rS,rdx,rdx2,hv,h0,hkl,hx,Shard.u,hms,List.length_map]
  refine ZFt (fun (a:Nat×List Event×Int) st=>a.1≤ms.length∧a.2.1.length=2*a.1∧st.o (.par 0)=some (rd bs (p+1))∧st.s 2=DI k∧st.s 8=.t (.sc (.own (.loc 25 0) a.2.1.length))∧st.o (.loc 25 0)=some (.row 9 (a.2.1.map Event.u))∧st.s 9=DU (.sl 1 (ms.map iU))∧st.s 10=DI a.2.2∧st.s 11=DI a.1) (fun a=>ms.length - a.1) ?_ (0,[],_) ⟨by simp,by simp,rfl,rfl,rfl,rfl,rfl,rfl,rfl⟩
  rintro ⟨i,o,pl⟩ st ⟨hle,hol,hr,h2,h8',o8,h9,h10,h11⟩ ih
  dsimp only at *
  have hw:=w_succ (i:=i) (by omega)
  by_cases hi:i+1<ms.length
  ·obtain ⟨x,hxm⟩:∃ x,ms[i]?=some x:=⟨_,List.getElem?_eq_getElem (by omega)⟩
   have hil:i<ms.length:=by omega
   have q1:o.length+2≤maxLen∧(o.length+2)*80≤140737488355328:=ZL (by omega) (by omega)
   simp only[↓xP,xT,rL,rB,rA,rS,rdx,rdx2,hr,h2,h8',o8,h9,h10,h11,hi,hil,hxm,hw,iU,List.length_map,q1.1,q1.2,ev2]
   exact ih (i+1,o++[_,_],pl) _ (by dsimp only; omega) ⟨by dsimp only; omega,by simp; omega,(by and_intros<;>first|omega|rfl|(simp only[↓xP,xT,rL,rB,rA,rS,rdx,rdx2,hr,h2,h8',o8,h9,h10,h11,hw,ev2,List.length_append,List.length_cons,List.length_nil]<;>first|done|rfl|omega))⟩
  ·obtain ⟨xl,hxl⟩:∃ x,ms[ms.length - 1]?=some x:=⟨_,List.getElem?_eq_getElem (by omega)⟩
   have hwl:IntKind.i64.wrap ((ms.length:Int) - 1)=((ms.length - 1:Nat):Int):=by rw [w64 (by omega) (by omega)]; omega
   have q1:o.length+1≤maxLen∧(o.length+1)*80≤140737488355328:=ZL (by omega) (by omega)
   obtain ⟨dd,hdd,hl2⟩:=ZFg (k:Int) (o++[⟨7,xl,0,⟨0,0,zCmd⟩⟩]) (by simp; omega)
   simp only[List.length_append,List.length_cons,List.length_nil] at hl2
   have htk:∀ a,List.take (o.length+1) (List.map Event.u (o++[a]))=List.map Event.u (o++[a]):=fun a=>List.take_of_length_le (by simp)
   cases hE:(List.map Deed.u dd).isEmpty
   all_goals
    simp only[↓xP,xT,rL,rB,rA,rS,rdx,rdx2,hr,h2,h8',o8,h9,h10,h11,hi,hw,hwl,hxl,hdd,hE,iU,List.length_map,q1.1,q1.2,ev1,htk,List.length_append,List.length_cons,List.length_nil]
    exact GdD.mk dd (p+1) (by omega) (by omega) (by omega)
theorem ZG8 {l:List Interval} (h:ZI l=true) (key:Str):∃ v,v∈l∧ZFB v key=true:=by
 unfold ZI at h
 split at h
 ·rename_i a b ha hb
  simp only[Bool.and_eq_true,decide_eq_true_eq] at h
  obtain ⟨⟨⟨⟨_,_⟩,hlo⟩,hhi⟩,hj⟩:=h
  have claim:∀ (n i:Nat),l.length - i=n→∀ v,l[i]?=some v→Za2 key v.low=false→∃ v,v∈l∧ZFB v key=true:=by
   intro n
   induction n with
   | zero=>intro i hn v hv; have:=(List.getElem?_eq_some_iff.1 hv).1; omega
   | succ n ih=>
    intro i hn v hv hk
    by_cases hi:i+1<l.length
    ·obtain ⟨w,hw⟩:∃ w,l[i+1]?=some w:=⟨_,List.getElem?_eq_getElem hi⟩
     have hjo:=(Z7 _ 1 rfl).1 hj (i+1) (by omega) hi
     simp only[ZGn,Nat.add_sub_cancel,hv,hw,ZGo,Bool.and_eq_true,decide_eq_true_eq] at hjo
     cases hkw:Za2 key w.low with
     | false=>exact ih (i+1) (by omega) w hw hkw
     | true=>exact ⟨v,List.mem_of_getElem? hv,by simp [ZFB,hk,hjo.2,hkw]⟩
    ·have hlast:l[l.length - 1]?=some v:=by rw [show l.length - 1=i by have:=(List.getElem?_eq_some_iff.1 hv).1; omega]; exact hv
     rw [hb] at hlast
     cases hlast
     exact ⟨b,List.mem_of_getElem? hv,by simp [ZFB,hk,hhi]⟩
  exact claim _ 0 rfl a ha (by rw [hlo]; exact ZHB key)
 ·cases h
theorem ZHm (key:Str):∀ (l:List Route),(∃ q,q∈l∧ZFB q.span key=true)→∃ q,q∈l∧ZFf key l=q.number
 | [],⟨_,h,_⟩=>by cases h
 | p :: l,⟨q,hq,hin⟩=>by
  unfold ZFf
  split
  ·exact ⟨p,List.mem_cons_self ..,rfl⟩
  ·rename_i hp
   rcases List.mem_cons.1 hq with rfl|hq
   ·exact absurd hin hp
   ·obtain ⟨r,h1,h2⟩:=ZHm key l ⟨q,hq,hin⟩
    exact ⟨r,List.mem_cons_of_mem _ h1,h2⟩
theorem ZHT {x:Cluster} (h:XOk x) (key:Str):∃ (j:Nat) (s:Shard),ZFf key (ZD x.shards)=(j:Int)∧x.shards[j]?=some s:=by
 have hr:=h.rt
 simp only[ZG,Bool.and_eq_true] at hr
 obtain ⟨v,hv,hin⟩:=ZG8 hr.1.2 key
 obtain ⟨q,hq,rfl⟩:=List.mem_map.1 hv
 obtain ⟨r,hr1,hr2⟩:=ZHm key _ ⟨q,hq,hin⟩
 obtain ⟨j,s,h1,h2,_⟩:=ZG5 hr1
 exact ⟨j,s,hr2.trans h2,h1⟩
/-- Rows that are deeds. -/
def Deeds (n:Nat) (rows:List (List U)):Prop:=∃ l:List Deed,rows=l.map Deed.u∧l.length≤n
theorem Deeds.nil:Deeds 0 []:=⟨[],rfl,Nat.zero_le _⟩
theorem Deeds.map {n:Nat} {l:List Deed} (h:l.length≤n):Deeds n (l.map Deed.u):=⟨l,rfl,h⟩
theorem Deeds.cons {n:Nat} {rows:List (List U)} {a0 a1 a2 a3 a4 a6 a7 a8 a9 a10 a11 a12 a13 a15 a16 a17 a18 a19 a21 a22 a23:Int} {a5 a14 a20:Str} (h:Deeds n rows) :
  Deeds (n+1) ([.int .i64 a0,.int .i64 a1,.int .i64 a2,.int .i64 a3,.int .i64 a4,.str a5,.int .i64 a6,.int .i64 a7,.int .i64 a8,.int .i64 a9,.int .i64 a10,.int .i64 a11,.int .i64 a12,.int .i64 a13,.str a14,.int .i64 a15,.int .i64 a16,.int .i64 a17,.int .i64 a18,.int .i64 a19,.str a20,.int .i64 a21,.int .i64 a22,.int .i64 a23]::rows):=by
 obtain ⟨l,rfl,h⟩:=h
 exact ⟨⟨a0,a1,a2,a3,⟨a4,a5,a6,a7⟩,⟨a8,a9,a10,⟨a11,a12,⟨a13,a14,a15,a16⟩⟩⟩,⟨a17,a18,a19,a20,a21,a22,a23⟩⟩::l,rfl,by simp; omega⟩
theorem Deeds.app {m n:Nat} {a b:List (List U)} (h:Deeds m a) (k:Deeds n b):Deeds (m+n) (a++b):=by
 obtain ⟨l,rfl,h⟩:=h
 obtain ⟨l',rfl,k⟩:=k
 exact ⟨l++l',by simp,by simp; omega⟩
theorem GdD.of {bs:List Int} {p c N n:Nat} {rows:List (List U)} (q:Nat) (h1:p≤q) (h2:q≤p+c) (h3:Deeds n rows) (h4:n≤N):GdD bs p c N (some ⟨[L 24 rows],[],[rd bs q]⟩):=by
 obtain ⟨l,rfl,h⟩:=h3
 exact GdD.mk l q h1 h2 (by omega)
theorem Z0 {n:Nat} (h:n≤200):n≤maxLen∧n*216≤140737488355328:=ZL (by omega) (by omega)
set_option maxHeartbeats 8000000 in
theorem ZIr {bs:List Int} (hb:ZFk bs) (p:Nat) (hp:p≤90000) (c0:(List Shard)) (c1:(List Caller)) (c2:(List Result)) (c3 c4 c5:Int) (c6:Str) (c7 c8 c9 c10 c11:Int) (h:XOk ⟨c0,c1,c2,⟨c3,c4,c5,c6,c7,c8,c9⟩,c10,c11⟩) (who:Nat) (hw:who<4) :
  GdD bs p 30 30 (EE F 133 [RP0,.ag [.u (.sl 14 (c0.map Shard.u)),.u (.sl 8 (c1.map Caller.u)),.u (.sl 9 (c2.map Result.u)),.u (.int .i64 c3),.u (.int .i64 c4),.u (.int .i64 c5),.u (.str c6),.u (.int .i64 c7),.u (.int .i64 c8),.u (.int .i64 c9),.u (.int .i64 c10),.u (.int .i64 c11)],I (who:Int)] [rd bs p]):=by
 refine Gd.run (fn:=i133) (by kernel_rfl) rfl ?_
 simp only[i133,b133,Zdi,Zcu]
 show GdD bs p 30 30 _
 obtain ⟨r1,n1,q1,h1,hq1,hq1',rfl,k0,y0,v0,o0,rfl,hy0⟩:=ZGv hb p (by omega)
 have hcn:c1.length=4:=h.cn
 obtain ⟨q,hq⟩:∃ q,c1[who]?=some q:=⟨_,List.getElem?_eq_getElem (by omega)⟩
 have hqv:=h.cl q (List.mem_of_getElem? hq)
 obtain ⟨g1,g2,g3⟩:=ZHj hqv
 obtain ⟨a,ha,hal⟩:=ZA hb q1 4 (by omega) (by omega)
 obtain ⟨u,hu,hul⟩:=ZA hb (q1+1) 5 (by omega) (by omega)
 have hwl:who<c1.length:=by omega
 have h8:c0.length≤8:=h.s8
 have hcr:=ZFD c0 c1 c2 c3 c4 c5 c6 c7 c8 c9 c10 c11 h.small
 have hcv:ZH ⟨c0,c1,c2,⟨c3,c4,c5,c6,c7,c8,c9⟩,c10,c11⟩=true:=(ZHI _).2 h
 have hrt:ZG (ZD c0)=true:=h.rt
 obtain ⟨w,hwk,hcase⟩:∃ w:Command,ZJ w.key=true∧((q.busy=true∧w=q.wish)∨(q.busy=false∧w=⟨k0,y0,v0,o0⟩)):=by
  cases hbz:q.busy
  ·exact ⟨_,hy0,.inr ⟨rfl,rfl⟩⟩
  ·have:=(g3 hbz).2.1
   simp only[Z9,ZT,Bool.and_eq_true,Bool.or_eq_true,decide_eq_true_eq,Bool.not_eq_true',decide_eq_false_iff_not] at this
   exact ⟨q.wish,this.1.1.resolve_right (fun h=>this.2 h.1),.inl ⟨rfl,rfl⟩⟩
 have hcf:=ZHL q.cache w.key g1 hwk
 have hro:=ZIx (ZD c0) w.key hrt hwk
 obtain ⟨j,s0,hj,hs0⟩:=ZHT h w.key
 have hcl:ZFy ⟨c0,c1,c2,⟨c3,c4,c5,c6,c7,c8,c9⟩,c10,c11⟩=ZD c0:=by unfold ZFy; rw [if_pos hcv]
 rw [hcl] at hcr
 have hln:IntKind.i64.wrap ((c0.length:Int) - 1)=(c0.length:Int) - 1:=w64 (by omega) (by omega)
 obtain ⟨k,s,hs,hsel⟩:∃ (k:Nat) (s:Shard),c0[k]?=some s∧(((a:Int) > 0∧ZFf w.key (ZD c0)=(k:Int))∨(¬(a:Int) > 0∧inR (ZFf w.key q.cache) 0 ((c0.length:Int) - 1)=false∧ZFf w.key (ZD c0)=(k:Int))∨
   (¬(a:Int) > 0∧inR (ZFf w.key q.cache) 0 ((c0.length:Int) - 1)=true∧ZFf w.key q.cache=(k:Int))):=by
  by_cases ha0:(a:Int) > 0
  ·exact ⟨j,s0,hs0,.inl ⟨ha0,hj⟩⟩
  ·cases hin:inR (ZFf w.key q.cache) 0 ((c0.length:Int) - 1) with
   | false=>exact ⟨j,s0,hs0,.inr (.inl ⟨ha0,rfl,hj⟩)⟩
   | true=>
    have hin2:=hin
    simp only[inR,Bool.and_eq_true,decide_eq_true_eq] at hin2
    exact ⟨(ZFf w.key q.cache).toNat,_,List.getElem?_eq_getElem (by omega),.inr (.inr ⟨ha0,rfl,by omega⟩)⟩
 have hkl:=(List.getElem?_eq_some_iff.1 hs).1
 have hsh:=(h.sh s (List.mem_of_getElem? hs)).1
 have hml:=ZO hsh.conf
 obtain ⟨x0,hx0⟩:∃ x,s.group.conf.members[0]?=some x:=⟨_,List.getElem?_eq_getElem (by omega)⟩
 obtain ⟨r2,n2,q2,h2,hq2,hq2',rfl,dd,rfl,hdd⟩:=ZF7 hb (q1+1+1) (by omega) c0 c1 c2 c3 c4 c5 c6 c7 c8 c9 c10 c11 k s hs h8 hml.1 hml.2 (by have:=hsh.bagn; omega)
 have hml0:0<s.group.conf.members.length:=by omega
 obtain ⟨qc,qs,qb,qw,qd⟩:=q
 dsimp only at *
 rcases hsel with ⟨ha0,hk⟩|⟨ha0,hin,hk⟩|⟨ha0,hin,hk⟩
 case' inr.inr=>rw [hk] at hin
 case' inl=>have hin:True:=trivial
 all_goals
  try rw [hk] at hro
  try rw [hk] at hcf
  rcases hcase with ⟨hbz,rfl⟩|⟨hbz,rfl⟩
  all_goals
   subst hbz
   have m1:=Z0 (n:=1) (by omega)
   have m2:=Z0 (n:=2) (by omega)
   have m3:=Z0 (n:=3) (by omega)
   have m4:=Z0 (n:=4) (by omega)
   have d1:=Z0 (n:=1+dd.length) (by omega)
   have d2:=Z0 (n:=2+dd.length) (by omega)
   have d3:=Z0 (n:=3+dd.length) (by omega)
   have d1':=Z0 (n:=1+dd.length+1) (by omega)
   have d2':=Z0 (n:=2+dd.length+1) (by omega)
   have d3':=Z0 (n:=3+dd.length+1) (by omega)
   have e1:(dd.length+1==1+dd.length)=true:=by rw [beq_iff_eq]; omega
   have e2:(dd.length+1+1==2+dd.length)=true:=by rw [beq_iff_eq]; omega
   have e3:(dd.length+1+1+1==3+dd.length)=true:=by rw [beq_iff_eq]; omega
   have f1:1+dd.length+1≤dd.length+1+1:=by omega
   have f2:2+dd.length+1≤dd.length+1+1+1:=by omega
   have f3:3+dd.length+1≤dd.length+1+1+1+1:=by omega
   have k3:∀ x y z,List.take (3+dd.length) (x::y::(List.map Deed.u dd++[z]))=x::y::(List.map Deed.u dd++[z]):=fun x y z=>List.take_of_length_le (by simp; omega)
   have k1:∀ z,List.take (1+dd.length) (List.map Deed.u dd++[z])=List.map Deed.u dd++[z]:=fun z=>List.take_of_length_le (by simp; omega)
   have k2:∀ y z,List.take (2+dd.length) (y::(List.map Deed.u dd++[z]))=y::(List.map Deed.u dd++[z]):=fun y z=>List.take_of_length_le (by simp; omega)
   by_cases hu0:(u:Int) > 0
   all_goals
    simp only[↓xP,xT,rL,rB,rA,rS,rdx,rdx2,h1,hq,hwl,Caller.u,hcf,ha,ha0,hin,hcr,hro,ZW,hln,hkl,hs,Shard.u,hx0,hml0,iU,hu,hu0,h2,List.length_map,m1.1,m1.2,m2.1,m2.2,m3.1,m3.2,m4.1,m4.2,d1.1,d1.2,d2.1,d2.2,d3.1,d3.2,d1'.1,d1'.2,d2'.1,d2'.2,d3'.1,d3'.2,e1,e2,e3,f1,f2,f3,k1,k2,k3,List.length_append,List.length_cons,List.length_nil]
    exact GdD.of _ (by omega) (by omega) (by repeat (first|exact Deeds.nil|exact Deeds.map hdd|apply Deeds.cons|apply Deeds.app)) (by omega)
set_option maxHeartbeats 8000000 in
theorem ZHZ {bs:List Int} (hb:ZFk bs) (p:Nat) (n o:Int) (hn:1≤n) (ho:o≤1048576) (hp:p≤100000):Gd bs p 20 (fun r m=>m=[]∧∃ e:Plan,r=[.ag [.u (.int .i64 e.kind),.u (.int .i64 e.first),.u (.int .i64 e.second),.u (.str e.key),.u (.int .i64 e.from_),.u (.int .i64 e.to_),.u (.int .i64 e.step)]]) (EE F 107 [RP0,I n,I o] [rd bs p]):=by
 refine Gd.run (fn:=i107) (by kernel_rfl) rfl ?_
 simp only[i107,b107,Zdi,Zcu]
 have fin:∀ (e:Plan) (q:Nat),p≤q→q≤p+20→Gd bs p 20 (fun r m=>m=[]∧∃ e:Plan,r=[.ag [.u (.int .i64 e.kind),.u (.int .i64 e.first),.u (.int .i64 e.second),.u (.str e.key),.u (.int .i64 e.from_),.u (.int .i64 e.to_),.u (.int .i64 e.step)]]) (some ⟨[.ag [.u (.int .i64 e.kind),.u (.int .i64 e.first),.u (.int .i64 e.second),.u (.str e.key),.u (.int .i64 e.from_),.u (.int .i64 e.to_),.u (.int .i64 e.step)]],[],[rd bs q]⟩):=fun e q h1 h2=>⟨_,_,q,rfl,h1,h2,rfl,e,rfl⟩
 obtain ⟨v1,hv1,_⟩:=ZA hb p n (by omega) hn
 obtain ⟨r1,n1,q1,h1,hq1,hq1',rfl,key,rfl,_⟩:=ZGw hb (p+1) (by omega)
 obtain ⟨v3,hv3,hv3l⟩:=ZA hb q1 3 (by omega) (by omega)
 obtain ⟨a,ha,_⟩:=ZA hb (q1+1) n (by omega) hn
 obtain ⟨b,hb',_⟩:=ZA hb (q1+1+1) 7 (by omega) (by omega)
 obtain ⟨a5,ha5,_⟩:=ZA hb (q1+1) 5 (by omega) (by omega)
 obtain ⟨b5,hb5,_⟩:=ZA hb (q1+1+1) n (by omega) hn
 obtain ⟨c5,hc5,_⟩:=ZA hb (q1+1+1+1) 4 (by omega) (by omega)
 obtain ⟨d5,hd5,_⟩:=ZA hb (q1+1+1+1+1) 2 (by omega) (by omega)
 obtain ⟨Q,hQ⟩:∃ Q,(v3=0∧Q=q1+1+1+1)∨(v3=1∧Q=q1+1+1+1+1+1)∨(v3=2∧Q=q1+1):=by
  rcases (show v3=0∨v3=1∨v3=2 by omega) with h|h|h
  ·exact ⟨_,.inl ⟨h,rfl⟩⟩
  ·exact ⟨_,.inr (.inl ⟨h,rfl⟩)⟩
  ·exact ⟨_,.inr (.inr ⟨h,rfl⟩)⟩
 have hQl:q1+1≤Q∧Q≤q1+5:=by omega
 obtain ⟨B,q2,hod,hq2,hq2',_⟩:=ZFV hb Q o (by omega) ho
 obtain ⟨w,hw,hwl⟩:=ZA hb q2 6 (by omega) (by omega)
 obtain ⟨u,hu,hul⟩:=ZA hb (q2+1) 2 (by omega) (by omega)
 have n10:¬((1:Nat):Int)=0:=by omega
 rcases hQ with ⟨rfl,rfl⟩|⟨rfl,rfl⟩|⟨rfl,rfl⟩
 all_goals
  cases B with
  | false=>
   simp (config:={ decide:=true }) only [↓xP,xQ,xR,xS,ZFZ,rL,rB,rA,rS,rdx,rdx2,hv1,h1,hv3,ha,hb',ha5,hb5,hc5,hd5,hod]
   exact fin ⟨_,_,_,_,_,_,_⟩ _ (by omega) (by omega)
  | true=>
   rcases (show w=0∨w=1∨w=2∨w=3∨w=4∨w=5 by omega) with rfl|rfl|rfl|rfl|rfl|rfl
   all_goals
    rcases (show u=0∨u=1 by omega) with rfl|rfl
    all_goals
     simp (config:={ decide:=true }) only [↓xP,xQ,xR,xS,ZFZ,rL,rB,rA,rS,rdx,rdx2,ZGk,hv1,h1,hv3,ha,hb',ha5,hb5,hc5,hd5,hod,hw,hu]
     exact fin ⟨_,_,_,_,_,_,_⟩ _ (by omega) (by omega)
theorem ZH6 {x:Cluster} (h:XOk x):1≤(ZD x.shards).length:=by
 obtain ⟨q,hq⟩:∃ q,q∈ZD x.shards:=by
  have hr:=h.rt
  simp only[ZG,Bool.and_eq_true] at hr
  obtain ⟨v,hv,_⟩:=ZG8 hr.1.2 []
  obtain ⟨q,hq,_⟩:=List.mem_map.1 hv
  exact ⟨q,hq⟩
 have:=List.length_pos_of_mem hq
 omega
set_option maxHeartbeats 8000000 in
theorem ZH0 {bs:List Int} (hb:ZFk bs) (p:Nat) (hp:p≤90000) (c0:(List Shard)) (c1:(List Caller)) (c2:(List Result)) (c3 c4 c5:Int) (c6:Str) (c7 c8 c9 c10 c11:Int) (h:XOk ⟨c0,c1,c2,⟨c3,c4,c5,c6,c7,c8,c9⟩,c10,c11⟩) :
  GdD bs p 12 60 (EE F 134 [RP0,.ag [.u (.sl 14 (c0.map Shard.u)),.u (.sl 8 (c1.map Caller.u)),.u (.sl 9 (c2.map Result.u)),.u (.int .i64 c3),.u (.int .i64 c4),.u (.int .i64 c5),.u (.str c6),.u (.int .i64 c7),.u (.int .i64 c8),.u (.int .i64 c9),.u (.int .i64 c10),.u (.int .i64 c11)]] [rd bs p]):=by
 refine Gd.run (fn:=i134) (by kernel_rfl) rfl ?_
 simp only[i134,b134,Zdi,Zcu]
 show GdD bs p 12 60 _
 have h8:c0.length≤8:=h.s8
 have hcr:=ZFD c0 c1 c2 c3 c4 c5 c6 c7 c8 c9 c10 c11 h.small
 have hcl:ZFy ⟨c0,c1,c2,⟨c3,c4,c5,c6,c7,c8,c9⟩,c10,c11⟩=ZD c0:=by unfold ZFy; rw [if_pos ((ZHI _).2 h)]
 rw [hcl] at hcr
 have hrl:1≤(ZD c0).length:=ZH6 h
 have hrm:=fun r (hr:r∈ZD c0)=>ZG5 hr
 have hrc:(ZD c0).length≤1000000:=by have:=h.rt; simp only[ZG,Bool.and_eq_true,decide_eq_true_eq] at this; have:=this.1.1; omega
 generalize ZD c0=rs at *
 obtain ⟨i,hi,hil⟩:=ZA hb p (rs.length:Int) (by omega) (by omega)
 have hil':i<rs.length:=by omega
 obtain ⟨⟨n1,⟨lo1,up1⟩⟩,hr1⟩:∃ x,rs[i]?=some x:=⟨_,List.getElem?_eq_getElem hil'⟩
 obtain ⟨k,s,hs,hk,_⟩:=hrm _ (List.mem_of_getElem? hr1)
 dsimp only at hk
 subst hk
 have hkl:=(List.getElem?_eq_some_iff.1 hs).1
 have hsh:=(h.sh s (List.mem_of_getElem? hs)).1
 have hml:=ZO hsh.conf
 have hml0:0<s.group.conf.members.length:=by omega
 obtain ⟨x0,hx0⟩:∃ x,s.group.conf.members[0]?=some x:=⟨_,List.getElem?_eq_getElem (by omega)⟩
 obtain ⟨v6,hv6,hv6l⟩:=ZA hb (p+1) 6 (by omega) (by omega)
 have hv6n:v6<6:=by omega
 obtain ⟨z,hz⟩:∃ z,([[.str [98]],[.str [99]],[.str [100]],[.str [102]],[.str [109]],[.str [115]]]:List (List U))[v6]?=some [.str z]:=by
  rcases (show v6=0∨v6=1∨v6=2∨v6=3∨v6=4∨v6=5 by omega) with rfl|rfl|rfl|rfl|rfl|rfl
  all_goals exact ⟨_,rfl⟩
 obtain ⟨v2,hv2,hv2l⟩:=ZA hb (p+1+1) 2 (by omega) (by omega)
 obtain ⟨Q,hQ⟩:∃ Q,((i+1<rs.length)∧Q=p+1+1+1)∨((¬i+1<rs.length)∧Q=p+1+1):=by
  by_cases e:i+1<rs.length
  ·exact ⟨_,.inl ⟨e,rfl⟩⟩
  ·exact ⟨_,.inr ⟨e,rfl⟩⟩
 have hQl:p+2≤Q∧Q≤p+3:=by omega
 obtain ⟨u4,hu4,_⟩:=ZA hb Q 4 (by omega) (by omega)
 obtain ⟨m,hm,hml'⟩:=ZA hb (Q+1) (s.group.conf.members.length:Int) (by omega) (by omega)
 have hmm:m<s.group.conf.members.length:=by omega
 obtain ⟨xm,hxm⟩:∃ x,s.group.conf.members[m]?=some x:=⟨_,List.getElem?_eq_getElem hmm⟩
 obtain ⟨w4,hw4,_⟩:=ZA hb (Q+1+1) 4 (by omega) (by omega)
 have hwi:=w_succ (i:=i) (by omega)
 have quick:=fun (p':Nat) (hp':p'≤100000) (k:Nat) (s:Shard) (hs:c0[k]?=some s)=>ZF7 hb p' hp' c0 c1 c2 c3 c4 c5 c6 c7 c8 c9 c10 c11 k s hs h8 (ZO ((h.sh s (List.mem_of_getElem? hs)).1).conf).1 (ZO ((h.sh s (List.mem_of_getElem? hs)).1).conf).2 (by have:=((h.sh s (List.mem_of_getElem? hs)).1).bagn; omega)
 have m1:=Z0 (n:=1) (by omega)
 have m2:=Z0 (n:=2) (by omega)
 have m3:=Z0 (n:=3) (by omega)
 obtain ⟨ev,hfl,hevl⟩:=ZG3 s.group.base.span.low s.group.base.span.high s.group.base.pairs s.group.base.known s.group.base.sealed s.group.base.cut s.group.conf.epoch s.group.conf.members s.group.conf.fresh s.group.nodes s.group.up s.group.bag s.group.answers 4 hml.1 hml.2 (by have:=hsh.bagn; omega)
 obtain ⟨fd,hfd,hfdl⟩:=ZFg (k:Int) ev (by omega)
 obtain ⟨r2,nn2,q2,h2,hq2,hq2',rfl,dd,rfl,hdd⟩:=quick (Q+1) (by omega) k s hs
 have F2:=Z0 (n:=2+fd.length) (by omega)
 have F3:=Z0 (n:=2+fd.length+1) (by omega)
 have D2:=Z0 (n:=2+dd.length) (by omega)
 have D3:=Z0 (n:=2+dd.length+1) (by omega)
 have e2:∀ n:Nat,(n+1+1==2+n)=true:=fun n=>by rw [beq_iff_eq]; omega
 have e3:∀ n:Nat,(n+1+1+1==2+n+1)=true:=fun n=>by rw [beq_iff_eq]; omega
 have e4:∀ n m:Nat,(n+1+m+1+1==2+n+1+m)=true:=fun n m=>by rw [beq_iff_eq]; omega
 have e5:∀ n m:Nat,(n+1+m+1+1+1==2+n+1+m+1)=true:=fun n m=>by rw [beq_iff_eq]; omega
 have f4:∀ n m:Nat,2+n+1+m+1≤n+1+m+1+1+1:=fun n m=>by omega
 have f2:∀ n:Nat,2+n+1≤n+1+1+1:=fun n=>by omega
 have tk2:∀ (l:List Deed) y z,List.take (2+l.length) (y::(List.map Deed.u l++[z]))=y::(List.map Deed.u l++[z]):=fun l y z=>List.take_of_length_le (by simp; omega)
 have tk4:∀ (l m:List Deed) y w z,List.take (2+l.length+1+m.length) (y::(List.map Deed.u l++[w]++List.map Deed.u m++[z]))=y::(List.map Deed.u l++[w]++List.map Deed.u m++[z]):=fun l m y w z=>List.take_of_length_le (by simp; omega)
 have n50:¬(5:Int)=0:=by omega
 have n0:¬(1:Int)=3:=by omega
 have n1':¬(2:Int)=3:=by omega
 have n2':¬(1:Int)=2:=by omega
 have h88:c0.length≤8:=h8
 by_cases hu:(u4:Int)=0
 ·rcases hQ with ⟨hlt,rfl⟩|⟨hlt,rfl⟩
  ·obtain ⟨⟨n2,⟨lo2,up2⟩⟩,hr2⟩:∃ x,rs[i+1]?=some x:=⟨_,List.getElem?_eq_getElem hlt⟩
   by_cases hv:(v2:Int)=0
   all_goals
    simp only[↓xP,xT,rL,rB,rA,rS,rdx,rdx2,ZGk,hcr,hi,hil',hr1,Route.u,hkl,hs,Shard.u,hv6,hv6n,hz,hlt,hwi,hv2,hv,hr2,hu4,hu,hm,hxm,hw4,n50,hfl,hfd,hmm,iU,List.length_map,m1.1,m1.2,m2.1,m2.2,F2.1,F2.2,F3.1,F3.2,e2,e3,f2,tk2,List.length_append,List.length_cons,List.length_nil]
    exact GdD.of _ (by omega) (by omega) (by repeat (first|exact Deeds.nil|exact Deeds.map hfdl|apply Deeds.cons|apply Deeds.app)) (by omega)
  ·simp only[↓xP,xT,rL,rB,rA,rS,rdx,rdx2,ZGk,hcr,hi,hil',hr1,Route.u,hkl,hs,Shard.u,hv6,hv6n,hz,hlt,hwi,hv2,hu4,hu,hm,hxm,hw4,n50,hfl,hfd,hmm,iU,List.length_map,m1.1,m1.2,m2.1,m2.2,F2.1,F2.2,F3.1,F3.2,e2,e3,f2,tk2,List.length_append,List.length_cons,List.length_nil]
   exact GdD.of _ (by omega) (by omega) (by repeat (first|exact Deeds.nil|exact Deeds.map hfdl|apply Deeds.cons|apply Deeds.app)) (by omega)
 ·rcases hQ with ⟨hlt,rfl⟩|⟨hlt,rfl⟩
  ·obtain ⟨⟨n2,⟨lo2,up2⟩⟩,hr2⟩:∃ x,rs[i+1]?=some x:=⟨_,List.getElem?_eq_getElem hlt⟩
   obtain ⟨k2,s2,hs2,hk2,_⟩:=hrm _ (List.mem_of_getElem? hr2)
   dsimp only at hk2
   subst hk2
   have hkl2:=(List.getElem?_eq_some_iff.1 hs2).1
   have hml2:=ZO ((h.sh s2 (List.mem_of_getElem? hs2)).1).conf
   obtain ⟨x2,hx2⟩:∃ x,s2.group.conf.members[0]?=some x:=⟨_,List.getElem?_eq_getElem (by omega)⟩
   have hml02:0<s2.group.conf.members.length:=by omega
   obtain ⟨r3,nn3,q3,h3,hq3,hq3',rfl,gg,rfl,hgg⟩:=quick q2 (by omega) k2 s2 hs2
   have G2:=Z0 (n:=2+dd.length+1+gg.length) (by omega)
   have G3:=Z0 (n:=2+dd.length+1+gg.length+1) (by omega)
   by_cases hv:(v2:Int)=0
   all_goals
    simp only[↓xP,xT,rL,rB,rA,rS,rdx,rdx2,ZGk,hcr,hi,hil',hr1,Route.u,hkl,hs,Shard.u,hv6,hv6n,hz,hlt,hwi,hv2,hv,hr2,hu4,hu,h2,h3,n0,n1',n2',hx0,hml0,hkl2,hs2,hx2,hml02,iU,List.length_map,m1.1,m1.2,m2.1,m2.2,m3.1,m3.2,D2.1,D2.2,D3.1,D3.2,G2.1,G2.2,G3.1,G3.2,e4,e5,f4,tk4,e2,e3,f2,tk2,List.length_append,List.length_cons,List.length_nil]
    exact GdD.of _ (by omega) (by omega) (by repeat (first|exact Deeds.nil|exact Deeds.map hdd|exact Deeds.map hgg|apply Deeds.cons|apply Deeds.app)) (by omega)
  ·simp only[↓xP,xT,rL,rB,rA,rS,rdx,rdx2,ZGk,hcr,hi,hil',hr1,Route.u,hkl,hs,Shard.u,hv6,hv6n,hz,hlt,hwi,hv2,hu4,hu,h2,n0,n1',n2',hx0,hml0,iU,List.length_map,m1.1,m1.2,m2.1,m2.2,m3.1,m3.2,D2.1,D2.2,D3.1,D3.2,e2,e3,f2,tk2,List.length_append,List.length_cons,List.length_nil]
   exact GdD.of _ (by omega) (by omega) (by repeat (first|exact Deeds.nil|exact Deeds.map hdd|exact Deeds.map hgg|apply Deeds.cons|apply Deeds.app)) (by omega)
end Go.Proofs.YtfajcehhcjmofaaV
