/- Lemmas of functions that the law FnExactRunHistory reaches, and that it returns true for all data of its types. No conditions but those that the lemmas state. -/
import Derived.Test.YtfajcehhcjmofaaJ
import Derived.Test.YtfajcehhcjmofaaS7
import Derived.Test.YtfajcehhcjmofaaS8
import Derived.Test.YtfajcehhcjmofaaV28
namespace Go.Proofs.YtfajcehhcjmofaaV
open Go Go.RowKit
open Nat renaming reduceLT → rL, reduceAdd → rA, reduceSub → rS, reduceBEq → rB
open IOp (dst isF args)
set_option linter.unusedVariables false
set_option linter.unusedSimpArgs false
set_option maxRecDepth 4000
abbrev Str:=List UInt8
abbrev B (b:Bool):T:=.sc (.u (.bool b))
abbrev S (b:Str):T:=.sc (.u (.str b))
abbrev I (n:Int):T:=.sc (.u (.int .i64 n))
abbrev L (z:Nat) (r:List (List U)):T:=.sc (.u (.sl z r))
abbrev ok1 (t:T):Option Ret:=some ⟨[t],[],[]⟩
def iU (n:Int):List U:=[.int .i64 n]
def bU (b:Bool):List U:=[.bool b]
/-- Whole numbers of 64 bits. -/
def ZG (x:Int):Prop:=-9223372036854775808≤x∧x≤9223372036854775807
theorem UT.int_of {u:U} (h:UT (.i .i64) u):∃ n,u=.int .i64 n∧ZG n:=by
 cases h with
 | i k n h=>exact ⟨n,rfl,bounds_i64 h⟩
theorem UT.u8_of {u:U} (h:UT (.i .u8) u):∃ n,u=.int .u8 n∧0≤n∧n≤255:=by
 cases h with
 | i k n h=>exact ⟨n,rfl,bounds_u8 h⟩
theorem UT.bool_of {u:U} (h:UT .b u):∃ b,u=.bool b:=by
 cases h with
 | b x=>exact ⟨x,rfl⟩
theorem UT.str_of {u:U} (h:UT .s u):∃ s,u=.str s∧s.length≤9223372036854775807:=by
 cases h with
 | s x h=>exact ⟨x,rfl,h⟩
theorem ZG1 {α:Type} {f:α→List U} {p:α→Prop}:∀ {rows:List (List U)},(∀ row,row∈rows→∃ x,row=f x∧p x)→∃ l:List α,rows=l.map f∧∀ y,y∈l→p y
 | [],_=>⟨[],rfl,fun y h=>by cases h⟩
 | r::rs,h=>by
  obtain ⟨x,hx,px⟩:=h r (List.mem_cons_self ..)
  obtain ⟨l,hl,pl⟩:=ZG1 (rows:=rs) (fun row hr=>h row (List.mem_cons_of_mem _ hr))
  refine ⟨x::l,by rw [hx,hl]; rfl,fun y hy=>?_⟩
  rcases List.mem_cons.1 hy with rfl|hy
  ·exact px
  ·exact pl y hy
/-- A slice of elements that are read. -/
theorem UT.sl_of {fs:List Ty} {u:U} (h:UT (.sl fs) u) {α:Type} {f:α→List U} {p:α→Prop} (he:∀ us:List U,us.length=fs.length→(∀ (j:Nat) ty u,fs[j]?=some ty→us[j]?=some u→UT ty u)→∃ x,us=f x∧p x) :
  ∃ l:List α,u=.sl fs.length (l.map f)∧l.length≤9223372036854775807∧∀ y,y∈l→p y:=by
 cases h with
 | sl _ rows hl hr hc=>
  obtain ⟨l,rfl,hp⟩:=ZG1 (f:=f) (p:=p) (rows:=rows) (fun row hrow=>he row (hr row hrow) (fun j ty u hj hu=>by
   obtain ⟨i,hi⟩:=List.mem_iff_getElem?.1 hrow
   exact hc i j row ty u hi hj hu))
  have hm:maxLen=9223372036854775807:=by decide
  rw [hm,List.length_map] at hl
  exact ⟨l,rfl,hl,hp⟩
theorem ZGs (us:List U) (hl:us.length=1) (ht:∀ (j:Nat) ty u,[Ty.i .i64][j]?=some ty→us[j]?=some u→UT ty u):∃ x,us=iU x∧ZG x:=by
 match us,hl with
 | [a],_=>obtain ⟨n,rfl,h⟩:=(ht 0 _ a rfl rfl).int_of; exact ⟨n,rfl,h⟩
theorem ZHC (us:List U) (hl:us.length=1) (ht:∀ (j:Nat) ty u,[Ty.b][j]?=some ty→us[j]?=some u→UT ty u):∃ x,us=bU x∧True:=by
 match us,hl with
 | [a],_=>obtain ⟨n,rfl⟩:=(ht 0 _ a rfl rfl).bool_of; exact ⟨n,rfl,trivial⟩
structure Interval where
 low:Str
 high:Str
def Interval.u (x:Interval):List U:=[.str x.low,.str x.high]
def Interval.Fit (x:Interval):Prop:=x.low.length≤9223372036854775807∧x.high.length≤9223372036854775807
theorem Interval.of (us:List U) (hl:us.length=2) (ht:∀ (j:Nat) ty u,[Ty.s,.s][j]?=some ty→us[j]?=some u→UT ty u):∃ x,us=Interval.u x∧Interval.Fit x:=by
 match us,hl with
 | [c0,c1],_=>
  obtain ⟨x0,rfl,f0⟩:=(ht 0 _ c0 rfl rfl).str_of
  obtain ⟨x1,rfl,f1⟩:=(ht 1 _ c1 rfl rfl).str_of
  exact ⟨⟨x0,x1⟩,rfl,⟨f0,f1⟩⟩
structure Pair where
 key:Str
 value:Int
def Pair.u (x:Pair):List U:=[.str x.key,.int .i64 x.value]
def Pair.Fit (x:Pair):Prop:=x.key.length≤9223372036854775807∧ZG x.value
theorem Pair.of (us:List U) (hl:us.length=2) (ht:∀ (j:Nat) ty u,[Ty.s,.i .i64][j]?=some ty→us[j]?=some u→UT ty u):∃ x,us=Pair.u x∧Pair.Fit x:=by
 match us,hl with
 | [c0,c1],_=>
  obtain ⟨x0,rfl,f0⟩:=(ht 0 _ c0 rfl rfl).str_of
  obtain ⟨x1,rfl,f1⟩:=(ht 1 _ c1 rfl rfl).int_of
  exact ⟨⟨x0,x1⟩,rfl,⟨f0,f1⟩⟩
structure Command where
 kind:Int
 key:Str
 value:Int
 old:Int
def Command.u (x:Command):List U:=[.int .i64 x.kind,.str x.key,.int .i64 x.value,.int .i64 x.old]
def Command.Fit (x:Command):Prop:=ZG x.kind∧x.key.length≤9223372036854775807∧ZG x.value∧ZG x.old
theorem Command.of (us:List U) (hl:us.length=4) (ht:∀ (j:Nat) ty u,[Ty.i .i64,.s,.i .i64,.i .i64][j]?=some ty→us[j]?=some u→UT ty u):∃ x,us=Command.u x∧Command.Fit x:=by
 match us,hl with
 | [c0,c1,c2,c3],_=>
  obtain ⟨x0,rfl,f0⟩:=(ht 0 _ c0 rfl rfl).int_of
  obtain ⟨x1,rfl,f1⟩:=(ht 1 _ c1 rfl rfl).str_of
  obtain ⟨x2,rfl,f2⟩:=(ht 2 _ c2 rfl rfl).int_of
  obtain ⟨x3,rfl,f3⟩:=(ht 3 _ c3 rfl rfl).int_of
  exact ⟨⟨x0,x1,x2,x3⟩,rfl,⟨f0,f1,f2,f3⟩⟩
structure Session where
 client:Int
 seq:Int
 reply:Int
def Session.u (x:Session):List U:=[.int .i64 x.client,.int .i64 x.seq,.int .i64 x.reply]
def Session.Fit (x:Session):Prop:=ZG x.client∧ZG x.seq∧ZG x.reply
theorem Session.of (us:List U) (hl:us.length=3) (ht:∀ (j:Nat) ty u,[Ty.i .i64,.i .i64,.i .i64][j]?=some ty→us[j]?=some u→UT ty u):∃ x,us=Session.u x∧Session.Fit x:=by
 match us,hl with
 | [c0,c1,c2],_=>
  obtain ⟨x0,rfl,f0⟩:=(ht 0 _ c0 rfl rfl).int_of
  obtain ⟨x1,rfl,f1⟩:=(ht 1 _ c1 rfl rfl).int_of
  obtain ⟨x2,rfl,f2⟩:=(ht 2 _ c2 rfl rfl).int_of
  exact ⟨⟨x0,x1,x2⟩,rfl,⟨f0,f1,f2⟩⟩
structure Entry where
 client:Int
 seq:Int
 cmd:Command
def Entry.u (x:Entry):List U:=[.int .i64 x.client,.int .i64 x.seq,.int .i64 x.cmd.kind,.str x.cmd.key,.int .i64 x.cmd.value,.int .i64 x.cmd.old]
def Entry.Fit (x:Entry):Prop:=ZG x.client∧ZG x.seq∧Command.Fit x.cmd
theorem Entry.of (us:List U) (hl:us.length=6) (ht:∀ (j:Nat) ty u,[Ty.i .i64,.i .i64,.i .i64,.s,.i .i64,.i .i64][j]?=some ty→us[j]?=some u→UT ty u):∃ x,us=Entry.u x∧Entry.Fit x:=by
 match us,hl with
 | [c0,c1,c2,c3,c4,c5],_=>
  obtain ⟨x0,rfl,f0⟩:=(ht 0 _ c0 rfl rfl).int_of
  obtain ⟨x1,rfl,f1⟩:=(ht 1 _ c1 rfl rfl).int_of
  obtain ⟨x2,rfl,f2⟩:=(ht 2 _ c2 rfl rfl).int_of
  obtain ⟨x3,rfl,f3⟩:=(ht 3 _ c3 rfl rfl).str_of
  obtain ⟨x4,rfl,f4⟩:=(ht 4 _ c4 rfl rfl).int_of
  obtain ⟨x5,rfl,f5⟩:=(ht 5 _ c5 rfl rfl).int_of
  exact ⟨⟨x0,x1,⟨x2,x3,x4,x5⟩⟩,rfl,⟨f0,f1,⟨f2,f3,f4,f5⟩⟩⟩
structure Answer where
 asked:Entry
 reply:Int
def Answer.u (x:Answer):List U:=[.int .i64 x.asked.client,.int .i64 x.asked.seq,.int .i64 x.asked.cmd.kind,.str x.asked.cmd.key,.int .i64 x.asked.cmd.value,.int .i64 x.asked.cmd.old,.int .i64 x.reply]
def Answer.Fit (x:Answer):Prop:=Entry.Fit x.asked∧ZG x.reply
theorem Answer.of (us:List U) (hl:us.length=7) (ht:∀ (j:Nat) ty u,[Ty.i .i64,.i .i64,.i .i64,.s,.i .i64,.i .i64,.i .i64][j]?=some ty→us[j]?=some u→UT ty u):∃ x,us=Answer.u x∧Answer.Fit x:=by
 match us,hl with
 | [c0,c1,c2,c3,c4,c5,c6],_=>
  obtain ⟨x0,rfl,f0⟩:=(ht 0 _ c0 rfl rfl).int_of
  obtain ⟨x1,rfl,f1⟩:=(ht 1 _ c1 rfl rfl).int_of
  obtain ⟨x2,rfl,f2⟩:=(ht 2 _ c2 rfl rfl).int_of
  obtain ⟨x3,rfl,f3⟩:=(ht 3 _ c3 rfl rfl).str_of
  obtain ⟨x4,rfl,f4⟩:=(ht 4 _ c4 rfl rfl).int_of
  obtain ⟨x5,rfl,f5⟩:=(ht 5 _ c5 rfl rfl).int_of
  obtain ⟨x6,rfl,f6⟩:=(ht 6 _ c6 rfl rfl).int_of
  exact ⟨⟨⟨x0,x1,⟨x2,x3,x4,x5⟩⟩,x6⟩,rfl,⟨⟨f0,f1,⟨f2,f3,f4,f5⟩⟩,f6⟩⟩
structure State where
 span:Interval
 pairs:(List Pair)
 known:(List Session)
 sealed:Bool
 cut:Str
def State.u (x:State):List U:=[.str x.span.low,.str x.span.high,.sl 2 (x.pairs.map Pair.u),.sl 3 (x.known.map Session.u),.bool x.sealed,.str x.cut]
def State.Fit (x:State):Prop:=Interval.Fit x.span∧(x.pairs.length≤9223372036854775807∧∀ y,y∈x.pairs→Pair.Fit y)∧(x.known.length≤9223372036854775807∧∀ y,y∈x.known→Session.Fit y)∧True∧x.cut.length≤9223372036854775807
theorem State.of (us:List U) (hl:us.length=6) (ht:∀ (j:Nat) ty u,[Ty.s,.s,.sl [.s,.i .i64],.sl [.i .i64,.i .i64,.i .i64],.b,.s][j]?=some ty→us[j]?=some u→UT ty u):∃ x,us=State.u x∧State.Fit x:=by
 match us,hl with
 | [c0,c1,c2,c3,c4,c5],_=>
  obtain ⟨x0,rfl,f0⟩:=(ht 0 _ c0 rfl rfl).str_of
  obtain ⟨x1,rfl,f1⟩:=(ht 1 _ c1 rfl rfl).str_of
  obtain ⟨x2,rfl,f2⟩:=(ht 2 _ c2 rfl rfl).sl_of Pair.of
  obtain ⟨x3,rfl,f3⟩:=(ht 3 _ c3 rfl rfl).sl_of Session.of
  obtain ⟨x4,rfl⟩:=(ht 4 _ c4 rfl rfl).bool_of
  obtain ⟨x5,rfl,f5⟩:=(ht 5 _ c5 rfl rfl).str_of
  exact ⟨⟨⟨x0,x1⟩,x2,x3,x4,x5⟩,rfl,⟨⟨f0,f1⟩,f2,f3,trivial,f5⟩⟩
structure Piece where
 span:Interval
 pairs:(List Pair)
def Piece.u (x:Piece):List U:=[.str x.span.low,.str x.span.high,.sl 2 (x.pairs.map Pair.u)]
def Piece.Fit (x:Piece):Prop:=Interval.Fit x.span∧(x.pairs.length≤9223372036854775807∧∀ y,y∈x.pairs→Pair.Fit y)
theorem Piece.of (us:List U) (hl:us.length=3) (ht:∀ (j:Nat) ty u,[Ty.s,.s,.sl [.s,.i .i64]][j]?=some ty→us[j]?=some u→UT ty u):∃ x,us=Piece.u x∧Piece.Fit x:=by
 match us,hl with
 | [c0,c1,c2],_=>
  obtain ⟨x0,rfl,f0⟩:=(ht 0 _ c0 rfl rfl).str_of
  obtain ⟨x1,rfl,f1⟩:=(ht 1 _ c1 rfl rfl).str_of
  obtain ⟨x2,rfl,f2⟩:=(ht 2 _ c2 rfl rfl).sl_of Pair.of
  exact ⟨⟨⟨x0,x1⟩,x2⟩,rfl,⟨⟨f0,f1⟩,f2⟩⟩
structure Config where
 epoch:Int
 members:(List Int)
 fresh:Bool
def Config.u (x:Config):List U:=[.int .i64 x.epoch,.sl 1 (x.members.map iU),.bool x.fresh]
def Config.Fit (x:Config):Prop:=ZG x.epoch∧(x.members.length≤9223372036854775807∧∀ y,y∈x.members→ZG y)∧True
theorem Config.of (us:List U) (hl:us.length=3) (ht:∀ (j:Nat) ty u,[Ty.i .i64,.sl [.i .i64],.b][j]?=some ty→us[j]?=some u→UT ty u):∃ x,us=Config.u x∧Config.Fit x:=by
 match us,hl with
 | [c0,c1,c2],_=>
  obtain ⟨x0,rfl,f0⟩:=(ht 0 _ c0 rfl rfl).int_of
  obtain ⟨x1,rfl,f1⟩:=(ht 1 _ c1 rfl rfl).sl_of ZGs
  obtain ⟨x2,rfl⟩:=(ht 2 _ c2 rfl rfl).bool_of
  exact ⟨⟨x0,x1,x2⟩,rfl,⟨f0,f1,trivial⟩⟩
structure Event where
 kind:Int
 node:Int
 place:Int
 sent:Entry
def Event.u (x:Event):List U:=[.int .i64 x.kind,.int .i64 x.node,.int .i64 x.place,.int .i64 x.sent.client,.int .i64 x.sent.seq,.int .i64 x.sent.cmd.kind,.str x.sent.cmd.key,.int .i64 x.sent.cmd.value,.int .i64 x.sent.cmd.old]
def Event.Fit (x:Event):Prop:=ZG x.kind∧ZG x.node∧ZG x.place∧Entry.Fit x.sent
theorem Event.of (us:List U) (hl:us.length=9) (ht:∀ (j:Nat) ty u,[Ty.i .i64,.i .i64,.i .i64,.i .i64,.i .i64,.i .i64,.s,.i .i64,.i .i64][j]?=some ty→us[j]?=some u→UT ty u):∃ x,us=Event.u x∧Event.Fit x:=by
 match us,hl with
 | [c0,c1,c2,c3,c4,c5,c6,c7,c8],_=>
  obtain ⟨x0,rfl,f0⟩:=(ht 0 _ c0 rfl rfl).int_of
  obtain ⟨x1,rfl,f1⟩:=(ht 1 _ c1 rfl rfl).int_of
  obtain ⟨x2,rfl,f2⟩:=(ht 2 _ c2 rfl rfl).int_of
  obtain ⟨x3,rfl,f3⟩:=(ht 3 _ c3 rfl rfl).int_of
  obtain ⟨x4,rfl,f4⟩:=(ht 4 _ c4 rfl rfl).int_of
  obtain ⟨x5,rfl,f5⟩:=(ht 5 _ c5 rfl rfl).int_of
  obtain ⟨x6,rfl,f6⟩:=(ht 6 _ c6 rfl rfl).str_of
  obtain ⟨x7,rfl,f7⟩:=(ht 7 _ c7 rfl rfl).int_of
  obtain ⟨x8,rfl,f8⟩:=(ht 8 _ c8 rfl rfl).int_of
  exact ⟨⟨x0,x1,x2,⟨x3,x4,⟨x5,x6,x7,x8⟩⟩⟩,rfl,⟨f0,f1,f2,⟨f3,f4,⟨f5,f6,f7,f8⟩⟩⟩⟩
structure Plan where
 kind:Int
 first:Int
 second:Int
 key:Str
 from_:Int
 to_:Int
 step:Int
def Plan.u (x:Plan):List U:=[.int .i64 x.kind,.int .i64 x.first,.int .i64 x.second,.str x.key,.int .i64 x.from_,.int .i64 x.to_,.int .i64 x.step]
def Plan.Fit (x:Plan):Prop:=ZG x.kind∧ZG x.first∧ZG x.second∧x.key.length≤9223372036854775807∧ZG x.from_∧ZG x.to_∧ZG x.step
theorem Plan.of (us:List U) (hl:us.length=7) (ht:∀ (j:Nat) ty u,[Ty.i .i64,.i .i64,.i .i64,.s,.i .i64,.i .i64,.i .i64][j]?=some ty→us[j]?=some u→UT ty u):∃ x,us=Plan.u x∧Plan.Fit x:=by
 match us,hl with
 | [c0,c1,c2,c3,c4,c5,c6],_=>
  obtain ⟨x0,rfl,f0⟩:=(ht 0 _ c0 rfl rfl).int_of
  obtain ⟨x1,rfl,f1⟩:=(ht 1 _ c1 rfl rfl).int_of
  obtain ⟨x2,rfl,f2⟩:=(ht 2 _ c2 rfl rfl).int_of
  obtain ⟨x3,rfl,f3⟩:=(ht 3 _ c3 rfl rfl).str_of
  obtain ⟨x4,rfl,f4⟩:=(ht 4 _ c4 rfl rfl).int_of
  obtain ⟨x5,rfl,f5⟩:=(ht 5 _ c5 rfl rfl).int_of
  obtain ⟨x6,rfl,f6⟩:=(ht 6 _ c6 rfl rfl).int_of
  exact ⟨⟨x0,x1,x2,x3,x4,x5,x6⟩,rfl,⟨f0,f1,f2,f3,f4,f5,f6⟩⟩
structure Deed where
 kind:Int
 who:Int
 node:Int
 number:Int
 wish:Command
 inner:Event
 work:Plan
def Deed.u (x:Deed):List U:=[.int .i64 x.kind,.int .i64 x.who,.int .i64 x.node,.int .i64 x.number,.int .i64 x.wish.kind,.str x.wish.key,.int .i64 x.wish.value,.int .i64 x.wish.old,.int .i64 x.inner.kind,.int .i64 x.inner.node,.int .i64 x.inner.place,.int .i64 x.inner.sent.client,.int .i64 x.inner.sent.seq,.int .i64 x.inner.sent.cmd.kind,.str x.inner.sent.cmd.key,.int .i64 x.inner.sent.cmd.value,.int .i64 x.inner.sent.cmd.old,.int .i64 x.work.kind,.int .i64 x.work.first,.int .i64 x.work.second,.str x.work.key,.int .i64 x.work.from_,.int .i64 x.work.to_,.int .i64 x.work.step]
def Deed.Fit (x:Deed):Prop:=ZG x.kind∧ZG x.who∧ZG x.node∧ZG x.number∧Command.Fit x.wish∧Event.Fit x.inner∧Plan.Fit x.work
theorem Deed.of (us:List U) (hl:us.length=24) (ht:∀ (j:Nat) ty u,[Ty.i .i64,.i .i64,.i .i64,.i .i64,.i .i64,.s,.i .i64,.i .i64,.i .i64,.i .i64,.i .i64,.i .i64,.i .i64,.i .i64,.s,.i .i64,.i .i64,.i .i64,.i .i64,.i .i64,.s,.i .i64,.i .i64,.i .i64][j]?=some ty→us[j]?=some u→UT ty u):∃ x,us=Deed.u x∧Deed.Fit x:=by
 match us,hl with
 | [c0,c1,c2,c3,c4,c5,c6,c7,c8,c9,c10,c11,c12,c13,c14,c15,c16,c17,c18,c19,c20,c21,c22,c23],_=>
  obtain ⟨x0,rfl,f0⟩:=(ht 0 _ c0 rfl rfl).int_of
  obtain ⟨x1,rfl,f1⟩:=(ht 1 _ c1 rfl rfl).int_of
  obtain ⟨x2,rfl,f2⟩:=(ht 2 _ c2 rfl rfl).int_of
  obtain ⟨x3,rfl,f3⟩:=(ht 3 _ c3 rfl rfl).int_of
  obtain ⟨x4,rfl,f4⟩:=(ht 4 _ c4 rfl rfl).int_of
  obtain ⟨x5,rfl,f5⟩:=(ht 5 _ c5 rfl rfl).str_of
  obtain ⟨x6,rfl,f6⟩:=(ht 6 _ c6 rfl rfl).int_of
  obtain ⟨x7,rfl,f7⟩:=(ht 7 _ c7 rfl rfl).int_of
  obtain ⟨x8,rfl,f8⟩:=(ht 8 _ c8 rfl rfl).int_of
  obtain ⟨x9,rfl,f9⟩:=(ht 9 _ c9 rfl rfl).int_of
  obtain ⟨x10,rfl,f10⟩:=(ht 10 _ c10 rfl rfl).int_of
  obtain ⟨x11,rfl,f11⟩:=(ht 11 _ c11 rfl rfl).int_of
  obtain ⟨x12,rfl,f12⟩:=(ht 12 _ c12 rfl rfl).int_of
  obtain ⟨x13,rfl,f13⟩:=(ht 13 _ c13 rfl rfl).int_of
  obtain ⟨x14,rfl,f14⟩:=(ht 14 _ c14 rfl rfl).str_of
  obtain ⟨x15,rfl,f15⟩:=(ht 15 _ c15 rfl rfl).int_of
  obtain ⟨x16,rfl,f16⟩:=(ht 16 _ c16 rfl rfl).int_of
  obtain ⟨x17,rfl,f17⟩:=(ht 17 _ c17 rfl rfl).int_of
  obtain ⟨x18,rfl,f18⟩:=(ht 18 _ c18 rfl rfl).int_of
  obtain ⟨x19,rfl,f19⟩:=(ht 19 _ c19 rfl rfl).int_of
  obtain ⟨x20,rfl,f20⟩:=(ht 20 _ c20 rfl rfl).str_of
  obtain ⟨x21,rfl,f21⟩:=(ht 21 _ c21 rfl rfl).int_of
  obtain ⟨x22,rfl,f22⟩:=(ht 22 _ c22 rfl rfl).int_of
  obtain ⟨x23,rfl,f23⟩:=(ht 23 _ c23 rfl rfl).int_of
  exact ⟨⟨x0,x1,x2,x3,⟨x4,x5,x6,x7⟩,⟨x8,x9,x10,⟨x11,x12,⟨x13,x14,x15,x16⟩⟩⟩,⟨x17,x18,x19,x20,x21,x22,x23⟩⟩,rfl,⟨f0,f1,f2,f3,⟨f4,f5,f6,f7⟩,⟨f8,f9,f10,⟨f11,f12,⟨f13,f14,f15,f16⟩⟩⟩,⟨f17,f18,f19,f20,f21,f22,f23⟩⟩⟩
structure Replica where
 conf:Config
 ready:Bool
 log:(List Entry)
def Replica.u (x:Replica):List U:=[.int .i64 x.conf.epoch,.sl 1 (x.conf.members.map iU),.bool x.conf.fresh,.bool x.ready,.sl 6 (x.log.map Entry.u)]
def Replica.Fit (x:Replica):Prop:=Config.Fit x.conf∧True∧(x.log.length≤9223372036854775807∧∀ y,y∈x.log→Entry.Fit y)
theorem Replica.of (us:List U) (hl:us.length=5) (ht:∀ (j:Nat) ty u,[Ty.i .i64,.sl [.i .i64],.b,.b,.sl [.i .i64,.i .i64,.i .i64,.s,.i .i64,.i .i64]][j]?=some ty→us[j]?=some u→UT ty u):∃ x,us=Replica.u x∧Replica.Fit x:=by
 match us,hl with
 | [c0,c1,c2,c3,c4],_=>
  obtain ⟨x0,rfl,f0⟩:=(ht 0 _ c0 rfl rfl).int_of
  obtain ⟨x1,rfl,f1⟩:=(ht 1 _ c1 rfl rfl).sl_of ZGs
  obtain ⟨x2,rfl⟩:=(ht 2 _ c2 rfl rfl).bool_of
  obtain ⟨x3,rfl⟩:=(ht 3 _ c3 rfl rfl).bool_of
  obtain ⟨x4,rfl,f4⟩:=(ht 4 _ c4 rfl rfl).sl_of Entry.of
  exact ⟨⟨⟨x0,x1,x2⟩,x3,x4⟩,rfl,⟨⟨f0,f1,trivial⟩,trivial,f4⟩⟩
structure Message where
 kind:Int
 to_:Int
 epoch:Int
 conf:Config
 log:(List Entry)
def Message.u (x:Message):List U:=[.int .i64 x.kind,.int .i64 x.to_,.int .i64 x.epoch,.int .i64 x.conf.epoch,.sl 1 (x.conf.members.map iU),.bool x.conf.fresh,.sl 6 (x.log.map Entry.u)]
def Message.Fit (x:Message):Prop:=ZG x.kind∧ZG x.to_∧ZG x.epoch∧Config.Fit x.conf∧(x.log.length≤9223372036854775807∧∀ y,y∈x.log→Entry.Fit y)
theorem Message.of (us:List U) (hl:us.length=7) (ht:∀ (j:Nat) ty u,[Ty.i .i64,.i .i64,.i .i64,.i .i64,.sl [.i .i64],.b,.sl [.i .i64,.i .i64,.i .i64,.s,.i .i64,.i .i64]][j]?=some ty→us[j]?=some u→UT ty u):∃ x,us=Message.u x∧Message.Fit x:=by
 match us,hl with
 | [c0,c1,c2,c3,c4,c5,c6],_=>
  obtain ⟨x0,rfl,f0⟩:=(ht 0 _ c0 rfl rfl).int_of
  obtain ⟨x1,rfl,f1⟩:=(ht 1 _ c1 rfl rfl).int_of
  obtain ⟨x2,rfl,f2⟩:=(ht 2 _ c2 rfl rfl).int_of
  obtain ⟨x3,rfl,f3⟩:=(ht 3 _ c3 rfl rfl).int_of
  obtain ⟨x4,rfl,f4⟩:=(ht 4 _ c4 rfl rfl).sl_of ZGs
  obtain ⟨x5,rfl⟩:=(ht 5 _ c5 rfl rfl).bool_of
  obtain ⟨x6,rfl,f6⟩:=(ht 6 _ c6 rfl rfl).sl_of Entry.of
  exact ⟨⟨x0,x1,x2,⟨x3,x4,x5⟩,x6⟩,rfl,⟨f0,f1,f2,⟨f3,f4,trivial⟩,f6⟩⟩
structure Chain where
 base:State
 conf:Config
 nodes:(List Replica)
 up:(List Bool)
 bag:(List Message)
 answers:(List Answer)
def Chain.u (x:Chain):List U:=[.str x.base.span.low,.str x.base.span.high,.sl 2 (x.base.pairs.map Pair.u),.sl 3 (x.base.known.map Session.u),.bool x.base.sealed,.str x.base.cut,.int .i64 x.conf.epoch,.sl 1 (x.conf.members.map iU),.bool x.conf.fresh,.sl 5 (x.nodes.map Replica.u),.sl 1 (x.up.map bU),.sl 7 (x.bag.map Message.u),.sl 7 (x.answers.map Answer.u)]
def Chain.Fit (x:Chain):Prop:=State.Fit x.base∧Config.Fit x.conf∧(x.nodes.length≤9223372036854775807∧∀ y,y∈x.nodes→Replica.Fit y)∧(x.up.length≤9223372036854775807∧∀ y,y∈x.up→True)∧(x.bag.length≤9223372036854775807∧∀ y,y∈x.bag→Message.Fit y)∧(x.answers.length≤9223372036854775807∧∀ y,y∈x.answers→Answer.Fit y)
theorem Chain.of (us:List U) (hl:us.length=13) (ht:∀ (j:Nat) ty u,[Ty.s,.s,.sl [.s,.i .i64],.sl [.i .i64,.i .i64,.i .i64],.b,.s,.i .i64,.sl [.i .i64],.b,.sl [.i .i64,.sl [.i .i64],.b,.b,.sl [.i .i64,.i .i64,.i .i64,.s,.i .i64,.i .i64]],.sl [.b],.sl [.i .i64,.i .i64,.i .i64,.i .i64,.sl [.i .i64],.b,.sl [.i .i64,.i .i64,.i .i64,.s,.i .i64,.i .i64]],.sl [.i .i64,.i .i64,.i .i64,.s,.i .i64,.i .i64,.i .i64]][j]?=some ty→us[j]?=some u→UT ty u):∃ x,us=Chain.u x∧Chain.Fit x:=by
 match us,hl with
 | [c0,c1,c2,c3,c4,c5,c6,c7,c8,c9,c10,c11,c12],_=>
  obtain ⟨x0,rfl,f0⟩:=(ht 0 _ c0 rfl rfl).str_of
  obtain ⟨x1,rfl,f1⟩:=(ht 1 _ c1 rfl rfl).str_of
  obtain ⟨x2,rfl,f2⟩:=(ht 2 _ c2 rfl rfl).sl_of Pair.of
  obtain ⟨x3,rfl,f3⟩:=(ht 3 _ c3 rfl rfl).sl_of Session.of
  obtain ⟨x4,rfl⟩:=(ht 4 _ c4 rfl rfl).bool_of
  obtain ⟨x5,rfl,f5⟩:=(ht 5 _ c5 rfl rfl).str_of
  obtain ⟨x6,rfl,f6⟩:=(ht 6 _ c6 rfl rfl).int_of
  obtain ⟨x7,rfl,f7⟩:=(ht 7 _ c7 rfl rfl).sl_of ZGs
  obtain ⟨x8,rfl⟩:=(ht 8 _ c8 rfl rfl).bool_of
  obtain ⟨x9,rfl,f9⟩:=(ht 9 _ c9 rfl rfl).sl_of Replica.of
  obtain ⟨x10,rfl,f10⟩:=(ht 10 _ c10 rfl rfl).sl_of ZHC
  obtain ⟨x11,rfl,f11⟩:=(ht 11 _ c11 rfl rfl).sl_of Message.of
  obtain ⟨x12,rfl,f12⟩:=(ht 12 _ c12 rfl rfl).sl_of Answer.of
  exact ⟨⟨⟨⟨x0,x1⟩,x2,x3,x4,x5⟩,⟨x6,x7,x8⟩,x9,x10,x11,x12⟩,rfl,⟨⟨⟨f0,f1⟩,f2,f3,trivial,f5⟩,⟨f6,f7,trivial⟩,f9,f10,f11,f12⟩⟩
structure Route where
 number:Int
 span:Interval
def Route.u (x:Route):List U:=[.int .i64 x.number,.str x.span.low,.str x.span.high]
def Route.Fit (x:Route):Prop:=ZG x.number∧Interval.Fit x.span
theorem Route.of (us:List U) (hl:us.length=3) (ht:∀ (j:Nat) ty u,[Ty.i .i64,.s,.s][j]?=some ty→us[j]?=some u→UT ty u):∃ x,us=Route.u x∧Route.Fit x:=by
 match us,hl with
 | [c0,c1,c2],_=>
  obtain ⟨x0,rfl,f0⟩:=(ht 0 _ c0 rfl rfl).int_of
  obtain ⟨x1,rfl,f1⟩:=(ht 1 _ c1 rfl rfl).str_of
  obtain ⟨x2,rfl,f2⟩:=(ht 2 _ c2 rfl rfl).str_of
  exact ⟨⟨x0,⟨x1,x2⟩⟩,rfl,⟨f0,⟨f1,f2⟩⟩⟩
structure Caller where
 cache:(List Route)
 seq:Int
 busy:Bool
 wish:Command
 called:Int
def Caller.u (x:Caller):List U:=[.sl 3 (x.cache.map Route.u),.int .i64 x.seq,.bool x.busy,.int .i64 x.wish.kind,.str x.wish.key,.int .i64 x.wish.value,.int .i64 x.wish.old,.int .i64 x.called]
def Caller.Fit (x:Caller):Prop:=(x.cache.length≤9223372036854775807∧∀ y,y∈x.cache→Route.Fit y)∧ZG x.seq∧True∧Command.Fit x.wish∧ZG x.called
theorem Caller.of (us:List U) (hl:us.length=8) (ht:∀ (j:Nat) ty u,[Ty.sl [.i .i64,.s,.s],.i .i64,.b,.i .i64,.s,.i .i64,.i .i64,.i .i64][j]?=some ty→us[j]?=some u→UT ty u):∃ x,us=Caller.u x∧Caller.Fit x:=by
 match us,hl with
 | [c0,c1,c2,c3,c4,c5,c6,c7],_=>
  obtain ⟨x0,rfl,f0⟩:=(ht 0 _ c0 rfl rfl).sl_of Route.of
  obtain ⟨x1,rfl,f1⟩:=(ht 1 _ c1 rfl rfl).int_of
  obtain ⟨x2,rfl⟩:=(ht 2 _ c2 rfl rfl).bool_of
  obtain ⟨x3,rfl,f3⟩:=(ht 3 _ c3 rfl rfl).int_of
  obtain ⟨x4,rfl,f4⟩:=(ht 4 _ c4 rfl rfl).str_of
  obtain ⟨x5,rfl,f5⟩:=(ht 5 _ c5 rfl rfl).int_of
  obtain ⟨x6,rfl,f6⟩:=(ht 6 _ c6 rfl rfl).int_of
  obtain ⟨x7,rfl,f7⟩:=(ht 7 _ c7 rfl rfl).int_of
  exact ⟨⟨x0,x1,x2,⟨x3,x4,x5,x6⟩,x7⟩,rfl,⟨f0,f1,trivial,⟨f3,f4,f5,f6⟩,f7⟩⟩
structure Result where
 client:Int
 seq:Int
 wish:Command
 reply:Int
 called:Int
 returned:Int
def Result.u (x:Result):List U:=[.int .i64 x.client,.int .i64 x.seq,.int .i64 x.wish.kind,.str x.wish.key,.int .i64 x.wish.value,.int .i64 x.wish.old,.int .i64 x.reply,.int .i64 x.called,.int .i64 x.returned]
def Result.Fit (x:Result):Prop:=ZG x.client∧ZG x.seq∧Command.Fit x.wish∧ZG x.reply∧ZG x.called∧ZG x.returned
theorem Result.of (us:List U) (hl:us.length=9) (ht:∀ (j:Nat) ty u,[Ty.i .i64,.i .i64,.i .i64,.s,.i .i64,.i .i64,.i .i64,.i .i64,.i .i64][j]?=some ty→us[j]?=some u→UT ty u):∃ x,us=Result.u x∧Result.Fit x:=by
 match us,hl with
 | [c0,c1,c2,c3,c4,c5,c6,c7,c8],_=>
  obtain ⟨x0,rfl,f0⟩:=(ht 0 _ c0 rfl rfl).int_of
  obtain ⟨x1,rfl,f1⟩:=(ht 1 _ c1 rfl rfl).int_of
  obtain ⟨x2,rfl,f2⟩:=(ht 2 _ c2 rfl rfl).int_of
  obtain ⟨x3,rfl,f3⟩:=(ht 3 _ c3 rfl rfl).str_of
  obtain ⟨x4,rfl,f4⟩:=(ht 4 _ c4 rfl rfl).int_of
  obtain ⟨x5,rfl,f5⟩:=(ht 5 _ c5 rfl rfl).int_of
  obtain ⟨x6,rfl,f6⟩:=(ht 6 _ c6 rfl rfl).int_of
  obtain ⟨x7,rfl,f7⟩:=(ht 7 _ c7 rfl rfl).int_of
  obtain ⟨x8,rfl,f8⟩:=(ht 8 _ c8 rfl rfl).int_of
  exact ⟨⟨x0,x1,⟨x2,x3,x4,x5⟩,x6,x7,x8⟩,rfl,⟨f0,f1,⟨f2,f3,f4,f5⟩,f6,f7,f8⟩⟩
structure Shard where
 live:Bool
 group:Chain
def Shard.u (x:Shard):List U:=[.bool x.live,.str x.group.base.span.low,.str x.group.base.span.high,.sl 2 (x.group.base.pairs.map Pair.u),.sl 3 (x.group.base.known.map Session.u),.bool x.group.base.sealed,.str x.group.base.cut,.int .i64 x.group.conf.epoch,.sl 1 (x.group.conf.members.map iU),.bool x.group.conf.fresh,.sl 5 (x.group.nodes.map Replica.u),.sl 1 (x.group.up.map bU),.sl 7 (x.group.bag.map Message.u),.sl 7 (x.group.answers.map Answer.u)]
def Shard.Fit (x:Shard):Prop:=True∧Chain.Fit x.group
theorem Shard.of (us:List U) (hl:us.length=14) (ht:∀ (j:Nat) ty u,[Ty.b,.s,.s,.sl [.s,.i .i64],.sl [.i .i64,.i .i64,.i .i64],.b,.s,.i .i64,.sl [.i .i64],.b,.sl [.i .i64,.sl [.i .i64],.b,.b,.sl [.i .i64,.i .i64,.i .i64,.s,.i .i64,.i .i64]],.sl [.b],.sl [.i .i64,.i .i64,.i .i64,.i .i64,.sl [.i .i64],.b,.sl [.i .i64,.i .i64,.i .i64,.s,.i .i64,.i .i64]],.sl [.i .i64,.i .i64,.i .i64,.s,.i .i64,.i .i64,.i .i64]][j]?=some ty→us[j]?=some u→UT ty u):∃ x,us=Shard.u x∧Shard.Fit x:=by
 match us,hl with
 | [c0,c1,c2,c3,c4,c5,c6,c7,c8,c9,c10,c11,c12,c13],_=>
  obtain ⟨x0,rfl⟩:=(ht 0 _ c0 rfl rfl).bool_of
  obtain ⟨x1,rfl,f1⟩:=(ht 1 _ c1 rfl rfl).str_of
  obtain ⟨x2,rfl,f2⟩:=(ht 2 _ c2 rfl rfl).str_of
  obtain ⟨x3,rfl,f3⟩:=(ht 3 _ c3 rfl rfl).sl_of Pair.of
  obtain ⟨x4,rfl,f4⟩:=(ht 4 _ c4 rfl rfl).sl_of Session.of
  obtain ⟨x5,rfl⟩:=(ht 5 _ c5 rfl rfl).bool_of
  obtain ⟨x6,rfl,f6⟩:=(ht 6 _ c6 rfl rfl).str_of
  obtain ⟨x7,rfl,f7⟩:=(ht 7 _ c7 rfl rfl).int_of
  obtain ⟨x8,rfl,f8⟩:=(ht 8 _ c8 rfl rfl).sl_of ZGs
  obtain ⟨x9,rfl⟩:=(ht 9 _ c9 rfl rfl).bool_of
  obtain ⟨x10,rfl,f10⟩:=(ht 10 _ c10 rfl rfl).sl_of Replica.of
  obtain ⟨x11,rfl,f11⟩:=(ht 11 _ c11 rfl rfl).sl_of ZHC
  obtain ⟨x12,rfl,f12⟩:=(ht 12 _ c12 rfl rfl).sl_of Message.of
  obtain ⟨x13,rfl,f13⟩:=(ht 13 _ c13 rfl rfl).sl_of Answer.of
  exact ⟨⟨x0,⟨⟨⟨x1,x2⟩,x3,x4,x5,x6⟩,⟨x7,x8,x9⟩,x10,x11,x12,x13⟩⟩,rfl,⟨trivial,⟨⟨⟨f1,f2⟩,f3,f4,trivial,f6⟩,⟨f7,f8,trivial⟩,f10,f11,f12,f13⟩⟩⟩
structure Cluster where
 shards:(List Shard)
 clients:(List Caller)
 results:(List Result)
 work:Plan
 turn:Int
 clock:Int
def Cluster.u (x:Cluster):List U:=[.sl 14 (x.shards.map Shard.u),.sl 8 (x.clients.map Caller.u),.sl 9 (x.results.map Result.u),.int .i64 x.work.kind,.int .i64 x.work.first,.int .i64 x.work.second,.str x.work.key,.int .i64 x.work.from_,.int .i64 x.work.to_,.int .i64 x.work.step,.int .i64 x.turn,.int .i64 x.clock]
def Cluster.Fit (x:Cluster):Prop:=(x.shards.length≤9223372036854775807∧∀ y,y∈x.shards→Shard.Fit y)∧(x.clients.length≤9223372036854775807∧∀ y,y∈x.clients→Caller.Fit y)∧(x.results.length≤9223372036854775807∧∀ y,y∈x.results→Result.Fit y)∧Plan.Fit x.work∧ZG x.turn∧ZG x.clock
theorem Cluster.of (us:List U) (hl:us.length=12) (ht:∀ (j:Nat) ty u,[Ty.sl [.b,.s,.s,.sl [.s,.i .i64],.sl [.i .i64,.i .i64,.i .i64],.b,.s,.i .i64,.sl [.i .i64],.b,.sl [.i .i64,.sl [.i .i64],.b,.b,.sl [.i .i64,.i .i64,.i .i64,.s,.i .i64,.i .i64]],.sl [.b],.sl [.i .i64,.i .i64,.i .i64,.i .i64,.sl [.i .i64],.b,.sl [.i .i64,.i .i64,.i .i64,.s,.i .i64,.i .i64]],.sl [.i .i64,.i .i64,.i .i64,.s,.i .i64,.i .i64,.i .i64]],.sl [.sl [.i .i64,.s,.s],.i .i64,.b,.i .i64,.s,.i .i64,.i .i64,.i .i64],.sl [.i .i64,.i .i64,.i .i64,.s,.i .i64,.i .i64,.i .i64,.i .i64,.i .i64],.i .i64,.i .i64,.i .i64,.s,.i .i64,.i .i64,.i .i64,.i .i64,.i .i64][j]?=some ty→us[j]?=some u→UT ty u):∃ x,us=Cluster.u x∧Cluster.Fit x:=by
 match us,hl with
 | [c0,c1,c2,c3,c4,c5,c6,c7,c8,c9,c10,c11],_=>
  obtain ⟨x0,rfl,f0⟩:=(ht 0 _ c0 rfl rfl).sl_of Shard.of
  obtain ⟨x1,rfl,f1⟩:=(ht 1 _ c1 rfl rfl).sl_of Caller.of
  obtain ⟨x2,rfl,f2⟩:=(ht 2 _ c2 rfl rfl).sl_of Result.of
  obtain ⟨x3,rfl,f3⟩:=(ht 3 _ c3 rfl rfl).int_of
  obtain ⟨x4,rfl,f4⟩:=(ht 4 _ c4 rfl rfl).int_of
  obtain ⟨x5,rfl,f5⟩:=(ht 5 _ c5 rfl rfl).int_of
  obtain ⟨x6,rfl,f6⟩:=(ht 6 _ c6 rfl rfl).str_of
  obtain ⟨x7,rfl,f7⟩:=(ht 7 _ c7 rfl rfl).int_of
  obtain ⟨x8,rfl,f8⟩:=(ht 8 _ c8 rfl rfl).int_of
  obtain ⟨x9,rfl,f9⟩:=(ht 9 _ c9 rfl rfl).int_of
  obtain ⟨x10,rfl,f10⟩:=(ht 10 _ c10 rfl rfl).int_of
  obtain ⟨x11,rfl,f11⟩:=(ht 11 _ c11 rfl rfl).int_of
  exact ⟨⟨x0,x1,x2,⟨x3,x4,x5,x6,x7,x8,x9⟩,x10,x11⟩,rfl,⟨f0,f1,f2,⟨f3,f4,f5,f6,f7,f8,f9⟩,f10,f11⟩⟩
theorem ZGr:(∀ l:List Pair,ZcM (l.map Pair.u)=true)∧(∀ l:List Session,ZcM (l.map Session.u)=true)∧(∀ l:List Int,ZcM (l.map iU)=true)∧(∀ l:List Answer,ZcM (l.map Answer.u)=true)∧(∀ l:List Entry,ZcM (l.map Entry.u)=true)∧(∀ l:List Bool,ZcM (l.map bU)=true)∧(∀ l:List Route,ZcM (l.map Route.u)=true)∧(∀ l:List Result,ZcM (l.map Result.u)=true)∧(∀ l:List Interval,ZcM (l.map Interval.u)=true)∧(∀ (b:Bool) (x:List Id),sel b x x=x)∧
  (∀ (st:St) d res x0 x1 x2 x3 x4 x5 x6,St.ofRet st d ⟨res,[x0,x1,x2,x3,x4,x5,x6],[]⟩=(((((((st.obj (.loc d 0) (some x0)).obj (.loc d 1) (some x1)).obj (.loc d 2) (some x2)).obj (.loc d 3) (some x3)).obj (.loc d 4) (some x4)).obj (.loc d 5) (some x5)).obj (.loc d 6) (some x6)).put d (retD (res.map (T.mapC (C.ren (Zah d))))))∧List.range 7=[0,1,2,3,4,5,6]∧
  (∀ l:List Pair,Zbm (l.map Pair.u)=true)∧(∀ l:List Session,Zbm (l.map Session.u)=true)∧(∀ l:List Int,Zbm (l.map iU)=true)∧(∀ l:List Answer,Zbm (l.map Answer.u)=true)∧(∀ l:List Entry,Zbm (l.map Entry.u)=true)∧(∀ l:List Bool,Zbm (l.map bU)=true)∧(∀ l:List Route,Zbm (l.map Route.u)=true)∧(∀ l:List Result,Zbm (l.map Result.u)=true)∧(∀ l:List Interval,Zbm (l.map Interval.u)=true):=
 ⟨Zja fun _=>rfl,Zja fun _=>rfl,Zja fun _=>rfl,Zja fun _=>rfl,Zja fun _=>rfl,Zja fun _=>rfl,Zja fun _=>rfl,Zja fun _=>rfl,Zja fun _=>rfl,fun b x=>by cases b<;>rfl,fun st d res x0 x1 x2 x3 x4 x5 x6=>rfl,rfl,Zjj fun _=>rfl,Zjj fun _=>rfl,Zjj fun _=>rfl,Zjj fun _=>rfl,Zjj fun _=>rfl,Zjj fun _=>rfl,Zjj fun _=>rfl,Zjj fun _=>rfl,Zjj fun _=>rfl⟩
theorem xT:(type_of% xQ)∧(type_of% xR)∧(type_of% xS)∧(type_of% ZGr):=⟨xQ,xR,xS,ZGr⟩
theorem xU:(type_of% xQ)∧(type_of% xR)∧(type_of% xD)∧(type_of% ZGr):=⟨xQ,xR,xD,ZGr⟩
/-- A part is taken off, unless that is too much. -/
def offZ (left:Int) (n:Nat) (k:Int→Int):Int:=if IntKind.i64.wrap (left - n)<0 then -1 else k (IntKind.i64.wrap (left - n))
def chkZ (a:Int) (k:Int→Int):Int:=if a<0 then -1 else k a
def allZ {α:Type} (g:α→Int→Int):List α→Int→Int
 | [],a=>a
 | x::xs,a=>chkZ (g x a) (allZ g xs)
theorem ZHu {α:Type} {g:α→Int→Int} {l:List α} {i:Nat} {x:α} (h:l[i]?=some x) (a:Int):allZ g (l.drop i) a=chkZ (g x a) (allZ g (l.drop (i+1))):=by
 have hi:=(List.getElem?_eq_some_iff.1 h).1
 have he:=(List.getElem?_eq_some_iff.1 h).2
 rw [List.drop_eq_getElem_cons hi,he]; rfl
/-- No more is left than was there; what was counted is small. -/
def LeZ (g:Int→Int) (P:Prop):Prop:=∀ a,0≤a→a≤1048576→g a≤a∧(0≤g a→P)
theorem LeZ.id:LeZ (fun a=>a) True:=fun a _ _=>⟨Int.le_refl _,fun _=>trivial⟩
theorem LeZ.off {n:Nat} {k:Int→Int} {P:Prop} (hn:n≤9223372036854775807) (hk:LeZ k P):LeZ (fun a=>offZ a n k) (n≤1048576∧P):=by
 intro a h0 h1
 simp only[offZ]
 rw [w64 (by omega) (by omega)]
 split
 ·exact ⟨by omega,fun h=>by omega⟩
 ·obtain ⟨h2,h3⟩:=hk (a - n) (by omega) (by omega)
  exact ⟨by omega,fun h=>⟨by omega,h3 h⟩⟩
theorem LeZ.chk {g k:Int→Int} {P Q:Prop} (hg:LeZ g P) (hk:LeZ k Q):LeZ (fun a=>chkZ (g a) k) (P∧Q):=by
 intro a h0 h1
 obtain ⟨h2,h3⟩:=hg a h0 h1
 simp only[chkZ]
 split
 ·exact ⟨by omega,fun h=>by omega⟩
 ·obtain ⟨h4,h5⟩:=hk (g a) (by omega) (by omega)
  exact ⟨by omega,fun h=>⟨h3 (by omega),h5 h⟩⟩
theorem LeZ.all {α:Type} {g:α→Int→Int} {P:α→Prop}:∀ {l:List α},(∀ x,x∈l→LeZ (g x) (P x))→LeZ (allZ g l) (∀ x,x∈l→P x)
 | [],_=>fun a _ _=>⟨Int.le_refl _,fun _ x h=>by cases h⟩
 | x::xs,h=>by
  have h1:=(h x (List.mem_cons_self ..)).chk (LeZ.all (l:=xs) (fun y hy=>h y (List.mem_cons_of_mem _ hy)))
  intro a h0 h2
  obtain ⟨h3,h4⟩:=h1 a h0 h2
  refine ⟨h3,fun h y hy=>?_⟩
  rcases List.mem_cons.1 hy with rfl|hy
  ·exact (h4 h).1
  ·exact (h4 h).2 y hy
theorem ZHj {α:Type} {f:α→List U} {z:List U} {l:List α} {i:Nat} {x:α} (h:l[i]?=some x):((l.take i).map f++List.replicate (l.length - i) z).set i (f x)=(l.take (i+1)).map f++List.replicate (l.length - (i+1)) z:=by
 have hi:=(List.getElem?_eq_some_iff.1 h).1
 have he:=(List.getElem?_eq_some_iff.1 h).2
 have h1:((l.take i).map f).length=i:=by simp; omega
 rw [List.set_append_right _ _ (by omega),h1,Nat.sub_self,show l.length - i=(l.length - (i+1))+1 by omega,List.replicate_succ,List.set_cons_zero,List.take_succ_eq_append_getElem hi,List.map_append,List.append_assoc,he]
 rfl
theorem ZHi {α:Type} {f:α→List U} {z:List U} {l:List α} {i:Nat} (hi:i<l.length):((l.take i).map f++List.replicate (l.length - i) z)[i]?=some z:=by
 have h1:((l.take i).map f).length=i:=by simp; omega
 rw [List.getElem?_append_right (by omega),h1,Nat.sub_self,show l.length - i=(l.length - (i+1))+1 by omega,List.replicate_succ]
 rfl
theorem ZHh {α:Type} {f:α→List U} {z:List U} {l:List α}:(l.take l.length).map f++List.replicate (l.length - l.length) z=l.map f:=by simp
theorem ZHU (st:St) (d n:Nat) (zero:List U) (bytes:Nat) (h:n*bytes≤140737488355328):stMk st d (DI (n:Int)) (DI (n:Int)) zero bytes=some (((st.cool (.loc d 0)).obj (.loc d 0) (some (.row zero.length (List.replicate n zero)))).put d (.t (.sc (.own (.loc d 0) n)))):=by
 simp [stMk,D.int?,h]
def ZG2 (l:(List Int)):Prop:=l.length≤1048576∧True
def ZGH (l:(List Bool)):Prop:=l.length≤1048576∧True
def Interval.Small (x:Interval):Prop:=x.low.length≤1048576∧x.high.length≤1048576∧True
def Pair.Small (x:Pair):Prop:=x.key.length≤1048576∧True
theorem ZG6 (c0:Str) (c1:Int):EE F 43 [.ag [.u (.str c0),.u (.int .i64 c1)],.ag [.u (.str c0),.u (.int .i64 c1)]] []=ok1 (B true):=by
 rw [R43,b43]
 simp only[↓xP,xU,rB,rA,rS,ne_eq,not_true_eq_false]
def Z8 (l:(List Pair)):Prop:=l.length≤1048576∧∀ y,y∈l→Pair.Small y
theorem ZFI (l:(List Pair)) (hs:Z8 l):EE F 13 [L 2 (l.map Pair.u),L 2 (l.map Pair.u)] []=ok1 (B true):=by
 have hl:=hs.1
 rw [R13,b13]
 simp only[↓xP,xU,rB,rA,rS,ne_eq,not_true_eq_false]
 refine (Zji (fun (i:Nat) st=>st.s 0=DU (.sl 2 (l.map Pair.u))∧st.s 1=DU (.sl 2 (l.map Pair.u))∧st.s 5=DI i) (fun i=>l.length - i) (fun i=>ok1 (B true)) ?_ 0 ⟨by simp only[↓xP,xU,rB,rA,rS],by simp only[↓xP,xU,rB,rA,rS],by simp only[↓xP,xU,rB,rA,rS]; rfl⟩)
 rintro i st ⟨h0,h1,h5⟩ ih
 by_cases hi:i<l.length
 ·obtain ⟨⟨c0,c1⟩,hx⟩:∃ x,l[i]?=some x:=⟨_,List.getElem?_eq_getElem hi⟩
  have hw:=w_succ (i:=i) (by omega)
  simp only[↓xP,xU,rB,rA,rS,h0,h1,h5,hi,hx,hw,Pair.u,ZG6,ne_eq,not_true_eq_false]
  exact ih (i+1) _ (by omega) ⟨by simp only[↓xP,xU,rB,rA,rS,h0],by simp only[↓xP,xU,rB,rA,rS,h1],by simp only[↓xP,xU,rB,rA,rS]⟩
 ·simp only[↓xP,xU,rB,rA,rS,h0,h1,h5,hi]
def Command.Small (x:Command):Prop:=x.key.length≤1048576∧True
def ZFd (x:Command) (a:Int):Int:=offZ a x.key.length fun a=>a
theorem ZGj (c0:Int) (c1:Str) (c2:Int) (c3:Int) (left:Int):EE F 114 [.ag [.u (.int .i64 c0),.u (.str c1),.u (.int .i64 c2),.u (.int .i64 c3)],I left] []=ok1 (I (ZFd ⟨c0,c1,c2,c3⟩ left)):=by
 rw [R114,b114]
 simp only[↓xP,xU,rB,rA,rS]
 repeat' (refine ZiJ (fun h=>?_) (fun h=>?_))
 all_goals (simp only[decide_eq_true_eq,decide_eq_false_iff_not] at *; simp [ZFd,offZ,chkZ, *])
theorem ZGi (x:Command) (hf:Command.Fit x):LeZ (ZFd x) (Command.Small x):=LeZ.off hf.2.1 LeZ.id
theorem ZGl (c0:Int) (c1:Str) (c2:Int) (c3:Int):EE F 116 [.ag [.u (.int .i64 c0),.u (.str c1),.u (.int .i64 c2),.u (.int .i64 c3)]] []=ok1 (.ag [.u (.int .i64 c0),.u (.str c1),.u (.int .i64 c2),.u (.int .i64 c3)]):=by
 rw [R116,b116]
 simp only[↓xP,xU,rB,rA,rS]
theorem ZF6 (c0:Int) (c1:Str) (c2:Int) (c3:Int):EE F 118 [.ag [.u (.int .i64 c0),.u (.str c1),.u (.int .i64 c2),.u (.int .i64 c3)],.ag [.u (.int .i64 c0),.u (.str c1),.u (.int .i64 c2),.u (.int .i64 c3)]] []=ok1 (B true):=by
 rw [R118,b118]
 simp only[↓xP,xU,rB,rA,rS,ne_eq,not_true_eq_false]
def ZFR (l:(List Session)):Prop:=l.length≤1048576∧True
def Entry.Small (x:Entry):Prop:=Command.Small x.cmd∧True
def ZFu (x:Entry) (a:Int):Int:=chkZ (ZFd x.cmd a) fun a=>a
theorem ZGU (c0:Int) (c1:Int) (c2:Int) (c3:Str) (c4:Int) (c5:Int) (left:Int):EE F 80 [.ag [.u (.int .i64 c0),.u (.int .i64 c1),.u (.int .i64 c2),.u (.str c3),.u (.int .i64 c4),.u (.int .i64 c5)],I left] []=ok1 (I (ZFu ⟨c0,c1,⟨c2,c3,c4,c5⟩⟩ left)):=by
 rw [R80,b80]
 simp only[↓xP,xU,rB,rA,rS,ZGj]
 repeat' (refine ZiJ (fun h=>?_) (fun h=>?_))
 all_goals (simp only[decide_eq_true_eq,decide_eq_false_iff_not] at *; simp [ZFu,offZ,chkZ, *])
theorem ZGT (x:Entry) (hf:Entry.Fit x):LeZ (ZFu x) (Entry.Small x):=LeZ.chk (ZGi _ hf.2.2) LeZ.id
theorem ZGV (c0:Int) (c1:Int) (c2:Int) (c3:Str) (c4:Int) (c5:Int):EE F 85 [.ag [.u (.int .i64 c0),.u (.int .i64 c1),.u (.int .i64 c2),.u (.str c3),.u (.int .i64 c4),.u (.int .i64 c5)]] []=ok1 (.ag [.u (.int .i64 c0),.u (.int .i64 c1),.u (.int .i64 c2),.u (.str c3),.u (.int .i64 c4),.u (.int .i64 c5)]):=by
 rw [R85,b85]
 simp only[↓xP,xU,rB,rA,rS,ZGl]
theorem ZGL (c0:Int) (c1:Int) (c2:Int) (c3:Str) (c4:Int) (c5:Int):EE F 91 [.ag [.u (.int .i64 c0),.u (.int .i64 c1),.u (.int .i64 c2),.u (.str c3),.u (.int .i64 c4),.u (.int .i64 c5)],.ag [.u (.int .i64 c0),.u (.int .i64 c1),.u (.int .i64 c2),.u (.str c3),.u (.int .i64 c4),.u (.int .i64 c5)]] []=ok1 (B true):=by
 rw [R91,b91]
 simp only[↓xP,xU,rB,rA,rS,ZF6,ne_eq,not_true_eq_false]
def ZFx (l:(List Entry)):Prop:=l.length≤1048576∧∀ y,y∈l→Entry.Small y
def Answer.Small (x:Answer):Prop:=Entry.Small x.asked∧True
def Z5 (x:Answer) (a:Int):Int:=chkZ (ZFu x.asked a) fun a=>a
theorem ZGF (c0:Int) (c1:Int) (c2:Int) (c3:Str) (c4:Int) (c5:Int) (c6:Int) (left:Int):EE F 46 [.ag [.u (.int .i64 c0),.u (.int .i64 c1),.u (.int .i64 c2),.u (.str c3),.u (.int .i64 c4),.u (.int .i64 c5),.u (.int .i64 c6)],I left] []=ok1 (I (Z5 ⟨⟨c0,c1,⟨c2,c3,c4,c5⟩⟩,c6⟩ left)):=by
 rw [R46,b46]
 simp only[↓xP,xU,rB,rA,rS,ZGU]
 repeat' (refine ZiJ (fun h=>?_) (fun h=>?_))
 all_goals (simp only[decide_eq_true_eq,decide_eq_false_iff_not] at *; simp [Z5,offZ,chkZ, *])
theorem ZGE (x:Answer) (hf:Answer.Fit x):LeZ (Z5 x) (Answer.Small x):=LeZ.chk (ZGT _ hf.1) LeZ.id
theorem ZGG (c0:Int) (c1:Int) (c2:Int) (c3:Str) (c4:Int) (c5:Int) (c6:Int):EE F 49 [.ag [.u (.int .i64 c0),.u (.int .i64 c1),.u (.int .i64 c2),.u (.str c3),.u (.int .i64 c4),.u (.int .i64 c5),.u (.int .i64 c6)]] []=ok1 (.ag [.u (.int .i64 c0),.u (.int .i64 c1),.u (.int .i64 c2),.u (.str c3),.u (.int .i64 c4),.u (.int .i64 c5),.u (.int .i64 c6)]):=by
 rw [R49,b49]
 simp only[↓xP,xU,rB,rA,rS,ZGV]
theorem ZGq (c0:Int) (c1:Int) (c2:Int) (c3:Str) (c4:Int) (c5:Int) (c6:Int):EE F 52 [.ag [.u (.int .i64 c0),.u (.int .i64 c1),.u (.int .i64 c2),.u (.str c3),.u (.int .i64 c4),.u (.int .i64 c5),.u (.int .i64 c6)],.ag [.u (.int .i64 c0),.u (.int .i64 c1),.u (.int .i64 c2),.u (.str c3),.u (.int .i64 c4),.u (.int .i64 c5),.u (.int .i64 c6)]] []=ok1 (B true):=by
 rw [R52,b52]
 simp only[↓xP,xU,rB,rA,rS,ZGL,ne_eq,not_true_eq_false]
def Z3 (l:(List Answer)):Prop:=l.length≤1048576∧∀ y,y∈l→Answer.Small y
def ZFc (l:(List Answer)) (left:Int):Int:=offZ left l.length fun a=>allZ Z5 l a
theorem ZGh (l:(List Answer)) (hf:(l.length≤9223372036854775807∧∀ y,y∈l→Answer.Fit y)) (left:Int):EE F 18 [L 7 (l.map Answer.u),I left] []=ok1 (I (ZFc l left)):=by
 have hl:=hf.1
 rw [R18,b18]
 simp only[↓xP,xU,rB,rA,rS]
 refine ZiJ (fun h=>?_) (fun h=>?_)
 ·simp only[decide_eq_true_eq] at h
  simp [ZFc,offZ,h]
 ·refine (Zji (fun (a:Nat×Int) st=>st.s 0=DU (.sl 7 (l.map Answer.u))∧st.s 5=DI a.1∧st.s 1=DI a.2) (fun a=>l.length - a.1) (fun a=>ok1 (I (allZ Z5 (l.drop a.1) a.2))) ?_ (0,IntKind.i64.wrap (left - l.length)) ⟨by simp only[↓xP,xU,rB,rA,rS],by simp only[↓xP,xU,rB,rA,rS]; rfl,by simp only[↓xP,xU,rB,rA,rS]⟩).trans ?_
  ·rintro ⟨i,a⟩ st ⟨h0,h5,h1⟩ ih
   dsimp only at h0 h5 h1 ih ⊢
   by_cases hi:i<l.length
   ·obtain ⟨⟨⟨c0,c1,⟨c2,c3,c4,c5⟩⟩,c6⟩,hx⟩:∃ x,l[i]?=some x:=⟨_,List.getElem?_eq_getElem hi⟩
    have hw:=w_succ (i:=i) (by omega)
    have hfx:=hf.2 _ (List.mem_of_getElem? hx)
    simp only[↓xP,xU,rB,rA,rS,h0,h5,h1,hi,hx,hw,Answer.u,ZGF]
    rw [ZHu hx,chkZ]
    refine ZiJ (fun h=>?_) (fun h=>?_)
    ·simp only[decide_eq_true_eq] at h
     simp [h]
    ·rw [ih (i+1,Z5 ⟨⟨c0,c1,⟨c2,c3,c4,c5⟩⟩,c6⟩ a) _ (by dsimp only; omega) ⟨by simp only[↓xP,xU,rB,rA,rS,h0],by simp only[↓xP,xU,rB,rA,rS],by simp only[↓xP,xU,rB,rA,rS]⟩]
     simp only[decide_eq_false_iff_not] at h
     simp [h]
   ·simp only[↓xP,xU,rB,rA,rS,h0,h5,h1,hi]
    rw [List.drop_of_length_le (by omega)]; rfl
  ·simp only[decide_eq_false_iff_not] at h
   simp [ZFc,offZ,h]
theorem ZGg (l:(List Answer)) (hf:(l.length≤9223372036854775807∧∀ y,y∈l→Answer.Fit y)):LeZ (ZFc l) (Z3 l):=LeZ.off hf.1 (LeZ.all fun x hx=>ZGE x (hf.2 x hx))
theorem ZGk (l:(List Answer)) (hs:Z3 l):EE F 20 [L 7 (l.map Answer.u)] []=some ⟨[.sc (.own (.par 0) l.length)],[.row 7 (l.map Answer.u)],[]⟩:=by
 have hl:=hs.1
 rw [R20,b20]
 simp only[↓xP,xU,rB,rA,rS,ZHU _ 7 l.length [.int .i64 0,.int .i64 0,.int .i64 0,.str [],.int .i64 0,.int .i64 0,.int .i64 0] 64 (by omega)]
 refine (Zji (fun (i:Nat) st=>i≤l.length∧st.s 0=DU (.sl 7 (l.map Answer.u))∧st.s 4=DI i∧st.s 3=.t (.sc (.own (.loc 7 0) l.length))∧st.o (.loc 7 0)=some (.row 7 ((l.take i).map Answer.u++List.replicate (l.length - i) [.int .i64 0,.int .i64 0,.int .i64 0,.str [],.int .i64 0,.int .i64 0,.int .i64 0]))) (fun i=>l.length - i) (fun i=>some ⟨[.sc (.own (.par 0) l.length)],[.row 7 (l.map Answer.u)],[]⟩) ?_ 0 ⟨by omega,by simp only[↓xP,xU,rB,rA,rS],by simp only[↓xP,xU,rB,rA,rS]; rfl,by simp only[↓xP,xU,rB,rA,rS],by simp only[↓xP,xU,rB,rA,rS,Nat.sub_zero]⟩)
 rintro i st ⟨hle,h0,h4,h3,ho⟩ ih
 by_cases hi:i<l.length
 ·obtain ⟨⟨⟨c0,c1,⟨c2,c3,c4,c5⟩⟩,c6⟩,hx⟩:∃ x,l[i]?=some x:=⟨_,List.getElem?_eq_getElem hi⟩
  have hw:=w_succ (i:=i) (by omega)
  have hg:=ZHi (f:=Answer.u) (z:=[.int .i64 0,.int .i64 0,.int .i64 0,.str [],.int .i64 0,.int .i64 0,.int .i64 0]) hi
  have hf:=ZHj (f:=Answer.u) (z:=[.int .i64 0,.int .i64 0,.int .i64 0,.str [],.int .i64 0,.int .i64 0,.int .i64 0]) hx
  simp only[Answer.u] at hf
  simp only[↓xP,xU,rB,rA,rS,h0,h4,h3,ho,hi,hx,hw,hg,hf,Answer.u,ZGG]
  exact ih (i+1) _ (by omega) ⟨by omega,by simp only[↓xP,xU,rB,rA,rS,h0],by simp only[↓xP,xU,rB,rA,rS],by simp only[↓xP,xU,rB,rA,rS,h3],by simp only[↓xP,xU,rB,rA,rS,Answer.u]⟩
 ·have:i=l.length:=by omega
  subst this
  rw [ZHh] at ho
  simp only[↓xP,xU,rB,rA,rS,h0,h4,h3,ho,hi]
theorem ZF5 (l:(List Answer)) (hs:Z3 l):EE F 22 [L 7 (l.map Answer.u),L 7 (l.map Answer.u)] []=ok1 (B true):=by
 have hl:=hs.1
 rw [R22,b22]
 simp only[↓xP,xU,rB,rA,rS,ne_eq,not_true_eq_false]
 refine (Zji (fun (i:Nat) st=>st.s 0=DU (.sl 7 (l.map Answer.u))∧st.s 1=DU (.sl 7 (l.map Answer.u))∧st.s 5=DI i) (fun i=>l.length - i) (fun i=>ok1 (B true)) ?_ 0 ⟨by simp only[↓xP,xU,rB,rA,rS],by simp only[↓xP,xU,rB,rA,rS],by simp only[↓xP,xU,rB,rA,rS]; rfl⟩)
 rintro i st ⟨h0,h1,h5⟩ ih
 by_cases hi:i<l.length
 ·obtain ⟨⟨⟨c0,c1,⟨c2,c3,c4,c5⟩⟩,c6⟩,hx⟩:∃ x,l[i]?=some x:=⟨_,List.getElem?_eq_getElem hi⟩
  have hw:=w_succ (i:=i) (by omega)
  simp only[↓xP,xU,rB,rA,rS,h0,h1,h5,hi,hx,hw,Answer.u,ZGq,ne_eq,not_true_eq_false]
  exact ih (i+1) _ (by omega) ⟨by simp only[↓xP,xU,rB,rA,rS,h0],by simp only[↓xP,xU,rB,rA,rS,h1],by simp only[↓xP,xU,rB,rA,rS]⟩
 ·simp only[↓xP,xU,rB,rA,rS,h0,h1,h5,hi]
def State.Small (x:State):Prop:=Interval.Small x.span∧Z8 x.pairs∧ZFR x.known∧x.cut.length≤1048576∧True
def Piece.Small (x:Piece):Prop:=Interval.Small x.span∧Z8 x.pairs∧True
def Config.Small (x:Config):Prop:=ZG2 x.members∧True
def Event.Small (x:Event):Prop:=Entry.Small x.sent∧True
def Plan.Small (x:Plan):Prop:=x.key.length≤1048576∧True
def Deed.Small (x:Deed):Prop:=Command.Small x.wish∧Event.Small x.inner∧Plan.Small x.work∧True
def Replica.Small (x:Replica):Prop:=Config.Small x.conf∧ZFx x.log∧True
def ZFQ (l:(List Replica)):Prop:=l.length≤1048576∧∀ y,y∈l→Replica.Small y
def Message.Small (x:Message):Prop:=Config.Small x.conf∧ZFx x.log∧True
def ZFP (l:(List Message)):Prop:=l.length≤1048576∧∀ y,y∈l→Message.Small y
def Chain.Small (x:Chain):Prop:=State.Small x.base∧Config.Small x.conf∧ZFQ x.nodes∧ZGH x.up∧ZFP x.bag∧Z3 x.answers∧True
def Route.Small (x:Route):Prop:=Interval.Small x.span∧True
def ZGm (l:(List Route)):Prop:=l.length≤1048576∧∀ y,y∈l→Route.Small y
def Caller.Small (x:Caller):Prop:=ZGm x.cache∧Command.Small x.wish∧True
def ZFZ (l:(List Caller)):Prop:=l.length≤1048576∧∀ y,y∈l→Caller.Small y
def Result.Small (x:Result):Prop:=Command.Small x.wish∧True
def ZF0 (l:(List Result)):Prop:=l.length≤1048576∧∀ y,y∈l→Result.Small y
def Shard.Small (x:Shard):Prop:=Chain.Small x.group∧True
def ZGn (l:(List Shard)):Prop:=l.length≤1048576∧∀ y,y∈l→Shard.Small y
def Cluster.Small (x:Cluster):Prop:=ZGn x.shards∧ZFZ x.clients∧ZF0 x.results∧Plan.Small x.work∧True
/-- All from a number on. -/
def allF (n:Nat) (p:Nat→Bool) (i:Nat):Bool:=if i<n then p i&&allF n p (i+1) else true
termination_by n - i
theorem ZF2 {n:Nat} {p:Nat→Bool} {i:Nat} (h:i<n):allF n p i=(p i&&allF n p (i+1)):=by rw [allF,if_pos h]
theorem ZF1 {n:Nat} {p:Nat→Bool} {i:Nat} (h:¬i<n):allF n p i=true:=by rw [allF,if_neg h]
theorem ZFk {n:Nat} {p:Nat→Bool}:∀ (k i:Nat),n - i=k→(allF n p i=true↔∀ j,i≤j→j<n→p j=true)
 | 0,i,h=>by
  rw [ZF1 (by omega)]
  exact ⟨fun _ j h1 h2=>by omega,fun _=>rfl⟩
 | k+1,i,h=>by
  rw [ZF2 (by omega),Bool.and_eq_true,ZFk k (i+1) (by omega)]
  refine ⟨fun ⟨h1,h2⟩ j hj hn=>?_,fun h1=>⟨h1 i (Nat.le_refl _) (by omega),fun j hj hn=>h1 j (by omega) hn⟩⟩
  by_cases e:j=i
  ·subst e; exact h1
  ·exact h2 j (by omega) hn
def inR (n a b:Int):Bool:=decide (a≤n)&&decide (n≤b)
theorem ZV (n a b:Int):EE F 34 [I n,I a,I b] []=ok1 (B (inR n a b)):=by
 rw [R34,b34]
 simp only[↓xP,xT,rL,rB,rA,rS]
 repeat' (refine ZiJ (fun h=>?_) (fun h=>?_))
 all_goals (simp_all [inR]<;>(intros; omega))
theorem ZM (n:Int):EE F 58 [I n] []=ok1 (B (inR n 0 999)):=by
 rw [R58,b58]
 simp only[↓xP,xT,rL,rB,rA,rS]
 repeat' (refine ZiJ (fun h=>?_) (fun h=>?_))
 all_goals (simp_all [inR]<;>(intros; omega))
def ZFj (c:UInt8):Bool:=decide (97≤(c.toNat:Int))&&decide ((c.toNat:Int)≤122)
def ZE (s:Str):Bool:=decide (1≤s.length)&&decide (s.length≤4)&&s.all ZFj
theorem cut1 (n:Nat):vcut (n+1) (some (DI 1)) none=some (1,n+1):=by
 have:(1:Int)≤(n:Int)+1:=by omega
 simp [vcut,D.int?,this]
theorem ZFe:∀ s:Str,EE F 99 [S s] []=ok1 (B (s.all ZFj))
 | []=>by
  rw [R99,b99]
  simp only[↓xP,xT,rL,rB,rA,rS]
 | c::s=>by
  have h2:(List.take (s.length+1) (c::s)).drop 1=s:=by simp
  rw [R99,b99]
  simp only[↓xP,xT,rL,rB,rA,rS,cut1,ZFe s,reduceCtorEq,ZFj,List.take_of_length_le]
  repeat' (refine ZiJ (fun h=>?_) (fun h=>?_))
  all_goals (simp_all<;>(intros; omega))
theorem ZY (s:Str):EE F 57 [S s] []=ok1 (B (ZE s)):=by
 rw [R57,b57]
 simp only[↓xP,xT,rL,rB,rA,rS,ZFe]
 repeat' (refine ZiJ (fun h=>?_) (fun h=>?_))
 all_goals (simp_all [ZE]<;>(intros; omega))
theorem ZZ (s:Str):EE F 74 [S s] []=ok1 (B (ZE s)):=by
 rw [R74,b74]
 simp only[↓xP,xT,rL,rB,rA,rS,ZV]
 refine ZiJ (fun h=>?_) (fun h=>?_)
 ·simp_all [ZE,inR]
  omega
 ·simp only[Bool.not_eq_false',inR,Bool.and_eq_true,decide_eq_true_eq] at h
  refine (Zji (fun (i:Nat) st=>i≤s.length∧st.s 0=DU (.str s)∧st.s 3=DI i) (fun i=>s.length - i) (fun i=>ok1 (B ((s.drop i).all ZFj))) ?_ 0 ⟨by omega,by simp only[↓xP,xQ,rB],by simp only[↓xP,xQ,rB]; rfl⟩).trans ?_
  ·rintro i st ⟨hle,h0,h3⟩ ih
   by_cases hi:i<s.length
   ·have hc:s[i]?=some s[i]:=List.getElem?_eq_getElem hi
    have hd:s.drop i=s[i]::s.drop (i+1):=List.drop_eq_getElem_cons hi
    have hw:=w_succ (i:=i) (by omega)
    simp only[↓xP,xT,rL,rB,rA,rS,h0,h3,hi,hc,hw]
    rw [hd]
    generalize s[i]=c
    repeat' (refine ZiJ (fun h=>?_) (fun h=>?_))
    ·simp_all [ZFj]
     omega
    ·simp_all [ZFj]
     omega
    ·rw [ih (i+1) _ (by omega) ⟨by omega,by simp only[↓xP,xQ,rB,h0],by simp only[↓xP,xQ,rB]⟩]
     simp_all [ZFj]
   ·simp only[↓xP,xT,rL,rB,rA,rS,h0,h3,hi]
    rw [List.drop_of_length_le (by omega)]; rfl
  ·simp [ZE]
   omega
theorem ZF7 (s:Str):Za2 [] s=decide (s≠[]):=by cases s<;>simp [Za2,Op.bytesLess]
theorem ZGZ (s:Str):Za2 s []=false:=by cases s<;>simp [Za2,Op.bytesLess]
theorem ZFG (a b:UInt8) (s t:Str):Za2 (a::s) (b::t)=(decide (a<b)||(a==b&&Za2 s t)):=rfl
theorem Z4:∀ s:Str,Za2 s s=false
 | []=>rfl
 | a::s=>by rw [ZFG,Z4 s]; simp
theorem lt_trans:∀ {s t u:Str},Za2 s t=true→Za2 t u=true→Za2 s u=true
 | _,[],_,h,_=>by rw [ZGZ] at h; cases h
 | _,b::t,[],_,h=>by rw [ZGZ] at h; cases h
 | [],b::t,c::u,_,_=>by rw [ZF7]; simp
 | a :: s,b::t,c::u,h1,h2=>by
  rw [ZFG] at h1 h2 ⊢
  simp only[Bool.or_eq_true,Bool.and_eq_true,decide_eq_true_eq,beq_iff_eq] at h1 h2 ⊢
  rcases h1 with h1|⟨rfl,h1⟩
  ·rcases h2 with h2|⟨rfl,h2⟩
   ·exact .inl (UInt8.lt_trans h1 h2)
   ·exact .inl h1
  ·rcases h2 with h2|⟨rfl,h2⟩
   ·exact .inl h2
   ·exact .inr ⟨rfl,lt_trans h1 h2⟩
theorem ZGt {s t:Str} (h:Za2 s t=true):Za2 t s=false:=by
 cases hq:Za2 t s with
 | false=>rfl
 | true=>have:=lt_trans h hq; rw [Z4] at this; cases this
theorem ZFf:∀ (s t:Str),Za2 s t=true∨s=t∨Za2 t s=true
 | [],[]=>.inr (.inl rfl)
 | [],b::t=>.inl (by rw [ZF7]; simp)
 | a::s,[]=>.inr (.inr (by rw [ZF7]; simp))
 | a :: s,b::t=>by
  rw [ZFG,ZFG]
  simp only[Bool.or_eq_true,Bool.and_eq_true,decide_eq_true_eq,beq_iff_eq,List.cons.injEq]
  rcases Nat.lt_trichotomy a.toNat b.toNat with h|h|h
  ·exact .inl (.inl (UInt8.lt_iff_toNat_lt.2 h))
  rotate_left
  ·exact .inr (.inr (.inl (UInt8.lt_iff_toNat_lt.2 h)))
  ·have h:=UInt8.toNat_inj.1 h
   subst h
   rcases ZFf s t with h|h|h
   ·exact .inl (.inr ⟨rfl,h⟩)
   ·exact .inr (.inl ⟨rfl,h⟩)
   ·exact .inr (.inr (.inr ⟨rfl,h⟩))
/-- For other strings 'at most' is 'not greater'. -/
theorem ZHk (s t:Str):(Za2 s t||decide (s=t))=!Za2 t s:=by
 rcases ZFf s t with h|h|h
 ·simp [h,ZGt h]
 ·subst h; simp [Z4]
 ·have h1:=ZGt h
  have h2:¬s=t:=fun e=>by subst e; rw [Z4] at h; cases h
  simp [h,h1,h2]
def ZD (v:Interval):Bool:=(decide (v.low=[])||ZE v.low)&&(decide (v.high=[])||ZE v.high)&&(decide (v.high=[])||Za2 (if v.low=[] then [97] else v.low) v.high)
/-- A key is between the bounds. -/
def Z9 (v:Interval) (key:Str):Bool:=!Za2 key v.low&&(decide (v.high=[])||Za2 key v.high)
def ZN (l:List Pair) (i:Nat):Bool:=match l[i]? with
 | some p=>ZE p.key&&inR p.value 0 999&&(decide (i=0)||(match l[i - 1]? with
  | some q=>Za2 q.key p.key
  | none=>true))
 | none=>true
def ZA (l:List Pair):Bool:=decide (l.length≤48)&&allF l.length (ZN l) 0
theorem Z2 (l:List Pair):EE F 27 [L 2 (l.map Pair.u)] []=ok1 (B (ZA l)):=by
  rw [R27,b27]
  simp only[↓xP,xT,rL,rB,rA,rS]
  refine ZiJ (fun h=>?_) (fun h=>?_)
  · simp only[decide_eq_true_eq] at h
    simp [ZA,show ¬l.length≤48 by omega]
  · simp only[decide_eq_false_iff_not] at h
    refine (Zji (fun (i:Nat) st=>st.s 0=DU (.sl 2 (l.map Pair.u))∧st.s 8=DU (.sl 2 (l.map Pair.u))∧st.s 9=DI l.length∧st.s 10=DI i) (fun i=>l.length - i) (fun i=>ok1 (B (allF l.length (ZN l) i))) ?_ 0 ⟨by simp only[↓xP,xT,rL,rB,rA,rS],by simp only[↓xP,xT,rL,rB,rA,rS],by simp only[↓xP,xT,rL,rB,rA,rS],by simp only[↓xP,xT,rL,rB,rA,rS]; rfl⟩).trans ?_
    · rintro i st ⟨h0,h8,h9,h10⟩ ih
      by_cases hi:i<l.length
      · obtain ⟨⟨pk,pv⟩,hp⟩:∃ p,l[i]?=some p:=⟨_,List.getElem?_eq_getElem hi⟩
        have hw:=w_succ (i:=i) (by omega)
        rw [ZF2 hi]
        by_cases hz:i=0
        · have h01:¬(0:Int)<(i:Int):=by omega
          simp only[↓xP,xT,rL,rB,rA,rS,h0,h8,h9,h10,hi,hp,hw,h01,Pair.u,ZY,ZM]
          repeat' (refine ZiJ (fun h=>?_) (fun h=>?_))
          · simp_all [ZN]
          · simp_all [ZN]
          · rw [ih (i+1) _ (by omega) ⟨by simp only[↓xP,xT,rL,rB,rA,rS,h0],by simp only[↓xP,xT,rL,rB,rA,rS,h8],by simp only[↓xP,xT,rL,rB,rA,rS,h9],by simp only[↓xP,xT,rL,rB,rA,rS]⟩]
            simp_all [ZN]
        · obtain ⟨⟨qk,qv⟩,hq⟩:∃ q,l[i - 1]?=some q:=⟨_,List.getElem?_eq_getElem (by omega)⟩
          have hw2:IntKind.i64.wrap ((i:Int) - 1)=((i - 1:Nat):Int):=by rw [w64 (by omega) (by omega)]; omega
          have h01:(0:Int)<(i:Int):=by omega
          simp only[↓xP,xT,rL,rB,rA,rS,h0,h8,h9,h10,hi,hp,hw,hw2,hq,h01,Pair.u,ZY,ZM]
          repeat' (refine ZiJ (fun h=>?_) (fun h=>?_))
          · simp_all [ZN]
          · simp_all [ZN]
          · simp_all [ZN]
          · rw [ih (i+1) _ (by omega) ⟨by simp only[↓xP,xT,rL,rB,rA,rS,h0],by simp only[↓xP,xT,rL,rB,rA,rS,h8],by simp only[↓xP,xT,rL,rB,rA,rS,h9],by simp only[↓xP,xT,rL,rB,rA,rS]⟩]
            simp_all [ZN]
      · simp only[↓xP,xT,rL,rB,rA,rS,h0,h8,h9,h10,hi]
        rw [ZF1 hi]
    · simp [ZA,show l.length≤48 by omega]
theorem ZL (l:List Pair):EE F 37 [L 2 (l.map Pair.u)] []=ok1 (B (ZA l)):=by
  rw [R37,b37]
  simp only[↓xP,xT,rL,rB,rA,rS]
  refine ZiJ (fun h=>?_) (fun h=>?_)
  · simp only[decide_eq_true_eq] at h
    simp [ZA,show ¬l.length≤48 by omega]
  · simp only[decide_eq_false_iff_not] at h
    refine (Zji (fun (i:Nat) st=>st.s 0=DU (.sl 2 (l.map Pair.u))∧st.s 3=DI i) (fun i=>l.length - i) (fun i=>ok1 (B (allF l.length (ZN l) i))) ?_ 0 ⟨by simp only[↓xP,xT,rL,rB,rA,rS],by simp only[↓xP,xT,rL,rB,rA,rS]; rfl⟩).trans ?_
    · rintro i st ⟨h0,h3⟩ ih
      by_cases hi:i<l.length
      · obtain ⟨⟨pk,pv⟩,hp⟩:∃ p,l[i]?=some p:=⟨_,List.getElem?_eq_getElem hi⟩
        have hw:=w_succ (i:=i) (by omega)
        rw [ZF2 hi]
        by_cases hz:i=0
        · have h01:¬(0:Int)<(i:Int):=by omega
          simp only[↓xP,xT,rL,rB,rA,rS,h0,h3,hi,hp,hw,h01,Pair.u,ZZ,ZV]
          repeat' (refine ZiJ (fun h=>?_) (fun h=>?_))
          · simp_all [ZN]
          · simp_all [ZN]
          · rw [ih (i+1) _ (by omega) ⟨by simp only[↓xP,xT,rL,rB,rA,rS,h0],by simp only[↓xP,xT,rL,rB,rA,rS]⟩]
            simp_all [ZN]
        · obtain ⟨⟨qk,qv⟩,hq⟩:∃ q,l[i - 1]?=some q:=⟨_,List.getElem?_eq_getElem (by omega)⟩
          have hw2:IntKind.i64.wrap ((i:Int) - 1)=((i - 1:Nat):Int):=by rw [w64 (by omega) (by omega)]; omega
          have h01:(0:Int)<(i:Int):=by omega
          simp only[↓xP,xT,rL,rB,rA,rS,h0,h3,hi,hp,hw,hw2,hq,h01,Pair.u,ZZ,ZV,ZHk]
          repeat' (refine ZiJ (fun h=>?_) (fun h=>?_))
          · simp_all [ZN]
          · simp_all [ZN]
          · simp_all [ZN]
          · rw [ih (i+1) _ (by omega) ⟨by simp only[↓xP,xT,rL,rB,rA,rS,h0],by simp only[↓xP,xT,rL,rB,rA,rS]⟩]
            simp_all [ZN]
      · simp only[↓xP,xT,rL,rB,rA,rS,h0,h3,hi]
        rw [ZF1 hi]
    · simp [ZA,show l.length≤48 by omega]
theorem ZFU {l:List Pair} (h:ZA l=true) {i:Nat} {p:Pair} (hp:l[i]?=some p):ZE p.key=true∧inR p.value 0 999=true:=by
 simp only[ZA,Bool.and_eq_true,decide_eq_true_eq] at h
 have:=(ZFk _ 0 rfl).1 h.2 i (by omega) (List.getElem?_eq_some_iff.1 hp).1
 simp only[ZN,hp,Bool.and_eq_true] at this
 exact this.1
theorem ZGD (n:Int):EE F 86 [I n] []=ok1 (B (inR n 1 999)):=by
 rw [R86,b86]
 simp only[↓xP,xT,rL,rB,rA,rS]
 repeat' (refine ZiJ (fun h=>?_) (fun h=>?_))
 all_goals (simp_all [inR]<;>(intros; omega))
def ZK (c:Command):Bool:=(ZE c.key||decide (c.kind=5)&&decide (c.key=[])) &&
 ((decide (c.kind=1)||decide (c.kind=3)||decide (c.kind=5))&&decide (c.value=0)&&decide (c.old=0)||decide (c.kind=2)&&inR c.value 0 999&&decide (c.old=0)||decide (c.kind=4)&&inR c.value 0 999&&inR c.old (-1) 999)
theorem ZGo (k:Int):k=1∨k=2∨k=3∨k=4∨k=5∨(k<1∧¬5<k∧¬k=1∧¬k=2∧¬k=3∧¬k=4∧¬k=5)∨(¬k<1∧5<k∧¬k=1∧¬k=2∧¬k=3∧¬k=4∧¬k=5):=by omega
theorem ZFm (k:Int) (key:Str) (v o:Int):EE F 81 [.ag [.u (.int .i64 k),.u (.str key),.u (.int .i64 v),.u (.int .i64 o)]] []=ok1 (B (ZK ⟨k,key,v,o⟩)):=by
 rw [R81,b81]
 rcases ZGo k with h|h|h|h|h|h|h<;>(try subst h)<;>(try obtain ⟨_,_,_,_,_,_,_⟩:=h)<;>simp only[↓xP,xT,rL,rB,rA,rS,ZZ,ZV, *]<;>
  repeat' (refine ZiJ (fun h=>?_) (fun h=>?_))
 all_goals (simp_all [ZK]<;>(intros; omega))
theorem ZFl (k:Int) (key:Str) (v o:Int):EE F 87 [.ag [.u (.int .i64 k),.u (.str key),.u (.int .i64 v),.u (.int .i64 o)]] []=ok1 (B (ZK ⟨k,key,v,o⟩)):=by
 rw [R87,b87]
 rcases ZGo k with h|h|h|h|h|h|h<;>(try subst h)<;>(try obtain ⟨_,_,_,_,_,_,_⟩:=h)<;>simp only[↓xP,xT,rL,rB,rA,rS,ZY,ZM, *]<;>
  repeat' (refine ZiJ (fun h=>?_) (fun h=>?_))
 all_goals first|(simp_all [ZK,inR]; done)|(simp_all [ZK,inR]<;>(intros; omega))|(simp_all [ZK,inR]; rw [Bool.eq_iff_iff]; simp; omega)
def ZFY (c:Command):Bool:=ZK c&&!decide (c.kind=5)
def ZH (e:Entry):Bool:=inR e.client 0 3&&inR e.seq 1 999&&ZK e.cmd
theorem ZFE (c s k:Int) (key:Str) (v o:Int):EE F 47 [.ag [.u (.int .i64 c),.u (.int .i64 s),.u (.int .i64 k),.u (.str key),.u (.int .i64 v),.u (.int .i64 o)]] []=ok1 (B (ZH ⟨c,s,⟨k,key,v,o⟩⟩)):=by
 rw [R47,b47]
 simp only[↓xP,xT,rL,rB,rA,rS,ZFm,ZV]
 repeat' (refine ZiJ (fun h=>?_) (fun h=>?_))
 all_goals (simp_all [ZH])
theorem ZFD (c s k:Int) (key:Str) (v o:Int):EE F 50 [.ag [.u (.int .i64 c),.u (.int .i64 s),.u (.int .i64 k),.u (.str key),.u (.int .i64 v),.u (.int .i64 o)]] []=ok1 (B (ZH ⟨c,s,⟨k,key,v,o⟩⟩)):=by
 rw [R50,b50]
 simp only[↓xP,xT,rL,rB,rA,rS,ZFl,ZGD]
 repeat' (refine ZiJ (fun h=>?_) (fun h=>?_))
 all_goals first|(simp_all [ZH,inR]; done)|(simp_all [ZH,inR]<;>(intros; omega))|(simp_all [ZH,inR]; rw [Bool.eq_iff_iff]; simp; omega)
def ZHa (p:Plan):Bool:=inR p.first 0 7&&(decide (p.kind=1)&&ZE p.key&&decide (p.second=0)&&decide (p.from_=0)&&decide (p.to_=0)&&decide (p.step=0) ||
 decide (p.kind=2)&&inR p.second 0 7&&!decide (p.second=p.first)&&decide (p.key=[])&&decide (p.from_=0)&&decide (p.to_=0)&&decide (p.step=0) ||
 decide (p.kind=3)&&inR p.from_ 0 4&&inR p.to_ 0 4&&!decide (p.from_=p.to_)&&inR p.step 0 1&&decide (p.second=0)&&decide (p.key=[]))
def ZHP (v:Interval) (key:Str):Bool:=ZD v&&ZE key&&ZD ⟨v.low,key⟩&&ZD ⟨key,v.high⟩
def ZHJ (a b:Interval):Bool:=ZD a&&ZD b&&!decide (a.high=[])&&decide (a.high=b.low)
def ZHc (l:List Session) (i:Nat):Bool:=match l[i]? with
 | none=>true
 | some s=>inR s.client 0 3&&inR s.seq 1 999&&inR s.reply (-2) 999&&(decide (i=0)||(match l[i - 1]? with
  | some r=>decide (r.client<s.client)
  | none=>true))
def ZFV (l:List Session):Bool:=allF l.length (ZHc l) 0
def ZFO (s:State):Bool:=ZD s.span&&ZA s.pairs&&ZFV s.known&&(s.pairs.all fun q=>Z9 s.span q.key)&&(decide (s.cut=[])||s.sealed&&ZHP s.span s.cut)
theorem ZJ {l:List Pair} (h:ZA l=true):l.length≤48:=by
 simp only[ZA,Bool.and_eq_true,decide_eq_true_eq] at h; exact h.1
def digs (k:Nat) (o:Str):Str:=if h:k=0 then o else digs (k / 10) (UInt8.ofNat (IntKind.u8.wrap (IntKind.i64.wrap (48 + (k:Int).tmod 10))).toNat::o)
termination_by k
decreasing_by omega
def ZG0 (K:Int):Str:=109::digs K.toNat []
theorem ZFg (K:Int) (h0:1≤K) (h1:K≤4611686018427387904):EE F 45 [I K] []=ok1 (S (ZG0 K)):=by
 rw [R45,b45]
 have hk:¬K≤0:=by omega
 obtain ⟨k,rfl⟩:∃ k:Nat,K=k:=⟨K.toNat,by omega⟩
 simp only[↓xP,xT,rL,rB,rA,rS,hk]
 refine (Zji (fun (a:Nat×Str) st=>a.2.length+a.1≤4611686018427387904∧st.s 0=DI (a.1:Int)∧st.s 3=DS a.2) (fun a=>a.1) (fun a=>ok1 (S (109::digs a.1 a.2))) ?_ (k,[]) ⟨by simp; omega,by simp only[↓xP,xT,rL,rB,rA,rS],by simp only[↓xP,xT,rL,rB,rA,rS]⟩).trans ?_
 ·rintro ⟨k,o⟩ st ⟨hl,h0,h3⟩ ih
  dsimp only at hl h0 h3 ih ⊢
  rw [digs]
  by_cases hz:k=0
  ·subst hz
   have hlen:1+o.length≤9223372036854775807:=by omega
   rw [dif_pos rfl]
   have hno:¬(0:Int)<((0:Nat):Int):=by omega
   simp only[↓xP,xT,rL,rB,rA,rS,h0,h3,hno,hlen]
  ·have hyes:(0:Int)<(k:Int):=by omega
   have hq:IntKind.i64.wrap ((k:Int).tdiv 10)=((k / 10:Nat):Int):=by
    have:(k:Int).tdiv 10=((k / 10:Nat):Int):=by rw [Int.tdiv_eq_ediv_of_nonneg (by omega)]; rfl
    rw [this,w64 (by omega) (by omega)]
   have hle:1+o.length≤9223372036854775807:=by omega
   have h10:¬(10:Int)=0:=by omega
   simp only[↓xP,xT,rL,rB,rA,rS,h0,h3,hyes,hq,hle,h10]
   rw [dif_neg hz]
   refine ih (k / 10,_) _ (by dsimp only; omega) ⟨?_,?_,?_⟩
   ·simp only[List.length_cons]; omega
   ·simp only[↓xP,xT,rL,rB,rA,rS]
   ·simp only[↓xP,xT,rL,rB,rA,rS]
 ·simp [ZG0]
def mkL {α:Type} (f:Int→α) (w:Int) (K:Int) (n:Nat):List α:=(List.range n).map fun (i:Nat)=>f (K+w * (i:Int))
theorem ZT {α:Type} (f:Int→α) (w K:Int) (n:Nat):(mkL f w K n).length=n:=by simp [mkL]
theorem ZGu {α:Type} (u:α→List U) (f:Int→α) (w K:Int) (n:Nat):List.take n (List.map u (mkL f w K n))=List.map u (mkL f w K n):=List.take_of_length_le (by simp [ZT])
theorem ZHx {α:Type} (f:Int→α) (w K:Int) {n i:Nat} (h:i<n):(mkL f w K n)[i]?=some (f (K+w*i)):=by simp [mkL,List.getElem?_map,List.getElem?_range h]
theorem ZHn {α β:Type} {u:α→β} {f:Int→α} {w K:Int} {l:List α} {i:Nat} {x:α} (h:l[i]?=some x):((mkL f w K i++l.drop i).map u)[i]?=some (u x):=by
 rw [List.getElem?_map,List.getElem?_append_right (by simp [ZT]),ZT,List.getElem?_drop]
 simp [h]
theorem ZHo {α β:Type} {u:α→β} {f:Int→α} {w K:Int} {l:List α} {i:Nat} {x:α} (h:l[i]?=some x):((mkL f w K i++l.drop i).map u).set i (u (f (K+w*i)))=(mkL f w K (i+1)++l.drop (i+1)).map u:=by
 have hi:=(List.getElem?_eq_some_iff.1 h).1
 have e:mkL f w K (i+1)=mkL f w K i++[f (K+w*i)]:=by simp [mkL,List.range_succ]
 rw [←List.map_set,List.set_append_right _ _ (by simp [ZT]),ZT,Nat.sub_self,List.drop_eq_getElem_cons hi,List.set_cons_zero,e,List.append_assoc]
 rfl
theorem ZGX {α:Type} (r:List α) (i:Nat) (h:i<r.length) (c:α):(r.set i c)[i]?=some c:=by simp [h]
theorem ZFW {a b:Int} (h:a=b):DI a=DI b:=by rw [h]

def ZW (K:Int):Pair:=⟨(ZG0 (K)),(K+1)⟩
theorem ZFq (l:List Pair) (K:Int) (h1:1≤K) (h2:K+2*l.length≤4611686018427387904):EE F 16 [.sc (.own (.par 0) l.length),I K] [.row 2 (l.map Pair.u)]=some ⟨[I (K+2*l.length)],[],[.row 2 ((mkL ZW 2 K l.length).map Pair.u)]⟩:=by
 refine (EE_run (fn:=i16) (by kernel_rfl) rfl).trans ?_
 simp only[i16,b16,Zdi,Zcu,List.length_cons,List.length_nil]
 simp only[↓xP,xT,rL,rB,rA,rS]
 refine (Zji (fun (i:Nat) st=>i≤l.length∧st.s 0=.t (.sc (.own (.par 0) l.length))∧st.s 5=DI i∧st.s 1=DI (K+2*i)∧st.o (.par 0)=some (.row 2 ((mkL ZW 2 K i++l.drop i).map Pair.u))) (fun i=>l.length - i) (fun i=>some ⟨[I (K+2*l.length)],[],[.row 2 ((mkL ZW 2 K l.length).map Pair.u)]⟩) ?_ 0 ⟨by omega,by simp only[↓xP,xT,rL,rB,rA,rS],by simp only[↓xP,xT,rL,rB,rA,rS]; rfl,by simp only[↓xP,xT,rL,rB,rA,rS]; exact ZFW (by omega),by simp only[↓xP,xT,rL,rB,rA,rS]; simp [mkL]⟩).trans rfl
 rintro i st ⟨hle,h0,h5,h1',ho⟩ ih
 by_cases hi:i<l.length
 ·obtain ⟨x,hx⟩:∃ x,l[i]?=some x:=⟨_,List.getElem?_eq_getElem hi⟩
  have hw:=w_succ (i:=i) (by omega)
  have hg:=ZHn (u:=Pair.u) (f:=ZW) (w:=2) (K:=K) hx
  have hf:=ZHo (u:=Pair.u) (f:=ZW) (w:=2) (K:=K) hx
  have hlen:i<((mkL ZW 2 K i++l.drop i).map Pair.u).length:=by simp [ZT]; omega
  have hk1:1≤K+2 * (i:Int):=by omega
  have hk2:K+2 * (i:Int)+2≤4611686018427387904:=by omega
  have hn:K+2 * ((i+1:Nat):Int)=K+2 * (i:Int)+2:=by omega
  generalize (mkL ZW 2 K i++l.drop i).map Pair.u=r at hg hf hlen ho
  obtain ⟨K',hK⟩:∃ K',K'=K+2 * (i:Int):=⟨_,rfl⟩
  rw [←hK] at h1' hf hn hk1 hk2
  obtain ⟨c1,c2⟩:=x
  simp only[Pair.u,ZW] at hg hf
  have hgs:=ZGX r i hlen
  have hw0:IntKind.i64.wrap (K'+1)=K'+1:=by rw [w64 (by omega) (by omega)]
  have hw1:IntKind.i64.wrap (K'+1+1)=K'+1+1:=by rw [w64 (by omega) (by omega)]
  have mt0:=ZFg (K') (by omega) (by omega)
  simp only[↓xP,xT,rL,rB,rA,rS,h0,h5,h1',ho,hi,hg,hgs,List.set_set,hw,hf,hw0,hw1,mt0]
  exact ih (i+1) _ (by omega) ⟨by omega,by simp only[↓xP,xT,rL,rB,rA,rS,h0],by simp only[↓xP,xT,rL,rB,rA,rS],by simp only[↓xP,xT,rL,rB,rA,rS]; exact ZFW (by omega),by simp only[↓xP,xT,rL,rB,rA,rS]⟩
 ·have:i=l.length:=by omega
  subst this
  simp only[↓xP,xT,rL,rB,rA,rS,h0,h5,h1',ho,hi,List.drop_length,List.append_nil,List.length_map,ZT]
def Z0 (K:Int):Answer:=⟨⟨(K),(K+1),⟨(K+1+1),(ZG0 (K+1+1+1)),(K+1+1+1+1),(K+1+1+1+1+1)⟩⟩,(K+1+1+1+1+1+1)⟩
theorem ZFK (l:List Answer) (K:Int) (h1:1≤K) (h2:K+7*l.length≤4611686018427387904):EE F 23 [.sc (.own (.par 0) l.length),I K] [.row 7 (l.map Answer.u)]=some ⟨[I (K+7*l.length)],[],[.row 7 ((mkL Z0 7 K l.length).map Answer.u)]⟩:=by
 refine (EE_run (fn:=i23) (by kernel_rfl) rfl).trans ?_
 simp only[i23,b23,Zdi,Zcu,List.length_cons,List.length_nil]
 simp only[↓xP,xT,rL,rB,rA,rS]
 refine (Zji (fun (i:Nat) st=>i≤l.length∧st.s 0=.t (.sc (.own (.par 0) l.length))∧st.s 5=DI i∧st.s 1=DI (K+7*i)∧st.o (.par 0)=some (.row 7 ((mkL Z0 7 K i++l.drop i).map Answer.u))) (fun i=>l.length - i) (fun i=>some ⟨[I (K+7*l.length)],[],[.row 7 ((mkL Z0 7 K l.length).map Answer.u)]⟩) ?_ 0 ⟨by omega,by simp only[↓xP,xT,rL,rB,rA,rS],by simp only[↓xP,xT,rL,rB,rA,rS]; rfl,by simp only[↓xP,xT,rL,rB,rA,rS]; exact ZFW (by omega),by simp only[↓xP,xT,rL,rB,rA,rS]; simp [mkL]⟩).trans rfl
 rintro i st ⟨hle,h0,h5,h1',ho⟩ ih
 by_cases hi:i<l.length
 ·obtain ⟨x,hx⟩:∃ x,l[i]?=some x:=⟨_,List.getElem?_eq_getElem hi⟩
  have hw:=w_succ (i:=i) (by omega)
  have hg:=ZHn (u:=Answer.u) (f:=Z0) (w:=7) (K:=K) hx
  have hf:=ZHo (u:=Answer.u) (f:=Z0) (w:=7) (K:=K) hx
  have hlen:i<((mkL Z0 7 K i++l.drop i).map Answer.u).length:=by simp [ZT]; omega
  have hk1:1≤K+7 * (i:Int):=by omega
  have hk2:K+7 * (i:Int)+7≤4611686018427387904:=by omega
  have hn:K+7 * ((i+1:Nat):Int)=K+7 * (i:Int)+7:=by omega
  generalize (mkL Z0 7 K i++l.drop i).map Answer.u=r at hg hf hlen ho
  obtain ⟨K',hK⟩:∃ K',K'=K+7 * (i:Int):=⟨_,rfl⟩
  rw [←hK] at h1' hf hn hk1 hk2
  obtain ⟨⟨c1,c2,⟨c3,c4,c5,c6⟩⟩,c7⟩:=x
  simp only[Answer.u,Z0] at hg hf
  have hgs:=ZGX r i hlen
  have hw0:IntKind.i64.wrap (K'+1)=K'+1:=by rw [w64 (by omega) (by omega)]
  have hw1:IntKind.i64.wrap (K'+1+1)=K'+1+1:=by rw [w64 (by omega) (by omega)]
  have hw2:IntKind.i64.wrap (K'+1+1+1)=K'+1+1+1:=by rw [w64 (by omega) (by omega)]
  have hw3:IntKind.i64.wrap (K'+1+1+1+1)=K'+1+1+1+1:=by rw [w64 (by omega) (by omega)]
  have hw4:IntKind.i64.wrap (K'+1+1+1+1+1)=K'+1+1+1+1+1:=by rw [w64 (by omega) (by omega)]
  have hw5:IntKind.i64.wrap (K'+1+1+1+1+1+1)=K'+1+1+1+1+1+1:=by rw [w64 (by omega) (by omega)]
  have hw6:IntKind.i64.wrap (K'+1+1+1+1+1+1+1)=K'+1+1+1+1+1+1+1:=by rw [w64 (by omega) (by omega)]
  have mt3:=ZFg (K'+1+1+1) (by omega) (by omega)
  simp only[↓xP,xT,rL,rB,rA,rS,h0,h5,h1',ho,hi,hg,hgs,List.set_set,hw,hf,hw0,hw1,hw2,hw3,hw4,hw5,hw6,mt3]
  exact ih (i+1) _ (by omega) ⟨by omega,by simp only[↓xP,xT,rL,rB,rA,rS,h0],by simp only[↓xP,xT,rL,rB,rA,rS],by simp only[↓xP,xT,rL,rB,rA,rS]; exact ZFW (by omega),by simp only[↓xP,xT,rL,rB,rA,rS]⟩
 ·have:i=l.length:=by omega
  subst this
  simp only[↓xP,xT,rL,rB,rA,rS,h0,h5,h1',ho,hi,List.drop_length,List.append_nil,List.length_map,ZT]
def cmpS (a b:Str):Int:=if Za2 a b=true then -1 else if Za2 b a=true then 1 else 0
theorem ZHw (s:Str):EE F 127 [S s] []=ok1 (B false):=by
 rw [R127,b127]
 simp only[↓xP,xT,rL,rB,rA,rS,ne_eq,not_true_eq_false,decide_false]
theorem ZG4 (a b:Str):EE F 102 [S a,S b] []=ok1 (I (cmpS a b)):=by
 rw [R102,b102]
 simp only[↓xP,xT,rL,rB,rA,rS,ZHw,ZHk]
 repeat' (refine ZiJ (fun h=>?_) (fun h=>?_))
 all_goals simp_all [cmpS]
theorem ZGa (p:Str) (v:Int) (key:Str):EE F 101 [.ag [.u (.str p),.u (.int .i64 v)],S key] []=ok1 (I (cmpS p key)):=by
 rw [R101,b101]
 simp only[↓xP,xT,rL,rB,rA,rS,ZG4]
def place (key:Str):List Pair→Nat
 | []=>0
 | p::l=>if Za2 p.key key=true then place key l+1 else 0
theorem Z1 (key:Str):∀ l,place key l≤l.length
 | []=>Nat.le_refl _
 | p::l=>by simp only[place]; split; simpa using Z1 key l; simp
theorem ZFs (key:Str):∀ (l:List Pair) (i:Nat),i≤l.length→(∀ t p,t<i→l[t]?=some p→Za2 p.key key=true)→(∀ p,l[i]?=some p→Za2 p.key key=false)→place key l=i
 | [],i,hi,_,_=>by simp at hi; simp [place,hi]
 | p::l,0,_,_,h2=>by simp [place,h2 p rfl]
 | p::l,i+1,hi,h1,h2=>by
  have:=h1 0 p (by omega) rfl
  simp only[place,this,if_true]
  rw [ZFs key l i (by simpa using hi) (fun t q ht hq=>h1 (t+1) q (by omega) hq) (fun q hq=>h2 q hq)]
/-- The keys ascend. -/
def Asc (l:List Pair):Prop:=∀ (s t:Nat) p q,s<t→l[s]?=some p→l[t]?=some q→Za2 p.key q.key=true
theorem ZFi {l:List Pair} (h:ZA l=true):Asc l:=by
 have hc:∀ (t:Nat) p q,l[t]?=some p→l[t+1]?=some q→Za2 p.key q.key=true:=by
  intro t p q hp hq
  simp only[ZA,Bool.and_eq_true,decide_eq_true_eq] at h
  have:=(ZFk _ 0 rfl).1 h.2 (t+1) (by omega) (List.getElem?_eq_some_iff.1 hq).1
  simp only[ZN,hq,Nat.add_sub_cancel,hp] at this
  simp_all
 intro s t p q hst hp hq
 induction t generalizing q with
 | zero=>omega
 | succ t ih=>
  obtain ⟨r,hr⟩:∃ r,l[t]?=some r:=⟨_,List.getElem?_eq_getElem (by have:=(List.getElem?_eq_some_iff.1 hq).1; omega)⟩
  by_cases e:s=t
  ·subst e; exact hc _ _ _ hp hq
  ·exact lt_trans (ih r (by omega) hr) (hc _ _ _ hr hq)
theorem ZHT {i j:Nat} (h:i+j<9223372036854775808):IntKind.i64.wrap ((IntKind.u64.wrap (IntKind.i64.wrap ((i:Int) + (j:Int)))).fdiv (2 ^ min (Int.toNat 1) IntKind.u64.bits))=(((i+j) / 2:Nat):Int):=by
 rw [show (2:Int) ^ min (Int.toNat 1) IntKind.u64.bits=2 from rfl]
 rw [show IntKind.i64.wrap ((i:Int) + (j:Int))=(i:Int)+j from w64 (by omega) (by omega)]
 have:IntKind.u64.wrap ((i:Int)+j)=(i:Int)+j:=by rw [IntKind.wrap_u64]; omega
 rw [this,Int.fdiv_eq_ediv_of_nonneg _ (by omega),w64 (by omega) (by omega)]
 omega
def ZFJ (key:Str) (l:List Pair):Bool:=match l[place key l]? with
 | some p=>decide (p.key=key)
 | none=>false
theorem ZHb (l:List Pair) (key:Str) (ha:Asc l) (hn:l.length≤1048576):EE F 100 [L 2 (l.map Pair.u),S key,.sc (.u (.fn 101 []))] []=some ⟨[I (place key l),B (ZFJ key l)],[],[]⟩:=by
 rw [R100,b100]
 simp only[↓xP,xT,rL,rB,rA,rS]
 refine (Zji (fun (a:Nat×Nat) st=>a.1≤a.2∧a.2≤l.length∧(∀ t p,t<a.1→l[t]?=some p→Za2 p.key key=true)∧(∀ t p,a.2≤t→l[t]?=some p→Za2 p.key key=false)∧
  st.s 0=DU (.sl 2 (l.map Pair.u))∧st.s 1=DS key∧st.s 2=.t (.sc (.u (.fn 101 [])))∧st.s 8=DI l.length∧st.s 9=DI a.1∧st.s 10=DI a.2) (fun a=>a.2 - a.1) (fun a=>some ⟨[I (place key l),B (ZFJ key l)],[],[]⟩) ?_ (0,l.length) ⟨by omega,by dsimp only; omega,by omega,?_,by simp only[↓xP,xT,rL,rB,rA,rS],by simp only[↓xP,xT,rL,rB,rA,rS],by simp only[↓xP,xT,rL,rB,rA,rS],by simp only[↓xP,xT,rL,rB,rA,rS],by simp only[↓xP,xT,rL,rB,rA,rS]; rfl,by simp only[↓xP,xT,rL,rB,rA,rS]⟩).trans rfl
 ·rintro ⟨i,j⟩ st ⟨hij,hj,hlo,hhi,h0,h1,h2,h8,h9,h10⟩ ih
  dsimp only at hij hj hlo hhi h9 h10 ih
  by_cases h:i<j
  ·obtain ⟨⟨pk,pv⟩,hp⟩:∃ p,l[(i+j) / 2]?=some p:=⟨_,List.getElem?_eq_getElem (by omega)⟩
   have hm:=ZHT (i:=i) (j:=j) (by omega)
   have hw:=w_succ (i:=(i+j) / 2) (by omega)
   have hb:¬(1:Int)<0:=by omega
   by_cases hc:Za2 pk key=true
   ·have hs:cmpS pk key = -1:=by simp [cmpS,hc]
    have hn1:(-1:Int)<0:=by omega
    simp only[↓xP,xT,rL,rB,rA,rS,h0,h1,h2,h8,h9,h10,h,hb,hm,hp,hw,Pair.u,ZGa,hs,hn1]
    refine ih ((i+j) / 2+1,j) _ (by dsimp only; omega) ⟨by dsimp only; omega,hj,fun t q ht hq=>?_,hhi,by simp only[↓xP,xT,rL,rB,rA,rS,h0],by simp only[↓xP,xT,rL,rB,rA,rS,h1],by simp only[↓xP,xT,rL,rB,rA,rS,h2],by simp only[↓xP,xT,rL,rB,rA,rS,h8],by simp only[↓xP,xT,rL,rB,rA,rS],by simp only[↓xP,xT,rL,rB,rA,rS,h10]⟩
    dsimp only at ht
    by_cases e:t=(i+j) / 2
    ·subst e; rw [hp] at hq; cases hq; exact hc
    ·exact lt_trans (ha t _ _ _ (by omega) hq hp) hc
   ·have hs:¬cmpS pk key<0:=by unfold cmpS; rw [if_neg hc]; split<;>omega
    simp only[↓xP,xT,rL,rB,rA,rS,h0,h1,h2,h8,h9,h10,h,hb,hm,hp,hw,Pair.u,ZGa,hs]
    refine ih (i,(i+j) / 2) _ (by dsimp only; omega) ⟨by dsimp only; omega,by dsimp only; omega,hlo,fun t q ht hq=>?_,by simp only[↓xP,xT,rL,rB,rA,rS,h0],by simp only[↓xP,xT,rL,rB,rA,rS,h1],by simp only[↓xP,xT,rL,rB,rA,rS,h2],by simp only[↓xP,xT,rL,rB,rA,rS,h8],by simp only[↓xP,xT,rL,rB,rA,rS,h9],by simp only[↓xP,xT,rL,rB,rA,rS]⟩
    dsimp only at ht
    rw [Bool.eq_false_iff]
    intro h3
    by_cases e:t=(i+j) / 2
    ·subst e; rw [hp] at hq; cases hq; exact hc h3
    ·exact hc (lt_trans (ha _ t _ _ (by omega) hp hq) h3)
  ·have hpl:place key l=i:=ZFs key l i (by omega) hlo (fun p hp=>hhi i p (by omega) hp)
   by_cases hi:i<l.length
   ·obtain ⟨⟨pk,pv⟩,hp⟩:∃ p,l[i]?=some p:=⟨_,List.getElem?_eq_getElem hi⟩
    have h3:=hhi i _ (by omega) hp
    simp only[↓xP,xT,rL,rB,rA,rS,h0,h1,h2,h8,h9,h10,h,hi,hp,Pair.u,ZGa,ZFJ,hpl]
    have:decide (cmpS pk key=0)=decide (pk=key):=by
     simp only at h3
     rcases ZFf pk key with h4|h4|h4
     ·rw [h3] at h4; cases h4
     ·subst h4; simp [cmpS,Z4]
     ·have:pk≠key:=fun e=>by subst e; simp [Z4] at h4
      simp [cmpS,h3,h4,this]
    rw [this]
   ·have hp:l[i]?=none:=List.getElem?_eq_none (by omega)
    simp only[↓xP,xT,rL,rB,rA,rS,h0,h1,h2,h8,h9,h10,h,hi,ZFJ,hpl,hp]
 ·intro t p ht hp
  have:=(List.getElem?_eq_some_iff.1 hp).1
  dsimp only at ht
  omega
theorem ZFa (l:List Pair) (key:Str) (ha:Asc l) (hn:l.length≤1048576):EE F 59 [L 2 (l.map Pair.u),S key] []=some ⟨[I (place key l),B (ZFJ key l)],[],[]⟩:=by
 rw [R59,b59]
 simp only[↓xP,xT,rL,rB,rA,rS,ZHb l key ha hn]
theorem ZGz {key:Str}:∀ {l:List Pair} {t:Nat} {p:Pair},t<place key l→l[t]?=some p→Za2 p.key key=true
 | [],t,p,ht,hp=>by simp at hp
 | q :: l,t,p,ht,hp=>by
  simp only[place] at ht
  split at ht
  ·rename_i hq
   cases t with
   | zero=>cases hp; exact hq
   | succ t=>exact ZGz (l:=l) (t:=t) (by omega) hp
  ·omega
theorem ZFM {key:Str}:∀ {l:List Pair} {p:Pair},l[place key l]?=some p→Za2 p.key key=false
 | [],p,hp=>by simp at hp
 | q::l,p,hp=>by
  simp only[place] at hp
  split at hp
  ·exact ZFM (l:=l) hp
  ·rename_i hq; cases hp; simpa using hq
theorem ZHp {key:Str} {l:List Pair} (ha:Asc l) {t:Nat} {p:Pair} (ht:place key l≤t) (hp:l[t]?=some p):Za2 p.key key=false:=by
 obtain ⟨q,hq⟩:∃ q,l[place key l]?=some q:=⟨_,List.getElem?_eq_getElem (by have:=(List.getElem?_eq_some_iff.1 hp).1; omega)⟩
 have h1:=ZFM hq
 by_cases e:place key l=t
 ·subst e; rw [hq] at hp; cases hp; exact h1
 ·rw [Bool.eq_false_iff]
  intro h2
  rw [lt_trans (ha _ t _ _ (by omega) hq hp) h2] at h1
  cases h1
theorem ZFA (l:List Pair) (hn:l.length≤1048576):EE F 60 [L 2 (l.map Pair.u)] []=some ⟨[.sc (.own (.par 0) l.length)],[.row 2 (l.map Pair.u)],[]⟩:=by
 rw [R60,b60]
 have h1:l.length≤maxLen:=by simp [maxLen]; omega
 have h2:l.length*24≤140737488355328:=by omega
 simp only[↓xP,xT,rL,rB,rA,rS,h1,h2]
theorem ZFo (n:Nat) (K:Int) (h1:1≤K) (h2:K+2*n≤4611686018427387904):EE F 17 [L 2 ((mkL ZW 2 K n).map Pair.u),I K] []=ok1 (I (K+2*n)):=by
 rw [R17,b17]
 simp only[↓xP,xT,rL,rB,rA,rS]
 refine (Zji (fun (i:Nat) st=>i≤n∧st.s 0=DU (.sl 2 ((mkL ZW 2 K n).map Pair.u))∧st.s 5=DI i∧st.s 1=DI (K+2*i)) (fun i=>n - i) (fun i=>ok1 (I (K+2*n))) ?_ 0 ⟨by omega,by simp only[↓xP,xT,rL,rB,rA,rS],by simp only[↓xP,xT,rL,rB,rA,rS]; rfl,by simp only[↓xP,xT,rL,rB,rA,rS]; exact ZFW (by omega)⟩).trans rfl
 rintro i st ⟨hle,h0,h5,h1'⟩ ih
 have hlen:=ZT ZW 2 K n
 by_cases hi:i<n
 ·have hx:=ZHx ZW 2 K hi
  have hw:=w_succ (i:=i) (by omega)
  have hk1:1≤K+2 * (i:Int):=by omega
  have hk2:K+2 * (i:Int)+2≤4611686018427387904:=by omega
  have hn:K+2 * ((i+1:Nat):Int)=K+2 * (i:Int)+2:=by omega
  obtain ⟨K',hK⟩:∃ K',K'=K+2 * (i:Int):=⟨_,rfl⟩
  rw [←hK] at h1' hx hn hk1 hk2
  have hw0:IntKind.i64.wrap (K'+1)=K'+1:=by rw [w64 (by omega) (by omega)]
  have hw1:IntKind.i64.wrap (K'+1+1)=K'+1+1:=by rw [w64 (by omega) (by omega)]
  have mt0:=ZFg K' (by omega) (by omega)
  simp only[↓xP,xT,rL,rB,rA,rS,h0,h5,h1',hlen,hi,hx,hw,Pair.u,ZW,hw0,hw1,mt0,ne_eq,not_true_eq_false,decide_false]
  exact ih (i+1) _ (by omega) ⟨by omega,by simp only[↓xP,xT,rL,rB,rA,rS,h0],by simp only[↓xP,xT,rL,rB,rA,rS],by simp only[↓xP,xT,rL,rB,rA,rS]; exact ZFW (by omega)⟩
 ·have:i=n:=by omega
  subst this
  simp only[↓xP,xT,rL,rB,rA,rS,h0,h5,h1',hlen,hi]
def okAt (l:List Int) (k:Nat):Bool:=match l[k]? with
 | some x=>inR x 0 4&&!decide (x∈l.take k)
 | none=>true
def Z6 (c:Config):Bool:=decide (1≤c.epoch)&&decide (c.epoch≤60)&&decide (1≤c.members.length)&&decide (c.members.length≤4)&&!(c.fresh&&decide (c.members.length<2))&&allF c.members.length (okAt c.members) 0
theorem ZGK {n:Nat} {i:Nat} (h:i≤n):vcut n none (some (DI (i:Int)))=some (0,i):=by
 simp [vcut,D.int?]
 omega
theorem ZQ {n k:Nat} (h:n≤1048576) (hk:k≤100000000):n≤maxLen∧n*k≤140737488355328:=by
 refine ⟨by simp [maxLen]; omega,?_⟩
 have:=Nat.mul_le_mul h hk
 omega
def rep {α:Type} (l:List α) (a m:Nat) (b:List α):List α:=l.take a++b++l.drop (a+m)
theorem ZFb {α:Type} {l:List α} {a m:Nat} {b:List α} (h:a+m≤l.length):(rep l a m b).length=l.length - m+b.length:=by
 simp [rep]; omega
def zero_Pair:List U:=[.str [],.int .i64 0]
theorem ZHK (st:St) (d c:Nat) (zero:List U) (bytes:Nat) (h:c*bytes≤140737488355328):stMk st d (DI 0) (DI (c:Int)) zero bytes=some (((st.cool (.loc d 0)).obj (.loc d 0) (some (.row zero.length []))).put d (.t (.sc (.own (.loc d 0) 0)))):=by
 have h0:(0:Int)≤(c:Int):=by omega
 simp [stMk,D.int?,h,h0]
theorem ZFH {n i:Nat} (h:i≤n):vcut n (some (DI (i:Int))) none=some (i,n):=by
 simp [vcut,D.int?]
 omega
theorem ZI {α β:Type} (f:α→β) (l:List α):List.take l.length (List.map f l)=List.map f l:=List.take_of_length_le (by simp)
theorem Z7 (l b:List Pair) (a m:Nat) (h:a+m≤l.length) (hn:l.length+b.length≤1048576):EE F 117 [L 2 (l.map Pair.u),I a,I m,L 2 (b.map Pair.u)] []=some ⟨[.sc (.own (.par 0) (rep l a m b).length)],[.row 2 ((rep l a m b).map Pair.u)],[]⟩:=by
 rw [R117,b117]
 have w1:IntKind.i64.wrap ((l.length:Int) - (m:Int))=((l.length - m:Nat):Int):=by rw [w64 (by omega) (by omega)]; omega
 have w2:IntKind.i64.wrap (((l.length - m:Nat):Int) + (b.length:Int))=((l.length - m+b.length:Nat):Int):=by rw [w64 (by omega) (by omega)]; omega
 have w3:IntKind.i64.wrap ((a:Int) + (m:Int))=((a+m:Nat):Int):=by rw [w64 (by omega) (by omega)]; omega
 have c1:=ZGK (n:=l.length) (i:=a) (by omega)
 have c2:=ZFH (n:=l.length) (i:=a+m) h
 have k0:=fun st d=>ZHK st d (l.length - m+b.length) (Go.Proofs.YtfajcehhcjmofaaV.zero_Pair) 24 (by omega)
 have ha:min a l.length=a:=by omega
 have q1:a≤maxLen∧a*24≤140737488355328:=ZQ (by omega) (by omega)
 have q2:a+b.length≤maxLen∧(a+b.length)*24≤140737488355328:=ZQ (by omega) (by omega)
 have q3:a+b.length + (l.length - (a+m))≤maxLen∧(a+b.length + (l.length - (a+m)))*24≤140737488355328:=ZQ (by omega) (by omega)
 simp only[zero_Pair] at k0
 simp only[↓xP,xT,rL,rB,rA,rS,w1,w2,w3,k0,c1,c2,List.drop_zero,List.length_map,List.length_take,List.length_drop,List.length_append,List.length_nil,Nat.zero_add,List.nil_append,ha,q1.1,q1.2,q2.1,q2.2,q3.1,q3.2,ZI,rep,List.map_append,List.map_take,List.map_drop]
def hit (key:Str) (l:List Pair):Option Pair:=match l[place key l]? with
 | some p=>if p.key=key then some p else none
 | none=>none
def ZP (l:List Pair) (key:Str):Int:=if ZA l=true then (match hit key l with
 | some p=>p.value
 | none=>-1) else -1
def ZB (l:List Pair) (key:Str) (v:Int):List Pair×Bool:=
 if ZA l=true∧ZE key=true∧inR v 0 999=true then
  (if (hit key l).isSome=true then (rep l (place key l) 1 [⟨key,v⟩],true) else if 48≤l.length then (l,false) else (rep l (place key l) 0 [⟨key,v⟩],true))
 else ([],false)
def ZF (l:List Pair) (key:Str):List Pair×Bool:=
 if ZA l=true then (if (hit key l).isSome=true then (rep l (place key l) 1 [],true) else (l,false)) else ([],false)
def ZC (u:Pair→List U) (sz:Nat) (r:List Pair×Bool):Option Ret:=some ⟨[.sc (.own (.par 0) r.1.length),B r.2],[.row sz (r.1.map u)],[]⟩
theorem ZFv {key:Str} {l:List Pair}:ZFJ key l=(hit key l).isSome:=by
 unfold ZFJ hit
 cases l[place key l]? with
 | none=>rfl
 | some p=>by_cases h:p.key=key<;>simp [h]
theorem ZR {key:Str} {l:List Pair} {p:Pair} (h:hit key l=some p):l[place key l]?=some p∧p.key=key:=by
 unfold hit at h
 split at h
 ·rename_i q hq
  split at h
  ·rename_i hk; cases h; exact ⟨hq,hk⟩
  ·cases h
 ·cases h
theorem ZFp {key:Str} {l:List Pair} (h:hit key l=none):∀ p,l[place key l]?=some p→p.key≠key:=by
 intro p hp
 unfold hit at h
 rw [hp] at h
 simp only at h
 split at h
 ·cases h
 ·assumption
theorem ZX (l:List Pair) (key:Str) (hn:l.length≤4611686018427387904):EE F 115 [L 2 (l.map Pair.u),S key] []=ok1 (I (place key l)):=by
 rw [R115,b115]
 simp only[↓xP,xT,rL,rB,rA,rS]
 refine (Zji (fun (i:Nat) st=>i≤l.length∧(∀ t p,t<i→l[t]?=some p→Za2 p.key key=true)∧st.s 0=DU (.sl 2 (l.map Pair.u))∧st.s 1=DS key∧st.s 5=DI i) (fun i=>l.length - i) (fun i=>ok1 (I (place key l))) ?_ 0 ⟨by omega,fun t p ht=>by omega,(by and_intros<;>first|omega|rfl|(simp only[↓xP,xT,rL,rB,rA,rS]<;>first|done|rfl|omega))⟩).trans rfl
 rintro i st ⟨hle,hlo,h0,h1,h5⟩ ih
 by_cases hi:i<l.length
 ·obtain ⟨⟨pk,pv⟩,hp⟩:∃ p,l[i]?=some p:=⟨_,List.getElem?_eq_getElem hi⟩
  have hw:=w_succ (i:=i) (by omega)
  simp only[↓xP,xT,rL,rB,rA,rS,h0,h1,h5,hi,hp,Pair.u]
  refine ZiJ (fun h=>?_) (fun h=>?_)
  ·simp only[↓xP,xT,rL,rB,rA,rS,h0,h1,h5,hw]
   exact ih (i+1) _ (by omega) ⟨by omega,fun t p ht hq=>by
    by_cases e:t=i
    ·subst e; rw [hp] at hq; cases hq; exact h
    ·exact hlo t p (by omega) hq,(by and_intros<;>first|omega|rfl|(simp only[↓xP,xT,rL,rB,rA,rS,h0,h1]<;>first|done|rfl|omega))⟩
  ·have:place key l=i:=ZFs key l i (by omega) hlo (fun p hq=>by rw [hp] at hq; cases hq; exact h)
   simp only[↓xP,xT,rL,rB,rA,rS,h0,h1,h5,this]
 ·have:place key l=i:=ZFs key l i (by omega) hlo (fun p hq=>by have:=(List.getElem?_eq_some_iff.1 hq).1; omega)
  simp only[↓xP,xT,rL,rB,rA,rS,h0,h1,h5,hi,this]
theorem ZGb (l:List Pair) (key:Str):EE F 88 [L 2 (l.map Pair.u),S key] []=ok1 (I (ZP l key)):=by
 rw [R88,b88]
 simp only[↓xP,xT,rL,rB,rA,rS,Z2]
 refine ZiJ (fun h=>?_) (fun h=>?_)
 ·simp_all [ZP]
 simp only[Bool.not_eq_false'] at h
 have hl:=ZJ h
 simp only[↓xP,xT,rL,rB,rA,rS,ZFa l key (ZFi h) (by omega),ZFv]
 cases hh:hit key l with
 | none=>simp [ZP,h,hh,↓xP,xQ,xR,xS,ZGr,rL,rB,rA,rS]
 | some p=>
  obtain ⟨pk,pv⟩:=p
  obtain ⟨h1,h2⟩:=ZR hh
  simp only[↓xP,xT,rL,rB,rA,rS,Option.isSome_some,h1,Pair.u,ZP,h,hh]
  try simp
theorem ZGc (l:List Pair) (key:Str) (hn:l.length≤4611686018427387904):EE F 82 [L 2 (l.map Pair.u),S key] []=ok1 (I (ZP l key)):=by
 rw [R82,b82]
 have hpl:=Z1 key l
 cases h:ZA l
 ·simp only[↓xP,xT,rL,rB,rA,rS,ZX l key hn,ZL,h,ZP]
  try simp
 cases hh:hit key l with
 | none=>
  have hno:=ZFp hh
  by_cases hi:place key l=l.length
  ·have hi':((place key l:Nat):Int)=(l.length:Int):=by omega
   simp only[↓xP,xT,rL,rB,rA,rS,ZX l key hn,ZL,h,hi',ZP,hh]
   try simp
  ·obtain ⟨⟨pk,pv⟩,hp⟩:∃ p,l[place key l]?=some p:=⟨_,List.getElem?_eq_getElem (by omega)⟩
   have hi':¬((place key l:Nat):Int)=(l.length:Int):=by omega
   have hne:¬pk=key:=hno _ hp
   simp only[↓xP,xT,rL,rB,rA,rS,ZX l key hn,ZL,h,hi',ZP,hh,hp,Pair.u,hne]
   simp [sel,hne]
 | some p=>
  obtain ⟨pk,pv⟩:=p
  obtain ⟨h1,h2⟩:=ZR hh
  have hlt:=(List.getElem?_eq_some_iff.1 h1).1
  have hi':¬((place key l:Nat):Int)=(l.length:Int):=by omega
  dsimp only at h2
  simp only[↓xP,xT,rL,rB,rA,rS,ZX l key hn,ZL,h,hi',ZP,hh,h1,Pair.u,h2]
  simp [sel]
def yU (n:Int):List U:=[.int .u8 n]
/-- A reader: its bytes, and how many numbers it drew. -/
def rd (bs:List Int) (p:Nat):Obj:=.box [.u (.sl 1 (bs.map yU)),.u (.int .i64 p)]
/-- What a function that draws comes to: results of a kind; the reader went on by at most so many. -/
def Gd (bs:List Int) (p c:Nat) (R:List T→List Obj→Prop) (x:Option Ret):Prop:=∃ r n q,x=some ⟨r,n,[rd bs q]⟩∧p≤q∧q≤p+c∧R r n
theorem rdx2:(∀ bs p,Obj.flat (rd bs p)=(bs.map yU).isEmpty)∧(∀ bs p,Obj.data (rd bs p)=true)∧(∀ (x:Bool) (a:List Id),sel x a a=a):=by
 refine ⟨fun bs p=>?_,fun bs p=>rfl,fun x a=>by cases x<;>rfl⟩
 simp [rd,Obj.flat,C.isSl,U.flat]
def Code (code:List Int):Prop:=code.length≤9223372036854775807∧∀ b,b∈code→0≤b∧b≤255
theorem ZH1 (us:List U) (hl:us.length=1) (ht:∀ (j:Nat) ty u,[Ty.i .u8][j]?=some ty→us[j]?=some u→UT ty u):∃ x,us=yU x∧(0≤x∧x≤255):=by
 match us,hl with
 | [a],_=>obtain ⟨n,rfl,h⟩:=(ht 0 _ a rfl rfl).u8_of; exact ⟨n,rfl,h⟩
theorem Code.of {u:U} (hu:UT (.sl [.i .u8]) u):∃ code:List Int,u=.sl 1 (code.map yU)∧Code code:=by
 obtain ⟨code,rfl,hl,hb⟩:=hu.sl_of ZH1
 exact ⟨code,rfl,hl,hb⟩
theorem ZHy {l:List Pair} {i:Nat} {p q:Pair} (h:l[i]?=some p):(l.map Pair.u).set i (Pair.u q)=(rep l i 1 [q]).map Pair.u:=by
 obtain ⟨hi,_⟩:=List.getElem?_eq_some_iff.1 h
 rw [←List.map_set]
 congr 1
 rw [List.set_eq_take_append_cons_drop,if_pos hi]
 simp [rep]
theorem ZGA {l:List Pair} {i:Nat} {p q:Pair} (h:l[i]?=some p):(rep l i 1 [q]).length=l.length:=by
 obtain ⟨hi,_⟩:=List.getElem?_eq_some_iff.1 h
 rw [ZFb (by omega)]
 simp; omega
theorem ZGe (l:List Pair) (key:Str) (v:Int) (hn:l.length≤1048576):EE F 84 [L 2 (l.map Pair.u),S key,I v] []=ZC Pair.u 2 (ZB l key v):=by
 rw [R84,b84]
 have hpl:=Z1 key l
 have hv:=ZL l
 cases h:ZA l
 ·rw [h] at hv
  simp only[↓xP,xT,rL,rB,rA,rS,hv,ZB,h,Bool.false_eq_true,false_and,if_false,ZC,List.map_nil,List.length_nil]
 rw [h] at hv
 have hl48:=ZJ h
 have hkv:=ZZ key
 cases hk:ZE key
 ·rw [hk] at hkv
  simp only[↓xP,xT,rL,rB,rA,rS,hv,hkv,ZB,hk,Bool.false_eq_true,false_and,and_false,if_false,ZC,List.map_nil,List.length_nil]
 rw [hk] at hkv
 cases hr:inR v 0 999
 ·simp only[↓xP,xT,rL,rB,rA,rS,hv,hkv,ZV,hr,ZB,Bool.false_eq_true,false_and,and_false,if_false,ZC,List.map_nil,List.length_nil]
 have q0:l.length≤maxLen∧l.length*24≤140737488355328:=ZQ hn (by omega)
 have hpl4:=ZX l key (by omega)
 cases hh:hit key l with
 | some p=>
  obtain ⟨pk,pv⟩:=p
  obtain ⟨h1,h2⟩:=ZR hh
  dsimp only at h2
  subst h2
  have hlt:=(List.getElem?_eq_some_iff.1 h1).1
  have hli:((place pk l:Nat):Int)<(l.length:Int):=by omega
  have hset:=ZHy (q:=⟨pk,v⟩) h1
  have hrl:=ZGA (q:=⟨pk,v⟩) h1
  simp only[Pair.u] at hset
  have hpp:ZB l pk v=(rep l (place pk l) 1 [⟨pk,v⟩],true):=by simp only[ZB,h,hk,hr,hh,Option.isSome_some,and_self,if_true]
  rw [hpp]
  simp only[↓xP,xT,rL,rB,rA,rS,hv,hkv,ZV,hr,hpl4,List.length_map,Nat.zero_add,List.nil_append,hli,h1,Pair.u,q0.1,q0.2,hset,hlt]
  simp [sel,hrl,ZC]
 | none=>
  have hno:=ZFp hh
  have hmin:min (place key l) l.length=place key l:=by omega
  have hct:=ZGK (n:=l.length) (i:=place key l) (by omega)
  have hcf:=ZFH (n:=l.length) (i:=place key l) (by omega)
  have q1:place key l≤maxLen∧place key l*24≤140737488355328:=ZQ (by omega) (by omega)
  have q2:place key l+1≤maxLen∧(place key l+1)*24≤140737488355328:=ZQ (by omega) (by omega)
  have q3:place key l+1 + (l.length - place key l)≤maxLen∧(place key l+1 + (l.length - place key l))*24≤140737488355328:=ZQ (by omega) (by omega)
  have hlen:(rep l (place key l) 0 [⟨key,v⟩]).length=place key l+1 + (l.length - place key l):=by rw [ZFb (by omega)]; simp; omega
  have her:List.take (place key l) (l.map Pair.u)++[[U.str key,U.int .i64 v]]++List.drop (place key l) (l.map Pair.u)=(rep l (place key l) 0 [⟨key,v⟩]).map Pair.u:=by simp [rep,List.map_take,List.map_drop,Pair.u]
  by_cases hge:(48:Int)≤(l.length:Int)
  ·have hge':48≤l.length:=by omega
   have hpp:ZB l key v=(l,false):=by simp only[ZB,h,hk,hr,hh,Option.isSome_none,Bool.false_eq_true,if_false,hge',and_self,if_true]
   rw [hpp]
   by_cases hlt:place key l<l.length
   ·obtain ⟨⟨pk,pv⟩,hp⟩:∃ p,l[place key l]?=some p:=⟨_,List.getElem?_eq_getElem (by omega)⟩
    have hli:((place key l:Nat):Int)<(l.length:Int):=by omega
    have hne:¬pk=key:=hno _ hp
    simp only[↓xP,xT,rL,rB,rA,rS,hv,hkv,ZV,hr,hpl4,List.length_map,Nat.zero_add,List.nil_append,hli,hp,Pair.u,hne,q0.1,q0.2,ge_iff_le,hge,ZC,ZI]
   ·have hli:¬((place key l:Nat):Int)<(l.length:Int):=by omega
    simp only[↓xP,xT,rL,rB,rA,rS,hv,hkv,ZV,hr,hpl4,List.length_map,Nat.zero_add,List.nil_append,hli,Pair.u,q0.1,q0.2,ge_iff_le,hge,ZC,ZI]
  ·have hge':¬48≤l.length:=by omega
   have hpp:ZB l key v=(rep l (place key l) 0 [⟨key,v⟩],true):=by simp only[ZB,h,hk,hr,hh,Option.isSome_none,Bool.false_eq_true,if_false,hge',and_self,if_true]
   rw [hpp]
   by_cases hlt:place key l<l.length
   ·obtain ⟨⟨pk,pv⟩,hp⟩:∃ p,l[place key l]?=some p:=⟨_,List.getElem?_eq_getElem (by omega)⟩
    have hli:((place key l:Nat):Int)<(l.length:Int):=by omega
    have hne:¬pk=key:=hno _ hp
    simp only[↓xP,xT,rL,rB,rA,rS,hv,hkv,ZV,hr,hpl4,List.length_map,List.length_take,List.length_drop,Nat.zero_add,List.nil_append,hli,hp,Pair.u,hne,q1.1,q1.2,q2.1,q2.2,q3.1,q3.2,ge_iff_le,hge,ZC,ZI,hct,hcf,hmin,hlen,her,List.drop_zero,List.length_append,List.length_cons,List.length_nil]
   ·have hli:¬((place key l:Nat):Int)<(l.length:Int):=by omega
    simp only[↓xP,xT,rL,rB,rA,rS,hv,hkv,ZV,hr,hpl4,List.length_map,List.length_take,List.length_drop,Nat.zero_add,List.nil_append,hli,Pair.u,q1.1,q1.2,q2.1,q2.2,q3.1,q3.2,ge_iff_le,hge,ZC,ZI,hct,hcf,hmin,hlen,her,List.drop_zero,List.length_append,List.length_cons,List.length_nil]
theorem ZGy (l:List Pair) (key:Str) (v:Int):(ZB l key v).1.length≤48:=by
 unfold ZB
 split
 ·rename_i h
  have hl:=ZJ h.1
  split
  ·rename_i hs
   cases hh:hit key l with
   | none=>rw [hh] at hs; cases hs
   | some p=>rw [ZGA (ZR hh).1]; exact hl
  ·split
   ·exact hl
   ·have:=Z1 key l
    rw [ZFb (by omega)]
    simp; omega
 ·simp
def ZHt (p:Pair):Prop:=ZE p.key=true∧inR p.value 0 999=true
def Up (a b:Pair):Prop:=Za2 a.key b.key=true
theorem ZO (l:List Pair):ZA l=true↔l.length≤48∧(∀ p,p∈l→ZHt p)∧l.Pairwise Up:=by
 constructor
 ·intro h
  refine ⟨ZJ h,fun p hp=>?_,?_⟩
  ·obtain ⟨i,hi⟩:=List.mem_iff_getElem?.1 hp
   exact ZFU h hi
  ·rw [List.pairwise_iff_getElem]
   intro i j hi hj hij
   exact ZFi h i j _ _ hij (List.getElem?_eq_getElem hi) (List.getElem?_eq_getElem hj)
 ·rintro ⟨h1,h2,h3⟩
  simp only[ZA,Bool.and_eq_true,decide_eq_true_eq]
  refine ⟨h1,(ZFk _ 0 rfl).2 fun j _ hj=>?_⟩
  obtain ⟨p,hp⟩:∃ p,l[j]?=some p:=⟨_,List.getElem?_eq_getElem hj⟩
  have hf:=h2 p (List.mem_of_getElem? hp)
  simp only[ZN,hp,hf.1,hf.2,Bool.and_true,Bool.true_and,Bool.or_eq_true,decide_eq_true_eq]
  by_cases h0:j=0
  ·exact .inl h0
  ·right
   obtain ⟨q,hq⟩:∃ q,l[j - 1]?=some q:=⟨_,List.getElem?_eq_getElem (by omega)⟩
   rw [hq]
   have:=List.pairwise_iff_getElem.1 h3 (j - 1) j (by omega) hj (by omega)
   rw [(List.getElem?_eq_some_iff.1 hq).2,(List.getElem?_eq_some_iff.1 hp).2] at this
   exact this
theorem ZFT (l:List Pair) (key:Str) (hn:l.length≤1048576):EE F 83 [L 2 (l.map Pair.u),S key] []=ZC Pair.u 2 (ZF l key):=by
 rw [R83,b83]
 have hpl:=Z1 key l
 have hv:=ZL l
 cases h:ZA l
 ·rw [h] at hv
  simp only[↓xP,xT,rL,rB,rA,rS,hv,ZF,h,Bool.false_eq_true,false_and,if_false,ZC,List.map_nil,List.length_nil]
 rw [h] at hv
 have q0:l.length≤maxLen∧l.length*24≤140737488355328:=ZQ hn (by omega)
 have hpl4:=ZX l key (by omega)
 cases hh:hit key l with
 | none=>
  have hno:=ZFp hh
  have hpp:ZF l key=(l,false):=by simp only[ZF,h,hh,Option.isSome_none,Bool.false_eq_true,if_false,if_true]
  rw [hpp]
  by_cases hi:place key l=l.length
  ·have hi':((place key l:Nat):Int)=(l.length:Int):=by omega
   simp only[↓xP,xT,rL,rB,rA,rS,hv,hpl4,List.length_map,hi',Nat.zero_add,List.nil_append,q0.1,q0.2,ZC,ZI]
  ·obtain ⟨⟨pk,pv⟩,hp⟩:∃ p,l[place key l]?=some p:=⟨_,List.getElem?_eq_getElem (by omega)⟩
   have hi':¬((place key l:Nat):Int)=(l.length:Int):=by omega
   have hne:¬pk=key:=hno _ hp
   simp only[↓xP,xT,rL,rB,rA,rS,hv,hpl4,List.length_map,hi',hp,Pair.u,hne,Nat.zero_add,List.nil_append,q0.1,q0.2,ZC,ZI,ne_eq,not_false_eq_true]
 | some p=>
  obtain ⟨pk,pv⟩:=p
  obtain ⟨h1,h2⟩:=ZR hh
  dsimp only at h2
  subst h2
  have hlt:=(List.getElem?_eq_some_iff.1 h1).1
  have hi':¬((place pk l:Nat):Int)=(l.length:Int):=by omega
  have hmin:min (place pk l) l.length=place pk l:=by omega
  have hw:=w_succ (i:=place pk l) (by omega)
  have hct:=ZGK (n:=l.length) (i:=place pk l) (by omega)
  have hcf:=ZFH (n:=l.length) (i:=place pk l+1) (by omega)
  have q1:place pk l≤maxLen∧place pk l*24≤140737488355328:=ZQ (by omega) (by omega)
  have q3:place pk l + (l.length - (place pk l+1))≤maxLen∧(place pk l + (l.length - (place pk l+1)))*24≤140737488355328:=ZQ (by omega) (by omega)
  have hlen:(rep l (place pk l) 1 []).length=place pk l + (l.length - (place pk l+1)):=by rw [ZFb (by omega)]; simp; omega
  have her:List.take (place pk l) (l.map Pair.u)++List.drop (place pk l+1) (l.map Pair.u)=(rep l (place pk l) 1 []).map Pair.u:=by simp [rep,List.map_take,List.map_drop]
  have hpp:ZF l pk=(rep l (place pk l) 1 [],true):=by simp only[ZF,h,hh,Option.isSome_some,if_true]
  rw [hpp]
  simp only[↓xP,xT,rL,rB,rA,rS,hv,hpl4,List.length_map,List.length_take,List.length_drop,hi',h1,Pair.u,Nat.zero_add,List.nil_append,hw,hct,hcf,hmin,q1.1,q1.2,q3.1,q3.2,ZC,ZI,hlen,her,List.drop_zero,ne_eq,not_true_eq_false]
theorem ZHS {a b c:Str} (h1:Za2 b a=false) (h2:Za2 b c=true):Za2 a c=true:=by
 rcases ZFf a b with h|h|h
 ·exact lt_trans h h2
 ·subst h; exact h2
 ·rw [h] at h1; cases h1
theorem ZGd (l:List Pair) (key:Str) (v:Int) (hn:l.length≤1048576):EE F 90 [L 2 (l.map Pair.u),S key,I v] []=ZC Pair.u 2 (ZB l key v):=by
 rw [R90,b90]
 have hv:=Z2 l
 cases h:ZA l
 ·rw [h] at hv
  simp only[↓xP,xT,rL,rB,rA,rS,hv,ZB,h,Bool.false_eq_true,false_and,if_false,ZC,List.map_nil,List.length_nil]
 rw [h] at hv
 have hl48:=ZJ h
 have hkv:=ZY key
 cases hk:ZE key
 ·rw [hk] at hkv
  simp only[↓xP,xT,rL,rB,rA,rS,hv,hkv,ZB,hk,Bool.false_eq_true,false_and,and_false,if_false,ZC,List.map_nil,List.length_nil]
 rw [hk] at hkv
 cases hr:inR v 0 999
 ·simp only[↓xP,xT,rL,rB,rA,rS,hv,hkv,ZM,hr,ZB,Bool.false_eq_true,false_and,and_false,if_false,ZC,List.map_nil,List.length_nil]
 have hpl:=ZFa l key (ZFi h) (by omega)
 have hple:=Z1 key l
 rw [ZFv] at hpl
 have e0:((0:Nat):Int)=0:=rfl
 have e1:((1:Nat):Int)=1:=rfl
 have hmap : [[U.str key,U.int .i64 v]]=List.map Pair.u [⟨key,v⟩]:=rfl
 cases hh:hit key l with
 | some p=>
  have h1:=(ZR hh).1
  have hlt:=(List.getElem?_eq_some_iff.1 h1).1
  have hre:=Z7 l [⟨key,v⟩] (place key l) 1 (by omega) (by simp only[List.length_cons,List.length_nil]; omega)
  rw [e1,←hmap] at hre
  have hpp:ZB l key v=(rep l (place key l) 1 [⟨key,v⟩],true):=by simp only[ZB,h,hk,hr,hh,Option.isSome_some,and_self,if_true]
  rw [hh,Option.isSome_some] at hpl
  simp only[↓xP,xT,rL,rB,rA,rS,hv,hkv,ZM,hr,hpl,hre,hpp,ZC]
 | none=>
  rw [hh,Option.isSome_none] at hpl
  by_cases h48:48≤l.length
  ·have h48':(48:Int)≤(l.length:Int):=by omega
   have hc:=ZFA l (by omega)
   have hpp:ZB l key v=(l,false):=by simp only[ZB,h,hk,hr,hh,Option.isSome_none,Bool.false_eq_true,if_false,h48,and_self,if_true]
   simp only[↓xP,xT,rL,rB,rA,rS,hv,hkv,ZM,hr,hpl,List.length_map,ge_iff_le,h48',hc,hpp,ZC]
  ·have h48':¬(48:Int)≤(l.length:Int):=by omega
   have hre:=Z7 l [⟨key,v⟩] (place key l) 0 (by omega) (by simp only[List.length_cons,List.length_nil]; omega)
   rw [e0,←hmap] at hre
   have hpp:ZB l key v=(rep l (place key l) 0 [⟨key,v⟩],true):=by simp only[ZB,h,hk,hr,hh,Option.isSome_none,Bool.false_eq_true,if_false,h48,and_self,if_true]
   simp only[↓xP,xT,rL,rB,rA,rS,hv,hkv,ZM,hr,hpl,List.length_map,ge_iff_le,h48',hre,hpp,ZC]
theorem ZFS (l:List Pair) (key:Str) (hn:l.length≤1048576):EE F 89 [L 2 (l.map Pair.u),S key] []=ZC Pair.u 2 (ZF l key):=by
 rw [R89,b89]
 have hv:=Z2 l
 cases h:ZA l
 ·rw [h] at hv
  simp only[↓xP,xT,rL,rB,rA,rS,hv,ZF,h,Bool.false_eq_true,false_and,if_false,ZC,List.map_nil,List.length_nil]
 rw [h] at hv
 have hl48:=ZJ h
 have hpl:=ZFa l key (ZFi h) (by omega)
 have hple:=Z1 key l
 rw [ZFv] at hpl
 have e1:((1:Nat):Int)=1:=rfl
 cases hh:hit key l with
 | some p=>
  have h1:=(ZR hh).1
  have hlt:=(List.getElem?_eq_some_iff.1 h1).1
  have hre:=Z7 l [] (place key l) 1 (by omega) (by simp only[List.length_nil]; omega)
  rw [e1,List.map_nil] at hre
  have hpp:ZF l key=(rep l (place key l) 1 [],true):=by simp only[ZF,h,hh,Option.isSome_some,if_true]
  rw [hh,Option.isSome_some] at hpl
  simp only[↓xP,xT,rL,rB,rA,rS,hv,hpl,hre,hpp,ZC]
 | none=>
  rw [hh,Option.isSome_none] at hpl
  have hc:=ZFA l (by omega)
  have hpp:ZF l key=(l,false):=by simp only[ZF,h,hh,Option.isSome_none,Bool.false_eq_true,if_false,if_true]
  simp only[↓xP,xT,rL,rB,rA,rS,hv,hpl,hc,hpp,ZC]
/-- What one answer makes of the pairs; none if it cannot be right. -/
def oneA (l:List Pair) (a:Answer):Option (List Pair):=
  if a.reply = -2 then some l
  else if a.reply=ZP l a.asked.cmd.key then
    (if a.asked.cmd.kind=3 then some (ZF l a.asked.cmd.key).1
     else if a.asked.cmd.kind=2∨(a.asked.cmd.kind=4∧a.asked.cmd.old=ZP l a.asked.cmd.key) then
       (if (ZB l a.asked.cmd.key a.asked.cmd.value).2=true then some (ZB l a.asked.cmd.key a.asked.cmd.value).1 else none)
     else some l)
  else none
def okA (a:Answer):Bool:=ZH a.asked&&!decide (a.asked.cmd.kind=5)
def runA:List Answer→List Pair→Option (List Pair)
 | [],l=>some l
 | a::as',l=>if okA a=true then (oneA l a).bind (runA as') else none
def hist (l:List Answer):Option (List Pair):=if l.length≤200 then runA l [] else none
def ZS (x:Option (List Pair)):Option Ret:=match x with
 | some p=>some ⟨[L 2 (p.map Pair.u),B true],[],[]⟩
 | none=>some ⟨[L 2 [],B false],[],[]⟩
theorem ZGw {l l':List Pair} {a:Answer} (h:oneA l a=some l') (hl:l.length≤48):l'.length≤48:=by
 unfold oneA at h
 split at h
 ·cases h; exact hl
 ·split at h
  ·split at h
   ·cases h
    unfold ZF
    split
    ·split
     ·rename_i hs
      cases hh:hit a.asked.cmd.key l with
      | none=>rw [hh] at hs; cases hs
      | some p=>
       have:=(List.getElem?_eq_some_iff.1 (ZR hh).1).1
       rw [ZFb (by omega)]
       simp; omega
     ·exact hl
    ·simp
   ·split at h
    ·split at h
     ·cases h; exact ZGy _ _ _
     ·cases h
    ·cases h; exact hl
  ·cases h
theorem ZF9 (l:List Pair) (c s k:Int) (key:Str) (v o:Int) (r:Int):oneA l ⟨⟨c,s,⟨k,key,v,o⟩⟩,r⟩=if r = -2 then some l else if r=ZP l key then (if k=3 then some (ZF l key).1 else if k=2∨(k=4∧o=ZP l key) then (if (ZB l key v).2=true then some (ZB l key v).1 else none) else some l) else none:=rfl
theorem ZG8 (l:List Pair) (c s k:Int) (key:Str) (v o:Int) (r:Int) (hn:l.length≤1048576) (hk:1≤k∧k≤4):∃ q:List Pair,EE F 48 [L 2 (l.map Pair.u),.ag [.u (.int .i64 c),.u (.int .i64 s),.u (.int .i64 k),.u (.str key),.u (.int .i64 v),.u (.int .i64 o),.u (.int .i64 r)]] []=some ⟨[L 2 (q.map Pair.u),B (oneA l ⟨⟨c,s,⟨k,key,v,o⟩⟩,r⟩).isSome],[],[]⟩∧∀ p,oneA l ⟨⟨c,s,⟨k,key,v,o⟩⟩,r⟩=some p→q=p:=by
 have hpg:=ZGc l key (by omega)
 have hpd:=ZFT l key hn
 have hpp:=ZGe l key v hn
 rw [ZF9]
 by_cases hr:r = -2
 ·refine ⟨l,?_,fun p h=>by simpa [hr] using h⟩
  rw [R48,b48]
  simp only[↓xP,xT,rL,rB,rA,rS,hpg,hr]
  all_goals rfl
 simp only[hr,if_false]
 by_cases hrg:r=ZP l key
 case neg=>
  refine ⟨l,?_,fun p h=>by rw [if_neg hrg] at h; cases h⟩
  rw [R48,b48]
  simp only[↓xP,xT,rL,rB,rA,rS,hpg,hr,hrg,ne_eq,not_false_eq_true,if_false,Option.isSome_none,List.map_nil]
 rw [if_pos hrg]
 rw [←hrg] at hpg ⊢
 generalize ZF l key=dr at *
 generalize ZB l key v=pu at *
 obtain ⟨dl,db⟩:=dr
 obtain ⟨pl,pb⟩:=pu
 simp only[ZC] at hpd hpp
 rcases (show k=1∨k=2∨k=3∨k=4 by omega) with rfl|rfl|rfl|rfl
 ·refine ⟨l,?_,fun p h=>by simpa using h⟩
  rw [R48,b48]
  simp only[↓xP,xT,rL,rB,rA,rS,hpg,hr,ne_eq,not_true_eq_false]
  all_goals rfl
 ·refine ⟨pl,?_,fun p h=>by cases pb<;>simp at h; exact h⟩
  rw [R48,b48]
  simp only[↓xP,xT,rL,rB,rA,rS,hpg,hpp,hr,ne_eq,not_true_eq_false,ZI]
  cases pb<;>rfl
 ·refine ⟨dl,?_,fun p h=>by simpa using h⟩
  rw [R48,b48]
  simp only[↓xP,xT,rL,rB,rA,rS,hpg,hpd,hr,ne_eq,not_true_eq_false,ZI]
  all_goals rfl
 ·have h43:¬(4:Int)=3:=by omega
  have h42:¬(4:Int)=2:=by omega
  by_cases ho:o=r
  ·refine ⟨pl,?_,fun p h=>by cases pb<;>simp [ho] at h; exact h⟩
   rw [R48,b48]
   simp only[↓xP,xT,rL,rB,rA,rS,hpg,hpp,hr,ho,ne_eq,not_true_eq_false,ZI]
   cases pb<;>rfl
  ·refine ⟨l,?_,fun p h=>by simpa [ho] using h⟩
   rw [R48,b48]
   simp only[↓xP,xT,rL,rB,rA,rS,hpg,hr,ho,h43,h42,ne_eq,not_false_eq_true,not_true_eq_false,ZI]
   all_goals simp
theorem ZGv {a:Answer} (h:okA a=true):1≤a.asked.cmd.kind∧a.asked.cmd.kind≤4∧ZE a.asked.cmd.key=true:=by
 simp only[okA,ZH,Bool.and_eq_true,Bool.not_eq_true',decide_eq_false_iff_not] at h
 obtain ⟨⟨_,hc⟩,h5⟩:=h
 simp only[ZK,Bool.and_eq_true,Bool.or_eq_true,decide_eq_true_eq] at hc
 obtain ⟨h1,h2⟩:=hc
 refine ⟨?_,?_,?_⟩
 ·rcases h2 with (⟨⟨h2,_⟩,_⟩|⟨⟨h2,_⟩,_⟩)|⟨⟨h2,_⟩,_⟩
  ·rcases h2 with (h2|h2)|h2<;>omega
  ·omega
  ·omega
 ·rcases h2 with (⟨⟨h2,_⟩,_⟩|⟨⟨h2,_⟩,_⟩)|⟨⟨h2,_⟩,_⟩
  ·rcases h2 with (h2|h2)|h2
   ·omega
   ·omega
   ·exact absurd h2 h5
  ·omega
  ·omega
 ·rcases h1 with h1|h1
  ·exact h1
  ·exact absurd h1.1 h5
theorem ZF8 (c s k:Int) (key:Str) (v o r:Int):okA ⟨⟨c,s,⟨k,key,v,o⟩⟩,r⟩=(ZH ⟨c,s,⟨k,key,v,o⟩⟩&&!decide (k=5)):=rfl
theorem ZFw (a:Answer) (m:List Answer) (p:List Pair):runA (a::m) p=if okA a=true then (oneA p a).bind (runA m) else none:=rfl
theorem ZGC {a:Answer} (h:okA a=false):∀ (l:List Answer) (p:List Pair),a∈l→runA l p=none
 | [],p,hm=>by cases hm
 | b :: l,p,hm=>by
  rw [ZFw]
  split
  ·rename_i hb
   rcases List.mem_cons.1 hm with rfl|hm
   ·rw [h] at hb; cases hb
   ·cases oneA p b with
    | none=>rfl
    | some q=>exact ZGC h l q hm
  ·rfl
def scD (p:List Pair):Bool→D
 | false=>.t (.sc (.own (.loc 9 0) 0))
 | true=>DU (.sl 2 (p.map Pair.u))
def scO (st:St) (p:List Pair):Bool→Prop
 | false=>st.o (.loc 9 0)=some (.row 2 [])∧p=[]
 | true=>True
theorem ZFF (l:List Answer) (hn:l.length≤1048576):EE F 19 [L 7 (l.map Answer.u)] []=ZS (hist l):=by
 rw [R19,b19]
 simp only[↓xP,xT,rL,rB,rA,rS]
 refine (Zji (fun (i:Nat) st=>i≤l.length∧i≤200∧(∀ j a,j<i→l[j]?=some a→okA a=true)∧st.s 0=DU (.sl 7 (l.map Answer.u))∧st.s 5=DI i∧st.s 4=.t (.sc (.own (.loc 9 0) 0))∧st.o (.loc 9 0)=some (.row 2 [])) (fun i=>l.length - i) (fun i=>ZS (hist l)) ?_ 0 ⟨by omega,by omega,fun j a h=>by omega,(by and_intros<;>first|omega|rfl|(simp only[↓xP,xT,rL,rB,rA,rS]<;>first|done|rfl|omega))⟩).trans rfl
 rintro i st ⟨hle,hle2,hall,h0,h5,h4,ho⟩ ih
 by_cases hi:i<l.length
 ·obtain ⟨⟨⟨c,s,⟨k,key,v,o⟩⟩,r⟩,hx⟩:∃ a,l[i]?=some a:=⟨_,List.getElem?_eq_getElem hi⟩
  have hw:=w_succ (i:=i) (by omega)
  have hev:=ZFE c s k key v o
  by_cases h200:(200:Int)≤(i:Int)
  ·have hh:hist l=none:=by unfold hist; rw [if_neg (by omega)]
   rw [hh]
   simp only[↓xP,xT,rL,rB,rA,rS,h0,h5,h4,ho,List.length_map,hi,ge_iff_le,h200,ZS,List.map_nil]
  have hbad:okA ⟨⟨c,s,⟨k,key,v,o⟩⟩,r⟩=false→hist l=none:=fun h=>by
   unfold hist
   split
   ·exact ZGC h l [] (List.mem_of_getElem? hx)
   ·rfl
  rw [ZF8] at hbad
  cases he:ZH ⟨c,s,⟨k,key,v,o⟩⟩
  ·rw [hbad (by rw [he]; rfl)]
   rw [he] at hev
   simp only[↓xP,xT,rL,rB,rA,rS,h0,h5,h4,ho,List.length_map,hi,ge_iff_le,h200,hx,Answer.u,hev,ZS,List.map_nil]
  rw [he] at hev
  by_cases hk5:k=5
  ·rw [hbad (by rw [he,hk5]; rfl)]
   subst hk5
   simp only[↓xP,xT,rL,rB,rA,rS,h0,h5,h4,ho,List.length_map,hi,ge_iff_le,h200,hx,Answer.u,hev,ZS,List.map_nil]
  simp only[↓xP,xT,rL,rB,rA,rS,h0,h5,h4,ho,List.length_map,hi,ge_iff_le,h200,hx,Answer.u,hev,hk5,hw]
  exact ih (i+1) _ (by omega) ⟨by omega,by omega,fun j a hj ha=>by
   by_cases e:j=i
   ·subst e; rw [hx] at ha; cases ha; rw [ZF8,he]; simp [hk5]
   ·exact hall j a (by omega) ha,(by and_intros<;>first|omega|rfl|(simp only[↓xP,xT,rL,rB,rA,rS,h0,h5,h4,ho,hw]<;>first|done|rfl|omega))⟩
 have hl:hist l=runA l []:=by unfold hist; rw [if_pos (by omega)]
 have hall':∀ (j:Nat) a,l[j]?=some a→okA a=true:=fun j a ha=>hall j a (by have:=(List.getElem?_eq_some_iff.1 ha).1; omega) ha
 rw [hl]
 simp only[↓xP,xT,rL,rB,rA,rS,h0,h5,h4,ho,List.length_map,hi]
 clear ih
 refine (Zji (fun (a:Nat×Bool×List Pair) st=>a.1≤l.length∧a.2.2.length≤48∧st.s 0=DU (.sl 7 (l.map Answer.u))∧st.s 6=DI a.1∧st.s 4=scD a.2.2 a.2.1∧scO st a.2.2 a.2.1) (fun a=>l.length - a.1) (fun a=>ZS (runA (l.drop a.1) a.2.2)) ?_ (0,false,[]) ⟨by simp,by simp,by simp only[↓xP,xT,rL,rB,rA,rS,h0],by simp only[↓xP,xT,rL,rB,rA,rS]; rfl,by simp only[↓xP,xT,rL,rB,rA,rS,scD,h4],by simp only[scO]; exact ⟨by simp only[↓xP,xT,rL,rB,rA,rS,ho],trivial⟩⟩).trans (by simp)
 clear h0 h5 h4 ho hi hle hle2 hall
 rintro ⟨i,b,p⟩ st ⟨hle,hp48,h0,h6,h4,ho⟩ ih
 dsimp only at *
 by_cases hi:i<l.length
 ·obtain ⟨⟨⟨c,s,⟨k,key,v,o⟩⟩,r⟩,hx⟩:∃ a,l[i]?=some a:=⟨_,List.getElem?_eq_getElem hi⟩
  have hw:=w_succ (i:=i) (by omega)
  have hd:l.drop i=⟨⟨c,s,⟨k,key,v,o⟩⟩,r⟩::l.drop (i+1):=by rw [List.drop_eq_getElem_cons hi,(List.getElem?_eq_some_iff.1 hx).2]
  have hok:=hall' i _ hx
  rw [hd,ZFw,if_pos hok]
  obtain ⟨hk1,hk4,_⟩:=ZGv hok
  dsimp only at hk1 hk4
  obtain ⟨q,hq,hqp⟩:=ZG8 p c s k key v o r (by omega) ⟨hk1,hk4⟩
  have hl48:=fun p'=>ZGw (l:=p) (l':=p') (a:=⟨⟨c,s,⟨k,key,v,o⟩⟩,r⟩)
  cases ho1:oneA p ⟨⟨c,s,⟨k,key,v,o⟩⟩,r⟩ with
  | none=>
   rw [ho1,Option.isSome_none] at hq
   rw [Option.bind_none]
   cases b<;>simp only[scD,scO] at h4 ho
   ·obtain ⟨ho,rfl⟩:=ho
    rw [List.map_nil] at hq
    cases hE:(List.map Pair.u q).isEmpty<;>simp only[↓xP,xT,rL,rB,rA,rS,rdx2,hE,h0,h6,h4,ho,List.length_map,hi,hx,Answer.u,hq,ZS,List.map_nil,List.take_nil]
   ·simp only[↓xP,xT,rL,rB,rA,rS,rdx2,h0,h6,h4,List.length_map,hi,hx,Answer.u,hq,ZS,List.map_nil]
  | some p'=>
   have hqe:=hqp p' ho1
   subst hqe
   have hq48:=hl48 q ho1 hp48
   rw [ho1,Option.isSome_some] at hq
   rw [Option.bind_some]
   cases b<;>simp only[scD,scO] at h4 ho
   ·obtain ⟨ho,rfl⟩:=ho
    rw [List.map_nil] at hq
    cases hE:(List.map Pair.u q).isEmpty
    all_goals
     simp only[↓xP,xT,rL,rB,rA,rS,rdx2,hE,h0,h6,h4,ho,List.length_map,hi,hx,Answer.u,hq,hw,List.take_nil]
     exact ih (i+1,true,q) _ (by dsimp only; omega) ⟨by dsimp only; omega,hq48,by simp only[↓xP,xT,rL,rB,rA,rS,h0],by simp only[↓xP,xT,rL,rB,rA,rS,hw],by simp only[↓xP,xT,rL,rB,rA,rS,scD],trivial⟩
   ·simp only[↓xP,xT,rL,rB,rA,rS,rdx2,h0,h6,h4,List.length_map,hi,hx,Answer.u,hq,hw]
    exact ih (i+1,true,q) _ (by dsimp only; omega) ⟨by dsimp only; omega,hq48,by simp only[↓xP,xT,rL,rB,rA,rS,h0],by simp only[↓xP,xT,rL,rB,rA,rS,hw],by simp only[↓xP,xT,rL,rB,rA,rS,scD],trivial⟩
 ·rw [List.drop_of_length_le (by omega)]
  cases b<;>simp only[scD,scO] at h4 ho
  ·obtain ⟨ho,rfl⟩:=ho
   simp only[↓xP,xT,rL,rB,rA,rS,h0,h6,h4,ho,List.length_map,hi,runA,ZS,List.map_nil,List.take_nil]
  ·simp only[↓xP,xT,rL,rB,rA,rS,h0,h6,h4,List.length_map,hi,runA,ZS]
def ZGQ (c:Config):Bool:=decide (c.epoch=0)&&decide (c.members.length=0)&&!c.fresh
def ZFn (l:List Entry):Bool:=decide (l.length≤24)&&l.all ZH
def ZFt (r:Replica):Bool:=if ZGQ r.conf=true then !r.ready&&decide (r.log.length=0) else Z6 r.conf&&ZFn r.log&&(r.ready||decide (r.log.length=0))
def ZFr (m:Message):Bool:=decide (1≤m.epoch)&&decide (m.epoch≤60)&&(if m.kind=1 then inR m.to_ 0 4&&Z6 m.conf&&decide (m.conf.epoch=m.epoch)&&decide (m.log.length=0) else if m.kind=2 then inR m.to_ 0 4&&ZGQ m.conf&&ZFn m.log else if m.kind=3 then decide (m.to_ = -1)&&ZGQ m.conf&&decide (m.log.length=0) else false)
def ZHf (l:List Message):Bool:=decide (l.length≤10)&&l.all ZFr
def ZFy (a:Answer):Bool:=ZH a.asked&&inR a.reply (-4) 999
def ZF3 (l:List Answer):Bool:=decide (l.length≤24)&&l.all ZFy
def ZGJ (c:Chain):Bool:=ZFO c.base&&Z6 c.conf&&decide (c.nodes.length=5)&&decide (c.up.length=5)&&ZHf c.bag&&(c.nodes.all fun r=>ZFt r&&decide (r.conf.epoch≤c.conf.epoch))&&(c.bag.all fun m=>decide (m.epoch≤c.conf.epoch))&&ZF3 c.answers
def ZHI (l:List Interval) (j:Nat):Bool:=match l[j - 1]?,l[j]? with
 | some a,some b=>ZHJ a b
 | _,_=>true
def ZFL (l:List Interval):Bool:=match l[0]?,l[l.length - 1]? with
 | some a,some b=>decide (l.length≤6)&&ZD a&&decide (a.low=[])&&decide (b.high=[])&&allF l.length (ZHI l) 1
 | _,_=>false
def ZHF (l:List Route) (n:Int):Bool:=l.any (fun q=>decide (q.number=n))
def ZHV (l:List Route) (i:Nat):Bool:=match l[i]? with
 | some r=>inR r.number 0 7&&!ZHF (l.take i) r.number
 | none=>true
def ZFh (l:List Route):Bool:=allF l.length (ZHV l) 0
def ZHY (l:List Route):List Interval:=l.map Route.span
def ZHZ (a b:Str):Bool:=!Za2 a b&&!decide (a=b)
def ZHM (l:List Route) (i:Nat):Bool:=match l[i]? with
 | some r=>ZD r.span&&!(match l[i - 1]? with
  | some q=>decide (0<i)&&(decide (q.span.high=[])||ZHZ q.span.high r.span.low)
  | none=>false)
 | none=>true
def ZGI (l:List Route):Bool:=ZFh l&&allF l.length (ZHM l) 0
def ZFC (l:List Route):Bool:=decide (l.length≤6)&&ZFL (ZHY l)&&ZFh l
def ZG9 (c:Command):Bool:=decide (c.kind=0)&&decide (c.key=[])&&decide (c.value=0)&&decide (c.old=0)
def ZFz (c:Caller):Bool:=ZGI c.cache&&inR c.seq 0 999&&(if c.busy=true then decide (1≤c.seq)&&ZFY c.wish&&inR c.called 0 200 else ZG9 c.wish&&decide (c.called=0))
def ZFB (r:Result):Bool:=inR r.client 1 3&&inR r.seq 1 999&&ZFY r.wish&&inR r.reply (-4) 999&&inR r.returned 0 200&&decide (0≤r.called)&&decide (r.called≤r.returned)
def rle (a b:Route):Bool:=!Za2 b.span.low a.span.low
def insL (l:List Route) (x:Route):List Route:=l.takeWhile (fun q=>rle q x)++x::l.dropWhile (fun q=>rle q x)
def ZHX (l:List Route):List Route:=l.foldl insL []
def ZHl:List Shard→Nat→List Route
 | [],_=>[]
 | s::l,i=>if s.live=true then ⟨(i:Int),s.group.base.span⟩::ZHl l (i+1) else ZHl l (i+1)
def ZGB (l:List Shard):List Route:=ZHX (ZHl l 0)
def ZHL (p:Plan):Bool:=decide (p.kind=0)&&decide (p.first=0)&&decide (p.second=0)&&decide (p.key=[])&&decide (p.from_=0)&&decide (p.to_=0)&&decide (p.step=0)
def ZGW (p:Plan) (n:Nat):Bool:=ZHL p||(ZHa p&&decide (p.first<n)&&decide (p.second<n))
def ZGM (c:Caller):Bool:=decide (c.cache.length=0)&&decide (c.seq=0)
def upOf (l:List Shard):List Bool:=match l with
 | []=>[]
 | s::_=>s.group.up
def ZFX (l:List Caller):Bool:=match l with
 | []=>false
 | c::_=>ZGM c
def ZHz (u:List Bool) (s:Shard):Bool:=ZGJ s.group&&decide (s.group.up=u)
def ZHA (x:Cluster):Bool:=decide (1≤x.shards.length)&&decide (x.shards.length≤8)&&decide (x.clients.length=4)&&decide (x.results.length≤40)
def ZHE (x:Cluster):Bool:=ZFC (ZGB x.shards)&&ZFX x.clients&&inR x.turn 0 999&&inR x.clock 0 200
def ZF4 (x:Cluster):Bool:=ZHA x&&x.shards.all (ZHz (upOf x.shards))&&x.clients.all ZFz&&x.results.all ZFB&&ZGW x.work x.shards.length&&ZHE x
def sumW {α:Type} (w:α→Nat):List α→Nat
 | []=>0
 | x::xs=>w x+sumW w xs
def Cost (g:Int→Int) (w:Nat):Prop:=∀ a,0≤a→a≤1048576→0≤g a→g a≤a∧9*g a+w≤9*a
theorem Cost.nil:Cost (fun a=>a) 0:=fun a _ _ _=>⟨Int.le_refl _,by show 9*a + ((0:Nat):Int)≤9*a; omega⟩
theorem Cost.off {n:Nat} {k:Int→Int} {w w':Nat} (hn:n≤1048576) (hw:w≤9*n+w') (hk:Cost k w'):Cost (fun a=>offZ a n k) w:=by
 intro a h0 h1 h2
 simp only[offZ] at h2 ⊢
 rw [w64 (by omega) (by omega)] at h2 ⊢
 split at h2
 ·omega
 ·rename_i hlt
  rw [if_neg hlt]
  obtain ⟨h3,h4⟩:=hk (a - n) (by omega) (by omega) h2
  omega
theorem Cost.chk {g k:Int→Int} {w w':Nat} (hg:Cost g w) (hk:Cost k w'):Cost (fun a=>chkZ (g a) k) (w+w'):=by
 intro a h0 h1 h2
 simp only[chkZ] at h2 ⊢
 split at h2
 ·omega
 ·rename_i hlt
  rw [if_neg hlt]
  obtain ⟨h3,h4⟩:=hg a h0 h1 (by omega)
  obtain ⟨h5,h6⟩:=hk (g a) (by omega) (by omega) h2
  omega
theorem Cost.all {α:Type} {g:α→Int→Int} {w:α→Nat}:∀ {l:List α},(∀ x,x∈l→Cost (g x) (w x))→Cost (allZ g l) (sumW w l)
 | [],_=>Cost.nil
 | x::xs,h=>(h x (List.mem_cons_self ..)).chk (Cost.all (l:=xs) fun y hy=>h y (List.mem_cons_of_mem _ hy))
theorem Cost.key {n:Nat} (h:n≤1048576):Cost (fun a=>offZ a n fun a=>a) 0:=Cost.off h (by omega) Cost.nil
def ZHR (a:Answer) (c s:Int):Bool:=decide (a.asked.client=c)&&decide (a.asked.seq=s)
def ZHG (l:List Answer) (c s:Int):Bool:=l.any fun a=>ZHR a c s
def ZH0 (l:List Answer) (a:Answer):Bool:=!decide (a.asked.client=0)&&(decide (-2≤a.reply)&&!ZHG l a.asked.client a.asked.seq)
def ZHv (l:List Answer) (a:Answer):List Answer:=if ZH0 l a=true then l++[a] else l
def ZHH (l:List Answer) (m:List Answer):List Answer:=m.foldl ZHv l
def ZHQ (l:List Shard):List Answer:=l.foldl (fun o s=>ZHH o s.group.answers) []
def ZH2 (x:Cluster):List Answer:=if ZF4 x=true then ZHQ x.shards else []
theorem ZHB {α:Type} {l:List α} {i:Nat} {a:α} (h:a∈l.take i):∃ t:Nat,t<i∧l[t]?=some a:=by
 obtain ⟨t,ht⟩:=List.getElem?_of_mem h
 rw [List.getElem?_take] at ht
 split at ht
 ·exact ⟨t,by assumption,ht⟩
 ·cases ht
theorem ZGp {α:Type} {l:List α} {i:Nat} {a:α} (h:a∈l.drop i):∃ t:Nat,i≤t∧l[t]?=some a:=by
 obtain ⟨t,ht⟩:=List.getElem?_of_mem h
 rw [List.getElem?_drop] at ht
 exact ⟨i+t,by omega,ht⟩
theorem ZHr {l:List Pair} {key:Str} {v:Int} {m:Nat} (hv:ZA l=true) (hk:ZE key=true) (hr:inR v 0 999=true) (hn:(rep l (place key l) m [⟨key,v⟩]).length≤48)
  (hd:∀ b,b∈l.drop (place key l+m)→Za2 key b.key=true):ZA (rep l (place key l) m [⟨key,v⟩])=true:=by
 obtain ⟨h1,h2,h3⟩:=(ZO l).1 hv
 have ht:∀ a,a∈l.take (place key l)→Za2 a.key key=true:=fun a ha=>by
  obtain ⟨t,ht,hp⟩:=ZHB ha
  exact ZGz ht hp
 refine (ZO _).2 ⟨hn,fun p hp=>?_,?_⟩
 ·simp only[rep,List.mem_append,List.mem_singleton] at hp
  rcases hp with (hp|rfl)|hp
  ·exact h2 p (List.mem_of_mem_take hp)
  ·exact ⟨hk,hr⟩
  ·exact h2 p (List.mem_of_mem_drop hp)
 ·simp only[rep]
  refine List.pairwise_append.2 ⟨List.pairwise_append.2 ⟨h3.sublist (List.take_sublist ..),List.pairwise_singleton ..,fun a ha b hb=>?_⟩,h3.sublist (List.drop_sublist ..),fun a ha b hb=>?_⟩
  ·simp only[List.mem_singleton] at hb
   subst hb
   exact ht a ha
  ·rcases List.mem_append.1 ha with ha|ha
   ·exact lt_trans (ht a ha) (hd b hb)
   ·simp only[List.mem_singleton] at ha
    subst ha
    exact hd b hb
theorem ZHg {l:List Pair} {key:Str} {p:Pair} (hv:ZA l=true) (hh:hit key l=some p):∀ b,b∈l.drop (place key l+1)→Za2 key b.key=true:=by
 intro b hb
 obtain ⟨h1,h2⟩:=ZR hh
 obtain ⟨t,ht,hp⟩:=ZGp hb
 rw [←h2]
 exact ZFi hv _ t _ _ (by omega) h1 hp
theorem ZG5 {l:List Pair} {key:Str} (hv:ZA l=true) (hh:hit key l=none):∀ b,b∈l.drop (place key l+0)→Za2 key b.key=true:=by
  intro b hb
  obtain ⟨t,ht,hp⟩:=ZGp hb
  have h1:=ZHp (ZFi hv) ht hp
  rcases ZFf key b.key with h|h|h
  · exact h
  · by_cases e:t=place key l
    · subst e; exact absurd h.symm (ZFp hh b hp)
    · obtain ⟨q,hq⟩:∃ q,l[place key l]?=some q:=⟨_,List.getElem?_eq_getElem (by have:=(List.getElem?_eq_some_iff.1 hp).1; omega)⟩
      have h2:=ZFi hv _ t _ _ (by omega) hq hp
      rw [←h,ZFM hq] at h2
      cases h2
  · rw [h1] at h; cases h
theorem ZHq:ZA []=true:=(ZO []).2 ⟨by simp,fun p h=>(by cases h),List.Pairwise.nil⟩
theorem ZGS {l:List Pair} {key:Str} {v:Int} (hv:ZA l=true):ZA (ZB l key v).1=true∧∀ w:Interval,(l.all fun q=>Z9 w q.key)=true→Z9 w key=true→((ZB l key v).1.all fun q=>Z9 w q.key)=true:=by
 unfold ZB
 have hins:∀ (w:Interval) (m:Nat),(l.all fun q=>Z9 w q.key)=true→Z9 w key=true→((rep l (place key l) m [⟨key,v⟩]).all fun q=>Z9 w q.key)=true:=by
  intro w m ha hw
  rw [List.all_eq_true] at ha ⊢
  intro p hp
  simp only[rep,List.mem_append,List.mem_singleton] at hp
  rcases hp with (hp|rfl)|hp
  ·exact ha p (List.mem_of_mem_take hp)
  ·exact hw
  ·exact ha p (List.mem_of_mem_drop hp)
 split
 ·rename_i hc
  have h48:=ZJ hv
  have hpl:=Z1 key l
  cases hh:hit key l with
  | some p=>
   have hlt:=(List.getElem?_eq_some_iff.1 (ZR hh).1).1
   simp only[Option.isSome_some,if_true]
   exact ⟨ZHr hv hc.2.1 hc.2.2 (by rw [ZFb (by omega)]; simp; omega) (ZHg hv hh),fun w ha hw=>hins w 1 ha hw⟩
  | none=>
   simp only[Option.isSome_none,Bool.false_eq_true,if_false]
   split
   ·exact ⟨hv,fun w ha _=>ha⟩
   ·exact ⟨ZHr hv hc.2.1 hc.2.2 (by rw [ZFb (by omega)]; simp; omega) (ZG5 hv hh),fun w ha hw=>hins w 0 ha hw⟩
 ·exact ⟨ZHq,fun _ _ _=>rfl⟩
theorem ZGx {l:List Pair} {key:Str} (hv:ZA l=true):ZA (ZF l key).1=true∧∀ w:Interval,(l.all fun q=>Z9 w q.key)=true→((ZF l key).1.all fun q=>Z9 w q.key)=true:=by
 unfold ZF
 rw [if_pos hv]
 split
 ·obtain ⟨h1,h2,h3⟩:=(ZO l).1 hv
  have hsub:List.Sublist (rep l (place key l) 1 []) l:=by
   simp only[rep,List.append_nil]
   conv=>rhs; rw [←List.take_append_drop (place key l) l]
   refine List.Sublist.append (List.Sublist.refl _) ?_
   rw [←List.drop_drop]
   exact List.drop_sublist ..
  refine ⟨(ZO _).2 ⟨Nat.le_trans hsub.length_le h1,fun p hp=>h2 p (hsub.subset hp),h3.sublist hsub⟩,fun w ha=>?_⟩
  rw [List.all_eq_true] at ha ⊢
  exact fun p hp=>ha p (hsub.subset hp)
 ·exact ⟨hv,fun _ h=>h⟩
theorem ZG7 {s:Str} (h:ZE s=true):s.length≤1048576:=by
 simp only[ZE,Bool.and_eq_true,decide_eq_true_eq] at h
 omega
theorem ZGR {l m:List Pair} {a:Answer} (hv:ZA l=true) (h:oneA l a=some m):ZA m=true:=by
 unfold oneA at h
 split at h
 ·cases h; exact hv
 ·split at h
  ·split at h
   ·cases h; exact (ZGx hv).1
   ·split at h
    ·split at h
     ·cases h; exact (ZGS hv).1
     ·cases h
    ·cases h; exact hv
  ·cases h
theorem ZFN:∀ (as':List Answer) (l m:List Pair),ZA l=true→runA as' l=some m→ZA m=true
 | [],l,m,hv,h=>by
  simp only[runA,Option.some.injEq] at h
  rw [←h]; exact hv
 | a :: as',l,m,hv,h=>by
  simp only[runA] at h
  split at h
  ·cases ho:oneA l a with
   | none=>rw [ho] at h; cases h
   | some k=>
    rw [ho,Option.bind_some] at h
    exact ZFN as' k m (ZGR hv ho) h
  ·cases h
theorem ZGN {l:List Answer} {m:List Pair} (h:hist l=some m):ZA m=true:=by
 unfold hist at h
 split at h
 ·exact ZFN l [] m ZHq h
 ·cases h
structure ZHs (c:Chain):Prop where
 base:ZFO c.base=true
 conf:Z6 c.conf=true
 nodes:c.nodes.length=5
 up:c.up.length=5
 bagn:c.bag.length≤10
 bagv:∀ m,m∈c.bag→ZFr m=true∧m.epoch≤c.conf.epoch
 node:∀ r,r∈c.nodes→ZFt r=true∧r.conf.epoch≤c.conf.epoch
 ansn:c.answers.length≤24
 ansv:∀ a,a∈c.answers→ZFy a=true
/-- One route lies wholly ahead of another. -/
def Ahead (a b:Route):Prop:=a.span.high≠[]∧Za2 b.span.low a.span.high=false
theorem ZHm {v:Interval} (h:ZD v=true) (hh:v.high≠[]):Za2 v.low v.high=true∧(v.low=[]→Za2 [97] v.high=true):=by
 simp only[ZD,Bool.and_eq_true,Bool.or_eq_true,decide_eq_true_eq] at h
 obtain ⟨_,h⟩:=h
 have h:=h.resolve_left hh
 by_cases e:v.low=[]
 ·rw [if_pos e] at h
  refine ⟨?_,fun _=>h⟩
  rw [e,ZF7]; simp [hh]
 ·rw [if_neg e] at h
  exact ⟨h,fun e2=>absurd e2 e⟩
theorem Ahead.trans {a b c:Route} (hb:ZD b.span=true) (h1:Ahead a b) (h2:Ahead b c):Ahead a c:=by
 refine ⟨h1.1,?_⟩
 have h3:=(ZHm hb h2.1).1
 have h4:Za2 a.span.high b.span.high=true:=ZHS h1.2 h3
 cases h:Za2 c.span.low a.span.high with
 | false=>rfl
 | true=>
  have:=lt_trans h h4
  rw [h2.2] at this; cases this
def ZHW (x:Cluster) (w:Plan):Cluster:=⟨x.shards,x.clients,x.results,w,x.turn,x.clock⟩
structure XOk (x:Cluster):Prop where
 s1:1≤x.shards.length
 s8:x.shards.length≤8
 cn:x.clients.length=4
 rn:x.results.length≤40
 sh:∀ s,s∈x.shards→ZHs s.group∧s.group.up=upOf x.shards
 cl:∀ c,c∈x.clients→ZFz c=true
 rs:∀ r,r∈x.results→ZFB r=true
 wk:ZGW x.work x.shards.length=true
 rt:ZFC (ZGB x.shards)=true
 fc:ZFX x.clients=true
 tn:inR x.turn 0 999=true
 ck:inR x.clock 0 200=true
theorem XOk.work {x:Cluster} (h:XOk x) {w:Plan} (hw:ZGW w x.shards.length=true):XOk (ZHW x w):=⟨h.s1,h.s8,h.cn,h.rn,h.sh,h.cl,h.rs,hw,h.rt,h.fc,h.tn,h.ck⟩
/-- Some deeds, after at most so many draws. -/
def GdD (bs:List Int) (p c N:Nat) (x:Option Ret):Prop:=Gd bs p c (fun r m=>m=[]∧∃ l:List Deed,r=[L 24 (l.map Deed.u)]∧l.length≤N) x
theorem GdD.mk {bs:List Int} {p c N:Nat} (l:List Deed) (q:Nat) (h1:p≤q) (h2:q≤p+c) (h3:l.length≤N):GdD bs p c N (some ⟨[L 24 (l.map Deed.u)],[],[rd bs q]⟩):=⟨_,_,q,rfl,h1,h2,rfl,l,rfl,h3⟩
/-- Rows that are deeds. -/
def Deeds (n:Nat) (rows:List (List U)):Prop:=∃ l:List Deed,rows=l.map Deed.u∧l.length≤n
theorem Deeds.nil:Deeds 0 []:=⟨[],rfl,Nat.zero_le _⟩
theorem Deeds.map {n:Nat} {l:List Deed} (h:l.length≤n):Deeds n (l.map Deed.u):=⟨l,rfl,h⟩
theorem Deeds.cons {n:Nat} {rows:List (List U)} {a0 a1 a2 a3 a4 a6 a7 a8 a9 a10 a11 a12 a13 a15 a16 a17 a18 a19 a21 a22 a23:Int} {a5 a14 a20:Str} (h:Deeds n rows) :
  Deeds (n+1) ([.int .i64 a0,.int .i64 a1,.int .i64 a2,.int .i64 a3,.int .i64 a4,.str a5,.int .i64 a6,.int .i64 a7,.int .i64 a8,.int .i64 a9,.int .i64 a10,.int .i64 a11,.int .i64 a12,.int .i64 a13,.str a14,.int .i64 a15,.int .i64 a16,.int .i64 a17,.int .i64 a18,.int .i64 a19,.str a20,.int .i64 a21,.int .i64 a22,.int .i64 a23]::rows):=by
 obtain ⟨l,rfl,h⟩:=h
 exact ⟨⟨a0,a1,a2,a3,⟨a4,a5,a6,a7⟩,⟨a8,a9,a10,⟨a11,a12,⟨a13,a14,a15,a16⟩⟩⟩,⟨a17,a18,a19,a20,a21,a22,a23⟩⟩::l,rfl,by simp; omega⟩
theorem GdD.of {bs:List Int} {p c N n:Nat} {rows:List (List U)} (q:Nat) (h1:p≤q) (h2:q≤p+c) (h3:Deeds n rows) (h4:n≤N):GdD bs p c N (some ⟨[L 24 rows],[],[rd bs q]⟩):=by
 obtain ⟨l,rfl,h⟩:=h3
 exact GdD.mk l q h1 h2 (by omega)
set_option maxHeartbeats 1000000 in
theorem ZGP (l:List Pair) (c s k:Int) (key:Str) (v o:Int) (r:Int) (hn:l.length≤1048576) (hk:1≤k∧k≤4) (hr:¬r = -2):∃ q:List Pair,EE F 4147 [.sc (.own (.par 0) l.length),.ag [.u (.int .i64 k),.u (.str key),.u (.int .i64 v),.u (.int .i64 o)],I r] [.row 2 (l.map Pair.u)]=some ⟨[.sc (.own (.par 0) q.length),B (oneA l ⟨⟨c,s,⟨k,key,v,o⟩⟩,r⟩).isSome],[.row 2 (q.map Pair.u)],[]⟩∧∀ p,oneA l ⟨⟨c,s,⟨k,key,v,o⟩⟩,r⟩=some p→q=p:=by
 have hpg:=ZGb l key
 have hpd:=ZFS l key hn
 have hpp:=ZGd l key v hn
 have run:=fun x=>Zjl (F:=F) (f:=4147) (fn:=ZGY) (args:=[.sc (.own (.par 0) l.length),.ag [.u (.int .i64 k),.u (.str key),.u (.int .i64 v),.u (.int .i64 o)],I x]) (ins:=[.row 2 (l.map Pair.u)]) (by kernel_rfl) rfl
 simp only[ZGY,ZHe,Zdi,Zcu,List.length_cons,List.length_nil] at run
 rw [run,ZF9]
 clear run
 simp only[hr,if_false]
 by_cases hrg:r=ZP l key
 case neg=>
  refine ⟨[],?_,fun p h=>by rw [if_neg hrg] at h; cases h⟩
  simp only[↓xP,xT,rL,rB,rA,rS,rdx2,hpg,hrg,ne_eq,not_false_eq_true,if_false,Option.isSome_none,List.map_nil,List.length_nil,List.length_map,ZI]
 rw [if_pos hrg]
 rw [←hrg] at hpg ⊢
 generalize ZF l key=dr at *
 generalize ZB l key v=pu at *
 obtain ⟨dl,db⟩:=dr
 obtain ⟨pl,pb⟩:=pu
 simp only[ZC] at hpd hpp
 rcases (show k=1∨k=2∨k=3∨k=4 by omega) with rfl|rfl|rfl|rfl
 ·refine ⟨l,?_,fun p h=>by simpa using h⟩
  simp only[↓xP,xT,rL,rB,rA,rS,rdx2,hpg,ne_eq,not_true_eq_false,List.length_map,ZI]
  all_goals rfl
 ·refine ⟨pl,?_,fun p h=>by cases pb<;>simp at h; exact h⟩
  simp only[↓xP,xT,rL,rB,rA,rS,rdx2,hpg,hpp,ne_eq,not_true_eq_false,ZI,List.length_map]
  cases pb<;>rfl
 ·refine ⟨dl,?_,fun p h=>by simpa using h⟩
  simp only[↓xP,xT,rL,rB,rA,rS,rdx2,hpg,hpd,ne_eq,not_true_eq_false,ZI,List.length_map]
  all_goals rfl
 ·have h43:¬(4:Int)=3:=by omega
  have h42:¬(4:Int)=2:=by omega
  by_cases ho:o=r
  ·refine ⟨pl,?_,fun p h=>by cases pb<;>simp [ho] at h; exact h⟩
   simp only[↓xP,xT,rL,rB,rA,rS,rdx2,hpg,hpp,ho,ne_eq,not_true_eq_false,ZI,List.length_map]
   cases pb<;>rfl
  ·refine ⟨l,?_,fun p h=>by simpa [ho] using h⟩
   simp only[↓xP,xT,rL,rB,rA,rS,rdx2,hpg,ho,h43,h42,ne_eq,not_true_eq_false,ZI,List.length_map]
   all_goals simp
def foI:Bool→Id
 | false=>.loc 4 0
 | true=>.loc 38 0
/-- What the history makes, as its own list. -/
def ZU (x:Option (List Pair)):Option Ret:=match x with
 | some p=>some ⟨[.sc (.own (.par 0) p.length),B true],[.row 2 (p.map Pair.u)],[]⟩
 | none=>some ⟨[.sc (.own (.par 0) 0),B false],[.row 2 []],[]⟩
set_option maxHeartbeats 2000000 in
theorem ZGf (l:List Answer) (hn:l.length≤1048576):EE F 4117 [L 7 (l.map Answer.u)] []=ZU (hist l):=by
 rw [ZHO,ZHd]
 by_cases h200:(200:Int)<(l.length:Int)
 ·have:¬l.length≤200:=by omega
  simp only[↓xP,xT,rL,rB,rA,rS,List.length_map,gt_iff_lt,h200,hist,this,if_false,ZU,List.map_nil]
 have h200':l.length≤200:=by omega
 simp only[↓xP,xT,rL,rB,rA,rS,List.length_map,gt_iff_lt,h200,hist,h200',if_true]
 refine (Zji (fun (a:Nat×Bool×List Pair) st=>a.1≤l.length∧a.2.2.length≤48∧st.s 11=DU (.sl 7 (l.map Answer.u))∧st.s 12=DI l.length∧st.s 13=DI a.1∧st.s 4=.t (.sc (.own (foI a.2.1) a.2.2.length))∧st.o (foI a.2.1)=some (.row 2 (a.2.2.map Pair.u))) (fun a=>l.length - a.1) (fun a=>ZU (runA (l.drop a.1) a.2.2)) ?_ (0,false,[]) ⟨by simp,by simp,(by and_intros<;>first|omega|rfl|(simp only[↓xP,xT,rL,rB,rA,rS,foI,List.length_map]<;>first|done|rfl|omega))⟩).trans (by simp)
 rintro ⟨i,b,p⟩ st ⟨hle,hp48,h11,h12,h13,h4,ho⟩ ih
 dsimp only at *
 by_cases hi:i<l.length
 ·obtain ⟨⟨⟨c,s,⟨k,key,v,o⟩⟩,r⟩,hx⟩:∃ a,l[i]?=some a:=⟨_,List.getElem?_eq_getElem hi⟩
  have hw:=w_succ (i:=i) (by omega)
  have hd:l.drop i=⟨⟨c,s,⟨k,key,v,o⟩⟩,r⟩::l.drop (i+1):=by rw [List.drop_eq_getElem_cons hi,(List.getElem?_eq_some_iff.1 hx).2]
  rw [hd,ZFw]
  have hev:=ZFD c s k key v o
  by_cases hok:okA ⟨⟨c,s,⟨k,key,v,o⟩⟩,r⟩=true
  case neg=>
   rw [if_neg hok]
   rw [ZF8] at hok
   cases he:ZH ⟨c,s,⟨k,key,v,o⟩⟩
   ·rw [he] at hev
    simp only[↓xP,xT,rL,rB,rA,rS,h11,h12,h13,hi,hx,Answer.u,hev,ZU,List.map_nil]
   ·rw [he] at hev hok
    have h5:k=5:=by simpa using hok
    subst h5
    simp only[↓xP,xT,rL,rB,rA,rS,h11,h12,h13,hi,hx,Answer.u,hev,ZU,List.map_nil]
  rw [if_pos hok]
  obtain ⟨hk1,hk4,_⟩:=ZGv hok
  dsimp only at hk1 hk4
  have hok':=hok
  rw [ZF8,Bool.and_eq_true] at hok'
  have hk5:¬k=5:=by omega
  rw [hok'.1] at hev
  by_cases hr:r = -2
  ·have ho1:oneA p ⟨⟨c,s,⟨k,key,v,o⟩⟩,r⟩=some p:=by rw [ZF9,if_pos hr]
   rw [ho1,Option.bind_some]
   cases b<;>simp only[foI] at h4 ho
   ·simp only[↓xP,xT,rL,rB,rA,rS,h11,h12,h13,h4,ho,hi,hx,Answer.u,hev,hk5,hr,hw]
    exact ih (i+1,false,p) _ (by dsimp only; omega) ⟨by dsimp only; omega,hp48,(by and_intros<;>first|omega|rfl|(simp only[↓xP,xT,rL,rB,rA,rS,h11,h12,h13,h4,ho,hw,foI]<;>first|done|rfl|omega))⟩
   ·simp only[↓xP,xT,rL,rB,rA,rS,h11,h12,h13,h4,ho,hi,hx,Answer.u,hev,hk5,hr,hw]
    exact ih (i+1,true,p) _ (by dsimp only; omega) ⟨by dsimp only; omega,hp48,(by and_intros<;>first|omega|rfl|(simp only[↓xP,xT,rL,rB,rA,rS,h11,h12,h13,h4,ho,hw,foI]<;>first|done|rfl|omega))⟩
  ·obtain ⟨q,hq,hqp⟩:=ZGP p c s k key v o r (by omega) ⟨hk1,hk4⟩ hr
   have hl48:=fun p'=>ZGw (l:=p) (l':=p') (a:=⟨⟨c,s,⟨k,key,v,o⟩⟩,r⟩)
   cases ho1:oneA p ⟨⟨c,s,⟨k,key,v,o⟩⟩,r⟩ with
   | none=>
    rw [ho1,Option.isSome_none] at hq
    rw [Option.bind_none]
    cases b<;>simp only[foI] at h4 ho
    all_goals simp only[↓xP,xT,rL,rB,rA,rS,rdx2,h11,h12,h13,h4,ho,hi,hx,Answer.u,hev,hk5,hr,hq,ZU,List.map_nil]
   | some p'=>
    have hqe:=hqp p' ho1
    subst hqe
    have hq48:=hl48 q ho1 hp48
    rw [ho1,Option.isSome_some] at hq
    rw [Option.bind_some]
    cases b<;>simp only[foI] at h4 ho
    all_goals
     simp only[↓xP,xT,rL,rB,rA,rS,rdx2,h11,h12,h13,h4,ho,hi,hx,Answer.u,hev,hk5,hr,hq,hw]
     exact ih (i+1,true,q) _ (by dsimp only; omega) ⟨by dsimp only; omega,hq48,(by and_intros<;>first|omega|rfl|(simp only[↓xP,xT,rL,rB,rA,rS,h11,h12,h13,h4,ho,hw,foI]<;>first|done|rfl|omega))⟩
 ·rw [List.drop_of_length_le (by omega)]
  cases b<;>simp only[foI] at h4 ho
  all_goals simp only[↓xP,xT,rL,rB,rA,rS,h11,h12,h13,h4,ho,hi,runA,ZU,List.length_map,ZI]
set_option maxHeartbeats 4000000 in
theorem law_FnExactRunHistory (u:U) (hu:UT (.sl [.i .i64,.i .i64,.i .i64,.s,.i .i64,.i .i64,.i .i64]) u):EE F 4 [.sc (.u u)] []=ok1 (B true):=by
 obtain ⟨l,rfl,hf⟩:=hu.sl_of Answer.of
 rw [R4,b4]
 simp only[↓xP,xT,rL,rB,rA,rS,List.length_cons,List.length_nil,ZGh l hf]
 refine ZiJ (fun h=>?_) (fun h=>?_)
 ·rfl
 simp only[decide_eq_false_iff_not] at h
 have hs:=(ZGg l hf 1048576 (by omega) (by omega)).2 (by omega)
 have hl:=hs.1
 have hi:=ZGf l hl
 have hsp:=ZFF l hl
 have hma:=ZFK l 1 (by omega) (by omega)
 have hg:¬(1:Int)+7 * (l.length:Int)<0:=by omega
 have ea:=ZF5 l hs
 have ta:=ZGk l hs
 have hm:=fun (m:List Pair) (hm:hist l=some m)=>ZGN hm
 generalize hist l=x at hi hsp hm
 cases x with
 | some m=>
  have hv:=hm m rfl
  have hl48:=ZJ hv
  have hR:Z8 m:=⟨by omega,fun y hy=>⟨ZG7 (((ZO _).1 hv).2.1 y hy).1,trivial⟩⟩
  have he:=ZFI m hR
  have hm3:=ZFq m 1 (by omega) (by omega)
  have hh:=ZFo m.length 1 (by omega) (by omega)
  have hg2:¬(1:Int)+2 * (m.length:Int)<0:=by omega
  simp only[ZS] at hsp
  simp only[ZU] at hi
  cases hE:(List.map Pair.u m).isEmpty
  all_goals simp only[↓xP,xT,rL,rB,rA,rS,rdx2,hE,ta,hi,hsp,ea,he,hma,hm3,hh,hg,hg2,ZT,ZGu,ZI,List.length_map,ne_eq,not_true_eq_false]
 | none=>
  have he:=ZFI [] ⟨by simp,fun y hy=>(by cases hy)⟩
  have hm3:=ZFq [] 1 (by omega) (by simp)
  have hh:=ZFo 0 1 (by omega) (by omega)
  have em:mkL ZW 2 1 0=[]:=rfl
  simp only[em,List.map_nil,List.length_nil] at he hm3 hh
  have hg2:¬(1:Int)+2 * ((0:Nat):Int)<0:=by omega
  simp only[ZS] at hsp
  simp only[ZU] at hi
  simp only[↓xP,xT,rL,rB,rA,rS,rdx2,ta,hi,hsp,ea,he,hma,hm3,hh,hg,hg2,ZT,ZGu,ZI,List.length_map,List.map_nil,List.length_nil,List.take_nil,ne_eq,not_true_eq_false]
end Go.Proofs.YtfajcehhcjmofaaV
