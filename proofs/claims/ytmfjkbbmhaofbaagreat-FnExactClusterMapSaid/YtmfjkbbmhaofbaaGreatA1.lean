/- Lemmas of functions that the law FnExactClusterMap reaches. No conditions but those that the lemmas state. -/
import Derived.Test.YtmfjkbbmhaofbaaGreatJ
import Derived.Test.YtmfjkbbmhaofbaaGreatS7
import Derived.Test.YtmfjkbbmhaofbaaGreatS8
import Derived.Test.YtmfjkbbmhaofbaaGreatV28
namespace Go.Proofs.YtmfjkbbmhaofbaaGreatV
open Go Go.RowKit
open Nat renaming reduceLT → rL, reduceAdd → rA, reduceSub → rS, reduceBEq → rB
open IOp (dst isF args)
set_option linter.unusedVariables false
set_option linter.unusedSimpArgs false
set_option maxRecDepth 4000
abbrev Str:=List UInt8
abbrev B (b:Bool):T:=.sc (.u (.bool b))
abbrev S (b:Str):T:=.sc (.u (.str b))
abbrev I (n:Int):T:=.sc (.u (.int .i64 n))
abbrev L (z:Nat) (r:List (List U)):T:=.sc (.u (.sl z r))
abbrev ok1 (t:T):Option Ret:=some ⟨[t],[],[]⟩
def iU (n:Int):List U:=[.int .i64 n]
def bU (b:Bool):List U:=[.bool b]
/-- Whole numbers of 64 bits. -/
def Z8 (x:Int):Prop:=-9223372036854775808≤x∧x≤9223372036854775807
theorem UT.int_of {u:U} (h:UT (.i .i64) u):∃ n,u=.int .i64 n∧Z8 n:=by
 cases h with
 | i k n h=>exact ⟨n,rfl,bounds_i64 h⟩
theorem UT.u8_of {u:U} (h:UT (.i .u8) u):∃ n,u=.int .u8 n∧0≤n∧n≤255:=by
 cases h with
 | i k n h=>exact ⟨n,rfl,bounds_u8 h⟩
theorem UT.bool_of {u:U} (h:UT .b u):∃ b,u=.bool b:=by
 cases h with
 | b x=>exact ⟨x,rfl⟩
theorem UT.str_of {u:U} (h:UT .s u):∃ s,u=.str s∧s.length≤9223372036854775807:=by
 cases h with
 | s x h=>exact ⟨x,rfl,h⟩
theorem ZMU {α:Type} {f:α→List U} {p:α→Prop}:∀ {rows:List (List U)},(∀ row,row∈rows→∃ x,row=f x∧p x)→∃ l:List α,rows=l.map f∧∀ y,y∈l→p y
 | [],_=>⟨[],rfl,fun y h=>by cases h⟩
 | r::rs,h=>by
  obtain ⟨x,hx,px⟩:=h r (List.mem_cons_self ..)
  obtain ⟨l,hl,pl⟩:=ZMU (rows:=rs) (fun row hr=>h row (List.mem_cons_of_mem _ hr))
  refine ⟨x::l,by rw [hx,hl]; rfl,fun y hy=>?_⟩
  rcases List.mem_cons.1 hy with rfl|hy
  ·exact px
  ·exact pl y hy
/-- A slice of elements that are read. -/
theorem UT.sl_of {fs:List Ty} {u:U} (h:UT (.sl fs) u) {α:Type} {f:α→List U} {p:α→Prop} (he:∀ us:List U,us.length=fs.length→(∀ (j:Nat) ty u,fs[j]?=some ty→us[j]?=some u→UT ty u)→∃ x,us=f x∧p x) :
  ∃ l:List α,u=.sl fs.length (l.map f)∧l.length≤9223372036854775807∧∀ y,y∈l→p y:=by
 cases h with
 | sl _ rows hl hr hc=>
  obtain ⟨l,rfl,hp⟩:=ZMU (f:=f) (p:=p) (rows:=rows) (fun row hrow=>he row (hr row hrow) (fun j ty u hj hu=>by
   obtain ⟨i,hi⟩:=List.mem_iff_getElem?.1 hrow
   exact hc i j row ty u hi hj hu))
  have hm:maxLen=9223372036854775807:=by decide
  rw [hm,List.length_map] at hl
  exact ⟨l,rfl,hl,hp⟩
theorem ZLS (us:List U) (hl:us.length=1) (ht:∀ (j:Nat) ty u,[Ty.i .i64][j]?=some ty→us[j]?=some u→UT ty u):∃ x,us=iU x∧Z8 x:=by
 match us,hl with
 | [a],_=>obtain ⟨n,rfl,h⟩:=(ht 0 _ a rfl rfl).int_of; exact ⟨n,rfl,h⟩
theorem ZOg (us:List U) (hl:us.length=1) (ht:∀ (j:Nat) ty u,[Ty.b][j]?=some ty→us[j]?=some u→UT ty u):∃ x,us=bU x∧True:=by
 match us,hl with
 | [a],_=>obtain ⟨n,rfl⟩:=(ht 0 _ a rfl rfl).bool_of; exact ⟨n,rfl,trivial⟩
structure Interval where
 low:Str
 high:Str
def Interval.u (x:Interval):List U:=[.str x.low,.str x.high]
def Interval.Fit (x:Interval):Prop:=x.low.length≤9223372036854775807∧x.high.length≤9223372036854775807
theorem Interval.of (us:List U) (hl:us.length=2) (ht:∀ (j:Nat) ty u,[Ty.s,.s][j]?=some ty→us[j]?=some u→UT ty u):∃ x,us=Interval.u x∧Interval.Fit x:=by
 match us,hl with
 | [c0,c1],_=>
  obtain ⟨x0,rfl,f0⟩:=(ht 0 _ c0 rfl rfl).str_of
  obtain ⟨x1,rfl,f1⟩:=(ht 1 _ c1 rfl rfl).str_of
  exact ⟨⟨x0,x1⟩,rfl,⟨f0,f1⟩⟩
structure Pair where
 key:Str
 value:Int
def Pair.u (x:Pair):List U:=[.str x.key,.int .i64 x.value]
def Pair.Fit (x:Pair):Prop:=x.key.length≤9223372036854775807∧Z8 x.value
theorem Pair.of (us:List U) (hl:us.length=2) (ht:∀ (j:Nat) ty u,[Ty.s,.i .i64][j]?=some ty→us[j]?=some u→UT ty u):∃ x,us=Pair.u x∧Pair.Fit x:=by
 match us,hl with
 | [c0,c1],_=>
  obtain ⟨x0,rfl,f0⟩:=(ht 0 _ c0 rfl rfl).str_of
  obtain ⟨x1,rfl,f1⟩:=(ht 1 _ c1 rfl rfl).int_of
  exact ⟨⟨x0,x1⟩,rfl,⟨f0,f1⟩⟩
structure Command where
 kind:Int
 key:Str
 value:Int
 old:Int
def Command.u (x:Command):List U:=[.int .i64 x.kind,.str x.key,.int .i64 x.value,.int .i64 x.old]
def Command.Fit (x:Command):Prop:=Z8 x.kind∧x.key.length≤9223372036854775807∧Z8 x.value∧Z8 x.old
theorem Command.of (us:List U) (hl:us.length=4) (ht:∀ (j:Nat) ty u,[Ty.i .i64,.s,.i .i64,.i .i64][j]?=some ty→us[j]?=some u→UT ty u):∃ x,us=Command.u x∧Command.Fit x:=by
 match us,hl with
 | [c0,c1,c2,c3],_=>
  obtain ⟨x0,rfl,f0⟩:=(ht 0 _ c0 rfl rfl).int_of
  obtain ⟨x1,rfl,f1⟩:=(ht 1 _ c1 rfl rfl).str_of
  obtain ⟨x2,rfl,f2⟩:=(ht 2 _ c2 rfl rfl).int_of
  obtain ⟨x3,rfl,f3⟩:=(ht 3 _ c3 rfl rfl).int_of
  exact ⟨⟨x0,x1,x2,x3⟩,rfl,⟨f0,f1,f2,f3⟩⟩
structure Session where
 client:Int
 seq:Int
 reply:Int
def Session.u (x:Session):List U:=[.int .i64 x.client,.int .i64 x.seq,.int .i64 x.reply]
def Session.Fit (x:Session):Prop:=Z8 x.client∧Z8 x.seq∧Z8 x.reply
theorem Session.of (us:List U) (hl:us.length=3) (ht:∀ (j:Nat) ty u,[Ty.i .i64,.i .i64,.i .i64][j]?=some ty→us[j]?=some u→UT ty u):∃ x,us=Session.u x∧Session.Fit x:=by
 match us,hl with
 | [c0,c1,c2],_=>
  obtain ⟨x0,rfl,f0⟩:=(ht 0 _ c0 rfl rfl).int_of
  obtain ⟨x1,rfl,f1⟩:=(ht 1 _ c1 rfl rfl).int_of
  obtain ⟨x2,rfl,f2⟩:=(ht 2 _ c2 rfl rfl).int_of
  exact ⟨⟨x0,x1,x2⟩,rfl,⟨f0,f1,f2⟩⟩
structure Entry where
 client:Int
 seq:Int
 cmd:Command
def Entry.u (x:Entry):List U:=[.int .i64 x.client,.int .i64 x.seq,.int .i64 x.cmd.kind,.str x.cmd.key,.int .i64 x.cmd.value,.int .i64 x.cmd.old]
def Entry.Fit (x:Entry):Prop:=Z8 x.client∧Z8 x.seq∧Command.Fit x.cmd
theorem Entry.of (us:List U) (hl:us.length=6) (ht:∀ (j:Nat) ty u,[Ty.i .i64,.i .i64,.i .i64,.s,.i .i64,.i .i64][j]?=some ty→us[j]?=some u→UT ty u):∃ x,us=Entry.u x∧Entry.Fit x:=by
 match us,hl with
 | [c0,c1,c2,c3,c4,c5],_=>
  obtain ⟨x0,rfl,f0⟩:=(ht 0 _ c0 rfl rfl).int_of
  obtain ⟨x1,rfl,f1⟩:=(ht 1 _ c1 rfl rfl).int_of
  obtain ⟨x2,rfl,f2⟩:=(ht 2 _ c2 rfl rfl).int_of
  obtain ⟨x3,rfl,f3⟩:=(ht 3 _ c3 rfl rfl).str_of
  obtain ⟨x4,rfl,f4⟩:=(ht 4 _ c4 rfl rfl).int_of
  obtain ⟨x5,rfl,f5⟩:=(ht 5 _ c5 rfl rfl).int_of
  exact ⟨⟨x0,x1,⟨x2,x3,x4,x5⟩⟩,rfl,⟨f0,f1,⟨f2,f3,f4,f5⟩⟩⟩
structure Answer where
 asked:Entry
 reply:Int
def Answer.u (x:Answer):List U:=[.int .i64 x.asked.client,.int .i64 x.asked.seq,.int .i64 x.asked.cmd.kind,.str x.asked.cmd.key,.int .i64 x.asked.cmd.value,.int .i64 x.asked.cmd.old,.int .i64 x.reply]
def Answer.Fit (x:Answer):Prop:=Entry.Fit x.asked∧Z8 x.reply
theorem Answer.of (us:List U) (hl:us.length=7) (ht:∀ (j:Nat) ty u,[Ty.i .i64,.i .i64,.i .i64,.s,.i .i64,.i .i64,.i .i64][j]?=some ty→us[j]?=some u→UT ty u):∃ x,us=Answer.u x∧Answer.Fit x:=by
 match us,hl with
 | [c0,c1,c2,c3,c4,c5,c6],_=>
  obtain ⟨x0,rfl,f0⟩:=(ht 0 _ c0 rfl rfl).int_of
  obtain ⟨x1,rfl,f1⟩:=(ht 1 _ c1 rfl rfl).int_of
  obtain ⟨x2,rfl,f2⟩:=(ht 2 _ c2 rfl rfl).int_of
  obtain ⟨x3,rfl,f3⟩:=(ht 3 _ c3 rfl rfl).str_of
  obtain ⟨x4,rfl,f4⟩:=(ht 4 _ c4 rfl rfl).int_of
  obtain ⟨x5,rfl,f5⟩:=(ht 5 _ c5 rfl rfl).int_of
  obtain ⟨x6,rfl,f6⟩:=(ht 6 _ c6 rfl rfl).int_of
  exact ⟨⟨⟨x0,x1,⟨x2,x3,x4,x5⟩⟩,x6⟩,rfl,⟨⟨f0,f1,⟨f2,f3,f4,f5⟩⟩,f6⟩⟩
structure State where
 span:Interval
 pairs:(List Pair)
 known:(List Session)
 sealed:Bool
 cut:Str
def State.u (x:State):List U:=[.str x.span.low,.str x.span.high,.sl 2 (x.pairs.map Pair.u),.sl 3 (x.known.map Session.u),.bool x.sealed,.str x.cut]
def State.Fit (x:State):Prop:=Interval.Fit x.span∧(x.pairs.length≤9223372036854775807∧∀ y,y∈x.pairs→Pair.Fit y)∧(x.known.length≤9223372036854775807∧∀ y,y∈x.known→Session.Fit y)∧True∧x.cut.length≤9223372036854775807
theorem State.of (us:List U) (hl:us.length=6) (ht:∀ (j:Nat) ty u,[Ty.s,.s,.sl [.s,.i .i64],.sl [.i .i64,.i .i64,.i .i64],.b,.s][j]?=some ty→us[j]?=some u→UT ty u):∃ x,us=State.u x∧State.Fit x:=by
 match us,hl with
 | [c0,c1,c2,c3,c4,c5],_=>
  obtain ⟨x0,rfl,f0⟩:=(ht 0 _ c0 rfl rfl).str_of
  obtain ⟨x1,rfl,f1⟩:=(ht 1 _ c1 rfl rfl).str_of
  obtain ⟨x2,rfl,f2⟩:=(ht 2 _ c2 rfl rfl).sl_of Pair.of
  obtain ⟨x3,rfl,f3⟩:=(ht 3 _ c3 rfl rfl).sl_of Session.of
  obtain ⟨x4,rfl⟩:=(ht 4 _ c4 rfl rfl).bool_of
  obtain ⟨x5,rfl,f5⟩:=(ht 5 _ c5 rfl rfl).str_of
  exact ⟨⟨⟨x0,x1⟩,x2,x3,x4,x5⟩,rfl,⟨⟨f0,f1⟩,f2,f3,trivial,f5⟩⟩
structure Piece where
 span:Interval
 pairs:(List Pair)
def Piece.u (x:Piece):List U:=[.str x.span.low,.str x.span.high,.sl 2 (x.pairs.map Pair.u)]
def Piece.Fit (x:Piece):Prop:=Interval.Fit x.span∧(x.pairs.length≤9223372036854775807∧∀ y,y∈x.pairs→Pair.Fit y)
theorem Piece.of (us:List U) (hl:us.length=3) (ht:∀ (j:Nat) ty u,[Ty.s,.s,.sl [.s,.i .i64]][j]?=some ty→us[j]?=some u→UT ty u):∃ x,us=Piece.u x∧Piece.Fit x:=by
 match us,hl with
 | [c0,c1,c2],_=>
  obtain ⟨x0,rfl,f0⟩:=(ht 0 _ c0 rfl rfl).str_of
  obtain ⟨x1,rfl,f1⟩:=(ht 1 _ c1 rfl rfl).str_of
  obtain ⟨x2,rfl,f2⟩:=(ht 2 _ c2 rfl rfl).sl_of Pair.of
  exact ⟨⟨⟨x0,x1⟩,x2⟩,rfl,⟨⟨f0,f1⟩,f2⟩⟩
structure Config where
 epoch:Int
 members:(List Int)
 fresh:Bool
def Config.u (x:Config):List U:=[.int .i64 x.epoch,.sl 1 (x.members.map iU),.bool x.fresh]
def Config.Fit (x:Config):Prop:=Z8 x.epoch∧(x.members.length≤9223372036854775807∧∀ y,y∈x.members→Z8 y)∧True
theorem Config.of (us:List U) (hl:us.length=3) (ht:∀ (j:Nat) ty u,[Ty.i .i64,.sl [.i .i64],.b][j]?=some ty→us[j]?=some u→UT ty u):∃ x,us=Config.u x∧Config.Fit x:=by
 match us,hl with
 | [c0,c1,c2],_=>
  obtain ⟨x0,rfl,f0⟩:=(ht 0 _ c0 rfl rfl).int_of
  obtain ⟨x1,rfl,f1⟩:=(ht 1 _ c1 rfl rfl).sl_of ZLS
  obtain ⟨x2,rfl⟩:=(ht 2 _ c2 rfl rfl).bool_of
  exact ⟨⟨x0,x1,x2⟩,rfl,⟨f0,f1,trivial⟩⟩
structure Event where
 kind:Int
 node:Int
 place:Int
 sent:Entry
def Event.u (x:Event):List U:=[.int .i64 x.kind,.int .i64 x.node,.int .i64 x.place,.int .i64 x.sent.client,.int .i64 x.sent.seq,.int .i64 x.sent.cmd.kind,.str x.sent.cmd.key,.int .i64 x.sent.cmd.value,.int .i64 x.sent.cmd.old]
def Event.Fit (x:Event):Prop:=Z8 x.kind∧Z8 x.node∧Z8 x.place∧Entry.Fit x.sent
theorem Event.of (us:List U) (hl:us.length=9) (ht:∀ (j:Nat) ty u,[Ty.i .i64,.i .i64,.i .i64,.i .i64,.i .i64,.i .i64,.s,.i .i64,.i .i64][j]?=some ty→us[j]?=some u→UT ty u):∃ x,us=Event.u x∧Event.Fit x:=by
 match us,hl with
 | [c0,c1,c2,c3,c4,c5,c6,c7,c8],_=>
  obtain ⟨x0,rfl,f0⟩:=(ht 0 _ c0 rfl rfl).int_of
  obtain ⟨x1,rfl,f1⟩:=(ht 1 _ c1 rfl rfl).int_of
  obtain ⟨x2,rfl,f2⟩:=(ht 2 _ c2 rfl rfl).int_of
  obtain ⟨x3,rfl,f3⟩:=(ht 3 _ c3 rfl rfl).int_of
  obtain ⟨x4,rfl,f4⟩:=(ht 4 _ c4 rfl rfl).int_of
  obtain ⟨x5,rfl,f5⟩:=(ht 5 _ c5 rfl rfl).int_of
  obtain ⟨x6,rfl,f6⟩:=(ht 6 _ c6 rfl rfl).str_of
  obtain ⟨x7,rfl,f7⟩:=(ht 7 _ c7 rfl rfl).int_of
  obtain ⟨x8,rfl,f8⟩:=(ht 8 _ c8 rfl rfl).int_of
  exact ⟨⟨x0,x1,x2,⟨x3,x4,⟨x5,x6,x7,x8⟩⟩⟩,rfl,⟨f0,f1,f2,⟨f3,f4,⟨f5,f6,f7,f8⟩⟩⟩⟩
structure Plan where
 kind:Int
 first:Int
 second:Int
 key:Str
 from_:Int
 to_:Int
 step:Int
def Plan.u (x:Plan):List U:=[.int .i64 x.kind,.int .i64 x.first,.int .i64 x.second,.str x.key,.int .i64 x.from_,.int .i64 x.to_,.int .i64 x.step]
def Plan.Fit (x:Plan):Prop:=Z8 x.kind∧Z8 x.first∧Z8 x.second∧x.key.length≤9223372036854775807∧Z8 x.from_∧Z8 x.to_∧Z8 x.step
theorem Plan.of (us:List U) (hl:us.length=7) (ht:∀ (j:Nat) ty u,[Ty.i .i64,.i .i64,.i .i64,.s,.i .i64,.i .i64,.i .i64][j]?=some ty→us[j]?=some u→UT ty u):∃ x,us=Plan.u x∧Plan.Fit x:=by
 match us,hl with
 | [c0,c1,c2,c3,c4,c5,c6],_=>
  obtain ⟨x0,rfl,f0⟩:=(ht 0 _ c0 rfl rfl).int_of
  obtain ⟨x1,rfl,f1⟩:=(ht 1 _ c1 rfl rfl).int_of
  obtain ⟨x2,rfl,f2⟩:=(ht 2 _ c2 rfl rfl).int_of
  obtain ⟨x3,rfl,f3⟩:=(ht 3 _ c3 rfl rfl).str_of
  obtain ⟨x4,rfl,f4⟩:=(ht 4 _ c4 rfl rfl).int_of
  obtain ⟨x5,rfl,f5⟩:=(ht 5 _ c5 rfl rfl).int_of
  obtain ⟨x6,rfl,f6⟩:=(ht 6 _ c6 rfl rfl).int_of
  exact ⟨⟨x0,x1,x2,x3,x4,x5,x6⟩,rfl,⟨f0,f1,f2,f3,f4,f5,f6⟩⟩
structure Deed where
 kind:Int
 who:Int
 node:Int
 number:Int
 wish:Command
 inner:Event
 work:Plan
def Deed.u (x:Deed):List U:=[.int .i64 x.kind,.int .i64 x.who,.int .i64 x.node,.int .i64 x.number,.int .i64 x.wish.kind,.str x.wish.key,.int .i64 x.wish.value,.int .i64 x.wish.old,.int .i64 x.inner.kind,.int .i64 x.inner.node,.int .i64 x.inner.place,.int .i64 x.inner.sent.client,.int .i64 x.inner.sent.seq,.int .i64 x.inner.sent.cmd.kind,.str x.inner.sent.cmd.key,.int .i64 x.inner.sent.cmd.value,.int .i64 x.inner.sent.cmd.old,.int .i64 x.work.kind,.int .i64 x.work.first,.int .i64 x.work.second,.str x.work.key,.int .i64 x.work.from_,.int .i64 x.work.to_,.int .i64 x.work.step]
def Deed.Fit (x:Deed):Prop:=Z8 x.kind∧Z8 x.who∧Z8 x.node∧Z8 x.number∧Command.Fit x.wish∧Event.Fit x.inner∧Plan.Fit x.work
theorem Deed.of (us:List U) (hl:us.length=24) (ht:∀ (j:Nat) ty u,[Ty.i .i64,.i .i64,.i .i64,.i .i64,.i .i64,.s,.i .i64,.i .i64,.i .i64,.i .i64,.i .i64,.i .i64,.i .i64,.i .i64,.s,.i .i64,.i .i64,.i .i64,.i .i64,.i .i64,.s,.i .i64,.i .i64,.i .i64][j]?=some ty→us[j]?=some u→UT ty u):∃ x,us=Deed.u x∧Deed.Fit x:=by
 match us,hl with
 | [c0,c1,c2,c3,c4,c5,c6,c7,c8,c9,c10,c11,c12,c13,c14,c15,c16,c17,c18,c19,c20,c21,c22,c23],_=>
  obtain ⟨x0,rfl,f0⟩:=(ht 0 _ c0 rfl rfl).int_of
  obtain ⟨x1,rfl,f1⟩:=(ht 1 _ c1 rfl rfl).int_of
  obtain ⟨x2,rfl,f2⟩:=(ht 2 _ c2 rfl rfl).int_of
  obtain ⟨x3,rfl,f3⟩:=(ht 3 _ c3 rfl rfl).int_of
  obtain ⟨x4,rfl,f4⟩:=(ht 4 _ c4 rfl rfl).int_of
  obtain ⟨x5,rfl,f5⟩:=(ht 5 _ c5 rfl rfl).str_of
  obtain ⟨x6,rfl,f6⟩:=(ht 6 _ c6 rfl rfl).int_of
  obtain ⟨x7,rfl,f7⟩:=(ht 7 _ c7 rfl rfl).int_of
  obtain ⟨x8,rfl,f8⟩:=(ht 8 _ c8 rfl rfl).int_of
  obtain ⟨x9,rfl,f9⟩:=(ht 9 _ c9 rfl rfl).int_of
  obtain ⟨x10,rfl,f10⟩:=(ht 10 _ c10 rfl rfl).int_of
  obtain ⟨x11,rfl,f11⟩:=(ht 11 _ c11 rfl rfl).int_of
  obtain ⟨x12,rfl,f12⟩:=(ht 12 _ c12 rfl rfl).int_of
  obtain ⟨x13,rfl,f13⟩:=(ht 13 _ c13 rfl rfl).int_of
  obtain ⟨x14,rfl,f14⟩:=(ht 14 _ c14 rfl rfl).str_of
  obtain ⟨x15,rfl,f15⟩:=(ht 15 _ c15 rfl rfl).int_of
  obtain ⟨x16,rfl,f16⟩:=(ht 16 _ c16 rfl rfl).int_of
  obtain ⟨x17,rfl,f17⟩:=(ht 17 _ c17 rfl rfl).int_of
  obtain ⟨x18,rfl,f18⟩:=(ht 18 _ c18 rfl rfl).int_of
  obtain ⟨x19,rfl,f19⟩:=(ht 19 _ c19 rfl rfl).int_of
  obtain ⟨x20,rfl,f20⟩:=(ht 20 _ c20 rfl rfl).str_of
  obtain ⟨x21,rfl,f21⟩:=(ht 21 _ c21 rfl rfl).int_of
  obtain ⟨x22,rfl,f22⟩:=(ht 22 _ c22 rfl rfl).int_of
  obtain ⟨x23,rfl,f23⟩:=(ht 23 _ c23 rfl rfl).int_of
  exact ⟨⟨x0,x1,x2,x3,⟨x4,x5,x6,x7⟩,⟨x8,x9,x10,⟨x11,x12,⟨x13,x14,x15,x16⟩⟩⟩,⟨x17,x18,x19,x20,x21,x22,x23⟩⟩,rfl,⟨f0,f1,f2,f3,⟨f4,f5,f6,f7⟩,⟨f8,f9,f10,⟨f11,f12,⟨f13,f14,f15,f16⟩⟩⟩,⟨f17,f18,f19,f20,f21,f22,f23⟩⟩⟩
structure Replica where
 conf:Config
 ready:Bool
 log:(List Entry)
def Replica.u (x:Replica):List U:=[.int .i64 x.conf.epoch,.sl 1 (x.conf.members.map iU),.bool x.conf.fresh,.bool x.ready,.sl 6 (x.log.map Entry.u)]
def Replica.Fit (x:Replica):Prop:=Config.Fit x.conf∧True∧(x.log.length≤9223372036854775807∧∀ y,y∈x.log→Entry.Fit y)
theorem Replica.of (us:List U) (hl:us.length=5) (ht:∀ (j:Nat) ty u,[Ty.i .i64,.sl [.i .i64],.b,.b,.sl [.i .i64,.i .i64,.i .i64,.s,.i .i64,.i .i64]][j]?=some ty→us[j]?=some u→UT ty u):∃ x,us=Replica.u x∧Replica.Fit x:=by
 match us,hl with
 | [c0,c1,c2,c3,c4],_=>
  obtain ⟨x0,rfl,f0⟩:=(ht 0 _ c0 rfl rfl).int_of
  obtain ⟨x1,rfl,f1⟩:=(ht 1 _ c1 rfl rfl).sl_of ZLS
  obtain ⟨x2,rfl⟩:=(ht 2 _ c2 rfl rfl).bool_of
  obtain ⟨x3,rfl⟩:=(ht 3 _ c3 rfl rfl).bool_of
  obtain ⟨x4,rfl,f4⟩:=(ht 4 _ c4 rfl rfl).sl_of Entry.of
  exact ⟨⟨⟨x0,x1,x2⟩,x3,x4⟩,rfl,⟨⟨f0,f1,trivial⟩,trivial,f4⟩⟩
structure Message where
 kind:Int
 to_:Int
 epoch:Int
 conf:Config
 log:(List Entry)
def Message.u (x:Message):List U:=[.int .i64 x.kind,.int .i64 x.to_,.int .i64 x.epoch,.int .i64 x.conf.epoch,.sl 1 (x.conf.members.map iU),.bool x.conf.fresh,.sl 6 (x.log.map Entry.u)]
def Message.Fit (x:Message):Prop:=Z8 x.kind∧Z8 x.to_∧Z8 x.epoch∧Config.Fit x.conf∧(x.log.length≤9223372036854775807∧∀ y,y∈x.log→Entry.Fit y)
theorem Message.of (us:List U) (hl:us.length=7) (ht:∀ (j:Nat) ty u,[Ty.i .i64,.i .i64,.i .i64,.i .i64,.sl [.i .i64],.b,.sl [.i .i64,.i .i64,.i .i64,.s,.i .i64,.i .i64]][j]?=some ty→us[j]?=some u→UT ty u):∃ x,us=Message.u x∧Message.Fit x:=by
 match us,hl with
 | [c0,c1,c2,c3,c4,c5,c6],_=>
  obtain ⟨x0,rfl,f0⟩:=(ht 0 _ c0 rfl rfl).int_of
  obtain ⟨x1,rfl,f1⟩:=(ht 1 _ c1 rfl rfl).int_of
  obtain ⟨x2,rfl,f2⟩:=(ht 2 _ c2 rfl rfl).int_of
  obtain ⟨x3,rfl,f3⟩:=(ht 3 _ c3 rfl rfl).int_of
  obtain ⟨x4,rfl,f4⟩:=(ht 4 _ c4 rfl rfl).sl_of ZLS
  obtain ⟨x5,rfl⟩:=(ht 5 _ c5 rfl rfl).bool_of
  obtain ⟨x6,rfl,f6⟩:=(ht 6 _ c6 rfl rfl).sl_of Entry.of
  exact ⟨⟨x0,x1,x2,⟨x3,x4,x5⟩,x6⟩,rfl,⟨f0,f1,f2,⟨f3,f4,trivial⟩,f6⟩⟩
structure Chain where
 base:State
 conf:Config
 nodes:(List Replica)
 up:(List Bool)
 bag:(List Message)
 answers:(List Answer)
def Chain.u (x:Chain):List U:=[.str x.base.span.low,.str x.base.span.high,.sl 2 (x.base.pairs.map Pair.u),.sl 3 (x.base.known.map Session.u),.bool x.base.sealed,.str x.base.cut,.int .i64 x.conf.epoch,.sl 1 (x.conf.members.map iU),.bool x.conf.fresh,.sl 5 (x.nodes.map Replica.u),.sl 1 (x.up.map bU),.sl 7 (x.bag.map Message.u),.sl 7 (x.answers.map Answer.u)]
def Chain.Fit (x:Chain):Prop:=State.Fit x.base∧Config.Fit x.conf∧(x.nodes.length≤9223372036854775807∧∀ y,y∈x.nodes→Replica.Fit y)∧(x.up.length≤9223372036854775807∧∀ y,y∈x.up→True)∧(x.bag.length≤9223372036854775807∧∀ y,y∈x.bag→Message.Fit y)∧(x.answers.length≤9223372036854775807∧∀ y,y∈x.answers→Answer.Fit y)
theorem Chain.of (us:List U) (hl:us.length=13) (ht:∀ (j:Nat) ty u,[Ty.s,.s,.sl [.s,.i .i64],.sl [.i .i64,.i .i64,.i .i64],.b,.s,.i .i64,.sl [.i .i64],.b,.sl [.i .i64,.sl [.i .i64],.b,.b,.sl [.i .i64,.i .i64,.i .i64,.s,.i .i64,.i .i64]],.sl [.b],.sl [.i .i64,.i .i64,.i .i64,.i .i64,.sl [.i .i64],.b,.sl [.i .i64,.i .i64,.i .i64,.s,.i .i64,.i .i64]],.sl [.i .i64,.i .i64,.i .i64,.s,.i .i64,.i .i64,.i .i64]][j]?=some ty→us[j]?=some u→UT ty u):∃ x,us=Chain.u x∧Chain.Fit x:=by
 match us,hl with
 | [c0,c1,c2,c3,c4,c5,c6,c7,c8,c9,c10,c11,c12],_=>
  obtain ⟨x0,rfl,f0⟩:=(ht 0 _ c0 rfl rfl).str_of
  obtain ⟨x1,rfl,f1⟩:=(ht 1 _ c1 rfl rfl).str_of
  obtain ⟨x2,rfl,f2⟩:=(ht 2 _ c2 rfl rfl).sl_of Pair.of
  obtain ⟨x3,rfl,f3⟩:=(ht 3 _ c3 rfl rfl).sl_of Session.of
  obtain ⟨x4,rfl⟩:=(ht 4 _ c4 rfl rfl).bool_of
  obtain ⟨x5,rfl,f5⟩:=(ht 5 _ c5 rfl rfl).str_of
  obtain ⟨x6,rfl,f6⟩:=(ht 6 _ c6 rfl rfl).int_of
  obtain ⟨x7,rfl,f7⟩:=(ht 7 _ c7 rfl rfl).sl_of ZLS
  obtain ⟨x8,rfl⟩:=(ht 8 _ c8 rfl rfl).bool_of
  obtain ⟨x9,rfl,f9⟩:=(ht 9 _ c9 rfl rfl).sl_of Replica.of
  obtain ⟨x10,rfl,f10⟩:=(ht 10 _ c10 rfl rfl).sl_of ZOg
  obtain ⟨x11,rfl,f11⟩:=(ht 11 _ c11 rfl rfl).sl_of Message.of
  obtain ⟨x12,rfl,f12⟩:=(ht 12 _ c12 rfl rfl).sl_of Answer.of
  exact ⟨⟨⟨⟨x0,x1⟩,x2,x3,x4,x5⟩,⟨x6,x7,x8⟩,x9,x10,x11,x12⟩,rfl,⟨⟨⟨f0,f1⟩,f2,f3,trivial,f5⟩,⟨f6,f7,trivial⟩,f9,f10,f11,f12⟩⟩
structure Route where
 number:Int
 span:Interval
def Route.u (x:Route):List U:=[.int .i64 x.number,.str x.span.low,.str x.span.high]
def Route.Fit (x:Route):Prop:=Z8 x.number∧Interval.Fit x.span
theorem Route.of (us:List U) (hl:us.length=3) (ht:∀ (j:Nat) ty u,[Ty.i .i64,.s,.s][j]?=some ty→us[j]?=some u→UT ty u):∃ x,us=Route.u x∧Route.Fit x:=by
 match us,hl with
 | [c0,c1,c2],_=>
  obtain ⟨x0,rfl,f0⟩:=(ht 0 _ c0 rfl rfl).int_of
  obtain ⟨x1,rfl,f1⟩:=(ht 1 _ c1 rfl rfl).str_of
  obtain ⟨x2,rfl,f2⟩:=(ht 2 _ c2 rfl rfl).str_of
  exact ⟨⟨x0,⟨x1,x2⟩⟩,rfl,⟨f0,⟨f1,f2⟩⟩⟩
structure Caller where
 cache:(List Route)
 seq:Int
 busy:Bool
 wish:Command
 called:Int
def Caller.u (x:Caller):List U:=[.sl 3 (x.cache.map Route.u),.int .i64 x.seq,.bool x.busy,.int .i64 x.wish.kind,.str x.wish.key,.int .i64 x.wish.value,.int .i64 x.wish.old,.int .i64 x.called]
def Caller.Fit (x:Caller):Prop:=(x.cache.length≤9223372036854775807∧∀ y,y∈x.cache→Route.Fit y)∧Z8 x.seq∧True∧Command.Fit x.wish∧Z8 x.called
theorem Caller.of (us:List U) (hl:us.length=8) (ht:∀ (j:Nat) ty u,[Ty.sl [.i .i64,.s,.s],.i .i64,.b,.i .i64,.s,.i .i64,.i .i64,.i .i64][j]?=some ty→us[j]?=some u→UT ty u):∃ x,us=Caller.u x∧Caller.Fit x:=by
 match us,hl with
 | [c0,c1,c2,c3,c4,c5,c6,c7],_=>
  obtain ⟨x0,rfl,f0⟩:=(ht 0 _ c0 rfl rfl).sl_of Route.of
  obtain ⟨x1,rfl,f1⟩:=(ht 1 _ c1 rfl rfl).int_of
  obtain ⟨x2,rfl⟩:=(ht 2 _ c2 rfl rfl).bool_of
  obtain ⟨x3,rfl,f3⟩:=(ht 3 _ c3 rfl rfl).int_of
  obtain ⟨x4,rfl,f4⟩:=(ht 4 _ c4 rfl rfl).str_of
  obtain ⟨x5,rfl,f5⟩:=(ht 5 _ c5 rfl rfl).int_of
  obtain ⟨x6,rfl,f6⟩:=(ht 6 _ c6 rfl rfl).int_of
  obtain ⟨x7,rfl,f7⟩:=(ht 7 _ c7 rfl rfl).int_of
  exact ⟨⟨x0,x1,x2,⟨x3,x4,x5,x6⟩,x7⟩,rfl,⟨f0,f1,trivial,⟨f3,f4,f5,f6⟩,f7⟩⟩
structure Result where
 client:Int
 seq:Int
 wish:Command
 reply:Int
 called:Int
 returned:Int
def Result.u (x:Result):List U:=[.int .i64 x.client,.int .i64 x.seq,.int .i64 x.wish.kind,.str x.wish.key,.int .i64 x.wish.value,.int .i64 x.wish.old,.int .i64 x.reply,.int .i64 x.called,.int .i64 x.returned]
def Result.Fit (x:Result):Prop:=Z8 x.client∧Z8 x.seq∧Command.Fit x.wish∧Z8 x.reply∧Z8 x.called∧Z8 x.returned
theorem Result.of (us:List U) (hl:us.length=9) (ht:∀ (j:Nat) ty u,[Ty.i .i64,.i .i64,.i .i64,.s,.i .i64,.i .i64,.i .i64,.i .i64,.i .i64][j]?=some ty→us[j]?=some u→UT ty u):∃ x,us=Result.u x∧Result.Fit x:=by
 match us,hl with
 | [c0,c1,c2,c3,c4,c5,c6,c7,c8],_=>
  obtain ⟨x0,rfl,f0⟩:=(ht 0 _ c0 rfl rfl).int_of
  obtain ⟨x1,rfl,f1⟩:=(ht 1 _ c1 rfl rfl).int_of
  obtain ⟨x2,rfl,f2⟩:=(ht 2 _ c2 rfl rfl).int_of
  obtain ⟨x3,rfl,f3⟩:=(ht 3 _ c3 rfl rfl).str_of
  obtain ⟨x4,rfl,f4⟩:=(ht 4 _ c4 rfl rfl).int_of
  obtain ⟨x5,rfl,f5⟩:=(ht 5 _ c5 rfl rfl).int_of
  obtain ⟨x6,rfl,f6⟩:=(ht 6 _ c6 rfl rfl).int_of
  obtain ⟨x7,rfl,f7⟩:=(ht 7 _ c7 rfl rfl).int_of
  obtain ⟨x8,rfl,f8⟩:=(ht 8 _ c8 rfl rfl).int_of
  exact ⟨⟨x0,x1,⟨x2,x3,x4,x5⟩,x6,x7,x8⟩,rfl,⟨f0,f1,⟨f2,f3,f4,f5⟩,f6,f7,f8⟩⟩
structure Shard where
 live:Bool
 group:Chain
def Shard.u (x:Shard):List U:=[.bool x.live,.str x.group.base.span.low,.str x.group.base.span.high,.sl 2 (x.group.base.pairs.map Pair.u),.sl 3 (x.group.base.known.map Session.u),.bool x.group.base.sealed,.str x.group.base.cut,.int .i64 x.group.conf.epoch,.sl 1 (x.group.conf.members.map iU),.bool x.group.conf.fresh,.sl 5 (x.group.nodes.map Replica.u),.sl 1 (x.group.up.map bU),.sl 7 (x.group.bag.map Message.u),.sl 7 (x.group.answers.map Answer.u)]
def Shard.Fit (x:Shard):Prop:=True∧Chain.Fit x.group
theorem Shard.of (us:List U) (hl:us.length=14) (ht:∀ (j:Nat) ty u,[Ty.b,.s,.s,.sl [.s,.i .i64],.sl [.i .i64,.i .i64,.i .i64],.b,.s,.i .i64,.sl [.i .i64],.b,.sl [.i .i64,.sl [.i .i64],.b,.b,.sl [.i .i64,.i .i64,.i .i64,.s,.i .i64,.i .i64]],.sl [.b],.sl [.i .i64,.i .i64,.i .i64,.i .i64,.sl [.i .i64],.b,.sl [.i .i64,.i .i64,.i .i64,.s,.i .i64,.i .i64]],.sl [.i .i64,.i .i64,.i .i64,.s,.i .i64,.i .i64,.i .i64]][j]?=some ty→us[j]?=some u→UT ty u):∃ x,us=Shard.u x∧Shard.Fit x:=by
 match us,hl with
 | [c0,c1,c2,c3,c4,c5,c6,c7,c8,c9,c10,c11,c12,c13],_=>
  obtain ⟨x0,rfl⟩:=(ht 0 _ c0 rfl rfl).bool_of
  obtain ⟨x1,rfl,f1⟩:=(ht 1 _ c1 rfl rfl).str_of
  obtain ⟨x2,rfl,f2⟩:=(ht 2 _ c2 rfl rfl).str_of
  obtain ⟨x3,rfl,f3⟩:=(ht 3 _ c3 rfl rfl).sl_of Pair.of
  obtain ⟨x4,rfl,f4⟩:=(ht 4 _ c4 rfl rfl).sl_of Session.of
  obtain ⟨x5,rfl⟩:=(ht 5 _ c5 rfl rfl).bool_of
  obtain ⟨x6,rfl,f6⟩:=(ht 6 _ c6 rfl rfl).str_of
  obtain ⟨x7,rfl,f7⟩:=(ht 7 _ c7 rfl rfl).int_of
  obtain ⟨x8,rfl,f8⟩:=(ht 8 _ c8 rfl rfl).sl_of ZLS
  obtain ⟨x9,rfl⟩:=(ht 9 _ c9 rfl rfl).bool_of
  obtain ⟨x10,rfl,f10⟩:=(ht 10 _ c10 rfl rfl).sl_of Replica.of
  obtain ⟨x11,rfl,f11⟩:=(ht 11 _ c11 rfl rfl).sl_of ZOg
  obtain ⟨x12,rfl,f12⟩:=(ht 12 _ c12 rfl rfl).sl_of Message.of
  obtain ⟨x13,rfl,f13⟩:=(ht 13 _ c13 rfl rfl).sl_of Answer.of
  exact ⟨⟨x0,⟨⟨⟨x1,x2⟩,x3,x4,x5,x6⟩,⟨x7,x8,x9⟩,x10,x11,x12,x13⟩⟩,rfl,⟨trivial,⟨⟨⟨f1,f2⟩,f3,f4,trivial,f6⟩,⟨f7,f8,trivial⟩,f10,f11,f12,f13⟩⟩⟩
structure Cluster where
 shards:(List Shard)
 clients:(List Caller)
 results:(List Result)
 work:Plan
 turn:Int
 clock:Int
def Cluster.u (x:Cluster):List U:=[.sl 14 (x.shards.map Shard.u),.sl 8 (x.clients.map Caller.u),.sl 9 (x.results.map Result.u),.int .i64 x.work.kind,.int .i64 x.work.first,.int .i64 x.work.second,.str x.work.key,.int .i64 x.work.from_,.int .i64 x.work.to_,.int .i64 x.work.step,.int .i64 x.turn,.int .i64 x.clock]
def Cluster.Fit (x:Cluster):Prop:=(x.shards.length≤9223372036854775807∧∀ y,y∈x.shards→Shard.Fit y)∧(x.clients.length≤9223372036854775807∧∀ y,y∈x.clients→Caller.Fit y)∧(x.results.length≤9223372036854775807∧∀ y,y∈x.results→Result.Fit y)∧Plan.Fit x.work∧Z8 x.turn∧Z8 x.clock
theorem Cluster.of (us:List U) (hl:us.length=12) (ht:∀ (j:Nat) ty u,[Ty.sl [.b,.s,.s,.sl [.s,.i .i64],.sl [.i .i64,.i .i64,.i .i64],.b,.s,.i .i64,.sl [.i .i64],.b,.sl [.i .i64,.sl [.i .i64],.b,.b,.sl [.i .i64,.i .i64,.i .i64,.s,.i .i64,.i .i64]],.sl [.b],.sl [.i .i64,.i .i64,.i .i64,.i .i64,.sl [.i .i64],.b,.sl [.i .i64,.i .i64,.i .i64,.s,.i .i64,.i .i64]],.sl [.i .i64,.i .i64,.i .i64,.s,.i .i64,.i .i64,.i .i64]],.sl [.sl [.i .i64,.s,.s],.i .i64,.b,.i .i64,.s,.i .i64,.i .i64,.i .i64],.sl [.i .i64,.i .i64,.i .i64,.s,.i .i64,.i .i64,.i .i64,.i .i64,.i .i64],.i .i64,.i .i64,.i .i64,.s,.i .i64,.i .i64,.i .i64,.i .i64,.i .i64][j]?=some ty→us[j]?=some u→UT ty u):∃ x,us=Cluster.u x∧Cluster.Fit x:=by
 match us,hl with
 | [c0,c1,c2,c3,c4,c5,c6,c7,c8,c9,c10,c11],_=>
  obtain ⟨x0,rfl,f0⟩:=(ht 0 _ c0 rfl rfl).sl_of Shard.of
  obtain ⟨x1,rfl,f1⟩:=(ht 1 _ c1 rfl rfl).sl_of Caller.of
  obtain ⟨x2,rfl,f2⟩:=(ht 2 _ c2 rfl rfl).sl_of Result.of
  obtain ⟨x3,rfl,f3⟩:=(ht 3 _ c3 rfl rfl).int_of
  obtain ⟨x4,rfl,f4⟩:=(ht 4 _ c4 rfl rfl).int_of
  obtain ⟨x5,rfl,f5⟩:=(ht 5 _ c5 rfl rfl).int_of
  obtain ⟨x6,rfl,f6⟩:=(ht 6 _ c6 rfl rfl).str_of
  obtain ⟨x7,rfl,f7⟩:=(ht 7 _ c7 rfl rfl).int_of
  obtain ⟨x8,rfl,f8⟩:=(ht 8 _ c8 rfl rfl).int_of
  obtain ⟨x9,rfl,f9⟩:=(ht 9 _ c9 rfl rfl).int_of
  obtain ⟨x10,rfl,f10⟩:=(ht 10 _ c10 rfl rfl).int_of
  obtain ⟨x11,rfl,f11⟩:=(ht 11 _ c11 rfl rfl).int_of
  exact ⟨⟨x0,x1,x2,⟨x3,x4,x5,x6,x7,x8,x9⟩,x10,x11⟩,rfl,⟨f0,f1,f2,⟨f3,f4,f5,f6,f7,f8,f9⟩,f10,f11⟩⟩
theorem ZLR:(∀ l:List Pair,ZcG (l.map Pair.u)=true)∧(∀ l:List Session,ZcG (l.map Session.u)=true)∧(∀ l:List Int,ZcG (l.map iU)=true)∧(∀ l:List Answer,ZcG (l.map Answer.u)=true)∧(∀ l:List Entry,ZcG (l.map Entry.u)=true)∧(∀ l:List Bool,ZcG (l.map bU)=true)∧(∀ l:List Route,ZcG (l.map Route.u)=true)∧(∀ l:List Result,ZcG (l.map Result.u)=true)∧(∀ l:List Interval,ZcG (l.map Interval.u)=true)∧(∀ (b:Bool) (x:List Id),sel b x x=x)∧
  (∀ (st:St) d res x0 x1 x2 x3 x4 x5 x6,St.ofRet st d ⟨res,[x0,x1,x2,x3,x4,x5,x6],[]⟩=(((((((st.obj (.loc d 0) (some x0)).obj (.loc d 1) (some x1)).obj (.loc d 2) (some x2)).obj (.loc d 3) (some x3)).obj (.loc d 4) (some x4)).obj (.loc d 5) (some x5)).obj (.loc d 6) (some x6)).put d (retD (res.map (T.mapC (C.ren (Zah d))))))∧List.range 7=[0,1,2,3,4,5,6]∧
  (∀ l:List Pair,Zbi (l.map Pair.u)=true)∧(∀ l:List Session,Zbi (l.map Session.u)=true)∧(∀ l:List Int,Zbi (l.map iU)=true)∧(∀ l:List Answer,Zbi (l.map Answer.u)=true)∧(∀ l:List Entry,Zbi (l.map Entry.u)=true)∧(∀ l:List Bool,Zbi (l.map bU)=true)∧(∀ l:List Route,Zbi (l.map Route.u)=true)∧(∀ l:List Result,Zbi (l.map Result.u)=true)∧(∀ l:List Interval,Zbi (l.map Interval.u)=true):=
 ⟨Zi4 fun _=>rfl,Zi4 fun _=>rfl,Zi4 fun _=>rfl,Zi4 fun _=>rfl,Zi4 fun _=>rfl,Zi4 fun _=>rfl,Zi4 fun _=>rfl,Zi4 fun _=>rfl,Zi4 fun _=>rfl,fun b x=>by cases b<;>rfl,fun st d res x0 x1 x2 x3 x4 x5 x6=>rfl,rfl,Zjd fun _=>rfl,Zjd fun _=>rfl,Zjd fun _=>rfl,Zjd fun _=>rfl,Zjd fun _=>rfl,Zjd fun _=>rfl,Zjd fun _=>rfl,Zjd fun _=>rfl,Zjd fun _=>rfl⟩
theorem xT:(type_of% xQ)∧(type_of% xR)∧(type_of% xS)∧(type_of% ZLR):=⟨xQ,xR,xS,ZLR⟩
theorem xU:(type_of% xQ)∧(type_of% xR)∧(type_of% xD)∧(type_of% ZLR):=⟨xQ,xR,xD,ZLR⟩
/-- A part is taken off, unless that is too much. -/
def offZ (left:Int) (n:Nat) (k:Int→Int):Int:=if IntKind.i64.wrap (left - n)<0 then -1 else k (IntKind.i64.wrap (left - n))
def chkZ (a:Int) (k:Int→Int):Int:=if a<0 then -1 else k a
def allZ {α:Type} (g:α→Int→Int):List α→Int→Int
 | [],a=>a
 | x::xs,a=>chkZ (g x a) (allZ g xs)
theorem ZGY {α:Type} {g:α→Int→Int} {l:List α} {i:Nat} {x:α} (h:l[i]?=some x) (a:Int):allZ g (l.drop i) a=chkZ (g x a) (allZ g (l.drop (i+1))):=by
 have hi:=(List.getElem?_eq_some_iff.1 h).1
 have he:=(List.getElem?_eq_some_iff.1 h).2
 rw [List.drop_eq_getElem_cons hi,he]; rfl
/-- No more is left than was there; what was counted is small. -/
def LeZ (g:Int→Int) (P:Prop):Prop:=∀ a,0≤a→a≤1048576→g a≤a∧(0≤g a→P)
theorem LeZ.id:LeZ (fun a=>a) True:=fun a _ _=>⟨Int.le_refl _,fun _=>trivial⟩
theorem LeZ.off {n:Nat} {k:Int→Int} {P:Prop} (hn:n≤9223372036854775807) (hk:LeZ k P):LeZ (fun a=>offZ a n k) (n≤1048576∧P):=by
 intro a h0 h1
 simp only[offZ]
 rw [w64 (by omega) (by omega)]
 split
 ·exact ⟨by omega,fun h=>by omega⟩
 ·obtain ⟨h2,h3⟩:=hk (a - n) (by omega) (by omega)
  exact ⟨by omega,fun h=>⟨by omega,h3 h⟩⟩
theorem LeZ.chk {g k:Int→Int} {P Q:Prop} (hg:LeZ g P) (hk:LeZ k Q):LeZ (fun a=>chkZ (g a) k) (P∧Q):=by
 intro a h0 h1
 obtain ⟨h2,h3⟩:=hg a h0 h1
 simp only[chkZ]
 split
 ·exact ⟨by omega,fun h=>by omega⟩
 ·obtain ⟨h4,h5⟩:=hk (g a) (by omega) (by omega)
  exact ⟨by omega,fun h=>⟨h3 (by omega),h5 h⟩⟩
theorem LeZ.all {α:Type} {g:α→Int→Int} {P:α→Prop}:∀ {l:List α},(∀ x,x∈l→LeZ (g x) (P x))→LeZ (allZ g l) (∀ x,x∈l→P x)
 | [],_=>fun a _ _=>⟨Int.le_refl _,fun _ x h=>by cases h⟩
 | x::xs,h=>by
  have h1:=(h x (List.mem_cons_self ..)).chk (LeZ.all (l:=xs) (fun y hy=>h y (List.mem_cons_of_mem _ hy)))
  intro a h0 h2
  obtain ⟨h3,h4⟩:=h1 a h0 h2
  refine ⟨h3,fun h y hy=>?_⟩
  rcases List.mem_cons.1 hy with rfl|hy
  ·exact (h4 h).1
  ·exact (h4 h).2 y hy
theorem ZFM {α:Type} {f:α→List U} {z:List U} {l:List α} {i:Nat} {x:α} (h:l[i]?=some x):((l.take i).map f++List.replicate (l.length - i) z).set i (f x)=(l.take (i+1)).map f++List.replicate (l.length - (i+1)) z:=by
 have hi:=(List.getElem?_eq_some_iff.1 h).1
 have he:=(List.getElem?_eq_some_iff.1 h).2
 have h1:((l.take i).map f).length=i:=by simp; omega
 rw [List.set_append_right _ _ (by omega),h1,Nat.sub_self,show l.length - i=(l.length - (i+1))+1 by omega,List.replicate_succ,List.set_cons_zero,List.take_succ_eq_append_getElem hi,List.map_append,List.append_assoc,he]
 rfl
theorem ZFL {α:Type} {f:α→List U} {z:List U} {l:List α} {i:Nat} (hi:i<l.length):((l.take i).map f++List.replicate (l.length - i) z)[i]?=some z:=by
 have h1:((l.take i).map f).length=i:=by simp; omega
 rw [List.getElem?_append_right (by omega),h1,Nat.sub_self,show l.length - i=(l.length - (i+1))+1 by omega,List.replicate_succ]
 rfl
theorem ZFK {α:Type} {f:α→List U} {z:List U} {l:List α}:(l.take l.length).map f++List.replicate (l.length - l.length) z=l.map f:=by simp
theorem ZJk (st:St) (d n:Nat) (zero:List U) (bytes:Nat) (h:n*bytes≤140737488355328):stMk st d (DI (n:Int)) (DI (n:Int)) zero bytes=some (((st.cool (.loc d 0)).obj (.loc d 0) (some (.row zero.length (List.replicate n zero)))).put d (.t (.sc (.own (.loc d 0) n)))):=by
 simp [stMk,D.int?,h]
theorem ZLf (st:St) (d n:Nat) (zero:List U) (bytes:Nat) (h:n*bytes≤140737488355328) (hz:zero.all U.zed=true):Zhg st d (DI (n:Int)) (DI (n:Int)) zero bytes=some (((st.cool (.loc d 0)).obj (.loc d 0) (some (.deep zero.length (List.replicate n zero)))).put d (.t (.sc (.down (.loc d 0) n)))):=by
 simp only[List.all_eq_true] at hz
 simp only[Zhg,D.int?,Option.bind_some,List.all_eq_true]
 rw [if_pos ⟨by omega,by omega,by simpa using h,hz⟩]
 simp
def ZHi (l:(List Int)):Prop:=l.length≤1048576∧True
def ZIX (l:(List Int)) (left:Int):Int:=offZ left l.length fun a=>a
theorem ZNo (l:(List Int)) (left:Int):EE F 283 [L 1 (l.map iU),I left] []=ok1 (I (ZIX l left)):=by
 rw [R283,b283]
 simp only[↓xP,xU,rB,rA,rS]
 refine ZiE (fun h=>?_) (fun h=>?_)<;>(simp only[decide_eq_true_eq,decide_eq_false_iff_not] at h; simp [ZIX,offZ,h])
theorem ZNn (l:(List Int)) (hf:(l.length≤9223372036854775807∧∀ y,y∈l→Z8 y)):LeZ (ZIX l) (ZHi l):=LeZ.off hf.1 (LeZ.id)
theorem ZNt (l:(List Int)) (hs:ZHi l):EE F 289 [L 1 (l.map iU)] []=some ⟨[.sc (.own (.par 0) l.length)],[.row 1 (l.map iU)],[]⟩:=by
 have hl:=hs.1
 rw [R289,b289]
 simp only[↓xP,xU,rB,rA,rS,ZJk _ 7 l.length [.int .i64 0] 8 (by omega)]
 refine (Zjc (fun (i:Nat) st=>i≤l.length∧st.s 0=DU (.sl 1 (l.map iU))∧st.s 4=DI i∧st.s 3=.t (.sc (.own (.loc 7 0) l.length))∧st.o (.loc 7 0)=some (.row 1 ((l.take i).map iU++List.replicate (l.length - i) [.int .i64 0]))) (fun i=>l.length - i) (fun i=>some ⟨[.sc (.own (.par 0) l.length)],[.row 1 (l.map iU)],[]⟩) ?_ 0 ⟨by omega,by simp only[↓xP,xU,rB,rA,rS],by simp only[↓xP,xU,rB,rA,rS]; rfl,by simp only[↓xP,xU,rB,rA,rS],by simp only[↓xP,xU,rB,rA,rS,Nat.sub_zero]⟩)
 rintro i st ⟨hle,h0,h4,h3,ho⟩ ih
 by_cases hi:i<l.length
 ·obtain ⟨x,hx⟩:∃ x,l[i]?=some x:=⟨_,List.getElem?_eq_getElem hi⟩
  have hw:=w_succ (i:=i) (by omega)
  have hg:=ZFL (f:=iU) (z:=[.int .i64 0]) hi
  have hf:=ZFM (f:=iU) (z:=[.int .i64 0]) hx
  simp only[iU] at hf
  simp only[↓xP,xU,rB,rA,rS,h0,h4,h3,ho,hi,hx,hw,hg,hf,iU]
  exact ih (i+1) _ (by omega) ⟨by omega,by simp only[↓xP,xU,rB,rA,rS,h0],by simp only[↓xP,xU,rB,rA,rS],by simp only[↓xP,xU,rB,rA,rS,h3],by simp only[↓xP,xU,rB,rA,rS,iU]⟩
 ·have:i=l.length:=by omega
  subst this
  rw [ZFK] at ho
  simp only[↓xP,xU,rB,rA,rS,h0,h4,h3,ho,hi]
theorem ZNa (l:(List Int)) (hs:ZHi l):EE F 32 [L 1 (l.map iU),L 1 (l.map iU)] []=ok1 (B true):=by
 have hl:=hs.1
 rw [R32,b32]
 simp only[↓xP,xU,rB,rA,rS,ne_eq,not_true_eq_false]
 refine (Zjc (fun (i:Nat) st=>st.s 0=DU (.sl 1 (l.map iU))∧st.s 1=DU (.sl 1 (l.map iU))∧st.s 5=DI i) (fun i=>l.length - i) (fun i=>ok1 (B true)) ?_ 0 ⟨by simp only[↓xP,xU,rB,rA,rS],by simp only[↓xP,xU,rB,rA,rS],by simp only[↓xP,xU,rB,rA,rS]; rfl⟩)
 rintro i st ⟨h0,h1,h5⟩ ih
 by_cases hi:i<l.length
 ·obtain ⟨x,hx⟩:∃ x,l[i]?=some x:=⟨_,List.getElem?_eq_getElem hi⟩
  have hw:=w_succ (i:=i) (by omega)
  simp only[↓xP,xU,rB,rA,rS,h0,h1,h5,hi,hx,hw,iU,ne_eq,not_true_eq_false]
  exact ih (i+1) _ (by omega) ⟨by simp only[↓xP,xU,rB,rA,rS,h0],by simp only[↓xP,xU,rB,rA,rS,h1],by simp only[↓xP,xU,rB,rA,rS]⟩
 ·simp only[↓xP,xU,rB,rA,rS,h0,h1,h5,hi]
def ZG6 (l:(List Bool)):Prop:=l.length≤1048576∧True
def ZHY (l:(List Bool)) (left:Int):Int:=offZ left l.length fun a=>a
theorem ZMA (l:(List Bool)) (left:Int):EE F 246 [L 1 (l.map bU),I left] []=ok1 (I (ZHY l left)):=by
 rw [R246,b246]
 simp only[↓xP,xU,rB,rA,rS]
 refine ZiE (fun h=>?_) (fun h=>?_)<;>(simp only[decide_eq_true_eq,decide_eq_false_iff_not] at h; simp [ZHY,offZ,h])
theorem ZMz (l:(List Bool)) (hf:(l.length≤9223372036854775807∧∀ y,y∈l→True)):LeZ (ZHY l) (ZG6 l):=LeZ.off hf.1 (LeZ.id)
theorem ZML (l:(List Bool)) (hs:ZG6 l):EE F 255 [L 1 (l.map bU)] []=some ⟨[.sc (.own (.par 0) l.length)],[.row 1 (l.map bU)],[]⟩:=by
 have hl:=hs.1
 rw [R255,b255]
 simp only[↓xP,xU,rB,rA,rS,ZJk _ 7 l.length [.bool false] 1 (by omega)]
 refine (Zjc (fun (i:Nat) st=>i≤l.length∧st.s 0=DU (.sl 1 (l.map bU))∧st.s 4=DI i∧st.s 3=.t (.sc (.own (.loc 7 0) l.length))∧st.o (.loc 7 0)=some (.row 1 ((l.take i).map bU++List.replicate (l.length - i) [.bool false]))) (fun i=>l.length - i) (fun i=>some ⟨[.sc (.own (.par 0) l.length)],[.row 1 (l.map bU)],[]⟩) ?_ 0 ⟨by omega,by simp only[↓xP,xU,rB,rA,rS],by simp only[↓xP,xU,rB,rA,rS]; rfl,by simp only[↓xP,xU,rB,rA,rS],by simp only[↓xP,xU,rB,rA,rS,Nat.sub_zero]⟩)
 rintro i st ⟨hle,h0,h4,h3,ho⟩ ih
 by_cases hi:i<l.length
 ·obtain ⟨x,hx⟩:∃ x,l[i]?=some x:=⟨_,List.getElem?_eq_getElem hi⟩
  have hw:=w_succ (i:=i) (by omega)
  have hg:=ZFL (f:=bU) (z:=[.bool false]) hi
  have hf:=ZFM (f:=bU) (z:=[.bool false]) hx
  simp only[bU] at hf
  simp only[↓xP,xU,rB,rA,rS,h0,h4,h3,ho,hi,hx,hw,hg,hf,bU]
  exact ih (i+1) _ (by omega) ⟨by omega,by simp only[↓xP,xU,rB,rA,rS,h0],by simp only[↓xP,xU,rB,rA,rS],by simp only[↓xP,xU,rB,rA,rS,h3],by simp only[↓xP,xU,rB,rA,rS,bU]⟩
 ·have:i=l.length:=by omega
  subst this
  rw [ZFK] at ho
  simp only[↓xP,xU,rB,rA,rS,h0,h4,h3,ho,hi]
theorem ZMl (l:(List Bool)) (hs:ZG6 l):EE F 264 [L 1 (l.map bU),L 1 (l.map bU)] []=ok1 (B true):=by
 have hl:=hs.1
 rw [R264,b264]
 simp only[↓xP,xU,rB,rA,rS,ne_eq,not_true_eq_false]
 refine (Zjc (fun (i:Nat) st=>st.s 0=DU (.sl 1 (l.map bU))∧st.s 1=DU (.sl 1 (l.map bU))∧st.s 5=DI i) (fun i=>l.length - i) (fun i=>ok1 (B true)) ?_ 0 ⟨by simp only[↓xP,xU,rB,rA,rS],by simp only[↓xP,xU,rB,rA,rS],by simp only[↓xP,xU,rB,rA,rS]; rfl⟩)
 rintro i st ⟨h0,h1,h5⟩ ih
 by_cases hi:i<l.length
 ·obtain ⟨x,hx⟩:∃ x,l[i]?=some x:=⟨_,List.getElem?_eq_getElem hi⟩
  have hw:=w_succ (i:=i) (by omega)
  simp only[↓xP,xU,rB,rA,rS,h0,h1,h5,hi,hx,hw,bU,ne_eq,not_true_eq_false]
  exact ih (i+1) _ (by omega) ⟨by simp only[↓xP,xU,rB,rA,rS,h0],by simp only[↓xP,xU,rB,rA,rS,h1],by simp only[↓xP,xU,rB,rA,rS]⟩
 ·simp only[↓xP,xU,rB,rA,rS,h0,h1,h5,hi]
def Interval.Small (x:Interval):Prop:=x.low.length≤1048576∧x.high.length≤1048576∧True
def ZGj (x:Interval) (a:Int):Int:=offZ a x.low.length fun a=>offZ a x.high.length fun a=>a
theorem ZIi (c0:Str) (c1:Str) (left:Int):EE F 54 [.ag [.u (.str c0),.u (.str c1)],I left] []=ok1 (I (ZGj ⟨c0,c1⟩ left)):=by
 rw [R54,b54]
 simp only[↓xP,xU,rB,rA,rS]
 repeat' (refine ZiE (fun h=>?_) (fun h=>?_))
 all_goals (simp only[decide_eq_true_eq,decide_eq_false_iff_not] at *; simp [ZGj,offZ,chkZ, *])
theorem ZIh (x:Interval) (hf:Interval.Fit x):LeZ (ZGj x) (Interval.Small x):=LeZ.off hf.1 (LeZ.off hf.2 LeZ.id)
theorem ZIj (c0:Str) (c1:Str):EE F 56 [.ag [.u (.str c0),.u (.str c1)]] []=ok1 (.ag [.u (.str c0),.u (.str c1)]):=by
 rw [R56,b56]
 simp only[↓xP,xU,rB,rA,rS]
theorem ZId (c0:Str) (c1:Str):EE F 150 [.ag [.u (.str c0),.u (.str c1)],.ag [.u (.str c0),.u (.str c1)]] []=ok1 (B true):=by
 rw [R150,b150]
 simp only[↓xP,xU,rB,rA,rS,ne_eq,not_true_eq_false]
def Pair.Small (x:Pair):Prop:=x.key.length≤1048576∧True
def ZIc (x:Pair) (a:Int):Int:=offZ a x.key.length fun a=>a
theorem ZNq (c0:Str) (c1:Int) (left:Int):EE F 301 [.ag [.u (.str c0),.u (.int .i64 c1)],I left] []=ok1 (I (ZIc ⟨c0,c1⟩ left)):=by
 rw [R301,b301]
 simp only[↓xP,xU,rB,rA,rS]
 repeat' (refine ZiE (fun h=>?_) (fun h=>?_))
 all_goals (simp only[decide_eq_true_eq,decide_eq_false_iff_not] at *; simp [ZIc,offZ,chkZ, *])
theorem ZNp (x:Pair) (hf:Pair.Fit x):LeZ (ZIc x) (Pair.Small x):=LeZ.off hf.1 LeZ.id
theorem ZNu (c0:Str) (c1:Int):EE F 304 [.ag [.u (.str c0),.u (.int .i64 c1)]] []=ok1 (.ag [.u (.str c0),.u (.int .i64 c1)]):=by
 rw [R304,b304]
 simp only[↓xP,xU,rB,rA,rS]
theorem ZNb (c0:Str) (c1:Int):EE F 97 [.ag [.u (.str c0),.u (.int .i64 c1)],.ag [.u (.str c0),.u (.int .i64 c1)]] []=ok1 (B true):=by
 rw [R97,b97]
 simp only[↓xP,xU,rB,rA,rS,ne_eq,not_true_eq_false]
def ZF7 (l:(List Pair)):Prop:=l.length≤1048576∧∀ y,y∈l→Pair.Small y
def ZHn (l:(List Pair)) (left:Int):Int:=offZ left l.length fun a=>allZ ZIc l a
theorem ZME (l:(List Pair)) (hf:(l.length≤9223372036854775807∧∀ y,y∈l→Pair.Fit y)) (left:Int):EE F 281 [L 2 (l.map Pair.u),I left] []=ok1 (I (ZHn l left)):=by
 have hl:=hf.1
 rw [R281,b281]
 simp only[↓xP,xU,rB,rA,rS]
 refine ZiE (fun h=>?_) (fun h=>?_)
 ·simp only[decide_eq_true_eq] at h
  simp [ZHn,offZ,h]
 ·refine (Zjc (fun (a:Nat×Int) st=>st.s 0=DU (.sl 2 (l.map Pair.u))∧st.s 5=DI a.1∧st.s 1=DI a.2) (fun a=>l.length - a.1) (fun a=>ok1 (I (allZ ZIc (l.drop a.1) a.2))) ?_ (0,IntKind.i64.wrap (left - l.length)) ⟨by simp only[↓xP,xU,rB,rA,rS],by simp only[↓xP,xU,rB,rA,rS]; rfl,by simp only[↓xP,xU,rB,rA,rS]⟩).trans ?_
  ·rintro ⟨i,a⟩ st ⟨h0,h5,h1⟩ ih
   dsimp only at h0 h5 h1 ih ⊢
   by_cases hi:i<l.length
   ·obtain ⟨⟨c0,c1⟩,hx⟩:∃ x,l[i]?=some x:=⟨_,List.getElem?_eq_getElem hi⟩
    have hw:=w_succ (i:=i) (by omega)
    have hfx:=hf.2 _ (List.mem_of_getElem? hx)
    simp only[↓xP,xU,rB,rA,rS,h0,h5,h1,hi,hx,hw,Pair.u,ZNq]
    rw [ZGY hx,chkZ]
    refine ZiE (fun h=>?_) (fun h=>?_)
    ·simp only[decide_eq_true_eq] at h
     simp [h]
    ·rw [ih (i+1,ZIc ⟨c0,c1⟩ a) _ (by dsimp only; omega) ⟨by simp only[↓xP,xU,rB,rA,rS,h0],by simp only[↓xP,xU,rB,rA,rS],by simp only[↓xP,xU,rB,rA,rS]⟩]
     simp only[decide_eq_false_iff_not] at h
     simp [h]
   ·simp only[↓xP,xU,rB,rA,rS,h0,h5,h1,hi]
    rw [List.drop_of_length_le (by omega)]; rfl
  ·simp only[decide_eq_false_iff_not] at h
   simp [ZHn,offZ,h]
theorem ZMD (l:(List Pair)) (hf:(l.length≤9223372036854775807∧∀ y,y∈l→Pair.Fit y)):LeZ (ZHn l) (ZF7 l):=LeZ.off hf.1 (LeZ.all fun x hx=>ZNp x (hf.2 x hx))
theorem ZMN (l:(List Pair)) (hs:ZF7 l):EE F 287 [L 2 (l.map Pair.u)] []=some ⟨[.sc (.own (.par 0) l.length)],[.row 2 (l.map Pair.u)],[]⟩:=by
 have hl:=hs.1
 rw [R287,b287]
 simp only[↓xP,xU,rB,rA,rS,ZJk _ 7 l.length [.str [],.int .i64 0] 24 (by omega)]
 refine (Zjc (fun (i:Nat) st=>i≤l.length∧st.s 0=DU (.sl 2 (l.map Pair.u))∧st.s 4=DI i∧st.s 3=.t (.sc (.own (.loc 7 0) l.length))∧st.o (.loc 7 0)=some (.row 2 ((l.take i).map Pair.u++List.replicate (l.length - i) [.str [],.int .i64 0]))) (fun i=>l.length - i) (fun i=>some ⟨[.sc (.own (.par 0) l.length)],[.row 2 (l.map Pair.u)],[]⟩) ?_ 0 ⟨by omega,by simp only[↓xP,xU,rB,rA,rS],by simp only[↓xP,xU,rB,rA,rS]; rfl,by simp only[↓xP,xU,rB,rA,rS],by simp only[↓xP,xU,rB,rA,rS,Nat.sub_zero]⟩)
 rintro i st ⟨hle,h0,h4,h3,ho⟩ ih
 by_cases hi:i<l.length
 ·obtain ⟨⟨c0,c1⟩,hx⟩:∃ x,l[i]?=some x:=⟨_,List.getElem?_eq_getElem hi⟩
  have hw:=w_succ (i:=i) (by omega)
  have hg:=ZFL (f:=Pair.u) (z:=[.str [],.int .i64 0]) hi
  have hf:=ZFM (f:=Pair.u) (z:=[.str [],.int .i64 0]) hx
  simp only[Pair.u] at hf
  simp only[↓xP,xU,rB,rA,rS,h0,h4,h3,ho,hi,hx,hw,hg,hf,Pair.u,ZNu]
  exact ih (i+1) _ (by omega) ⟨by omega,by simp only[↓xP,xU,rB,rA,rS,h0],by simp only[↓xP,xU,rB,rA,rS],by simp only[↓xP,xU,rB,rA,rS,h3],by simp only[↓xP,xU,rB,rA,rS,Pair.u]⟩
 ·have:i=l.length:=by omega
  subst this
  rw [ZFK] at ho
  simp only[↓xP,xU,rB,rA,rS,h0,h4,h3,ho,hi]
theorem ZIr (l:(List Pair)) (hs:ZF7 l):EE F 44 [L 2 (l.map Pair.u),L 2 (l.map Pair.u)] []=ok1 (B true):=by
 have hl:=hs.1
 rw [R44,b44]
 simp only[↓xP,xU,rB,rA,rS,ne_eq,not_true_eq_false]
 refine (Zjc (fun (i:Nat) st=>st.s 0=DU (.sl 2 (l.map Pair.u))∧st.s 1=DU (.sl 2 (l.map Pair.u))∧st.s 5=DI i) (fun i=>l.length - i) (fun i=>ok1 (B true)) ?_ 0 ⟨by simp only[↓xP,xU,rB,rA,rS],by simp only[↓xP,xU,rB,rA,rS],by simp only[↓xP,xU,rB,rA,rS]; rfl⟩)
 rintro i st ⟨h0,h1,h5⟩ ih
 by_cases hi:i<l.length
 ·obtain ⟨⟨c0,c1⟩,hx⟩:∃ x,l[i]?=some x:=⟨_,List.getElem?_eq_getElem hi⟩
  have hw:=w_succ (i:=i) (by omega)
  simp only[↓xP,xU,rB,rA,rS,h0,h1,h5,hi,hx,hw,Pair.u,ZNb,ne_eq,not_true_eq_false]
  exact ih (i+1) _ (by omega) ⟨by simp only[↓xP,xU,rB,rA,rS,h0],by simp only[↓xP,xU,rB,rA,rS,h1],by simp only[↓xP,xU,rB,rA,rS]⟩
 ·simp only[↓xP,xU,rB,rA,rS,h0,h1,h5,hi]
def Command.Small (x:Command):Prop:=x.key.length≤1048576∧True
def ZGb (x:Command) (a:Int):Int:=offZ a x.key.length fun a=>a
theorem ZHy (c0:Int) (c1:Str) (c2:Int) (c3:Int) (left:Int):EE F 185 [.ag [.u (.int .i64 c0),.u (.str c1),.u (.int .i64 c2),.u (.int .i64 c3)],I left] []=ok1 (I (ZGb ⟨c0,c1,c2,c3⟩ left)):=by
 rw [R185,b185]
 simp only[↓xP,xU,rB,rA,rS]
 repeat' (refine ZiE (fun h=>?_) (fun h=>?_))
 all_goals (simp only[decide_eq_true_eq,decide_eq_false_iff_not] at *; simp [ZGb,offZ,chkZ, *])
theorem ZHx (x:Command) (hf:Command.Fit x):LeZ (ZGb x) (Command.Small x):=LeZ.off hf.2.1 LeZ.id
theorem ZHA (c0:Int) (c1:Str) (c2:Int) (c3:Int):EE F 193 [.ag [.u (.int .i64 c0),.u (.str c1),.u (.int .i64 c2),.u (.int .i64 c3)]] []=ok1 (.ag [.u (.int .i64 c0),.u (.str c1),.u (.int .i64 c2),.u (.int .i64 c3)]):=by
 rw [R193,b193]
 simp only[↓xP,xU,rB,rA,rS]
theorem ZHq (c0:Int) (c1:Str) (c2:Int) (c3:Int):EE F 207 [.ag [.u (.int .i64 c0),.u (.str c1),.u (.int .i64 c2),.u (.int .i64 c3)],.ag [.u (.int .i64 c0),.u (.str c1),.u (.int .i64 c2),.u (.int .i64 c3)]] []=ok1 (B true):=by
 rw [R207,b207]
 simp only[↓xP,xU,rB,rA,rS,ne_eq,not_true_eq_false]
theorem ZLG (c0:Int) (c1:Int) (c2:Int):EE F 305 [.ag [.u (.int .i64 c0),.u (.int .i64 c1),.u (.int .i64 c2)]] []=ok1 (.ag [.u (.int .i64 c0),.u (.int .i64 c1),.u (.int .i64 c2)]):=by
 rw [R305,b305]
 simp only[↓xP,xU,rB,rA,rS]
theorem ZLa (c0:Int) (c1:Int) (c2:Int):EE F 228 [.ag [.u (.int .i64 c0),.u (.int .i64 c1),.u (.int .i64 c2)],.ag [.u (.int .i64 c0),.u (.int .i64 c1),.u (.int .i64 c2)]] []=ok1 (B true):=by
 rw [R228,b228]
 simp only[↓xP,xU,rB,rA,rS,ne_eq,not_true_eq_false]
def ZF2 (l:(List Session)):Prop:=l.length≤1048576∧True
def ZGR (l:(List Session)) (left:Int):Int:=offZ left l.length fun a=>a
theorem ZKG (l:(List Session)) (left:Int):EE F 282 [L 3 (l.map Session.u),I left] []=ok1 (I (ZGR l left)):=by
 rw [R282,b282]
 simp only[↓xP,xU,rB,rA,rS]
 refine ZiE (fun h=>?_) (fun h=>?_)<;>(simp only[decide_eq_true_eq,decide_eq_false_iff_not] at h; simp [ZGR,offZ,h])
theorem ZKF (l:(List Session)) (hf:(l.length≤9223372036854775807∧∀ y,y∈l→Session.Fit y)):LeZ (ZGR l) (ZF2 l):=LeZ.off hf.1 (LeZ.id)
theorem ZKJ (l:(List Session)) (hs:ZF2 l):EE F 288 [L 3 (l.map Session.u)] []=some ⟨[.sc (.own (.par 0) l.length)],[.row 3 (l.map Session.u)],[]⟩:=by
 have hl:=hs.1
 rw [R288,b288]
 simp only[↓xP,xU,rB,rA,rS,ZJk _ 7 l.length [.int .i64 0,.int .i64 0,.int .i64 0] 24 (by omega)]
 refine (Zjc (fun (i:Nat) st=>i≤l.length∧st.s 0=DU (.sl 3 (l.map Session.u))∧st.s 4=DI i∧st.s 3=.t (.sc (.own (.loc 7 0) l.length))∧st.o (.loc 7 0)=some (.row 3 ((l.take i).map Session.u++List.replicate (l.length - i) [.int .i64 0,.int .i64 0,.int .i64 0]))) (fun i=>l.length - i) (fun i=>some ⟨[.sc (.own (.par 0) l.length)],[.row 3 (l.map Session.u)],[]⟩) ?_ 0 ⟨by omega,by simp only[↓xP,xU,rB,rA,rS],by simp only[↓xP,xU,rB,rA,rS]; rfl,by simp only[↓xP,xU,rB,rA,rS],by simp only[↓xP,xU,rB,rA,rS,Nat.sub_zero]⟩)
 rintro i st ⟨hle,h0,h4,h3,ho⟩ ih
 by_cases hi:i<l.length
 ·obtain ⟨⟨c0,c1,c2⟩,hx⟩:∃ x,l[i]?=some x:=⟨_,List.getElem?_eq_getElem hi⟩
  have hw:=w_succ (i:=i) (by omega)
  have hg:=ZFL (f:=Session.u) (z:=[.int .i64 0,.int .i64 0,.int .i64 0]) hi
  have hf:=ZFM (f:=Session.u) (z:=[.int .i64 0,.int .i64 0,.int .i64 0]) hx
  simp only[Session.u] at hf
  simp only[↓xP,xU,rB,rA,rS,h0,h4,h3,ho,hi,hx,hw,hg,hf,Session.u,ZLG]
  exact ih (i+1) _ (by omega) ⟨by omega,by simp only[↓xP,xU,rB,rA,rS,h0],by simp only[↓xP,xU,rB,rA,rS],by simp only[↓xP,xU,rB,rA,rS,h3],by simp only[↓xP,xU,rB,rA,rS,Session.u]⟩
 ·have:i=l.length:=by omega
  subst this
  rw [ZFK] at ho
  simp only[↓xP,xU,rB,rA,rS,h0,h4,h3,ho,hi]
theorem ZKq (l:(List Session)) (hs:ZF2 l):EE F 168 [L 3 (l.map Session.u),L 3 (l.map Session.u)] []=ok1 (B true):=by
 have hl:=hs.1
 rw [R168,b168]
 simp only[↓xP,xU,rB,rA,rS,ne_eq,not_true_eq_false]
 refine (Zjc (fun (i:Nat) st=>st.s 0=DU (.sl 3 (l.map Session.u))∧st.s 1=DU (.sl 3 (l.map Session.u))∧st.s 5=DI i) (fun i=>l.length - i) (fun i=>ok1 (B true)) ?_ 0 ⟨by simp only[↓xP,xU,rB,rA,rS],by simp only[↓xP,xU,rB,rA,rS],by simp only[↓xP,xU,rB,rA,rS]; rfl⟩)
 rintro i st ⟨h0,h1,h5⟩ ih
 by_cases hi:i<l.length
 ·obtain ⟨⟨c0,c1,c2⟩,hx⟩:∃ x,l[i]?=some x:=⟨_,List.getElem?_eq_getElem hi⟩
  have hw:=w_succ (i:=i) (by omega)
  simp only[↓xP,xU,rB,rA,rS,h0,h1,h5,hi,hx,hw,Session.u,ZLa,ne_eq,not_true_eq_false]
  exact ih (i+1) _ (by omega) ⟨by simp only[↓xP,xU,rB,rA,rS,h0],by simp only[↓xP,xU,rB,rA,rS,h1],by simp only[↓xP,xU,rB,rA,rS]⟩
 ·simp only[↓xP,xU,rB,rA,rS,h0,h1,h5,hi]
def Entry.Small (x:Entry):Prop:=Command.Small x.cmd∧True
def ZGQ (x:Entry) (a:Int):Int:=chkZ (ZGb x.cmd a) fun a=>a
theorem ZKi (c0:Int) (c1:Int) (c2:Int) (c3:Str) (c4:Int) (c5:Int) (left:Int):EE F 303 [.ag [.u (.int .i64 c0),.u (.int .i64 c1),.u (.int .i64 c2),.u (.str c3),.u (.int .i64 c4),.u (.int .i64 c5)],I left] []=ok1 (I (ZGQ ⟨c0,c1,⟨c2,c3,c4,c5⟩⟩ left)):=by
 rw [R303,b303]
 simp only[↓xP,xU,rB,rA,rS,ZHy]
 repeat' (refine ZiE (fun h=>?_) (fun h=>?_))
 all_goals (simp only[decide_eq_true_eq,decide_eq_false_iff_not] at *; simp [ZGQ,offZ,chkZ, *])
theorem ZKh (x:Entry) (hf:Entry.Fit x):LeZ (ZGQ x) (Entry.Small x):=LeZ.chk (ZHx _ hf.2.2) LeZ.id
theorem ZKj (c0:Int) (c1:Int) (c2:Int) (c3:Str) (c4:Int) (c5:Int):EE F 307 [.ag [.u (.int .i64 c0),.u (.int .i64 c1),.u (.int .i64 c2),.u (.str c3),.u (.int .i64 c4),.u (.int .i64 c5)]] []=ok1 (.ag [.u (.int .i64 c0),.u (.int .i64 c1),.u (.int .i64 c2),.u (.str c3),.u (.int .i64 c4),.u (.int .i64 c5)]):=by
 rw [R307,b307]
 simp only[↓xP,xU,rB,rA,rS,ZHA]
theorem ZJR (c0:Int) (c1:Int) (c2:Int) (c3:Str) (c4:Int) (c5:Int):EE F 154 [.ag [.u (.int .i64 c0),.u (.int .i64 c1),.u (.int .i64 c2),.u (.str c3),.u (.int .i64 c4),.u (.int .i64 c5)],.ag [.u (.int .i64 c0),.u (.int .i64 c1),.u (.int .i64 c2),.u (.str c3),.u (.int .i64 c4),.u (.int .i64 c5)]] []=ok1 (B true):=by
 rw [R154,b154]
 simp only[↓xP,xU,rB,rA,rS,ZHq,ne_eq,not_true_eq_false]
def ZGe (l:(List Entry)):Prop:=l.length≤1048576∧∀ y,y∈l→Entry.Small y
def ZGK (l:(List Entry)) (left:Int):Int:=offZ left l.length fun a=>allZ ZGQ l a
theorem ZJq (l:(List Entry)) (hf:(l.length≤9223372036854775807∧∀ y,y∈l→Entry.Fit y)) (left:Int):EE F 302 [L 6 (l.map Entry.u),I left] []=ok1 (I (ZGK l left)):=by
 have hl:=hf.1
 rw [R302,b302]
 simp only[↓xP,xU,rB,rA,rS]
 refine ZiE (fun h=>?_) (fun h=>?_)
 ·simp only[decide_eq_true_eq] at h
  simp [ZGK,offZ,h]
 ·refine (Zjc (fun (a:Nat×Int) st=>st.s 0=DU (.sl 6 (l.map Entry.u))∧st.s 5=DI a.1∧st.s 1=DI a.2) (fun a=>l.length - a.1) (fun a=>ok1 (I (allZ ZGQ (l.drop a.1) a.2))) ?_ (0,IntKind.i64.wrap (left - l.length)) ⟨by simp only[↓xP,xU,rB,rA,rS],by simp only[↓xP,xU,rB,rA,rS]; rfl,by simp only[↓xP,xU,rB,rA,rS]⟩).trans ?_
  ·rintro ⟨i,a⟩ st ⟨h0,h5,h1⟩ ih
   dsimp only at h0 h5 h1 ih ⊢
   by_cases hi:i<l.length
   ·obtain ⟨⟨c0,c1,⟨c2,c3,c4,c5⟩⟩,hx⟩:∃ x,l[i]?=some x:=⟨_,List.getElem?_eq_getElem hi⟩
    have hw:=w_succ (i:=i) (by omega)
    have hfx:=hf.2 _ (List.mem_of_getElem? hx)
    simp only[↓xP,xU,rB,rA,rS,h0,h5,h1,hi,hx,hw,Entry.u,ZKi]
    rw [ZGY hx,chkZ]
    refine ZiE (fun h=>?_) (fun h=>?_)
    ·simp only[decide_eq_true_eq] at h
     simp [h]
    ·rw [ih (i+1,ZGQ ⟨c0,c1,⟨c2,c3,c4,c5⟩⟩ a) _ (by dsimp only; omega) ⟨by simp only[↓xP,xU,rB,rA,rS,h0],by simp only[↓xP,xU,rB,rA,rS],by simp only[↓xP,xU,rB,rA,rS]⟩]
     simp only[decide_eq_false_iff_not] at h
     simp [h]
   ·simp only[↓xP,xU,rB,rA,rS,h0,h5,h1,hi]
    rw [List.drop_of_length_le (by omega)]; rfl
  ·simp only[decide_eq_false_iff_not] at h
   simp [ZGK,offZ,h]
theorem ZJp (l:(List Entry)) (hf:(l.length≤9223372036854775807∧∀ y,y∈l→Entry.Fit y)):LeZ (ZGK l) (ZGe l):=LeZ.off hf.1 (LeZ.all fun x hx=>ZKh x (hf.2 x hx))
theorem ZJr (l:(List Entry)) (hs:ZGe l):EE F 306 [L 6 (l.map Entry.u)] []=some ⟨[.sc (.own (.par 0) l.length)],[.row 6 (l.map Entry.u)],[]⟩:=by
 have hl:=hs.1
 rw [R306,b306]
 simp only[↓xP,xU,rB,rA,rS,ZJk _ 7 l.length [.int .i64 0,.int .i64 0,.int .i64 0,.str [],.int .i64 0,.int .i64 0] 56 (by omega)]
 refine (Zjc (fun (i:Nat) st=>i≤l.length∧st.s 0=DU (.sl 6 (l.map Entry.u))∧st.s 4=DI i∧st.s 3=.t (.sc (.own (.loc 7 0) l.length))∧st.o (.loc 7 0)=some (.row 6 ((l.take i).map Entry.u++List.replicate (l.length - i) [.int .i64 0,.int .i64 0,.int .i64 0,.str [],.int .i64 0,.int .i64 0]))) (fun i=>l.length - i) (fun i=>some ⟨[.sc (.own (.par 0) l.length)],[.row 6 (l.map Entry.u)],[]⟩) ?_ 0 ⟨by omega,by simp only[↓xP,xU,rB,rA,rS],by simp only[↓xP,xU,rB,rA,rS]; rfl,by simp only[↓xP,xU,rB,rA,rS],by simp only[↓xP,xU,rB,rA,rS,Nat.sub_zero]⟩)
 rintro i st ⟨hle,h0,h4,h3,ho⟩ ih
 by_cases hi:i<l.length
 ·obtain ⟨⟨c0,c1,⟨c2,c3,c4,c5⟩⟩,hx⟩:∃ x,l[i]?=some x:=⟨_,List.getElem?_eq_getElem hi⟩
  have hw:=w_succ (i:=i) (by omega)
  have hg:=ZFL (f:=Entry.u) (z:=[.int .i64 0,.int .i64 0,.int .i64 0,.str [],.int .i64 0,.int .i64 0]) hi
  have hf:=ZFM (f:=Entry.u) (z:=[.int .i64 0,.int .i64 0,.int .i64 0,.str [],.int .i64 0,.int .i64 0]) hx
  simp only[Entry.u] at hf
  simp only[↓xP,xU,rB,rA,rS,h0,h4,h3,ho,hi,hx,hw,hg,hf,Entry.u,ZKj]
  exact ih (i+1) _ (by omega) ⟨by omega,by simp only[↓xP,xU,rB,rA,rS,h0],by simp only[↓xP,xU,rB,rA,rS],by simp only[↓xP,xU,rB,rA,rS,h3],by simp only[↓xP,xU,rB,rA,rS,Entry.u]⟩
 ·have:i=l.length:=by omega
  subst this
  rw [ZFK] at ho
  simp only[↓xP,xU,rB,rA,rS,h0,h4,h3,ho,hi]
theorem ZJi (l:(List Entry)) (hs:ZGe l):EE F 308 [L 6 (l.map Entry.u),L 6 (l.map Entry.u)] []=ok1 (B true):=by
 have hl:=hs.1
 rw [R308,b308]
 simp only[↓xP,xU,rB,rA,rS,ne_eq,not_true_eq_false]
 refine (Zjc (fun (i:Nat) st=>st.s 0=DU (.sl 6 (l.map Entry.u))∧st.s 1=DU (.sl 6 (l.map Entry.u))∧st.s 5=DI i) (fun i=>l.length - i) (fun i=>ok1 (B true)) ?_ 0 ⟨by simp only[↓xP,xU,rB,rA,rS],by simp only[↓xP,xU,rB,rA,rS],by simp only[↓xP,xU,rB,rA,rS]; rfl⟩)
 rintro i st ⟨h0,h1,h5⟩ ih
 by_cases hi:i<l.length
 ·obtain ⟨⟨c0,c1,⟨c2,c3,c4,c5⟩⟩,hx⟩:∃ x,l[i]?=some x:=⟨_,List.getElem?_eq_getElem hi⟩
  have hw:=w_succ (i:=i) (by omega)
  simp only[↓xP,xU,rB,rA,rS,h0,h1,h5,hi,hx,hw,Entry.u,ZJR,ne_eq,not_true_eq_false]
  exact ih (i+1) _ (by omega) ⟨by simp only[↓xP,xU,rB,rA,rS,h0],by simp only[↓xP,xU,rB,rA,rS,h1],by simp only[↓xP,xU,rB,rA,rS]⟩
 ·simp only[↓xP,xU,rB,rA,rS,h0,h1,h5,hi]
def Answer.Small (x:Answer):Prop:=Entry.Small x.asked∧True
def ZGG (x:Answer) (a:Int):Int:=chkZ (ZGQ x.asked a) fun a=>a
theorem ZL5 (c0:Int) (c1:Int) (c2:Int) (c3:Str) (c4:Int) (c5:Int) (c6:Int) (left:Int):EE F 286 [.ag [.u (.int .i64 c0),.u (.int .i64 c1),.u (.int .i64 c2),.u (.str c3),.u (.int .i64 c4),.u (.int .i64 c5),.u (.int .i64 c6)],I left] []=ok1 (I (ZGG ⟨⟨c0,c1,⟨c2,c3,c4,c5⟩⟩,c6⟩ left)):=by
 rw [R286,b286]
 simp only[↓xP,xU,rB,rA,rS,ZKi]
 repeat' (refine ZiE (fun h=>?_) (fun h=>?_))
 all_goals (simp only[decide_eq_true_eq,decide_eq_false_iff_not] at *; simp [ZGG,offZ,chkZ, *])
theorem ZL4 (x:Answer) (hf:Answer.Fit x):LeZ (ZGG x) (Answer.Small x):=LeZ.chk (ZKh _ hf.1) LeZ.id
theorem ZMe (c0:Int) (c1:Int) (c2:Int) (c3:Str) (c4:Int) (c5:Int) (c6:Int):EE F 292 [.ag [.u (.int .i64 c0),.u (.int .i64 c1),.u (.int .i64 c2),.u (.str c3),.u (.int .i64 c4),.u (.int .i64 c5),.u (.int .i64 c6)]] []=ok1 (.ag [.u (.int .i64 c0),.u (.int .i64 c1),.u (.int .i64 c2),.u (.str c3),.u (.int .i64 c4),.u (.int .i64 c5),.u (.int .i64 c6)]):=by
 rw [R292,b292]
 simp only[↓xP,xU,rB,rA,rS,ZKj]
theorem ZLL (c0:Int) (c1:Int) (c2:Int) (c3:Str) (c4:Int) (c5:Int) (c6:Int):EE F 90 [.ag [.u (.int .i64 c0),.u (.int .i64 c1),.u (.int .i64 c2),.u (.str c3),.u (.int .i64 c4),.u (.int .i64 c5),.u (.int .i64 c6)],.ag [.u (.int .i64 c0),.u (.int .i64 c1),.u (.int .i64 c2),.u (.str c3),.u (.int .i64 c4),.u (.int .i64 c5),.u (.int .i64 c6)]] []=ok1 (B true):=by
 rw [R90,b90]
 simp only[↓xP,xU,rB,rA,rS,ZJR,ne_eq,not_true_eq_false]
def ZGm (l:(List Answer)):Prop:=l.length≤1048576∧∀ y,y∈l→Answer.Small y
def ZGH (l:(List Answer)) (left:Int):Int:=offZ left l.length fun a=>allZ ZGG l a
theorem ZLq (l:(List Answer)) (hf:(l.length≤9223372036854775807∧∀ y,y∈l→Answer.Fit y)) (left:Int):EE F 248 [L 7 (l.map Answer.u),I left] []=ok1 (I (ZGH l left)):=by
 have hl:=hf.1
 rw [R248,b248]
 simp only[↓xP,xU,rB,rA,rS]
 refine ZiE (fun h=>?_) (fun h=>?_)
 ·simp only[decide_eq_true_eq] at h
  simp [ZGH,offZ,h]
 ·refine (Zjc (fun (a:Nat×Int) st=>st.s 0=DU (.sl 7 (l.map Answer.u))∧st.s 5=DI a.1∧st.s 1=DI a.2) (fun a=>l.length - a.1) (fun a=>ok1 (I (allZ ZGG (l.drop a.1) a.2))) ?_ (0,IntKind.i64.wrap (left - l.length)) ⟨by simp only[↓xP,xU,rB,rA,rS],by simp only[↓xP,xU,rB,rA,rS]; rfl,by simp only[↓xP,xU,rB,rA,rS]⟩).trans ?_
  ·rintro ⟨i,a⟩ st ⟨h0,h5,h1⟩ ih
   dsimp only at h0 h5 h1 ih ⊢
   by_cases hi:i<l.length
   ·obtain ⟨⟨⟨c0,c1,⟨c2,c3,c4,c5⟩⟩,c6⟩,hx⟩:∃ x,l[i]?=some x:=⟨_,List.getElem?_eq_getElem hi⟩
    have hw:=w_succ (i:=i) (by omega)
    have hfx:=hf.2 _ (List.mem_of_getElem? hx)
    simp only[↓xP,xU,rB,rA,rS,h0,h5,h1,hi,hx,hw,Answer.u,ZL5]
    rw [ZGY hx,chkZ]
    refine ZiE (fun h=>?_) (fun h=>?_)
    ·simp only[decide_eq_true_eq] at h
     simp [h]
    ·rw [ih (i+1,ZGG ⟨⟨c0,c1,⟨c2,c3,c4,c5⟩⟩,c6⟩ a) _ (by dsimp only; omega) ⟨by simp only[↓xP,xU,rB,rA,rS,h0],by simp only[↓xP,xU,rB,rA,rS],by simp only[↓xP,xU,rB,rA,rS]⟩]
     simp only[decide_eq_false_iff_not] at h
     simp [h]
   ·simp only[↓xP,xU,rB,rA,rS,h0,h5,h1,hi]
    rw [List.drop_of_length_le (by omega)]; rfl
  ·simp only[decide_eq_false_iff_not] at h
   simp [ZGH,offZ,h]
theorem ZLp (l:(List Answer)) (hf:(l.length≤9223372036854775807∧∀ y,y∈l→Answer.Fit y)):LeZ (ZGH l) (ZGm l):=LeZ.off hf.1 (LeZ.all fun x hx=>ZL4 x (hf.2 x hx))
theorem ZLB (l:(List Answer)) (hs:ZGm l):EE F 257 [L 7 (l.map Answer.u)] []=some ⟨[.sc (.own (.par 0) l.length)],[.row 7 (l.map Answer.u)],[]⟩:=by
 have hl:=hs.1
 rw [R257,b257]
 simp only[↓xP,xU,rB,rA,rS,ZJk _ 7 l.length [.int .i64 0,.int .i64 0,.int .i64 0,.str [],.int .i64 0,.int .i64 0,.int .i64 0] 64 (by omega)]
 refine (Zjc (fun (i:Nat) st=>i≤l.length∧st.s 0=DU (.sl 7 (l.map Answer.u))∧st.s 4=DI i∧st.s 3=.t (.sc (.own (.loc 7 0) l.length))∧st.o (.loc 7 0)=some (.row 7 ((l.take i).map Answer.u++List.replicate (l.length - i) [.int .i64 0,.int .i64 0,.int .i64 0,.str [],.int .i64 0,.int .i64 0,.int .i64 0]))) (fun i=>l.length - i) (fun i=>some ⟨[.sc (.own (.par 0) l.length)],[.row 7 (l.map Answer.u)],[]⟩) ?_ 0 ⟨by omega,by simp only[↓xP,xU,rB,rA,rS],by simp only[↓xP,xU,rB,rA,rS]; rfl,by simp only[↓xP,xU,rB,rA,rS],by simp only[↓xP,xU,rB,rA,rS,Nat.sub_zero]⟩)
 rintro i st ⟨hle,h0,h4,h3,ho⟩ ih
 by_cases hi:i<l.length
 ·obtain ⟨⟨⟨c0,c1,⟨c2,c3,c4,c5⟩⟩,c6⟩,hx⟩:∃ x,l[i]?=some x:=⟨_,List.getElem?_eq_getElem hi⟩
  have hw:=w_succ (i:=i) (by omega)
  have hg:=ZFL (f:=Answer.u) (z:=[.int .i64 0,.int .i64 0,.int .i64 0,.str [],.int .i64 0,.int .i64 0,.int .i64 0]) hi
  have hf:=ZFM (f:=Answer.u) (z:=[.int .i64 0,.int .i64 0,.int .i64 0,.str [],.int .i64 0,.int .i64 0,.int .i64 0]) hx
  simp only[Answer.u] at hf
  simp only[↓xP,xU,rB,rA,rS,h0,h4,h3,ho,hi,hx,hw,hg,hf,Answer.u,ZMe]
  exact ih (i+1) _ (by omega) ⟨by omega,by simp only[↓xP,xU,rB,rA,rS,h0],by simp only[↓xP,xU,rB,rA,rS],by simp only[↓xP,xU,rB,rA,rS,h3],by simp only[↓xP,xU,rB,rA,rS,Answer.u]⟩
 ·have:i=l.length:=by omega
  subst this
  rw [ZFK] at ho
  simp only[↓xP,xU,rB,rA,rS,h0,h4,h3,ho,hi]
theorem ZK5 (l:(List Answer)) (hs:ZGm l):EE F 37 [L 7 (l.map Answer.u),L 7 (l.map Answer.u)] []=ok1 (B true):=by
 have hl:=hs.1
 rw [R37,b37]
 simp only[↓xP,xU,rB,rA,rS,ne_eq,not_true_eq_false]
 refine (Zjc (fun (i:Nat) st=>st.s 0=DU (.sl 7 (l.map Answer.u))∧st.s 1=DU (.sl 7 (l.map Answer.u))∧st.s 5=DI i) (fun i=>l.length - i) (fun i=>ok1 (B true)) ?_ 0 ⟨by simp only[↓xP,xU,rB,rA,rS],by simp only[↓xP,xU,rB,rA,rS],by simp only[↓xP,xU,rB,rA,rS]; rfl⟩)
 rintro i st ⟨h0,h1,h5⟩ ih
 by_cases hi:i<l.length
 ·obtain ⟨⟨⟨c0,c1,⟨c2,c3,c4,c5⟩⟩,c6⟩,hx⟩:∃ x,l[i]?=some x:=⟨_,List.getElem?_eq_getElem hi⟩
  have hw:=w_succ (i:=i) (by omega)
  simp only[↓xP,xU,rB,rA,rS,h0,h1,h5,hi,hx,hw,Answer.u,ZLL,ne_eq,not_true_eq_false]
  exact ih (i+1) _ (by omega) ⟨by simp only[↓xP,xU,rB,rA,rS,h0],by simp only[↓xP,xU,rB,rA,rS,h1],by simp only[↓xP,xU,rB,rA,rS]⟩
 ·simp only[↓xP,xU,rB,rA,rS,h0,h1,h5,hi]
def State.Small (x:State):Prop:=Interval.Small x.span∧ZF7 x.pairs∧ZF2 x.known∧x.cut.length≤1048576∧True
def ZH2 (x:State) (a:Int):Int:=chkZ (ZGj x.span a) fun a=>chkZ (ZHn x.pairs a) fun a=>chkZ (ZGR x.known a) fun a=>offZ a x.cut.length fun a=>a
theorem ZMK (c0:Str) (c1:Str) (c2:(List Pair)) (c3:(List Session)) (c4:Bool) (c5:Str) (hf:State.Fit ⟨⟨c0,c1⟩,c2,c3,c4,c5⟩) (left:Int):EE F 243 [.ag [.u (.str c0),.u (.str c1),.u (.sl 2 (c2.map Pair.u)),.u (.sl 3 (c3.map Session.u)),.u (.bool c4),.u (.str c5)],I left] []=ok1 (I (ZH2 ⟨⟨c0,c1⟩,c2,c3,c4,c5⟩ left)):=by
 rw [R243,b243]
 simp only[↓xP,xU,rB,rA,rS,ZIi,ZME c2 hf.2.1,ZKG]
 repeat' (refine ZiE (fun h=>?_) (fun h=>?_))
 all_goals (simp only[decide_eq_true_eq,decide_eq_false_iff_not] at *; simp [ZH2,offZ,chkZ, *])
theorem ZMJ (x:State) (hf:State.Fit x):LeZ (ZH2 x) (State.Small x):=LeZ.chk (ZIh _ hf.1) (LeZ.chk (ZMD _ hf.2.1) (LeZ.chk (ZKF _ hf.2.2.1) (LeZ.off hf.2.2.2.2 LeZ.id)))
theorem ZMQ (c0:Str) (c1:Str) (c2:(List Pair)) (c3:(List Session)) (c4:Bool) (c5:Str) (hs:State.Small ⟨⟨c0,c1⟩,c2,c3,c4,c5⟩):EE F 252 [.ag [.u (.str c0),.u (.str c1),.u (.sl 2 (c2.map Pair.u)),.u (.sl 3 (c3.map Session.u)),.u (.bool c4),.u (.str c5)]] []=some ⟨[.ag [.u (.str c0),.u (.str c1),.own (.par 0) c2.length,.own (.par 1) c3.length,.u (.bool c4),.u (.str c5)]],[.row 2 (c2.map Pair.u),.row 3 (c3.map Session.u)],[]⟩:=by
 rw [R252,b252]
 simp only[↓xP,xU,rB,rA,rS,ZIj,ZMN c2 hs.2.1,ZKJ c3 hs.2.2.1]
theorem ZMp (c0:Str) (c1:Str) (c2:(List Pair)) (c3:(List Session)) (c4:Bool) (c5:Str) (hs:State.Small ⟨⟨c0,c1⟩,c2,c3,c4,c5⟩):EE F 100 [.ag [.u (.str c0),.u (.str c1),.u (.sl 2 (c2.map Pair.u)),.u (.sl 3 (c3.map Session.u)),.u (.bool c4),.u (.str c5)],.ag [.u (.str c0),.u (.str c1),.u (.sl 2 (c2.map Pair.u)),.u (.sl 3 (c3.map Session.u)),.u (.bool c4),.u (.str c5)]] []=ok1 (B true):=by
 rw [R100,b100]
 simp only[↓xP,xU,rB,rA,rS,ZId,ZIr c2 hs.2.1,ZKq c3 hs.2.2.1,ne_eq,not_true_eq_false]
def Piece.Small (x:Piece):Prop:=Interval.Small x.span∧ZF7 x.pairs∧True
def Config.Small (x:Config):Prop:=ZHi x.members∧True
def ZGJ (x:Config) (a:Int):Int:=chkZ (ZIX x.members a) fun a=>a
theorem ZH1 (c0:Int) (c1:(List Int)) (c2:Bool) (left:Int):EE F 244 [.ag [.u (.int .i64 c0),.u (.sl 1 (c1.map iU)),.u (.bool c2)],I left] []=ok1 (I (ZGJ ⟨c0,c1,c2⟩ left)):=by
 rw [R244,b244]
 simp only[↓xP,xU,rB,rA,rS,ZNo]
 repeat' (refine ZiE (fun h=>?_) (fun h=>?_))
 all_goals (simp only[decide_eq_true_eq,decide_eq_false_iff_not] at *; simp [ZGJ,offZ,chkZ, *])
theorem ZH0 (x:Config) (hf:Config.Fit x):LeZ (ZGJ x) (Config.Small x):=LeZ.chk (ZNn _ hf.2.1) LeZ.id
theorem ZH3 (c0:Int) (c1:(List Int)) (c2:Bool) (hs:Config.Small ⟨c0,c1,c2⟩):EE F 253 [.ag [.u (.int .i64 c0),.u (.sl 1 (c1.map iU)),.u (.bool c2)]] []=some ⟨[.ag [.u (.int .i64 c0),.own (.par 0) c1.length,.u (.bool c2)]],[.row 1 (c1.map iU)],[]⟩:=by
 rw [R253,b253]
 simp only[↓xP,xU,rB,rA,rS,ZNt c1 hs.1]
theorem ZHK (c0:Int) (c1:(List Int)) (c2:Bool) (hs:Config.Small ⟨c0,c1,c2⟩):EE F 262 [.ag [.u (.int .i64 c0),.u (.sl 1 (c1.map iU)),.u (.bool c2)],.ag [.u (.int .i64 c0),.u (.sl 1 (c1.map iU)),.u (.bool c2)]] []=ok1 (B true):=by
 rw [R262,b262]
 simp only[↓xP,xU,rB,rA,rS,ZNa c1 hs.1,ne_eq,not_true_eq_false]
def Event.Small (x:Event):Prop:=Entry.Small x.sent∧True
def Plan.Small (x:Plan):Prop:=x.key.length≤1048576∧True
def ZJN (x:Plan) (a:Int):Int:=offZ a x.key.length fun a=>a
theorem ZNs (c0:Int) (c1:Int) (c2:Int) (c3:Str) (c4:Int) (c5:Int) (c6:Int) (left:Int):EE F 64 [.ag [.u (.int .i64 c0),.u (.int .i64 c1),.u (.int .i64 c2),.u (.str c3),.u (.int .i64 c4),.u (.int .i64 c5),.u (.int .i64 c6)],I left] []=ok1 (I (ZJN ⟨c0,c1,c2,c3,c4,c5,c6⟩ left)):=by
 rw [R64,b64]
 simp only[↓xP,xU,rB,rA,rS]
 repeat' (refine ZiE (fun h=>?_) (fun h=>?_))
 all_goals (simp only[decide_eq_true_eq,decide_eq_false_iff_not] at *; simp [ZJN,offZ,chkZ, *])
theorem ZNr (x:Plan) (hf:Plan.Fit x):LeZ (ZJN x) (Plan.Small x):=LeZ.off hf.2.2.2.1 LeZ.id
theorem ZNv (c0:Int) (c1:Int) (c2:Int) (c3:Str) (c4:Int) (c5:Int) (c6:Int):EE F 70 [.ag [.u (.int .i64 c0),.u (.int .i64 c1),.u (.int .i64 c2),.u (.str c3),.u (.int .i64 c4),.u (.int .i64 c5),.u (.int .i64 c6)]] []=ok1 (.ag [.u (.int .i64 c0),.u (.int .i64 c1),.u (.int .i64 c2),.u (.str c3),.u (.int .i64 c4),.u (.int .i64 c5),.u (.int .i64 c6)]):=by
 rw [R70,b70]
 simp only[↓xP,xU,rB,rA,rS]
theorem ZNc (c0:Int) (c1:Int) (c2:Int) (c3:Str) (c4:Int) (c5:Int) (c6:Int):EE F 23 [.ag [.u (.int .i64 c0),.u (.int .i64 c1),.u (.int .i64 c2),.u (.str c3),.u (.int .i64 c4),.u (.int .i64 c5),.u (.int .i64 c6)],.ag [.u (.int .i64 c0),.u (.int .i64 c1),.u (.int .i64 c2),.u (.str c3),.u (.int .i64 c4),.u (.int .i64 c5),.u (.int .i64 c6)]] []=ok1 (B true):=by
 rw [R23,b23]
 simp only[↓xP,xU,rB,rA,rS,ne_eq,not_true_eq_false]
def Deed.Small (x:Deed):Prop:=Command.Small x.wish∧Event.Small x.inner∧Plan.Small x.work∧True
def Replica.Small (x:Replica):Prop:=Config.Small x.conf∧ZGe x.log∧True
def ZGd (x:Replica) (a:Int):Int:=chkZ (ZGJ x.conf a) fun a=>chkZ (ZGK x.log a) fun a=>a
theorem ZLy (c0:Int) (c1:(List Int)) (c2:Bool) (c3:Bool) (c4:(List Entry)) (hf:Replica.Fit ⟨⟨c0,c1,c2⟩,c3,c4⟩) (left:Int):EE F 284 [.ag [.u (.int .i64 c0),.u (.sl 1 (c1.map iU)),.u (.bool c2),.u (.bool c3),.u (.sl 6 (c4.map Entry.u))],I left] []=ok1 (I (ZGd ⟨⟨c0,c1,c2⟩,c3,c4⟩ left)):=by
 rw [R284,b284]
 simp only[↓xP,xU,rB,rA,rS,ZH1,ZJq c4 hf.2.2]
 repeat' (refine ZiE (fun h=>?_) (fun h=>?_))
 all_goals (simp only[decide_eq_true_eq,decide_eq_false_iff_not] at *; simp [ZGd,offZ,chkZ, *])
theorem ZLx (x:Replica) (hf:Replica.Fit x):LeZ (ZGd x) (Replica.Small x):=LeZ.chk (ZH0 _ hf.1) (LeZ.chk (ZJp _ hf.2.2) LeZ.id)
theorem ZLE (c0:Int) (c1:(List Int)) (c2:Bool) (c3:Bool) (c4:(List Entry)) (hs:Replica.Small ⟨⟨c0,c1,c2⟩,c3,c4⟩):EE F 290 [.ag [.u (.int .i64 c0),.u (.sl 1 (c1.map iU)),.u (.bool c2),.u (.bool c3),.u (.sl 6 (c4.map Entry.u))]] []=some ⟨[.ag [.u (.int .i64 c0),.own (.par 0) c1.length,.u (.bool c2),.u (.bool c3),.own (.par 1) c4.length]],[.row 1 (c1.map iU),.row 6 (c4.map Entry.u)],[]⟩:=by
 rw [R290,b290]
 simp only[↓xP,xU,rB,rA,rS,ZH3 c0 c1 c2 hs.1,ZJr c4 hs.2.1]
theorem ZK8 (c0:Int) (c1:(List Int)) (c2:Bool) (c3:Bool) (c4:(List Entry)) (hs:Replica.Small ⟨⟨c0,c1,c2⟩,c3,c4⟩):EE F 293 [.ag [.u (.int .i64 c0),.u (.sl 1 (c1.map iU)),.u (.bool c2),.u (.bool c3),.u (.sl 6 (c4.map Entry.u))],.ag [.u (.int .i64 c0),.u (.sl 1 (c1.map iU)),.u (.bool c2),.u (.bool c3),.u (.sl 6 (c4.map Entry.u))]] []=ok1 (B true):=by
 rw [R293,b293]
 simp only[↓xP,xU,rB,rA,rS,ZHK c0 c1 c2 hs.1,ZJi c4 hs.2.1,ne_eq,not_true_eq_false]
def ZF1 (l:(List Replica)):Prop:=l.length≤1048576∧∀ y,y∈l→Replica.Small y
def ZGl (l:(List Replica)) (left:Int):Int:=offZ left l.length fun a=>allZ ZGd l a
theorem ZKE (l:(List Replica)) (hf:(l.length≤9223372036854775807∧∀ y,y∈l→Replica.Fit y)) (left:Int):EE F 245 [L 5 (l.map Replica.u),I left] []=ok1 (I (ZGl l left)):=by
 have hl:=hf.1
 rw [R245,b245]
 simp only[↓xP,xU,rB,rA,rS]
 refine ZiE (fun h=>?_) (fun h=>?_)
 ·simp only[decide_eq_true_eq] at h
  simp [ZGl,offZ,h]
 ·refine (Zjc (fun (a:Nat×Int) st=>st.s 0=DU (.sl 5 (l.map Replica.u))∧st.s 5=DI a.1∧st.s 1=DI a.2) (fun a=>l.length - a.1) (fun a=>ok1 (I (allZ ZGd (l.drop a.1) a.2))) ?_ (0,IntKind.i64.wrap (left - l.length)) ⟨by simp only[↓xP,xU,rB,rA,rS],by simp only[↓xP,xU,rB,rA,rS]; rfl,by simp only[↓xP,xU,rB,rA,rS]⟩).trans ?_
  ·rintro ⟨i,a⟩ st ⟨h0,h5,h1⟩ ih
   dsimp only at h0 h5 h1 ih ⊢
   by_cases hi:i<l.length
   ·obtain ⟨⟨⟨c0,c1,c2⟩,c3,c4⟩,hx⟩:∃ x,l[i]?=some x:=⟨_,List.getElem?_eq_getElem hi⟩
    have hw:=w_succ (i:=i) (by omega)
    have hfx:=hf.2 _ (List.mem_of_getElem? hx)
    simp only[↓xP,xU,rB,rA,rS,h0,h5,h1,hi,hx,hw,Replica.u,ZLy c0 c1 c2 c3 c4 hfx]
    rw [ZGY hx,chkZ]
    refine ZiE (fun h=>?_) (fun h=>?_)
    ·simp only[decide_eq_true_eq] at h
     simp [h]
    ·rw [ih (i+1,ZGd ⟨⟨c0,c1,c2⟩,c3,c4⟩ a) _ (by dsimp only; omega) ⟨by simp only[↓xP,xU,rB,rA,rS,h0],by simp only[↓xP,xU,rB,rA,rS],by simp only[↓xP,xU,rB,rA,rS]⟩]
     simp only[decide_eq_false_iff_not] at h
     simp [h]
   ·simp only[↓xP,xU,rB,rA,rS,h0,h5,h1,hi]
    rw [List.drop_of_length_le (by omega)]; rfl
  ·simp only[decide_eq_false_iff_not] at h
   simp [ZGl,offZ,h]
theorem ZKD (l:(List Replica)) (hf:(l.length≤9223372036854775807∧∀ y,y∈l→Replica.Fit y)):LeZ (ZGl l) (ZF1 l):=LeZ.off hf.1 (LeZ.all fun x hx=>ZLx x (hf.2 x hx))
theorem ZKI (l:(List Replica)) (hs:ZF1 l):EE F 254 [L 5 (l.map Replica.u)] []=some ⟨[.sc (.down (.par 0) l.length)],[.deep 5 (l.map Replica.u)],[]⟩:=by
 have hl:=hs.1
 rw [R254,b254]
 simp only[↓xP,xU,rB,rA,rS,ZLf _ 7 l.length [.int .i64 0,.sl 1 [],.bool false,.bool false,.sl 6 []] 72 (by omega) rfl]
 refine (Zjc (fun (i:Nat) st=>i≤l.length∧st.s 0=DU (.sl 5 (l.map Replica.u))∧st.s 4=DI i∧st.s 3=.t (.sc (.down (.loc 7 0) l.length))∧st.o (.loc 7 0)=some (.deep 5 ((l.take i).map Replica.u++List.replicate (l.length - i) [.int .i64 0,.sl 1 [],.bool false,.bool false,.sl 6 []]))) (fun i=>l.length - i) (fun i=>some ⟨[.sc (.down (.par 0) l.length)],[.deep 5 (l.map Replica.u)],[]⟩) ?_ 0 ⟨by omega,by simp only[↓xP,xU,rB,rA,rS],by simp only[↓xP,xU,rB,rA,rS]; rfl,by simp only[↓xP,xU,rB,rA,rS],by simp only[↓xP,xU,rB,rA,rS,Nat.sub_zero]⟩)
 rintro i st ⟨hle,h0,h4,h3,ho⟩ ih
 by_cases hi:i<l.length
 ·obtain ⟨⟨⟨c0,c1,c2⟩,c3,c4⟩,hx⟩:∃ x,l[i]?=some x:=⟨_,List.getElem?_eq_getElem hi⟩
  have hw:=w_succ (i:=i) (by omega)
  have hg:=ZFL (f:=Replica.u) (z:=[.int .i64 0,.sl 1 [],.bool false,.bool false,.sl 6 []]) hi
  have hf:=ZFM (f:=Replica.u) (z:=[.int .i64 0,.sl 1 [],.bool false,.bool false,.sl 6 []]) hx
  simp only[Replica.u] at hf
  have hsx:=hs.2 _ (List.mem_of_getElem? hx)
  simp only[↓xP,xU,rB,rA,rS,h0,h4,h3,ho,hi,hx,hw,hg,hf,Replica.u,ZLE c0 c1 c2 c3 c4 hsx]
  exact ih (i+1) _ (by omega) ⟨by omega,by simp only[↓xP,xU,rB,rA,rS,h0],by simp only[↓xP,xU,rB,rA,rS],by simp only[↓xP,xU,rB,rA,rS,h3],by simp only[↓xP,xU,rB,rA,rS,Replica.u]⟩
 ·have:i=l.length:=by omega
  subst this
  rw [ZFK] at ho
  simp only[↓xP,xU,rB,rA,rS,h0,h4,h3,ho,hi]
theorem ZKp (l:(List Replica)) (hs:ZF1 l):EE F 263 [L 5 (l.map Replica.u),L 5 (l.map Replica.u)] []=ok1 (B true):=by
 have hl:=hs.1
 rw [R263,b263]
 simp only[↓xP,xU,rB,rA,rS,ne_eq,not_true_eq_false]
 refine (Zjc (fun (i:Nat) st=>st.s 0=DU (.sl 5 (l.map Replica.u))∧st.s 1=DU (.sl 5 (l.map Replica.u))∧st.s 5=DI i) (fun i=>l.length - i) (fun i=>ok1 (B true)) ?_ 0 ⟨by simp only[↓xP,xU,rB,rA,rS],by simp only[↓xP,xU,rB,rA,rS],by simp only[↓xP,xU,rB,rA,rS]; rfl⟩)
 rintro i st ⟨h0,h1,h5⟩ ih
 by_cases hi:i<l.length
 ·obtain ⟨⟨⟨c0,c1,c2⟩,c3,c4⟩,hx⟩:∃ x,l[i]?=some x:=⟨_,List.getElem?_eq_getElem hi⟩
  have hw:=w_succ (i:=i) (by omega)
  have hsx:=hs.2 _ (List.mem_of_getElem? hx)
  simp only[↓xP,xU,rB,rA,rS,h0,h1,h5,hi,hx,hw,Replica.u,ZK8 c0 c1 c2 c3 c4 hsx,ne_eq,not_true_eq_false]
  exact ih (i+1) _ (by omega) ⟨by simp only[↓xP,xU,rB,rA,rS,h0],by simp only[↓xP,xU,rB,rA,rS,h1],by simp only[↓xP,xU,rB,rA,rS]⟩
 ·simp only[↓xP,xU,rB,rA,rS,h0,h1,h5,hi]
def Message.Small (x:Message):Prop:=Config.Small x.conf∧ZGe x.log∧True
def ZGc (x:Message) (a:Int):Int:=chkZ (ZGJ x.conf a) fun a=>chkZ (ZGK x.log a) fun a=>a
theorem ZLw (c0:Int) (c1:Int) (c2:Int) (c3:Int) (c4:(List Int)) (c5:Bool) (c6:(List Entry)) (hf:Message.Fit ⟨c0,c1,c2,⟨c3,c4,c5⟩,c6⟩) (left:Int):EE F 285 [.ag [.u (.int .i64 c0),.u (.int .i64 c1),.u (.int .i64 c2),.u (.int .i64 c3),.u (.sl 1 (c4.map iU)),.u (.bool c5),.u (.sl 6 (c6.map Entry.u))],I left] []=ok1 (I (ZGc ⟨c0,c1,c2,⟨c3,c4,c5⟩,c6⟩ left)):=by
 rw [R285,b285]
 simp only[↓xP,xU,rB,rA,rS,ZH1,ZJq c6 hf.2.2.2.2]
 repeat' (refine ZiE (fun h=>?_) (fun h=>?_))
 all_goals (simp only[decide_eq_true_eq,decide_eq_false_iff_not] at *; simp [ZGc,offZ,chkZ, *])
theorem ZLv (x:Message) (hf:Message.Fit x):LeZ (ZGc x) (Message.Small x):=LeZ.chk (ZH0 _ hf.2.2.2.1) (LeZ.chk (ZJp _ hf.2.2.2.2) LeZ.id)
theorem ZLD (c0:Int) (c1:Int) (c2:Int) (c3:Int) (c4:(List Int)) (c5:Bool) (c6:(List Entry)) (hs:Message.Small ⟨c0,c1,c2,⟨c3,c4,c5⟩,c6⟩):EE F 291 [.ag [.u (.int .i64 c0),.u (.int .i64 c1),.u (.int .i64 c2),.u (.int .i64 c3),.u (.sl 1 (c4.map iU)),.u (.bool c5),.u (.sl 6 (c6.map Entry.u))]] []=some ⟨[.ag [.u (.int .i64 c0),.u (.int .i64 c1),.u (.int .i64 c2),.u (.int .i64 c3),.own (.par 0) c4.length,.u (.bool c5),.own (.par 1) c6.length]],[.row 1 (c4.map iU),.row 6 (c6.map Entry.u)],[]⟩:=by
 rw [R291,b291]
 simp only[↓xP,xU,rB,rA,rS,ZH3 c3 c4 c5 hs.1,ZJr c6 hs.2.1]
theorem ZK7 (c0:Int) (c1:Int) (c2:Int) (c3:Int) (c4:(List Int)) (c5:Bool) (c6:(List Entry)) (hs:Message.Small ⟨c0,c1,c2,⟨c3,c4,c5⟩,c6⟩):EE F 294 [.ag [.u (.int .i64 c0),.u (.int .i64 c1),.u (.int .i64 c2),.u (.int .i64 c3),.u (.sl 1 (c4.map iU)),.u (.bool c5),.u (.sl 6 (c6.map Entry.u))],.ag [.u (.int .i64 c0),.u (.int .i64 c1),.u (.int .i64 c2),.u (.int .i64 c3),.u (.sl 1 (c4.map iU)),.u (.bool c5),.u (.sl 6 (c6.map Entry.u))]] []=ok1 (B true):=by
 rw [R294,b294]
 simp only[↓xP,xU,rB,rA,rS,ZHK c3 c4 c5 hs.1,ZJi c6 hs.2.1,ne_eq,not_true_eq_false]
def ZFv (l:(List Message)):Prop:=l.length≤1048576∧∀ y,y∈l→Message.Small y
def ZGk (l:(List Message)) (left:Int):Int:=offZ left l.length fun a=>allZ ZGc l a
theorem ZKC (l:(List Message)) (hf:(l.length≤9223372036854775807∧∀ y,y∈l→Message.Fit y)) (left:Int):EE F 247 [L 7 (l.map Message.u),I left] []=ok1 (I (ZGk l left)):=by
 have hl:=hf.1
 rw [R247,b247]
 simp only[↓xP,xU,rB,rA,rS]
 refine ZiE (fun h=>?_) (fun h=>?_)
 ·simp only[decide_eq_true_eq] at h
  simp [ZGk,offZ,h]
 ·refine (Zjc (fun (a:Nat×Int) st=>st.s 0=DU (.sl 7 (l.map Message.u))∧st.s 5=DI a.1∧st.s 1=DI a.2) (fun a=>l.length - a.1) (fun a=>ok1 (I (allZ ZGc (l.drop a.1) a.2))) ?_ (0,IntKind.i64.wrap (left - l.length)) ⟨by simp only[↓xP,xU,rB,rA,rS],by simp only[↓xP,xU,rB,rA,rS]; rfl,by simp only[↓xP,xU,rB,rA,rS]⟩).trans ?_
  ·rintro ⟨i,a⟩ st ⟨h0,h5,h1⟩ ih
   dsimp only at h0 h5 h1 ih ⊢
   by_cases hi:i<l.length
   ·obtain ⟨⟨c0,c1,c2,⟨c3,c4,c5⟩,c6⟩,hx⟩:∃ x,l[i]?=some x:=⟨_,List.getElem?_eq_getElem hi⟩
    have hw:=w_succ (i:=i) (by omega)
    have hfx:=hf.2 _ (List.mem_of_getElem? hx)
    simp only[↓xP,xU,rB,rA,rS,h0,h5,h1,hi,hx,hw,Message.u,ZLw c0 c1 c2 c3 c4 c5 c6 hfx]
    rw [ZGY hx,chkZ]
    refine ZiE (fun h=>?_) (fun h=>?_)
    ·simp only[decide_eq_true_eq] at h
     simp [h]
    ·rw [ih (i+1,ZGc ⟨c0,c1,c2,⟨c3,c4,c5⟩,c6⟩ a) _ (by dsimp only; omega) ⟨by simp only[↓xP,xU,rB,rA,rS,h0],by simp only[↓xP,xU,rB,rA,rS],by simp only[↓xP,xU,rB,rA,rS]⟩]
     simp only[decide_eq_false_iff_not] at h
     simp [h]
   ·simp only[↓xP,xU,rB,rA,rS,h0,h5,h1,hi]
    rw [List.drop_of_length_le (by omega)]; rfl
  ·simp only[decide_eq_false_iff_not] at h
   simp [ZGk,offZ,h]
theorem ZKB (l:(List Message)) (hf:(l.length≤9223372036854775807∧∀ y,y∈l→Message.Fit y)):LeZ (ZGk l) (ZFv l):=LeZ.off hf.1 (LeZ.all fun x hx=>ZLv x (hf.2 x hx))
theorem ZKH (l:(List Message)) (hs:ZFv l):EE F 256 [L 7 (l.map Message.u)] []=some ⟨[.sc (.down (.par 0) l.length)],[.deep 7 (l.map Message.u)],[]⟩:=by
 have hl:=hs.1
 rw [R256,b256]
 simp only[↓xP,xU,rB,rA,rS,ZLf _ 7 l.length [.int .i64 0,.int .i64 0,.int .i64 0,.int .i64 0,.sl 1 [],.bool false,.sl 6 []] 88 (by omega) rfl]
 refine (Zjc (fun (i:Nat) st=>i≤l.length∧st.s 0=DU (.sl 7 (l.map Message.u))∧st.s 4=DI i∧st.s 3=.t (.sc (.down (.loc 7 0) l.length))∧st.o (.loc 7 0)=some (.deep 7 ((l.take i).map Message.u++List.replicate (l.length - i) [.int .i64 0,.int .i64 0,.int .i64 0,.int .i64 0,.sl 1 [],.bool false,.sl 6 []]))) (fun i=>l.length - i) (fun i=>some ⟨[.sc (.down (.par 0) l.length)],[.deep 7 (l.map Message.u)],[]⟩) ?_ 0 ⟨by omega,by simp only[↓xP,xU,rB,rA,rS],by simp only[↓xP,xU,rB,rA,rS]; rfl,by simp only[↓xP,xU,rB,rA,rS],by simp only[↓xP,xU,rB,rA,rS,Nat.sub_zero]⟩)
 rintro i st ⟨hle,h0,h4,h3,ho⟩ ih
 by_cases hi:i<l.length
 ·obtain ⟨⟨c0,c1,c2,⟨c3,c4,c5⟩,c6⟩,hx⟩:∃ x,l[i]?=some x:=⟨_,List.getElem?_eq_getElem hi⟩
  have hw:=w_succ (i:=i) (by omega)
  have hg:=ZFL (f:=Message.u) (z:=[.int .i64 0,.int .i64 0,.int .i64 0,.int .i64 0,.sl 1 [],.bool false,.sl 6 []]) hi
  have hf:=ZFM (f:=Message.u) (z:=[.int .i64 0,.int .i64 0,.int .i64 0,.int .i64 0,.sl 1 [],.bool false,.sl 6 []]) hx
  simp only[Message.u] at hf
  have hsx:=hs.2 _ (List.mem_of_getElem? hx)
  simp only[↓xP,xU,rB,rA,rS,h0,h4,h3,ho,hi,hx,hw,hg,hf,Message.u,ZLD c0 c1 c2 c3 c4 c5 c6 hsx]
  exact ih (i+1) _ (by omega) ⟨by omega,by simp only[↓xP,xU,rB,rA,rS,h0],by simp only[↓xP,xU,rB,rA,rS],by simp only[↓xP,xU,rB,rA,rS,h3],by simp only[↓xP,xU,rB,rA,rS,Message.u]⟩
 ·have:i=l.length:=by omega
  subst this
  rw [ZFK] at ho
  simp only[↓xP,xU,rB,rA,rS,h0,h4,h3,ho,hi]
theorem ZKo (l:(List Message)) (hs:ZFv l):EE F 265 [L 7 (l.map Message.u),L 7 (l.map Message.u)] []=ok1 (B true):=by
 have hl:=hs.1
 rw [R265,b265]
 simp only[↓xP,xU,rB,rA,rS,ne_eq,not_true_eq_false]
 refine (Zjc (fun (i:Nat) st=>st.s 0=DU (.sl 7 (l.map Message.u))∧st.s 1=DU (.sl 7 (l.map Message.u))∧st.s 5=DI i) (fun i=>l.length - i) (fun i=>ok1 (B true)) ?_ 0 ⟨by simp only[↓xP,xU,rB,rA,rS],by simp only[↓xP,xU,rB,rA,rS],by simp only[↓xP,xU,rB,rA,rS]; rfl⟩)
 rintro i st ⟨h0,h1,h5⟩ ih
 by_cases hi:i<l.length
 ·obtain ⟨⟨c0,c1,c2,⟨c3,c4,c5⟩,c6⟩,hx⟩:∃ x,l[i]?=some x:=⟨_,List.getElem?_eq_getElem hi⟩
  have hw:=w_succ (i:=i) (by omega)
  have hsx:=hs.2 _ (List.mem_of_getElem? hx)
  simp only[↓xP,xU,rB,rA,rS,h0,h1,h5,hi,hx,hw,Message.u,ZK7 c0 c1 c2 c3 c4 c5 c6 hsx,ne_eq,not_true_eq_false]
  exact ih (i+1) _ (by omega) ⟨by simp only[↓xP,xU,rB,rA,rS,h0],by simp only[↓xP,xU,rB,rA,rS,h1],by simp only[↓xP,xU,rB,rA,rS]⟩
 ·simp only[↓xP,xU,rB,rA,rS,h0,h1,h5,hi]
def Chain.Small (x:Chain):Prop:=State.Small x.base∧Config.Small x.conf∧ZF1 x.nodes∧ZG6 x.up∧ZFv x.bag∧ZGm x.answers∧True
def ZHZ (x:Chain) (a:Int):Int:=chkZ (ZH2 x.base a) fun a=>chkZ (ZGJ x.conf a) fun a=>chkZ (ZGl x.nodes a) fun a=>chkZ (ZHY x.up a) fun a=>chkZ (ZGk x.bag a) fun a=>chkZ (ZGH x.answers a) fun a=>a
theorem ZMC (c0:Str) (c1:Str) (c2:(List Pair)) (c3:(List Session)) (c4:Bool) (c5:Str) (c6:Int) (c7:(List Int)) (c8:Bool) (c9:(List Replica)) (c10:(List Bool)) (c11:(List Message)) (c12:(List Answer)) (hf:Chain.Fit ⟨⟨⟨c0,c1⟩,c2,c3,c4,c5⟩,⟨c6,c7,c8⟩,c9,c10,c11,c12⟩) (left:Int):EE F 183 [.ag [.u (.str c0),.u (.str c1),.u (.sl 2 (c2.map Pair.u)),.u (.sl 3 (c3.map Session.u)),.u (.bool c4),.u (.str c5),.u (.int .i64 c6),.u (.sl 1 (c7.map iU)),.u (.bool c8),.u (.sl 5 (c9.map Replica.u)),.u (.sl 1 (c10.map bU)),.u (.sl 7 (c11.map Message.u)),.u (.sl 7 (c12.map Answer.u))],I left] []=ok1 (I (ZHZ ⟨⟨⟨c0,c1⟩,c2,c3,c4,c5⟩,⟨c6,c7,c8⟩,c9,c10,c11,c12⟩ left)):=by
 rw [R183,b183]
 simp only[↓xP,xU,rB,rA,rS,ZMK c0 c1 c2 c3 c4 c5 hf.1,ZH1,ZKE c9 hf.2.2.1,ZMA,ZKC c11 hf.2.2.2.2.1,ZLq c12 hf.2.2.2.2.2]
 repeat' (refine ZiE (fun h=>?_) (fun h=>?_))
 all_goals (simp only[decide_eq_true_eq,decide_eq_false_iff_not] at *; simp [ZHZ,offZ,chkZ, *])
theorem ZMB (x:Chain) (hf:Chain.Fit x):LeZ (ZHZ x) (Chain.Small x):=LeZ.chk (ZMJ _ hf.1) (LeZ.chk (ZH0 _ hf.2.1) (LeZ.chk (ZKD _ hf.2.2.1) (LeZ.chk (ZMz _ hf.2.2.2.1) (LeZ.chk (ZKB _ hf.2.2.2.2.1) (LeZ.chk (ZLp _ hf.2.2.2.2.2) LeZ.id)))))
theorem ZMM (c0:Str) (c1:Str) (c2:(List Pair)) (c3:(List Session)) (c4:Bool) (c5:Str) (c6:Int) (c7:(List Int)) (c8:Bool) (c9:(List Replica)) (c10:(List Bool)) (c11:(List Message)) (c12:(List Answer)) (hs:Chain.Small ⟨⟨⟨c0,c1⟩,c2,c3,c4,c5⟩,⟨c6,c7,c8⟩,c9,c10,c11,c12⟩):EE F 191 [.ag [.u (.str c0),.u (.str c1),.u (.sl 2 (c2.map Pair.u)),.u (.sl 3 (c3.map Session.u)),.u (.bool c4),.u (.str c5),.u (.int .i64 c6),.u (.sl 1 (c7.map iU)),.u (.bool c8),.u (.sl 5 (c9.map Replica.u)),.u (.sl 1 (c10.map bU)),.u (.sl 7 (c11.map Message.u)),.u (.sl 7 (c12.map Answer.u))]] []=some ⟨[.ag [.u (.str c0),.u (.str c1),.own (.par 0) c2.length,.own (.par 1) c3.length,.u (.bool c4),.u (.str c5),.u (.int .i64 c6),.own (.par 2) c7.length,.u (.bool c8),.down (.par 3) c9.length,.own (.par 4) c10.length,.down (.par 5) c11.length,.own (.par 6) c12.length]],[.row 2 (c2.map Pair.u),.row 3 (c3.map Session.u),.row 1 (c7.map iU),.deep 5 (c9.map Replica.u),.row 1 (c10.map bU),.deep 7 (c11.map Message.u),.row 7 (c12.map Answer.u)],[]⟩:=by
 rw [R191,b191]
 simp only[↓xP,xU,rB,rA,rS,ZMQ c0 c1 c2 c3 c4 c5 hs.1,ZH3 c6 c7 c8 hs.2.1,ZKI c9 hs.2.2.1,ZML c10 hs.2.2.2.1,ZKH c11 hs.2.2.2.2.1,ZLB c12 hs.2.2.2.2.2.1]
theorem ZMm (c0:Str) (c1:Str) (c2:(List Pair)) (c3:(List Session)) (c4:Bool) (c5:Str) (c6:Int) (c7:(List Int)) (c8:Bool) (c9:(List Replica)) (c10:(List Bool)) (c11:(List Message)) (c12:(List Answer)) (hs:Chain.Small ⟨⟨⟨c0,c1⟩,c2,c3,c4,c5⟩,⟨c6,c7,c8⟩,c9,c10,c11,c12⟩):EE F 206 [.ag [.u (.str c0),.u (.str c1),.u (.sl 2 (c2.map Pair.u)),.u (.sl 3 (c3.map Session.u)),.u (.bool c4),.u (.str c5),.u (.int .i64 c6),.u (.sl 1 (c7.map iU)),.u (.bool c8),.u (.sl 5 (c9.map Replica.u)),.u (.sl 1 (c10.map bU)),.u (.sl 7 (c11.map Message.u)),.u (.sl 7 (c12.map Answer.u))],.ag [.u (.str c0),.u (.str c1),.u (.sl 2 (c2.map Pair.u)),.u (.sl 3 (c3.map Session.u)),.u (.bool c4),.u (.str c5),.u (.int .i64 c6),.u (.sl 1 (c7.map iU)),.u (.bool c8),.u (.sl 5 (c9.map Replica.u)),.u (.sl 1 (c10.map bU)),.u (.sl 7 (c11.map Message.u)),.u (.sl 7 (c12.map Answer.u))]] []=ok1 (B true):=by
 rw [R206,b206]
 simp only[↓xP,xU,rB,rA,rS,ZMp c0 c1 c2 c3 c4 c5 hs.1,ZHK c6 c7 c8 hs.2.1,ZKp c9 hs.2.2.1,ZMl c10 hs.2.2.2.1,ZKo c11 hs.2.2.2.2.1,ZK5 c12 hs.2.2.2.2.2.1,ne_eq,not_true_eq_false]
def Route.Small (x:Route):Prop:=Interval.Small x.span∧True
def ZHo (x:Route) (a:Int):Int:=chkZ (ZGj x.span a) fun a=>a
theorem ZMG (c0:Int) (c1:Str) (c2:Str) (left:Int):EE F 249 [.ag [.u (.int .i64 c0),.u (.str c1),.u (.str c2)],I left] []=ok1 (I (ZHo ⟨c0,⟨c1,c2⟩⟩ left)):=by
 rw [R249,b249]
 simp only[↓xP,xU,rB,rA,rS,ZIi]
 repeat' (refine ZiE (fun h=>?_) (fun h=>?_))
 all_goals (simp only[decide_eq_true_eq,decide_eq_false_iff_not] at *; simp [ZHo,offZ,chkZ, *])
theorem ZMF (x:Route) (hf:Route.Fit x):LeZ (ZHo x) (Route.Small x):=LeZ.chk (ZIh _ hf.2) LeZ.id
theorem ZMO (c0:Int) (c1:Str) (c2:Str):EE F 258 [.ag [.u (.int .i64 c0),.u (.str c1),.u (.str c2)]] []=ok1 (.ag [.u (.int .i64 c0),.u (.str c1),.u (.str c2)]):=by
 rw [R258,b258]
 simp only[↓xP,xU,rB,rA,rS,ZIj]
theorem ZMn (c0:Int) (c1:Str) (c2:Str):EE F 83 [.ag [.u (.int .i64 c0),.u (.str c1),.u (.str c2)],.ag [.u (.int .i64 c0),.u (.str c1),.u (.str c2)]] []=ok1 (B true):=by
 rw [R83,b83]
 simp only[↓xP,xU,rB,rA,rS,ZId,ne_eq,not_true_eq_false]
def ZGO (l:(List Route)):Prop:=l.length≤1048576∧∀ y,y∈l→Route.Small y
def ZG3 (l:(List Route)) (left:Int):Int:=offZ left l.length fun a=>allZ ZHo l a
theorem ZMb (l:(List Route)) (hf:(l.length≤9223372036854775807∧∀ y,y∈l→Route.Fit y)) (left:Int):EE F 184 [L 3 (l.map Route.u),I left] []=ok1 (I (ZG3 l left)):=by
 have hl:=hf.1
 rw [R184,b184]
 simp only[↓xP,xU,rB,rA,rS]
 refine ZiE (fun h=>?_) (fun h=>?_)
 ·simp only[decide_eq_true_eq] at h
  simp [ZG3,offZ,h]
 ·refine (Zjc (fun (a:Nat×Int) st=>st.s 0=DU (.sl 3 (l.map Route.u))∧st.s 5=DI a.1∧st.s 1=DI a.2) (fun a=>l.length - a.1) (fun a=>ok1 (I (allZ ZHo (l.drop a.1) a.2))) ?_ (0,IntKind.i64.wrap (left - l.length)) ⟨by simp only[↓xP,xU,rB,rA,rS],by simp only[↓xP,xU,rB,rA,rS]; rfl,by simp only[↓xP,xU,rB,rA,rS]⟩).trans ?_
  ·rintro ⟨i,a⟩ st ⟨h0,h5,h1⟩ ih
   dsimp only at h0 h5 h1 ih ⊢
   by_cases hi:i<l.length
   ·obtain ⟨⟨c0,⟨c1,c2⟩⟩,hx⟩:∃ x,l[i]?=some x:=⟨_,List.getElem?_eq_getElem hi⟩
    have hw:=w_succ (i:=i) (by omega)
    have hfx:=hf.2 _ (List.mem_of_getElem? hx)
    simp only[↓xP,xU,rB,rA,rS,h0,h5,h1,hi,hx,hw,Route.u,ZMG]
    rw [ZGY hx,chkZ]
    refine ZiE (fun h=>?_) (fun h=>?_)
    ·simp only[decide_eq_true_eq] at h
     simp [h]
    ·rw [ih (i+1,ZHo ⟨c0,⟨c1,c2⟩⟩ a) _ (by dsimp only; omega) ⟨by simp only[↓xP,xU,rB,rA,rS,h0],by simp only[↓xP,xU,rB,rA,rS],by simp only[↓xP,xU,rB,rA,rS]⟩]
     simp only[decide_eq_false_iff_not] at h
     simp [h]
   ·simp only[↓xP,xU,rB,rA,rS,h0,h5,h1,hi]
    rw [List.drop_of_length_le (by omega)]; rfl
  ·simp only[decide_eq_false_iff_not] at h
   simp [ZG3,offZ,h]
theorem ZMa (l:(List Route)) (hf:(l.length≤9223372036854775807∧∀ y,y∈l→Route.Fit y)):LeZ (ZG3 l) (ZGO l):=LeZ.off hf.1 (LeZ.all fun x hx=>ZMF x (hf.2 x hx))
theorem ZMh (l:(List Route)) (hs:ZGO l):EE F 192 [L 3 (l.map Route.u)] []=some ⟨[.sc (.own (.par 0) l.length)],[.row 3 (l.map Route.u)],[]⟩:=by
 have hl:=hs.1
 rw [R192,b192]
 simp only[↓xP,xU,rB,rA,rS,ZJk _ 7 l.length [.int .i64 0,.str [],.str []] 40 (by omega)]
 refine (Zjc (fun (i:Nat) st=>i≤l.length∧st.s 0=DU (.sl 3 (l.map Route.u))∧st.s 4=DI i∧st.s 3=.t (.sc (.own (.loc 7 0) l.length))∧st.o (.loc 7 0)=some (.row 3 ((l.take i).map Route.u++List.replicate (l.length - i) [.int .i64 0,.str [],.str []]))) (fun i=>l.length - i) (fun i=>some ⟨[.sc (.own (.par 0) l.length)],[.row 3 (l.map Route.u)],[]⟩) ?_ 0 ⟨by omega,by simp only[↓xP,xU,rB,rA,rS],by simp only[↓xP,xU,rB,rA,rS]; rfl,by simp only[↓xP,xU,rB,rA,rS],by simp only[↓xP,xU,rB,rA,rS,Nat.sub_zero]⟩)
 rintro i st ⟨hle,h0,h4,h3,ho⟩ ih
 by_cases hi:i<l.length
 ·obtain ⟨⟨c0,⟨c1,c2⟩⟩,hx⟩:∃ x,l[i]?=some x:=⟨_,List.getElem?_eq_getElem hi⟩
  have hw:=w_succ (i:=i) (by omega)
  have hg:=ZFL (f:=Route.u) (z:=[.int .i64 0,.str [],.str []]) hi
  have hf:=ZFM (f:=Route.u) (z:=[.int .i64 0,.str [],.str []]) hx
  simp only[Route.u] at hf
  simp only[↓xP,xU,rB,rA,rS,h0,h4,h3,ho,hi,hx,hw,hg,hf,Route.u,ZMO]
  exact ih (i+1) _ (by omega) ⟨by omega,by simp only[↓xP,xU,rB,rA,rS,h0],by simp only[↓xP,xU,rB,rA,rS],by simp only[↓xP,xU,rB,rA,rS,h3],by simp only[↓xP,xU,rB,rA,rS,Route.u]⟩
 ·have:i=l.length:=by omega
  subst this
  rw [ZFK] at ho
  simp only[↓xP,xU,rB,rA,rS,h0,h4,h3,ho,hi]
theorem ZLO (l:(List Route)) (hs:ZGO l):EE F 26 [L 3 (l.map Route.u),L 3 (l.map Route.u)] []=ok1 (B true):=by
 have hl:=hs.1
 rw [R26,b26]
 simp only[↓xP,xU,rB,rA,rS,ne_eq,not_true_eq_false]
 refine (Zjc (fun (i:Nat) st=>st.s 0=DU (.sl 3 (l.map Route.u))∧st.s 1=DU (.sl 3 (l.map Route.u))∧st.s 5=DI i) (fun i=>l.length - i) (fun i=>ok1 (B true)) ?_ 0 ⟨by simp only[↓xP,xU,rB,rA,rS],by simp only[↓xP,xU,rB,rA,rS],by simp only[↓xP,xU,rB,rA,rS]; rfl⟩)
 rintro i st ⟨h0,h1,h5⟩ ih
 by_cases hi:i<l.length
 ·obtain ⟨⟨c0,⟨c1,c2⟩⟩,hx⟩:∃ x,l[i]?=some x:=⟨_,List.getElem?_eq_getElem hi⟩
  have hw:=w_succ (i:=i) (by omega)
  simp only[↓xP,xU,rB,rA,rS,h0,h1,h5,hi,hx,hw,Route.u,ZMn,ne_eq,not_true_eq_false]
  exact ih (i+1) _ (by omega) ⟨by simp only[↓xP,xU,rB,rA,rS,h0],by simp only[↓xP,xU,rB,rA,rS,h1],by simp only[↓xP,xU,rB,rA,rS]⟩
 ·simp only[↓xP,xU,rB,rA,rS,h0,h1,h5,hi]
def Caller.Small (x:Caller):Prop:=ZGO x.cache∧Command.Small x.wish∧True
def ZG1 (x:Caller) (a:Int):Int:=chkZ (ZG3 x.cache a) fun a=>chkZ (ZGb x.wish a) fun a=>a
theorem ZL7 (c0:(List Route)) (c1:Int) (c2:Bool) (c3:Int) (c4:Str) (c5:Int) (c6:Int) (c7:Int) (hf:Caller.Fit ⟨c0,c1,c2,⟨c3,c4,c5,c6⟩,c7⟩) (left:Int):EE F 114 [.ag [.u (.sl 3 (c0.map Route.u)),.u (.int .i64 c1),.u (.bool c2),.u (.int .i64 c3),.u (.str c4),.u (.int .i64 c5),.u (.int .i64 c6),.u (.int .i64 c7)],I left] []=ok1 (I (ZG1 ⟨c0,c1,c2,⟨c3,c4,c5,c6⟩,c7⟩ left)):=by
 rw [R114,b114]
 simp only[↓xP,xU,rB,rA,rS,ZMb c0 hf.1,ZHy]
 repeat' (refine ZiE (fun h=>?_) (fun h=>?_))
 all_goals (simp only[decide_eq_true_eq,decide_eq_false_iff_not] at *; simp [ZG1,offZ,chkZ, *])
theorem ZL6 (x:Caller) (hf:Caller.Fit x):LeZ (ZG1 x) (Caller.Small x):=LeZ.chk (ZMa _ hf.1) (LeZ.chk (ZHx _ hf.2.2.2.1) LeZ.id)
theorem ZMf (c0:(List Route)) (c1:Int) (c2:Bool) (c3:Int) (c4:Str) (c5:Int) (c6:Int) (c7:Int) (hs:Caller.Small ⟨c0,c1,c2,⟨c3,c4,c5,c6⟩,c7⟩):EE F 122 [.ag [.u (.sl 3 (c0.map Route.u)),.u (.int .i64 c1),.u (.bool c2),.u (.int .i64 c3),.u (.str c4),.u (.int .i64 c5),.u (.int .i64 c6),.u (.int .i64 c7)]] []=some ⟨[.ag [.own (.par 0) c0.length,.u (.int .i64 c1),.u (.bool c2),.u (.int .i64 c3),.u (.str c4),.u (.int .i64 c5),.u (.int .i64 c6),.u (.int .i64 c7)]],[.row 3 (c0.map Route.u)],[]⟩:=by
 rw [R122,b122]
 simp only[↓xP,xU,rB,rA,rS,ZMh c0 hs.1,ZHA]
theorem ZLM (c0:(List Route)) (c1:Int) (c2:Bool) (c3:Int) (c4:Str) (c5:Int) (c6:Int) (c7:Int) (hs:Caller.Small ⟨c0,c1,c2,⟨c3,c4,c5,c6⟩,c7⟩):EE F 135 [.ag [.u (.sl 3 (c0.map Route.u)),.u (.int .i64 c1),.u (.bool c2),.u (.int .i64 c3),.u (.str c4),.u (.int .i64 c5),.u (.int .i64 c6),.u (.int .i64 c7)],.ag [.u (.sl 3 (c0.map Route.u)),.u (.int .i64 c1),.u (.bool c2),.u (.int .i64 c3),.u (.str c4),.u (.int .i64 c5),.u (.int .i64 c6),.u (.int .i64 c7)]] []=ok1 (B true):=by
 rw [R135,b135]
 simp only[↓xP,xU,rB,rA,rS,ZLO c0 hs.1,ZHq,ne_eq,not_true_eq_false]
def ZGn (l:(List Caller)):Prop:=l.length≤1048576∧∀ y,y∈l→Caller.Small y
def ZGI (l:(List Caller)) (left:Int):Int:=offZ left l.length fun a=>allZ ZG1 l a
theorem ZLs (l:(List Caller)) (hf:(l.length≤9223372036854775807∧∀ y,y∈l→Caller.Fit y)) (left:Int):EE F 62 [L 8 (l.map Caller.u),I left] []=ok1 (I (ZGI l left)):=by
 have hl:=hf.1
 rw [R62,b62]
 simp only[↓xP,xU,rB,rA,rS]
 refine ZiE (fun h=>?_) (fun h=>?_)
 ·simp only[decide_eq_true_eq] at h
  simp [ZGI,offZ,h]
 ·refine (Zjc (fun (a:Nat×Int) st=>st.s 0=DU (.sl 8 (l.map Caller.u))∧st.s 5=DI a.1∧st.s 1=DI a.2) (fun a=>l.length - a.1) (fun a=>ok1 (I (allZ ZG1 (l.drop a.1) a.2))) ?_ (0,IntKind.i64.wrap (left - l.length)) ⟨by simp only[↓xP,xU,rB,rA,rS],by simp only[↓xP,xU,rB,rA,rS]; rfl,by simp only[↓xP,xU,rB,rA,rS]⟩).trans ?_
  ·rintro ⟨i,a⟩ st ⟨h0,h5,h1⟩ ih
   dsimp only at h0 h5 h1 ih ⊢
   by_cases hi:i<l.length
   ·obtain ⟨⟨c0,c1,c2,⟨c3,c4,c5,c6⟩,c7⟩,hx⟩:∃ x,l[i]?=some x:=⟨_,List.getElem?_eq_getElem hi⟩
    have hw:=w_succ (i:=i) (by omega)
    have hfx:=hf.2 _ (List.mem_of_getElem? hx)
    simp only[↓xP,xU,rB,rA,rS,h0,h5,h1,hi,hx,hw,Caller.u,ZL7 c0 c1 c2 c3 c4 c5 c6 c7 hfx]
    rw [ZGY hx,chkZ]
    refine ZiE (fun h=>?_) (fun h=>?_)
    ·simp only[decide_eq_true_eq] at h
     simp [h]
    ·rw [ih (i+1,ZG1 ⟨c0,c1,c2,⟨c3,c4,c5,c6⟩,c7⟩ a) _ (by dsimp only; omega) ⟨by simp only[↓xP,xU,rB,rA,rS,h0],by simp only[↓xP,xU,rB,rA,rS],by simp only[↓xP,xU,rB,rA,rS]⟩]
     simp only[decide_eq_false_iff_not] at h
     simp [h]
   ·simp only[↓xP,xU,rB,rA,rS,h0,h5,h1,hi]
    rw [List.drop_of_length_le (by omega)]; rfl
  ·simp only[decide_eq_false_iff_not] at h
   simp [ZGI,offZ,h]
theorem ZLr (l:(List Caller)) (hf:(l.length≤9223372036854775807∧∀ y,y∈l→Caller.Fit y)):LeZ (ZGI l) (ZGn l):=LeZ.off hf.1 (LeZ.all fun x hx=>ZL6 x (hf.2 x hx))
theorem ZLC (l:(List Caller)) (hs:ZGn l):EE F 68 [L 8 (l.map Caller.u)] []=some ⟨[.sc (.down (.par 0) l.length)],[.deep 8 (l.map Caller.u)],[]⟩:=by
 have hl:=hs.1
 rw [R68,b68]
 simp only[↓xP,xU,rB,rA,rS,ZLf _ 7 l.length [.sl 3 [],.int .i64 0,.bool false,.int .i64 0,.str [],.int .i64 0,.int .i64 0,.int .i64 0] 88 (by omega) rfl]
 refine (Zjc (fun (i:Nat) st=>i≤l.length∧st.s 0=DU (.sl 8 (l.map Caller.u))∧st.s 4=DI i∧st.s 3=.t (.sc (.down (.loc 7 0) l.length))∧st.o (.loc 7 0)=some (.deep 8 ((l.take i).map Caller.u++List.replicate (l.length - i) [.sl 3 [],.int .i64 0,.bool false,.int .i64 0,.str [],.int .i64 0,.int .i64 0,.int .i64 0]))) (fun i=>l.length - i) (fun i=>some ⟨[.sc (.down (.par 0) l.length)],[.deep 8 (l.map Caller.u)],[]⟩) ?_ 0 ⟨by omega,by simp only[↓xP,xU,rB,rA,rS],by simp only[↓xP,xU,rB,rA,rS]; rfl,by simp only[↓xP,xU,rB,rA,rS],by simp only[↓xP,xU,rB,rA,rS,Nat.sub_zero]⟩)
 rintro i st ⟨hle,h0,h4,h3,ho⟩ ih
 by_cases hi:i<l.length
 ·obtain ⟨⟨c0,c1,c2,⟨c3,c4,c5,c6⟩,c7⟩,hx⟩:∃ x,l[i]?=some x:=⟨_,List.getElem?_eq_getElem hi⟩
  have hw:=w_succ (i:=i) (by omega)
  have hg:=ZFL (f:=Caller.u) (z:=[.sl 3 [],.int .i64 0,.bool false,.int .i64 0,.str [],.int .i64 0,.int .i64 0,.int .i64 0]) hi
  have hf:=ZFM (f:=Caller.u) (z:=[.sl 3 [],.int .i64 0,.bool false,.int .i64 0,.str [],.int .i64 0,.int .i64 0,.int .i64 0]) hx
  simp only[Caller.u] at hf
  have hsx:=hs.2 _ (List.mem_of_getElem? hx)
  simp only[↓xP,xU,rB,rA,rS,h0,h4,h3,ho,hi,hx,hw,hg,hf,Caller.u,ZMf c0 c1 c2 c3 c4 c5 c6 c7 hsx]
  exact ih (i+1) _ (by omega) ⟨by omega,by simp only[↓xP,xU,rB,rA,rS,h0],by simp only[↓xP,xU,rB,rA,rS],by simp only[↓xP,xU,rB,rA,rS,h3],by simp only[↓xP,xU,rB,rA,rS,Caller.u]⟩
 ·have:i=l.length:=by omega
  subst this
  rw [ZFK] at ho
  simp only[↓xP,xU,rB,rA,rS,h0,h4,h3,ho,hi]
theorem ZK6 (l:(List Caller)) (hs:ZGn l):EE F 74 [L 8 (l.map Caller.u),L 8 (l.map Caller.u)] []=ok1 (B true):=by
 have hl:=hs.1
 rw [R74,b74]
 simp only[↓xP,xU,rB,rA,rS,ne_eq,not_true_eq_false]
 refine (Zjc (fun (i:Nat) st=>st.s 0=DU (.sl 8 (l.map Caller.u))∧st.s 1=DU (.sl 8 (l.map Caller.u))∧st.s 5=DI i) (fun i=>l.length - i) (fun i=>ok1 (B true)) ?_ 0 ⟨by simp only[↓xP,xU,rB,rA,rS],by simp only[↓xP,xU,rB,rA,rS],by simp only[↓xP,xU,rB,rA,rS]; rfl⟩)
 rintro i st ⟨h0,h1,h5⟩ ih
 by_cases hi:i<l.length
 ·obtain ⟨⟨c0,c1,c2,⟨c3,c4,c5,c6⟩,c7⟩,hx⟩:∃ x,l[i]?=some x:=⟨_,List.getElem?_eq_getElem hi⟩
  have hw:=w_succ (i:=i) (by omega)
  have hsx:=hs.2 _ (List.mem_of_getElem? hx)
  simp only[↓xP,xU,rB,rA,rS,h0,h1,h5,hi,hx,hw,Caller.u,ZLM c0 c1 c2 c3 c4 c5 c6 c7 hsx,ne_eq,not_true_eq_false]
  exact ih (i+1) _ (by omega) ⟨by simp only[↓xP,xU,rB,rA,rS,h0],by simp only[↓xP,xU,rB,rA,rS,h1],by simp only[↓xP,xU,rB,rA,rS]⟩
 ·simp only[↓xP,xU,rB,rA,rS,h0,h1,h5,hi]
def Result.Small (x:Result):Prop:=Command.Small x.wish∧True
def ZG2 (x:Result) (a:Int):Int:=chkZ (ZGb x.wish a) fun a=>a
theorem ZL9 (c0:Int) (c1:Int) (c2:Int) (c3:Str) (c4:Int) (c5:Int) (c6:Int) (c7:Int) (c8:Int) (left:Int):EE F 115 [.ag [.u (.int .i64 c0),.u (.int .i64 c1),.u (.int .i64 c2),.u (.str c3),.u (.int .i64 c4),.u (.int .i64 c5),.u (.int .i64 c6),.u (.int .i64 c7),.u (.int .i64 c8)],I left] []=ok1 (I (ZG2 ⟨c0,c1,⟨c2,c3,c4,c5⟩,c6,c7,c8⟩ left)):=by
 rw [R115,b115]
 simp only[↓xP,xU,rB,rA,rS,ZHy]
 repeat' (refine ZiE (fun h=>?_) (fun h=>?_))
 all_goals (simp only[decide_eq_true_eq,decide_eq_false_iff_not] at *; simp [ZG2,offZ,chkZ, *])
theorem ZL8 (x:Result) (hf:Result.Fit x):LeZ (ZG2 x) (Result.Small x):=LeZ.chk (ZHx _ hf.2.2.1) LeZ.id
theorem ZMg (c0:Int) (c1:Int) (c2:Int) (c3:Str) (c4:Int) (c5:Int) (c6:Int) (c7:Int) (c8:Int):EE F 123 [.ag [.u (.int .i64 c0),.u (.int .i64 c1),.u (.int .i64 c2),.u (.str c3),.u (.int .i64 c4),.u (.int .i64 c5),.u (.int .i64 c6),.u (.int .i64 c7),.u (.int .i64 c8)]] []=ok1 (.ag [.u (.int .i64 c0),.u (.int .i64 c1),.u (.int .i64 c2),.u (.str c3),.u (.int .i64 c4),.u (.int .i64 c5),.u (.int .i64 c6),.u (.int .i64 c7),.u (.int .i64 c8)]):=by
 rw [R123,b123]
 simp only[↓xP,xU,rB,rA,rS,ZHA]
theorem ZLN (c0:Int) (c1:Int) (c2:Int) (c3:Str) (c4:Int) (c5:Int) (c6:Int) (c7:Int) (c8:Int):EE F 136 [.ag [.u (.int .i64 c0),.u (.int .i64 c1),.u (.int .i64 c2),.u (.str c3),.u (.int .i64 c4),.u (.int .i64 c5),.u (.int .i64 c6),.u (.int .i64 c7),.u (.int .i64 c8)],.ag [.u (.int .i64 c0),.u (.int .i64 c1),.u (.int .i64 c2),.u (.str c3),.u (.int .i64 c4),.u (.int .i64 c5),.u (.int .i64 c6),.u (.int .i64 c7),.u (.int .i64 c8)]] []=ok1 (B true):=by
 rw [R136,b136]
 simp only[↓xP,xU,rB,rA,rS,ZHq,ne_eq,not_true_eq_false]
def ZGo (l:(List Result)):Prop:=l.length≤1048576∧∀ y,y∈l→Result.Small y
def ZGL (l:(List Result)) (left:Int):Int:=offZ left l.length fun a=>allZ ZG2 l a
theorem ZLA (l:(List Result)) (hf:(l.length≤9223372036854775807∧∀ y,y∈l→Result.Fit y)) (left:Int):EE F 63 [L 9 (l.map Result.u),I left] []=ok1 (I (ZGL l left)):=by
 have hl:=hf.1
 rw [R63,b63]
 simp only[↓xP,xU,rB,rA,rS]
 refine ZiE (fun h=>?_) (fun h=>?_)
 ·simp only[decide_eq_true_eq] at h
  simp [ZGL,offZ,h]
 ·refine (Zjc (fun (a:Nat×Int) st=>st.s 0=DU (.sl 9 (l.map Result.u))∧st.s 5=DI a.1∧st.s 1=DI a.2) (fun a=>l.length - a.1) (fun a=>ok1 (I (allZ ZG2 (l.drop a.1) a.2))) ?_ (0,IntKind.i64.wrap (left - l.length)) ⟨by simp only[↓xP,xU,rB,rA,rS],by simp only[↓xP,xU,rB,rA,rS]; rfl,by simp only[↓xP,xU,rB,rA,rS]⟩).trans ?_
  ·rintro ⟨i,a⟩ st ⟨h0,h5,h1⟩ ih
   dsimp only at h0 h5 h1 ih ⊢
   by_cases hi:i<l.length
   ·obtain ⟨⟨c0,c1,⟨c2,c3,c4,c5⟩,c6,c7,c8⟩,hx⟩:∃ x,l[i]?=some x:=⟨_,List.getElem?_eq_getElem hi⟩
    have hw:=w_succ (i:=i) (by omega)
    have hfx:=hf.2 _ (List.mem_of_getElem? hx)
    simp only[↓xP,xU,rB,rA,rS,h0,h5,h1,hi,hx,hw,Result.u,ZL9]
    rw [ZGY hx,chkZ]
    refine ZiE (fun h=>?_) (fun h=>?_)
    ·simp only[decide_eq_true_eq] at h
     simp [h]
    ·rw [ih (i+1,ZG2 ⟨c0,c1,⟨c2,c3,c4,c5⟩,c6,c7,c8⟩ a) _ (by dsimp only; omega) ⟨by simp only[↓xP,xU,rB,rA,rS,h0],by simp only[↓xP,xU,rB,rA,rS],by simp only[↓xP,xU,rB,rA,rS]⟩]
     simp only[decide_eq_false_iff_not] at h
     simp [h]
   ·simp only[↓xP,xU,rB,rA,rS,h0,h5,h1,hi]
    rw [List.drop_of_length_le (by omega)]; rfl
  ·simp only[decide_eq_false_iff_not] at h
   simp [ZGL,offZ,h]
theorem ZLz (l:(List Result)) (hf:(l.length≤9223372036854775807∧∀ y,y∈l→Result.Fit y)):LeZ (ZGL l) (ZGo l):=LeZ.off hf.1 (LeZ.all fun x hx=>ZL8 x (hf.2 x hx))
theorem ZLF (l:(List Result)) (hs:ZGo l):EE F 69 [L 9 (l.map Result.u)] []=some ⟨[.sc (.own (.par 0) l.length)],[.row 9 (l.map Result.u)],[]⟩:=by
 have hl:=hs.1
 rw [R69,b69]
 simp only[↓xP,xU,rB,rA,rS,ZJk _ 7 l.length [.int .i64 0,.int .i64 0,.int .i64 0,.str [],.int .i64 0,.int .i64 0,.int .i64 0,.int .i64 0,.int .i64 0] 80 (by omega)]
 refine (Zjc (fun (i:Nat) st=>i≤l.length∧st.s 0=DU (.sl 9 (l.map Result.u))∧st.s 4=DI i∧st.s 3=.t (.sc (.own (.loc 7 0) l.length))∧st.o (.loc 7 0)=some (.row 9 ((l.take i).map Result.u++List.replicate (l.length - i) [.int .i64 0,.int .i64 0,.int .i64 0,.str [],.int .i64 0,.int .i64 0,.int .i64 0,.int .i64 0,.int .i64 0]))) (fun i=>l.length - i) (fun i=>some ⟨[.sc (.own (.par 0) l.length)],[.row 9 (l.map Result.u)],[]⟩) ?_ 0 ⟨by omega,by simp only[↓xP,xU,rB,rA,rS],by simp only[↓xP,xU,rB,rA,rS]; rfl,by simp only[↓xP,xU,rB,rA,rS],by simp only[↓xP,xU,rB,rA,rS,Nat.sub_zero]⟩)
 rintro i st ⟨hle,h0,h4,h3,ho⟩ ih
 by_cases hi:i<l.length
 ·obtain ⟨⟨c0,c1,⟨c2,c3,c4,c5⟩,c6,c7,c8⟩,hx⟩:∃ x,l[i]?=some x:=⟨_,List.getElem?_eq_getElem hi⟩
  have hw:=w_succ (i:=i) (by omega)
  have hg:=ZFL (f:=Result.u) (z:=[.int .i64 0,.int .i64 0,.int .i64 0,.str [],.int .i64 0,.int .i64 0,.int .i64 0,.int .i64 0,.int .i64 0]) hi
  have hf:=ZFM (f:=Result.u) (z:=[.int .i64 0,.int .i64 0,.int .i64 0,.str [],.int .i64 0,.int .i64 0,.int .i64 0,.int .i64 0,.int .i64 0]) hx
  simp only[Result.u] at hf
  simp only[↓xP,xU,rB,rA,rS,h0,h4,h3,ho,hi,hx,hw,hg,hf,Result.u,ZMg]
  exact ih (i+1) _ (by omega) ⟨by omega,by simp only[↓xP,xU,rB,rA,rS,h0],by simp only[↓xP,xU,rB,rA,rS],by simp only[↓xP,xU,rB,rA,rS,h3],by simp only[↓xP,xU,rB,rA,rS,Result.u]⟩
 ·have:i=l.length:=by omega
  subst this
  rw [ZFK] at ho
  simp only[↓xP,xU,rB,rA,rS,h0,h4,h3,ho,hi]
theorem ZK9 (l:(List Result)) (hs:ZGo l):EE F 75 [L 9 (l.map Result.u),L 9 (l.map Result.u)] []=ok1 (B true):=by
 have hl:=hs.1
 rw [R75,b75]
 simp only[↓xP,xU,rB,rA,rS,ne_eq,not_true_eq_false]
 refine (Zjc (fun (i:Nat) st=>st.s 0=DU (.sl 9 (l.map Result.u))∧st.s 1=DU (.sl 9 (l.map Result.u))∧st.s 5=DI i) (fun i=>l.length - i) (fun i=>ok1 (B true)) ?_ 0 ⟨by simp only[↓xP,xU,rB,rA,rS],by simp only[↓xP,xU,rB,rA,rS],by simp only[↓xP,xU,rB,rA,rS]; rfl⟩)
 rintro i st ⟨h0,h1,h5⟩ ih
 by_cases hi:i<l.length
 ·obtain ⟨⟨c0,c1,⟨c2,c3,c4,c5⟩,c6,c7,c8⟩,hx⟩:∃ x,l[i]?=some x:=⟨_,List.getElem?_eq_getElem hi⟩
  have hw:=w_succ (i:=i) (by omega)
  simp only[↓xP,xU,rB,rA,rS,h0,h1,h5,hi,hx,hw,Result.u,ZLN,ne_eq,not_true_eq_false]
  exact ih (i+1) _ (by omega) ⟨by simp only[↓xP,xU,rB,rA,rS,h0],by simp only[↓xP,xU,rB,rA,rS,h1],by simp only[↓xP,xU,rB,rA,rS]⟩
 ·simp only[↓xP,xU,rB,rA,rS,h0,h1,h5,hi]
def Shard.Small (x:Shard):Prop:=Chain.Small x.group∧True
def ZHp (x:Shard) (a:Int):Int:=chkZ (ZHZ x.group a) fun a=>a
theorem ZMI (c0:Bool) (c1:Str) (c2:Str) (c3:(List Pair)) (c4:(List Session)) (c5:Bool) (c6:Str) (c7:Int) (c8:(List Int)) (c9:Bool) (c10:(List Replica)) (c11:(List Bool)) (c12:(List Message)) (c13:(List Answer)) (hf:Shard.Fit ⟨c0,⟨⟨⟨c1,c2⟩,c3,c4,c5,c6⟩,⟨c7,c8,c9⟩,c10,c11,c12,c13⟩⟩) (left:Int):EE F 113 [.ag [.u (.bool c0),.u (.str c1),.u (.str c2),.u (.sl 2 (c3.map Pair.u)),.u (.sl 3 (c4.map Session.u)),.u (.bool c5),.u (.str c6),.u (.int .i64 c7),.u (.sl 1 (c8.map iU)),.u (.bool c9),.u (.sl 5 (c10.map Replica.u)),.u (.sl 1 (c11.map bU)),.u (.sl 7 (c12.map Message.u)),.u (.sl 7 (c13.map Answer.u))],I left] []=ok1 (I (ZHp ⟨c0,⟨⟨⟨c1,c2⟩,c3,c4,c5,c6⟩,⟨c7,c8,c9⟩,c10,c11,c12,c13⟩⟩ left)):=by
 rw [R113,b113]
 simp only[↓xP,xU,rB,rA,rS,ZMC c1 c2 c3 c4 c5 c6 c7 c8 c9 c10 c11 c12 c13 hf.2]
 repeat' (refine ZiE (fun h=>?_) (fun h=>?_))
 all_goals (simp only[decide_eq_true_eq,decide_eq_false_iff_not] at *; simp [ZHp,offZ,chkZ, *])
theorem ZMH (x:Shard) (hf:Shard.Fit x):LeZ (ZHp x) (Shard.Small x):=LeZ.chk (ZMB _ hf.2) LeZ.id
theorem ZMP (c0:Bool) (c1:Str) (c2:Str) (c3:(List Pair)) (c4:(List Session)) (c5:Bool) (c6:Str) (c7:Int) (c8:(List Int)) (c9:Bool) (c10:(List Replica)) (c11:(List Bool)) (c12:(List Message)) (c13:(List Answer)) (hs:Shard.Small ⟨c0,⟨⟨⟨c1,c2⟩,c3,c4,c5,c6⟩,⟨c7,c8,c9⟩,c10,c11,c12,c13⟩⟩):EE F 121 [.ag [.u (.bool c0),.u (.str c1),.u (.str c2),.u (.sl 2 (c3.map Pair.u)),.u (.sl 3 (c4.map Session.u)),.u (.bool c5),.u (.str c6),.u (.int .i64 c7),.u (.sl 1 (c8.map iU)),.u (.bool c9),.u (.sl 5 (c10.map Replica.u)),.u (.sl 1 (c11.map bU)),.u (.sl 7 (c12.map Message.u)),.u (.sl 7 (c13.map Answer.u))]] []=some ⟨[.ag [.u (.bool c0),.u (.str c1),.u (.str c2),.own (.par 0) c3.length,.own (.par 1) c4.length,.u (.bool c5),.u (.str c6),.u (.int .i64 c7),.own (.par 2) c8.length,.u (.bool c9),.down (.par 3) c10.length,.own (.par 4) c11.length,.down (.par 5) c12.length,.own (.par 6) c13.length]],[.row 2 (c3.map Pair.u),.row 3 (c4.map Session.u),.row 1 (c8.map iU),.deep 5 (c10.map Replica.u),.row 1 (c11.map bU),.deep 7 (c12.map Message.u),.row 7 (c13.map Answer.u)],[]⟩:=by
 rw [R121,b121]
 simp only[↓xP,xU,rB,rA,rS,ZMM c1 c2 c3 c4 c5 c6 c7 c8 c9 c10 c11 c12 c13 hs.1]
theorem ZMo (c0:Bool) (c1:Str) (c2:Str) (c3:(List Pair)) (c4:(List Session)) (c5:Bool) (c6:Str) (c7:Int) (c8:(List Int)) (c9:Bool) (c10:(List Replica)) (c11:(List Bool)) (c12:(List Message)) (c13:(List Answer)) (hs:Shard.Small ⟨c0,⟨⟨⟨c1,c2⟩,c3,c4,c5,c6⟩,⟨c7,c8,c9⟩,c10,c11,c12,c13⟩⟩):EE F 134 [.ag [.u (.bool c0),.u (.str c1),.u (.str c2),.u (.sl 2 (c3.map Pair.u)),.u (.sl 3 (c4.map Session.u)),.u (.bool c5),.u (.str c6),.u (.int .i64 c7),.u (.sl 1 (c8.map iU)),.u (.bool c9),.u (.sl 5 (c10.map Replica.u)),.u (.sl 1 (c11.map bU)),.u (.sl 7 (c12.map Message.u)),.u (.sl 7 (c13.map Answer.u))],.ag [.u (.bool c0),.u (.str c1),.u (.str c2),.u (.sl 2 (c3.map Pair.u)),.u (.sl 3 (c4.map Session.u)),.u (.bool c5),.u (.str c6),.u (.int .i64 c7),.u (.sl 1 (c8.map iU)),.u (.bool c9),.u (.sl 5 (c10.map Replica.u)),.u (.sl 1 (c11.map bU)),.u (.sl 7 (c12.map Message.u)),.u (.sl 7 (c13.map Answer.u))]] []=ok1 (B true):=by
 rw [R134,b134]
 simp only[↓xP,xU,rB,rA,rS,ZMm c1 c2 c3 c4 c5 c6 c7 c8 c9 c10 c11 c12 c13 hs.1,ne_eq,not_true_eq_false]
def ZGP (l:(List Shard)):Prop:=l.length≤1048576∧∀ y,y∈l→Shard.Small y
def ZG4 (l:(List Shard)) (left:Int):Int:=offZ left l.length fun a=>allZ ZHp l a
theorem ZMd (l:(List Shard)) (hf:(l.length≤9223372036854775807∧∀ y,y∈l→Shard.Fit y)) (left:Int):EE F 61 [L 14 (l.map Shard.u),I left] []=ok1 (I (ZG4 l left)):=by
 have hl:=hf.1
 rw [R61,b61]
 simp only[↓xP,xU,rB,rA,rS]
 refine ZiE (fun h=>?_) (fun h=>?_)
 ·simp only[decide_eq_true_eq] at h
  simp [ZG4,offZ,h]
 ·refine (Zjc (fun (a:Nat×Int) st=>st.s 0=DU (.sl 14 (l.map Shard.u))∧st.s 5=DI a.1∧st.s 1=DI a.2) (fun a=>l.length - a.1) (fun a=>ok1 (I (allZ ZHp (l.drop a.1) a.2))) ?_ (0,IntKind.i64.wrap (left - l.length)) ⟨by simp only[↓xP,xU,rB,rA,rS],by simp only[↓xP,xU,rB,rA,rS]; rfl,by simp only[↓xP,xU,rB,rA,rS]⟩).trans ?_
  ·rintro ⟨i,a⟩ st ⟨h0,h5,h1⟩ ih
   dsimp only at h0 h5 h1 ih ⊢
   by_cases hi:i<l.length
   ·obtain ⟨⟨c0,⟨⟨⟨c1,c2⟩,c3,c4,c5,c6⟩,⟨c7,c8,c9⟩,c10,c11,c12,c13⟩⟩,hx⟩:∃ x,l[i]?=some x:=⟨_,List.getElem?_eq_getElem hi⟩
    have hw:=w_succ (i:=i) (by omega)
    have hfx:=hf.2 _ (List.mem_of_getElem? hx)
    simp only[↓xP,xU,rB,rA,rS,h0,h5,h1,hi,hx,hw,Shard.u,ZMI c0 c1 c2 c3 c4 c5 c6 c7 c8 c9 c10 c11 c12 c13 hfx]
    rw [ZGY hx,chkZ]
    refine ZiE (fun h=>?_) (fun h=>?_)
    ·simp only[decide_eq_true_eq] at h
     simp [h]
    ·rw [ih (i+1,ZHp ⟨c0,⟨⟨⟨c1,c2⟩,c3,c4,c5,c6⟩,⟨c7,c8,c9⟩,c10,c11,c12,c13⟩⟩ a) _ (by dsimp only; omega) ⟨by simp only[↓xP,xU,rB,rA,rS,h0],by simp only[↓xP,xU,rB,rA,rS],by simp only[↓xP,xU,rB,rA,rS]⟩]
     simp only[decide_eq_false_iff_not] at h
     simp [h]
   ·simp only[↓xP,xU,rB,rA,rS,h0,h5,h1,hi]
    rw [List.drop_of_length_le (by omega)]; rfl
  ·simp only[decide_eq_false_iff_not] at h
   simp [ZG4,offZ,h]
theorem ZMc (l:(List Shard)) (hf:(l.length≤9223372036854775807∧∀ y,y∈l→Shard.Fit y)):LeZ (ZG4 l) (ZGP l):=LeZ.off hf.1 (LeZ.all fun x hx=>ZMH x (hf.2 x hx))
theorem ZMi (l:(List Shard)) (hs:ZGP l):EE F 67 [L 14 (l.map Shard.u)] []=some ⟨[.sc (.down (.par 0) l.length)],[.deep 14 (l.map Shard.u)],[]⟩:=by
 have hl:=hs.1
 rw [R67,b67]
 simp only[↓xP,xU,rB,rA,rS,ZLf _ 7 l.length [.bool false,.str [],.str [],.sl 2 [],.sl 3 [],.bool false,.str [],.int .i64 0,.sl 1 [],.bool false,.sl 5 [],.sl 1 [],.sl 7 [],.sl 7 []] 248 (by omega) rfl]
 refine (Zjc (fun (i:Nat) st=>i≤l.length∧st.s 0=DU (.sl 14 (l.map Shard.u))∧st.s 4=DI i∧st.s 3=.t (.sc (.down (.loc 7 0) l.length))∧st.o (.loc 7 0)=some (.deep 14 ((l.take i).map Shard.u++List.replicate (l.length - i) [.bool false,.str [],.str [],.sl 2 [],.sl 3 [],.bool false,.str [],.int .i64 0,.sl 1 [],.bool false,.sl 5 [],.sl 1 [],.sl 7 [],.sl 7 []]))) (fun i=>l.length - i) (fun i=>some ⟨[.sc (.down (.par 0) l.length)],[.deep 14 (l.map Shard.u)],[]⟩) ?_ 0 ⟨by omega,by simp only[↓xP,xU,rB,rA,rS],by simp only[↓xP,xU,rB,rA,rS]; rfl,by simp only[↓xP,xU,rB,rA,rS],by simp only[↓xP,xU,rB,rA,rS,Nat.sub_zero]⟩)
 rintro i st ⟨hle,h0,h4,h3,ho⟩ ih
 by_cases hi:i<l.length
 ·obtain ⟨⟨c0,⟨⟨⟨c1,c2⟩,c3,c4,c5,c6⟩,⟨c7,c8,c9⟩,c10,c11,c12,c13⟩⟩,hx⟩:∃ x,l[i]?=some x:=⟨_,List.getElem?_eq_getElem hi⟩
  have hw:=w_succ (i:=i) (by omega)
  have hg:=ZFL (f:=Shard.u) (z:=[.bool false,.str [],.str [],.sl 2 [],.sl 3 [],.bool false,.str [],.int .i64 0,.sl 1 [],.bool false,.sl 5 [],.sl 1 [],.sl 7 [],.sl 7 []]) hi
  have hf:=ZFM (f:=Shard.u) (z:=[.bool false,.str [],.str [],.sl 2 [],.sl 3 [],.bool false,.str [],.int .i64 0,.sl 1 [],.bool false,.sl 5 [],.sl 1 [],.sl 7 [],.sl 7 []]) hx
  simp only[Shard.u] at hf
  have hsx:=hs.2 _ (List.mem_of_getElem? hx)
  simp only[↓xP,xU,rB,rA,rS,h0,h4,h3,ho,hi,hx,hw,hg,hf,Shard.u,ZMP c0 c1 c2 c3 c4 c5 c6 c7 c8 c9 c10 c11 c12 c13 hsx]
  exact ih (i+1) _ (by omega) ⟨by omega,by simp only[↓xP,xU,rB,rA,rS,h0],by simp only[↓xP,xU,rB,rA,rS],by simp only[↓xP,xU,rB,rA,rS,h3],by simp only[↓xP,xU,rB,rA,rS,Shard.u]⟩
 ·have:i=l.length:=by omega
  subst this
  rw [ZFK] at ho
  simp only[↓xP,xU,rB,rA,rS,h0,h4,h3,ho,hi]
theorem ZLP (l:(List Shard)) (hs:ZGP l):EE F 73 [L 14 (l.map Shard.u),L 14 (l.map Shard.u)] []=ok1 (B true):=by
 have hl:=hs.1
 rw [R73,b73]
 simp only[↓xP,xU,rB,rA,rS,ne_eq,not_true_eq_false]
 refine (Zjc (fun (i:Nat) st=>st.s 0=DU (.sl 14 (l.map Shard.u))∧st.s 1=DU (.sl 14 (l.map Shard.u))∧st.s 5=DI i) (fun i=>l.length - i) (fun i=>ok1 (B true)) ?_ 0 ⟨by simp only[↓xP,xU,rB,rA,rS],by simp only[↓xP,xU,rB,rA,rS],by simp only[↓xP,xU,rB,rA,rS]; rfl⟩)
 rintro i st ⟨h0,h1,h5⟩ ih
 by_cases hi:i<l.length
 ·obtain ⟨⟨c0,⟨⟨⟨c1,c2⟩,c3,c4,c5,c6⟩,⟨c7,c8,c9⟩,c10,c11,c12,c13⟩⟩,hx⟩:∃ x,l[i]?=some x:=⟨_,List.getElem?_eq_getElem hi⟩
  have hw:=w_succ (i:=i) (by omega)
  have hsx:=hs.2 _ (List.mem_of_getElem? hx)
  simp only[↓xP,xU,rB,rA,rS,h0,h1,h5,hi,hx,hw,Shard.u,ZMo c0 c1 c2 c3 c4 c5 c6 c7 c8 c9 c10 c11 c12 c13 hsx,ne_eq,not_true_eq_false]
  exact ih (i+1) _ (by omega) ⟨by simp only[↓xP,xU,rB,rA,rS,h0],by simp only[↓xP,xU,rB,rA,rS,h1],by simp only[↓xP,xU,rB,rA,rS]⟩
 ·simp only[↓xP,xU,rB,rA,rS,h0,h1,h5,hi]
def Cluster.Small (x:Cluster):Prop:=ZGP x.shards∧ZGn x.clients∧ZGo x.results∧Plan.Small x.work∧True
def ZHw (x:Cluster) (a:Int):Int:=chkZ (ZG4 x.shards a) fun a=>chkZ (ZGI x.clients a) fun a=>chkZ (ZGL x.results a) fun a=>chkZ (ZJN x.work a) fun a=>a
theorem ZLu (c0:(List Shard)) (c1:(List Caller)) (c2:(List Result)) (c3:Int) (c4:Int) (c5:Int) (c6:Str) (c7:Int) (c8:Int) (c9:Int) (c10:Int) (c11:Int) (hf:Cluster.Fit ⟨c0,c1,c2,⟨c3,c4,c5,c6,c7,c8,c9⟩,c10,c11⟩) (left:Int):EE F 14 [.ag [.u (.sl 14 (c0.map Shard.u)),.u (.sl 8 (c1.map Caller.u)),.u (.sl 9 (c2.map Result.u)),.u (.int .i64 c3),.u (.int .i64 c4),.u (.int .i64 c5),.u (.str c6),.u (.int .i64 c7),.u (.int .i64 c8),.u (.int .i64 c9),.u (.int .i64 c10),.u (.int .i64 c11)],I left] []=ok1 (I (ZHw ⟨c0,c1,c2,⟨c3,c4,c5,c6,c7,c8,c9⟩,c10,c11⟩ left)):=by
 rw [R14,b14]
 simp only[↓xP,xU,rB,rA,rS,ZMd c0 hf.1,ZLs c1 hf.2.1,ZLA c2 hf.2.2.1,ZNs]
 repeat' (refine ZiE (fun h=>?_) (fun h=>?_))
 all_goals (simp only[decide_eq_true_eq,decide_eq_false_iff_not] at *; simp [ZHw,offZ,chkZ, *])
theorem ZLt (x:Cluster) (hf:Cluster.Fit x):LeZ (ZHw x) (Cluster.Small x):=LeZ.chk (ZMc _ hf.1) (LeZ.chk (ZLr _ hf.2.1) (LeZ.chk (ZLz _ hf.2.2.1) (LeZ.chk (ZNr _ hf.2.2.2.1) LeZ.id)))
theorem ZIY (c0:(List Shard)) (c1:(List Caller)) (c2:(List Result)) (c3:Int) (c4:Int) (c5:Int) (c6:Str) (c7:Int) (c8:Int) (c9:Int) (c10:Int) (c11:Int) (hs:Cluster.Small ⟨c0,c1,c2,⟨c3,c4,c5,c6,c7,c8,c9⟩,c10,c11⟩):EE F 16 [.ag [.u (.sl 14 (c0.map Shard.u)),.u (.sl 8 (c1.map Caller.u)),.u (.sl 9 (c2.map Result.u)),.u (.int .i64 c3),.u (.int .i64 c4),.u (.int .i64 c5),.u (.str c6),.u (.int .i64 c7),.u (.int .i64 c8),.u (.int .i64 c9),.u (.int .i64 c10),.u (.int .i64 c11)]] []=some ⟨[.ag [.down (.par 0) c0.length,.down (.par 1) c1.length,.own (.par 2) c2.length,.u (.int .i64 c3),.u (.int .i64 c4),.u (.int .i64 c5),.u (.str c6),.u (.int .i64 c7),.u (.int .i64 c8),.u (.int .i64 c9),.u (.int .i64 c10),.u (.int .i64 c11)]],[.deep 14 (c0.map Shard.u),.deep 8 (c1.map Caller.u),.row 9 (c2.map Result.u)],[]⟩:=by
 rw [R16,b16]
 simp only[↓xP,xU,rB,rA,rS,ZMi c0 hs.1,ZLC c1 hs.2.1,ZLF c2 hs.2.2.1,ZNv]
theorem ZIC (c0:(List Shard)) (c1:(List Caller)) (c2:(List Result)) (c3:Int) (c4:Int) (c5:Int) (c6:Str) (c7:Int) (c8:Int) (c9:Int) (c10:Int) (c11:Int) (hs:Cluster.Small ⟨c0,c1,c2,⟨c3,c4,c5,c6,c7,c8,c9⟩,c10,c11⟩):EE F 18 [.ag [.u (.sl 14 (c0.map Shard.u)),.u (.sl 8 (c1.map Caller.u)),.u (.sl 9 (c2.map Result.u)),.u (.int .i64 c3),.u (.int .i64 c4),.u (.int .i64 c5),.u (.str c6),.u (.int .i64 c7),.u (.int .i64 c8),.u (.int .i64 c9),.u (.int .i64 c10),.u (.int .i64 c11)],.ag [.u (.sl 14 (c0.map Shard.u)),.u (.sl 8 (c1.map Caller.u)),.u (.sl 9 (c2.map Result.u)),.u (.int .i64 c3),.u (.int .i64 c4),.u (.int .i64 c5),.u (.str c6),.u (.int .i64 c7),.u (.int .i64 c8),.u (.int .i64 c9),.u (.int .i64 c10),.u (.int .i64 c11)]] []=ok1 (B true):=by
 rw [R18,b18]
 simp only[↓xP,xU,rB,rA,rS,ZLP c0 hs.1,ZK6 c1 hs.2.1,ZK9 c2 hs.2.2.1,ZNc,ne_eq,not_true_eq_false]
/-- All from a number on. -/
def allF (n:Nat) (p:Nat→Bool) (i:Nat):Bool:=if i<n then p i&&allF n p (i+1) else true
termination_by n - i
theorem ZFV {n:Nat} {p:Nat→Bool} {i:Nat} (h:i<n):allF n p i=(p i&&allF n p (i+1)):=by rw [allF,if_pos h]
theorem ZFU {n:Nat} {p:Nat→Bool} {i:Nat} (h:¬i<n):allF n p i=true:=by rw [allF,if_neg h]
theorem ZFs {n:Nat} {p:Nat→Bool}:∀ (k i:Nat),n - i=k→(allF n p i=true↔∀ j,i≤j→j<n→p j=true)
 | 0,i,h=>by
  rw [ZFU (by omega)]
  exact ⟨fun _ j h1 h2=>by omega,fun _=>rfl⟩
 | k+1,i,h=>by
  rw [ZFV (by omega),Bool.and_eq_true,ZFs k (i+1) (by omega)]
  refine ⟨fun ⟨h1,h2⟩ j hj hn=>?_,fun h1=>⟨h1 i (Nat.le_refl _) (by omega),fun j hj hn=>h1 j (by omega) hn⟩⟩
  by_cases e:j=i
  ·subst e; exact h1
  ·exact h2 j (by omega) hn
def inR (n a b:Int):Bool:=decide (a≤n)&&decide (n≤b)
theorem ZX (n a b:Int):EE F 66 [I n,I a,I b] []=ok1 (B (inR n a b)):=by
 rw [R66,b66]
 simp only[↓xP,xT,rL,rB,rA,rS]
 repeat' (refine ZiE (fun h=>?_) (fun h=>?_))
 all_goals (simp_all [inR]<;>(intros; omega))
theorem ZFx (n:Int):EE F 269 [I n] []=ok1 (B (inR n 0 999)):=by
 rw [R269,b269]
 simp only[↓xP,xT,rL,rB,rA,rS]
 repeat' (refine ZiE (fun h=>?_) (fun h=>?_))
 all_goals (simp_all [inR]<;>(intros; omega))
def ZHM (c:UInt8):Bool:=decide (97≤(c.toNat:Int))&&decide ((c.toNat:Int)≤122)
def ZW (s:Str):Bool:=decide (1≤s.length)&&decide (s.length≤4)&&s.all ZHM
theorem cut1 (n:Nat):vcut (n+1) (some (DI 1)) none=some (1,n+1):=by
 have:(1:Int)≤(n:Int)+1:=by omega
 simp [vcut,D.int?,this]
theorem ZHN:∀ s:Str,EE F 239 [S s] []=ok1 (B (s.all ZHM))
 | []=>by
  rw [R239,b239]
  simp only[↓xP,xT,rL,rB,rA,rS]
 | c::s=>by
  have h2:(List.take (s.length+1) (c::s)).drop 1=s:=by simp
  rw [R239,b239]
  simp only[↓xP,xT,rL,rB,rA,rS,cut1,ZHN s,reduceCtorEq,ZHM,List.take_of_length_le]
  repeat' (refine ZiE (fun h=>?_) (fun h=>?_))
  all_goals (simp_all<;>(intros; omega))
theorem ZFw (s:Str):EE F 179 [S s] []=ok1 (B (ZW s)):=by
 rw [R179,b179]
 simp only[↓xP,xT,rL,rB,rA,rS,ZHN]
 repeat' (refine ZiE (fun h=>?_) (fun h=>?_))
 all_goals (simp_all [ZW]<;>(intros; omega))
theorem ZFo (s:Str):EE F 221 [S s] []=ok1 (B (ZW s)):=by
 rw [R221,b221]
 simp only[↓xP,xT,rL,rB,rA,rS,ZX]
 refine ZiE (fun h=>?_) (fun h=>?_)
 ·simp_all [ZW,inR]
  omega
 ·simp only[Bool.not_eq_false',inR,Bool.and_eq_true,decide_eq_true_eq] at h
  refine (Zjc (fun (i:Nat) st=>i≤s.length∧st.s 0=DU (.str s)∧st.s 3=DI i) (fun i=>s.length - i) (fun i=>ok1 (B ((s.drop i).all ZHM))) ?_ 0 ⟨by omega,by simp only[↓xP,xQ,rB],by simp only[↓xP,xQ,rB]; rfl⟩).trans ?_
  ·rintro i st ⟨hle,h0,h3⟩ ih
   by_cases hi:i<s.length
   ·have hc:s[i]?=some s[i]:=List.getElem?_eq_getElem hi
    have hd:s.drop i=s[i]::s.drop (i+1):=List.drop_eq_getElem_cons hi
    have hw:=w_succ (i:=i) (by omega)
    simp only[↓xP,xT,rL,rB,rA,rS,h0,h3,hi,hc,hw]
    rw [hd]
    generalize s[i]=c
    repeat' (refine ZiE (fun h=>?_) (fun h=>?_))
    ·simp_all [ZHM]
     omega
    ·simp_all [ZHM]
     omega
    ·rw [ih (i+1) _ (by omega) ⟨by omega,by simp only[↓xP,xQ,rB,h0],by simp only[↓xP,xQ,rB]⟩]
     simp_all [ZHM]
   ·simp only[↓xP,xT,rL,rB,rA,rS,h0,h3,hi]
    rw [List.drop_of_length_le (by omega)]; rfl
  ·simp [ZW]
   omega
theorem ZJ2 (s:Str):ZaZ [] s=decide (s≠[]):=by cases s<;>simp [ZaZ,Op.bytesLess]
theorem ZLd (s:Str):ZaZ s []=false:=by cases s<;>simp [ZaZ,Op.bytesLess]
theorem ZIJ (a b:UInt8) (s t:Str):ZaZ (a::s) (b::t)=(decide (a<b)||(a==b&&ZaZ s t)):=rfl
theorem ZG0:∀ s:Str,ZaZ s s=false
 | []=>rfl
 | a::s=>by rw [ZIJ,ZG0 s]; simp
theorem lt_trans:∀ {s t u:Str},ZaZ s t=true→ZaZ t u=true→ZaZ s u=true
 | _,[],_,h,_=>by rw [ZLd] at h; cases h
 | _,b::t,[],_,h=>by rw [ZLd] at h; cases h
 | [],b::t,c::u,_,_=>by rw [ZJ2]; simp
 | a :: s,b::t,c::u,h1,h2=>by
  rw [ZIJ] at h1 h2 ⊢
  simp only[Bool.or_eq_true,Bool.and_eq_true,decide_eq_true_eq,beq_iff_eq] at h1 h2 ⊢
  rcases h1 with h1|⟨rfl,h1⟩
  ·rcases h2 with h2|⟨rfl,h2⟩
   ·exact .inl (UInt8.lt_trans h1 h2)
   ·exact .inl h1
  ·rcases h2 with h2|⟨rfl,h2⟩
   ·exact .inl h2
   ·exact .inr ⟨rfl,lt_trans h1 h2⟩
theorem ZJ1 {s t:Str} (h:ZaZ s t=true):ZaZ t s=false:=by
 cases hq:ZaZ t s with
 | false=>rfl
 | true=>have:=lt_trans h hq; rw [ZG0] at this; cases this
theorem ZHO:∀ (s t:Str),ZaZ s t=true∨s=t∨ZaZ t s=true
 | [],[]=>.inr (.inl rfl)
 | [],b::t=>.inl (by rw [ZJ2]; simp)
 | a::s,[]=>.inr (.inr (by rw [ZJ2]; simp))
 | a :: s,b::t=>by
  rw [ZIJ,ZIJ]
  simp only[Bool.or_eq_true,Bool.and_eq_true,decide_eq_true_eq,beq_iff_eq,List.cons.injEq]
  rcases Nat.lt_trichotomy a.toNat b.toNat with h|h|h
  ·exact .inl (.inl (UInt8.lt_iff_toNat_lt.2 h))
  rotate_left
  ·exact .inr (.inr (.inl (UInt8.lt_iff_toNat_lt.2 h)))
  ·have h:=UInt8.toNat_inj.1 h
   subst h
   rcases ZHO s t with h|h|h
   ·exact .inl (.inr ⟨rfl,h⟩)
   ·exact .inr (.inl ⟨rfl,h⟩)
   ·exact .inr (.inr (.inr ⟨rfl,h⟩))
/-- For other strings 'at most' is 'not greater'. -/
theorem ZI3 (s t:Str):(ZaZ s t||decide (s=t))=!ZaZ t s:=by
 rcases ZHO s t with h|h|h
 ·simp [h,ZJ1 h]
 ·subst h; simp [ZG0]
 ·have h1:=ZJ1 h
  have h2:¬s=t:=fun e=>by subst e; rw [ZG0] at h; cases h
  simp [h,h1,h2]
def ZF (v:Interval):Bool:=(decide (v.low=[])||ZW v.low)&&(decide (v.high=[])||ZW v.high)&&(decide (v.high=[])||ZaZ (if v.low=[] then [97] else v.low) v.high)
theorem ZLc (lo hi:Str):EE F 180 [.ag [.u (.str lo),.u (.str hi)]] []=ok1 (S (if lo=[] then [97] else lo)):=by
 rw [R180,b180]
 simp only[↓xP,xT,rL,rB,rA,rS]
 repeat' (refine ZiE (fun h=>?_) (fun h=>?_))
 all_goals simp_all
theorem ZU (lo hi:Str):EE F 110 [.ag [.u (.str lo),.u (.str hi)]] []=ok1 (B (ZF ⟨lo,hi⟩)):=by
 rw [R110,b110]
 simp only[↓xP,xT,rL,rB,rA,rS,ZFw,ZLc]
 repeat' (refine ZiE (fun h=>?_) (fun h=>?_))
 all_goals simp_all [ZF]
/-- A valid key after "a". -/
theorem lt_a {s:Str} (h:ZW s=true):ZaZ [97] s=decide (s≠[97]):=by
 match s,h with
 | [],h=>simp [ZW] at h
 | c :: t,h=>
  simp only[ZW,ZHM,List.all_cons,Bool.and_eq_true,decide_eq_true_eq] at h
  have hc:97≤c.toNat:=by omega
  rw [ZIJ,ZJ2]
  by_cases e:c=97
  ·subst e; simp
  ·have h1:(97:UInt8)<c:=by
    rw [UInt8.lt_iff_toNat_lt]
    have:c.toNat≠97:=fun q=>e (UInt8.toNat_inj.1 q)
    show 97<c.toNat
    omega
   simp [h1,e]
theorem ZFf (lo hi:Str):EE F 213 [.ag [.u (.str lo),.u (.str hi)]] []=ok1 (B (ZF ⟨lo,hi⟩)):=by
 rw [R213,b213]
 simp only[↓xP,xT,rL,rB,rA,rS,ZFo]
 repeat' (refine ZiE (fun h=>?_) (fun h=>?_))
 all_goals simp_all [ZF,ZJ2,lt_a]
/-- A key is between the bounds. -/
def ZFj (v:Interval) (key:Str):Bool:=!ZaZ key v.low&&(decide (v.high=[])||ZaZ key v.high)
theorem ZKP (lo hi key:Str):EE F 219 [.ag [.u (.str lo),.u (.str hi)],S key] []=ok1 (B (ZFj ⟨lo,hi⟩ key)):=by
 rw [R219,b219]
 simp only[↓xP,xT,rL,rB,rA,rS,ZI3]
 repeat' (refine ZiE (fun h=>?_) (fun h=>?_))
 all_goals simp_all [ZFj]
def ZFG (v:Interval) (key:Str):Bool:=ZF v&&ZW key&&ZFj v key
theorem ZFC (lo hi key:Str):EE F 215 [.ag [.u (.str lo),.u (.str hi)],S key] []=ok1 (B (ZFG ⟨lo,hi⟩ key)):=by
 rw [R215,b215]
 simp only[↓xP,xT,rL,rB,rA,rS,ZFf,ZFo]
 repeat' (refine ZiE (fun h=>?_) (fun h=>?_))
 all_goals simp_all [ZFG,ZFj]
def ZFq (l:List Pair) (i:Nat):Bool:=match l[i]? with
 | some p=>ZW p.key&&inR p.value 0 999&&(decide (i=0)||(match l[i - 1]? with
  | some q=>ZaZ q.key p.key
  | none=>true))
 | none=>true
def ZB (l:List Pair):Bool:=decide (l.length≤48)&&allF l.length (ZFq l) 0
theorem ZFN (l:List Pair):EE F 217 [L 2 (l.map Pair.u)] []=ok1 (B (ZB l)):=by
 rw [R217,b217]
 simp only[↓xP,xT,rL,rB,rA,rS]
 refine ZiE (fun h=>?_) (fun h=>?_)
 ·simp only[decide_eq_true_eq] at h
  simp [ZB,show ¬l.length≤48 by omega]
 ·simp only[decide_eq_false_iff_not] at h
  refine (Zjc (fun (i:Nat) st=>st.s 0=DU (.sl 2 (l.map Pair.u))∧st.s 8=DU (.sl 2 (l.map Pair.u))∧st.s 9=DI l.length∧st.s 10=DI i) (fun i=>l.length - i) (fun i=>ok1 (B (allF l.length (ZFq l) i))) ?_ 0 ⟨by simp only[↓xP,xT,rL,rB,rA,rS],by simp only[↓xP,xT,rL,rB,rA,rS],by simp only[↓xP,xT,rL,rB,rA,rS],by simp only[↓xP,xT,rL,rB,rA,rS]; rfl⟩).trans ?_
  ·rintro i st ⟨h0,h8,h9,h10⟩ ih
   by_cases hi:i<l.length
   ·obtain ⟨⟨pk,pv⟩,hp⟩:∃ p,l[i]?=some p:=⟨_,List.getElem?_eq_getElem hi⟩
    have hw:=w_succ (i:=i) (by omega)
    rw [ZFV hi]
    by_cases hz:i=0
    ·have h01:¬(0:Int)<(i:Int):=by omega
     simp only[↓xP,xT,rL,rB,rA,rS,h0,h8,h9,h10,hi,hp,hw,h01,Pair.u,ZFw,ZFx]
     repeat' (refine ZiE (fun h=>?_) (fun h=>?_))
     ·simp_all [ZFq]
     ·simp_all [ZFq]
     ·rw [ih (i+1) _ (by omega) ⟨by simp only[↓xP,xT,rL,rB,rA,rS,h0],by simp only[↓xP,xT,rL,rB,rA,rS,h8],by simp only[↓xP,xT,rL,rB,rA,rS,h9],by simp only[↓xP,xT,rL,rB,rA,rS]⟩]
      simp_all [ZFq]
    ·obtain ⟨⟨qk,qv⟩,hq⟩:∃ q,l[i - 1]?=some q:=⟨_,List.getElem?_eq_getElem (by omega)⟩
     have hw2:IntKind.i64.wrap ((i:Int) - 1)=((i - 1:Nat):Int):=by rw [w64 (by omega) (by omega)]; omega
     have h01:(0:Int)<(i:Int):=by omega
     simp only[↓xP,xT,rL,rB,rA,rS,h0,h8,h9,h10,hi,hp,hw,hw2,hq,h01,Pair.u,ZFw,ZFx]
     repeat' (refine ZiE (fun h=>?_) (fun h=>?_))
     ·simp_all [ZFq]
     ·simp_all [ZFq]
     ·simp_all [ZFq]
     ·rw [ih (i+1) _ (by omega) ⟨by simp only[↓xP,xT,rL,rB,rA,rS,h0],by simp only[↓xP,xT,rL,rB,rA,rS,h8],by simp only[↓xP,xT,rL,rB,rA,rS,h9],by simp only[↓xP,xT,rL,rB,rA,rS]⟩]
      simp_all [ZFq]
   ·simp only[↓xP,xT,rL,rB,rA,rS,h0,h8,h9,h10,hi]
    rw [ZFU hi]
  ·simp [ZB,show l.length≤48 by omega]
theorem Z6 (l:List Pair):EE F 162 [L 2 (l.map Pair.u)] []=ok1 (B (ZB l)):=by
  rw [R162,b162]
  simp only[↓xP,xT,rL,rB,rA,rS]
  refine ZiE (fun h=>?_) (fun h=>?_)
  · simp only[decide_eq_true_eq] at h
    simp [ZB,show ¬l.length≤48 by omega]
  · simp only[decide_eq_false_iff_not] at h
    refine (Zjc (fun (i:Nat) st=>st.s 0=DU (.sl 2 (l.map Pair.u))∧st.s 3=DI i) (fun i=>l.length - i) (fun i=>ok1 (B (allF l.length (ZFq l) i))) ?_ 0 ⟨by simp only[↓xP,xT,rL,rB,rA,rS],by simp only[↓xP,xT,rL,rB,rA,rS]; rfl⟩).trans ?_
    · rintro i st ⟨h0,h3⟩ ih
      by_cases hi:i<l.length
      · obtain ⟨⟨pk,pv⟩,hp⟩:∃ p,l[i]?=some p:=⟨_,List.getElem?_eq_getElem hi⟩
        have hw:=w_succ (i:=i) (by omega)
        rw [ZFV hi]
        by_cases hz:i=0
        · have h01:¬(0:Int)<(i:Int):=by omega
          simp only[↓xP,xT,rL,rB,rA,rS,h0,h3,hi,hp,hw,h01,Pair.u,ZFo,ZX]
          repeat' (refine ZiE (fun h=>?_) (fun h=>?_))
          · simp_all [ZFq]
          · simp_all [ZFq]
          · rw [ih (i+1) _ (by omega) ⟨by simp only[↓xP,xT,rL,rB,rA,rS,h0],by simp only[↓xP,xT,rL,rB,rA,rS]⟩]
            simp_all [ZFq]
        · obtain ⟨⟨qk,qv⟩,hq⟩:∃ q,l[i - 1]?=some q:=⟨_,List.getElem?_eq_getElem (by omega)⟩
          have hw2:IntKind.i64.wrap ((i:Int) - 1)=((i - 1:Nat):Int):=by rw [w64 (by omega) (by omega)]; omega
          have h01:(0:Int)<(i:Int):=by omega
          simp only[↓xP,xT,rL,rB,rA,rS,h0,h3,hi,hp,hw,hw2,hq,h01,Pair.u,ZFo,ZX,ZI3]
          repeat' (refine ZiE (fun h=>?_) (fun h=>?_))
          · simp_all [ZFq]
          · simp_all [ZFq]
          · simp_all [ZFq]
          · rw [ih (i+1) _ (by omega) ⟨by simp only[↓xP,xT,rL,rB,rA,rS,h0],by simp only[↓xP,xT,rL,rB,rA,rS]⟩]
            simp_all [ZFq]
      · simp only[↓xP,xT,rL,rB,rA,rS,h0,h3,hi]
        rw [ZFU hi]
    · simp [ZB,show l.length≤48 by omega]
theorem ZIg {l:List Pair} (h:ZB l=true) {i:Nat} {p:Pair} (hp:l[i]?=some p):ZW p.key=true∧inR p.value 0 999=true:=by
 simp only[ZB,Bool.and_eq_true,decide_eq_true_eq] at h
 have:=(ZFs _ 0 rfl).1 h.2 i (by omega) (List.getElem?_eq_some_iff.1 hp).1
 simp only[ZFq,hp,Bool.and_eq_true] at this
 exact this.1
theorem ZJz (n:Int):EE F 199 [I n] []=ok1 (B (inR n 1 3)):=by
 rw [R199,b199]
 simp only[↓xP,xT,rL,rB,rA,rS]
 repeat' (refine ZiE (fun h=>?_) (fun h=>?_))
 all_goals (simp_all [inR]<;>(intros; omega))
theorem ZHt (n:Int):EE F 203 [I n] []=ok1 (B (inR n 0 4)):=by
 rw [R203,b203]
 simp only[↓xP,xT,rL,rB,rA,rS]
 repeat' (refine ZiE (fun h=>?_) (fun h=>?_))
 all_goals (simp_all [inR]<;>(intros; omega))
theorem ZGw (n:Int):EE F 202 [I n] []=ok1 (B (inR n 0 7)):=by
 rw [R202,b202]
 simp only[↓xP,xT,rL,rB,rA,rS]
 repeat' (refine ZiE (fun h=>?_) (fun h=>?_))
 all_goals (simp_all [inR]<;>(intros; omega))
theorem ZHc (n:Int):EE F 200 [I n] []=ok1 (B (inR n 1 999)):=by
 rw [R200,b200]
 simp only[↓xP,xT,rL,rB,rA,rS]
 repeat' (refine ZiE (fun h=>?_) (fun h=>?_))
 all_goals (simp_all [inR]<;>(intros; omega))
def Z5 (c:Command):Bool:=(ZW c.key||decide (c.kind=5)&&decide (c.key=[])) &&
 ((decide (c.kind=1)||decide (c.kind=3)||decide (c.kind=5))&&decide (c.value=0)&&decide (c.old=0)||decide (c.kind=2)&&inR c.value 0 999&&decide (c.old=0)||decide (c.kind=4)&&inR c.value 0 999&&inR c.old (-1) 999)
theorem ZLJ (k:Int):k=1∨k=2∨k=3∨k=4∨k=5∨(k<1∧¬5<k∧¬k=1∧¬k=2∧¬k=3∧¬k=4∧¬k=5)∨(¬k<1∧5<k∧¬k=1∧¬k=2∧¬k=3∧¬k=4∧¬k=5):=by omega
theorem ZGq (k:Int) (key:Str) (v o:Int):EE F 229 [.ag [.u (.int .i64 k),.u (.str key),.u (.int .i64 v),.u (.int .i64 o)]] []=ok1 (B (Z5 ⟨k,key,v,o⟩)):=by
 rw [R229,b229]
 rcases ZLJ k with h|h|h|h|h|h|h<;>(try subst h)<;>(try obtain ⟨_,_,_,_,_,_,_⟩:=h)<;>simp only[↓xP,xT,rL,rB,rA,rS,ZFo,ZX, *]<;>
  repeat' (refine ZiE (fun h=>?_) (fun h=>?_))
 all_goals (simp_all [Z5]<;>(intros; omega))
theorem ZGp (k:Int) (key:Str) (v o:Int):EE F 234 [.ag [.u (.int .i64 k),.u (.str key),.u (.int .i64 v),.u (.int .i64 o)]] []=ok1 (B (Z5 ⟨k,key,v,o⟩)):=by
 rw [R234,b234]
 rcases ZLJ k with h|h|h|h|h|h|h<;>(try subst h)<;>(try obtain ⟨_,_,_,_,_,_,_⟩:=h)<;>simp only[↓xP,xT,rL,rB,rA,rS,ZFw,ZFx, *]<;>
  repeat' (refine ZiE (fun h=>?_) (fun h=>?_))
 all_goals first|(simp_all [Z5,inR]; done)|(simp_all [Z5,inR]<;>(intros; omega))|(simp_all [Z5,inR]; rw [Bool.eq_iff_iff]; simp; omega)
def ZG5 (c:Command):Bool:=Z5 c&&!decide (c.kind=5)
theorem ZJX (k:Int) (key:Str) (v o:Int):EE F 190 [.ag [.u (.int .i64 k),.u (.str key),.u (.int .i64 v),.u (.int .i64 o)]] []=ok1 (B (ZG5 ⟨k,key,v,o⟩)):=by
 rw [R190,b190]
 simp only[↓xP,xT,rL,rB,rA,rS,ZGq]
 repeat' (refine ZiE (fun h=>?_) (fun h=>?_))
 all_goals (simp_all [ZG5])
theorem ZIZ (k:Int) (key:Str) (v o:Int):EE F 198 [.ag [.u (.int .i64 k),.u (.str key),.u (.int .i64 v),.u (.int .i64 o)]] []=ok1 (B (ZG5 ⟨k,key,v,o⟩)):=by
 rw [R198,b198]
 simp only[↓xP,xT,rL,rB,rA,rS,ZGp]
 repeat' (refine ZiE (fun h=>?_) (fun h=>?_))
 all_goals (simp_all [ZG5])
def ZQ (e:Entry):Bool:=inR e.client 0 3&&inR e.seq 1 999&&Z5 e.cmd
theorem ZF4 (c s k:Int) (key:Str) (v o:Int):EE F 169 [.ag [.u (.int .i64 c),.u (.int .i64 s),.u (.int .i64 k),.u (.str key),.u (.int .i64 v),.u (.int .i64 o)]] []=ok1 (B (ZQ ⟨c,s,⟨k,key,v,o⟩⟩)):=by
 rw [R169,b169]
 simp only[↓xP,xT,rL,rB,rA,rS,ZGq,ZX]
 repeat' (refine ZiE (fun h=>?_) (fun h=>?_))
 all_goals (simp_all [ZQ])
theorem ZGU (c s k:Int) (key:Str) (v o:Int):EE F 175 [.ag [.u (.int .i64 c),.u (.int .i64 s),.u (.int .i64 k),.u (.str key),.u (.int .i64 v),.u (.int .i64 o)]] []=ok1 (B (ZQ ⟨c,s,⟨k,key,v,o⟩⟩)):=by
 rw [R175,b175]
 simp only[↓xP,xT,rL,rB,rA,rS,ZGp,ZHc]
 repeat' (refine ZiE (fun h=>?_) (fun h=>?_))
 all_goals first|(simp_all [ZQ,inR]; done)|(simp_all [ZQ,inR]<;>(intros; omega))|(simp_all [ZQ,inR]; rw [Bool.eq_iff_iff]; simp; omega)
def ZFD (p:Plan):Bool:=inR p.first 0 7&&(decide (p.kind=1)&&ZW p.key&&decide (p.second=0)&&decide (p.from_=0)&&decide (p.to_=0)&&decide (p.step=0) ||
 decide (p.kind=2)&&inR p.second 0 7&&!decide (p.second=p.first)&&decide (p.key=[])&&decide (p.from_=0)&&decide (p.to_=0)&&decide (p.step=0) ||
 decide (p.kind=3)&&inR p.from_ 0 4&&inR p.to_ 0 4&&!decide (p.from_=p.to_)&&inR p.step 0 1&&decide (p.second=0)&&decide (p.key=[]))
theorem ZKW (k:Int):k=1∨k=2∨k=3∨(¬k=1∧¬k=2∧¬k=3):=by omega
theorem ZKc (k f s:Int) (key:Str) (a b c:Int):EE F 186 [.ag [.u (.int .i64 k),.u (.int .i64 f),.u (.int .i64 s),.u (.str key),.u (.int .i64 a),.u (.int .i64 b),.u (.int .i64 c)]] []=ok1 (B (ZFD ⟨k,f,s,key,a,b,c⟩)):=by
 rw [R186,b186]
 rcases ZKW k with h|h|h|h<;>(try subst h)<;>(try obtain ⟨_,_,_⟩:=h)<;>simp only[↓xP,xT,rL,rB,rA,rS,ZFo,ZX, *]<;>
  repeat' (refine ZiE (fun h=>?_) (fun h=>?_))
 all_goals first|(simp_all [ZFD]; done)|(simp_all [ZFD]<;>(intros; omega))|(simp_all [ZFD]; rw [Bool.eq_iff_iff]; simp; omega)
theorem ZKb (k f s:Int) (key:Str) (a b c:Int):EE F 128 [.ag [.u (.int .i64 k),.u (.int .i64 f),.u (.int .i64 s),.u (.str key),.u (.int .i64 a),.u (.int .i64 b),.u (.int .i64 c)]] []=ok1 (B (ZFD ⟨k,f,s,key,a,b,c⟩)):=by
 rw [R128,b128]
 rcases ZKW k with h|h|h|h<;>(try subst h)<;>(try obtain ⟨_,_,_⟩:=h)<;>simp only[↓xP,xT,rL,rB,rA,rS,ZFw,ZGw,ZHt, *]<;>
  repeat' (refine ZiE (fun h=>?_) (fun h=>?_))
 all_goals first|(simp_all [ZFD]; done)|(simp_all [ZFD,inR]<;>(intros; omega))|(simp_all [ZFD,Bool.and_assoc]; done)|(simp_all [ZFD,inR]; rw [Bool.eq_iff_iff]; simp; omega)
def ZHI (v:Interval) (key:Str):Bool:=ZF v&&ZW key&&ZF ⟨v.low,key⟩&&ZF ⟨key,v.high⟩
def ZHf (v:Interval) (key:Str):Option Ret:=sel (ZHI v key) (some ⟨[.ag [.u (.str v.low),.u (.str key)],.ag [.u (.str key),.u (.str v.high)],B true],[],[]⟩) (some ⟨[.ag [.u (.str []),.u (.str [])],.ag [.u (.str []),.u (.str [])],B false],[],[]⟩)
theorem ZHk (lo hi key:Str):EE F 216 [.ag [.u (.str lo),.u (.str hi)],S key] []=ZHf ⟨lo,hi⟩ key:=by
 rw [R216,b216]
 simp only[↓xP,xT,rL,rB,rA,rS,ZFf,ZFo]
 repeat' (refine ZiE (fun h=>?_) (fun h=>?_))
 all_goals simp_all [ZHI,ZHf,sel]
theorem ZGB (lo hi key:Str):EE F 220 [.ag [.u (.str lo),.u (.str hi)],S key] []=ZHf ⟨lo,hi⟩ key:=by
 rw [R220,b220]
 simp only[↓xP,xT,rL,rB,rA,rS,ZU,ZFw]
 repeat' (refine ZiE (fun h=>?_) (fun h=>?_))
 all_goals simp_all [ZHI,ZHf,sel]
def ZGW (a b:Interval):Bool:=ZF a&&ZF b&&!decide (a.high=[])&&decide (a.high=b.low)
def ZH6 (a b:Interval):Option Ret:=sel (ZGW a b) (some ⟨[.ag [.u (.str a.low),.u (.str b.high)],B true],[],[]⟩) (some ⟨[.ag [.u (.str []),.u (.str [])],B false],[],[]⟩)
theorem ZIH (al ah bl bh:Str):EE F 157 [.ag [.u (.str al),.u (.str ah)],.ag [.u (.str bl),.u (.str bh)]] []=ZH6 ⟨al,ah⟩ ⟨bl,bh⟩:=by
 rw [R157,b157]
 simp only[↓xP,xT,rL,rB,rA,rS,ZFf]
 repeat' (refine ZiE (fun h=>?_) (fun h=>?_))
 all_goals simp_all [ZGW,ZH6,sel]
theorem ZIG (al ah bl bh:Str):EE F 160 [.ag [.u (.str al),.u (.str ah)],.ag [.u (.str bl),.u (.str bh)]] []=ZH6 ⟨al,ah⟩ ⟨bl,bh⟩:=by
 rw [R160,b160]
 simp only[↓xP,xT,rL,rB,rA,rS,ZU]
 repeat' (refine ZiE (fun h=>?_) (fun h=>?_))
 all_goals simp_all [ZGW,ZH6,sel]
def Z1 (l:List Session) (i:Nat):Bool:=match l[i]? with
 | none=>true
 | some s=>inR s.client 0 3&&inR s.seq 1 999&&inR s.reply (-2) 999&&(decide (i=0)||(match l[i - 1]? with
  | some r=>decide (r.client<s.client)
  | none=>true))
def ZI (l:List Session):Bool:=allF l.length (Z1 l) 0
theorem ZFI (l:List Session) (hn:l.length≤4611686018427387904):EE F 214 [L 3 (l.map Session.u)] []=ok1 (B (ZI l)):=by
 rw [R214,b214]
 simp only[↓xP,xT,rL,rB,rA,rS]
 refine (Zjc (fun (i:Nat) st=>st.s 0=DU (.sl 3 (l.map Session.u))∧st.s 3=DI i) (fun i=>l.length - i) (fun i=>ok1 (B (allF l.length (Z1 l) i))) ?_ 0 ⟨by simp only[↓xP,xT,rL,rB,rA,rS],by simp only[↓xP,xT,rL,rB,rA,rS]; rfl⟩).trans ?_
 ·rintro i st ⟨h0,h3⟩ ih
  by_cases hi:i<l.length
  ·obtain ⟨⟨c,s,r⟩,hp⟩:∃ p,l[i]?=some p:=⟨_,List.getElem?_eq_getElem hi⟩
   have hw:=w_succ (i:=i) (by omega)
   rw [ZFV hi]
   by_cases hz:i=0
   ·have h01:¬(0:Int)<(i:Int):=by omega
    simp only[↓xP,xT,rL,rB,rA,rS,h0,h3,hi,hp,hw,h01,Session.u,ZX]
    repeat' (refine ZiE (fun h=>?_) (fun h=>?_))
    all_goals first|(rw [ih (i+1) _ (by omega) ⟨by simp only[↓xP,xT,rL,rB,rA,rS,h0],by simp only[↓xP,xT,rL,rB,rA,rS]⟩]; simp_all [Z1]; done)|(simp_all [Z1]; done)
   ·obtain ⟨⟨qc,qs,qr⟩,hq⟩:∃ q,l[i - 1]?=some q:=⟨_,List.getElem?_eq_getElem (by omega)⟩
    have hw2:IntKind.i64.wrap ((i:Int) - 1)=((i - 1:Nat):Int):=by rw [w64 (by omega) (by omega)]; omega
    have h01:(0:Int)<(i:Int):=by omega
    simp only[↓xP,xT,rL,rB,rA,rS,h0,h3,hi,hp,hw,hw2,hq,h01,Session.u,ZX]
    repeat' (refine ZiE (fun h=>?_) (fun h=>?_))
    all_goals first|(rw [ih (i+1) _ (by omega) ⟨by simp only[↓xP,xT,rL,rB,rA,rS,h0],by simp only[↓xP,xT,rL,rB,rA,rS]⟩]; simp_all [Z1]; done)|(simp_all [Z1]; done)|(simp_all [Z1]<;>(intros; omega))
  ·simp only[↓xP,xT,rL,rB,rA,rS,h0,h3,hi]
   rw [ZFU hi]
 ·rfl
theorem ZGa (l:List Session) (hn:l.length≤4611686018427387904):EE F 218 [L 3 (l.map Session.u)] []=ok1 (B (ZI l)):=by
 rw [R218,b218]
 simp only[↓xP,xT,rL,rB,rA,rS]
 refine (Zjc (fun (i:Nat) st=>st.s 0=DU (.sl 3 (l.map Session.u))∧st.s 5=DU (.sl 3 (l.map Session.u))∧st.s 6=DI l.length∧st.s 7=DI i) (fun i=>l.length - i) (fun i=>ok1 (B (allF l.length (Z1 l) i))) ?_ 0 ⟨by simp only[↓xP,xT,rL,rB,rA,rS],by simp only[↓xP,xT,rL,rB,rA,rS],by simp only[↓xP,xT,rL,rB,rA,rS],by simp only[↓xP,xT,rL,rB,rA,rS]; rfl⟩).trans ?_
 ·rintro i st ⟨h0,h5,h6,h7⟩ ih
  by_cases hi:i<l.length
  ·obtain ⟨⟨c,s,r⟩,hp⟩:∃ p,l[i]?=some p:=⟨_,List.getElem?_eq_getElem hi⟩
   have hw:=w_succ (i:=i) (by omega)
   rw [ZFV hi]
   by_cases hz:i=0
   ·have h01:¬(0:Int)<(i:Int):=by omega
    simp only[↓xP,xT,rL,rB,rA,rS,h0,h5,h6,h7,hi,hp,hw,h01,Session.u,ZHc]
    repeat' (refine ZiE (fun h=>?_) (fun h=>?_))
    all_goals first|(rw [ih (i+1) _ (by omega) ⟨by simp only[↓xP,xT,rL,rB,rA,rS,h0],by simp only[↓xP,xT,rL,rB,rA,rS,h5],by simp only[↓xP,xT,rL,rB,rA,rS,h6],by simp only[↓xP,xT,rL,rB,rA,rS]⟩]; simp_all [Z1,inR]; done)|(rw [ih (i+1) _ (by omega) ⟨by simp only[↓xP,xT,rL,rB,rA,rS,h0],by simp only[↓xP,xT,rL,rB,rA,rS,h5],by simp only[↓xP,xT,rL,rB,rA,rS,h6],by simp only[↓xP,xT,rL,rB,rA,rS]⟩]; simp_all [Z1,inR]<;>(intros; omega))|(simp_all [Z1,inR]; done)|(simp_all [Z1,inR]<;>(intros; omega))
   ·obtain ⟨⟨qc,qs,qr⟩,hq⟩:∃ q,l[i - 1]?=some q:=⟨_,List.getElem?_eq_getElem (by omega)⟩
    have hw2:IntKind.i64.wrap ((i:Int) - 1)=((i - 1:Nat):Int):=by rw [w64 (by omega) (by omega)]; omega
    have h01:(0:Int)<(i:Int):=by omega
    simp only[↓xP,xT,rL,rB,rA,rS,h0,h5,h6,h7,hi,hp,hw,hw2,hq,h01,Session.u,ZHc]
    repeat' (refine ZiE (fun h=>?_) (fun h=>?_))
    all_goals first|(rw [ih (i+1) _ (by omega) ⟨by simp only[↓xP,xT,rL,rB,rA,rS,h0],by simp only[↓xP,xT,rL,rB,rA,rS,h5],by simp only[↓xP,xT,rL,rB,rA,rS,h6],by simp only[↓xP,xT,rL,rB,rA,rS]⟩]; simp_all [Z1,inR]; done)|(rw [ih (i+1) _ (by omega) ⟨by simp only[↓xP,xT,rL,rB,rA,rS,h0],by simp only[↓xP,xT,rL,rB,rA,rS,h5],by simp only[↓xP,xT,rL,rB,rA,rS,h6],by simp only[↓xP,xT,rL,rB,rA,rS]⟩]; simp_all [Z1,inR]<;>(intros; omega))|(simp_all [Z1,inR]; done)|(simp_all [Z1,inR]<;>(intros; omega))
  ·simp only[↓xP,xT,rL,rB,rA,rS,h0,h5,h6,h7,hi]
   rw [ZFU hi]
 ·rfl
def ZA (s:State):Bool:=ZF s.span&&ZB s.pairs&&ZI s.known&&(s.pairs.all fun q=>ZFj s.span q.key)&&(decide (s.cut=[])||s.sealed&&ZHI s.span s.cut)
theorem Z4 {l:List Pair} (h:ZB l=true):l.length≤48:=by
 simp only[ZB,Bool.and_eq_true,decide_eq_true_eq] at h; exact h.1
theorem ZF5 (lo hi:Str) (l:List Pair) (k:List Session) (se:Bool) (cut:Str) (hn:k.length≤4611686018427387904):EE F 158 [.ag [.u (.str lo),.u (.str hi),.u (.sl 2 (l.map Pair.u)),.u (.sl 3 (k.map Session.u)),.u (.bool se),.u (.str cut)]] []=ok1 (B (ZA ⟨⟨lo,hi⟩,l,k,se,cut⟩)):=by
 rw [R158,b158]
 simp only[↓xP,xT,rL,rB,rA,rS,ZU,ZFN,ZGa k hn]
 refine ZiE (fun h=>?_) (fun h=>?_)
 ·simp_all [ZA]
 refine ZiE (fun h2=>?_) (fun h2=>?_)
 ·simp_all [ZA]
 refine ZiE (fun h3=>?_) (fun h3=>?_)
 ·simp_all [ZA]
 simp only[Bool.not_eq_false'] at h h2 h3
 have hlen:=Z4 h2
 refine (Zjc (fun (i:Nat) st=>st.s 1=.t (.sc (.ptr (.loc 1 0) 0 0))∧st.o (.loc 1 0)=some (.box [.u (.str lo),.u (.str hi),.u (.sl 2 (l.map Pair.u)),.u (.sl 3 (k.map Session.u)),.u (.bool se),.u (.str cut)])∧st.s 25=DU (.sl 2 (l.map Pair.u))∧st.s 26=DI l.length∧st.s 27=DI i) (fun i=>l.length - i) (fun i=>ok1 (B (((l.drop i).all fun q=>ZFj ⟨lo,hi⟩ q.key)&&(decide (cut=[])||se&&ZHI ⟨lo,hi⟩ cut)))) ?_ 0 ⟨by simp only[↓xP,xT,rL,rB,rA,rS],by simp only[↓xP,xT,rL,rB,rA,rS],by simp only[↓xP,xT,rL,rB,rA,rS],by simp only[↓xP,xT,rL,rB,rA,rS],by simp only[↓xP,xT,rL,rB,rA,rS]; rfl⟩).trans ?_
 ·rintro i st ⟨h1,ho,h25,h26,h27⟩ ih
  by_cases hi':i<l.length
  ·obtain ⟨⟨pk,pv⟩,hp⟩:∃ p,l[i]?=some p:=⟨_,List.getElem?_eq_getElem hi'⟩
   have hd:l.drop i=⟨pk,pv⟩::l.drop (i+1):=by rw [List.drop_eq_getElem_cons hi',(List.getElem?_eq_some_iff.1 hp).2]
   have hw:=w_succ (i:=i) (by omega)
   simp only[↓xP,xT,rL,rB,rA,rS,h1,ho,h25,h26,h27,hi',hp,hw,Pair.u,ZKP]
   rw [hd]
   refine ZiE (fun h=>?_) (fun h=>?_)
   ·simp_all
   ·rw [ih (i+1) _ (by omega) ⟨by simp only[↓xP,xT,rL,rB,rA,rS,h1],by simp only[↓xP,xT,rL,rB,rA,rS,ho],by simp only[↓xP,xT,rL,rB,rA,rS,h25],by simp only[↓xP,xT,rL,rB,rA,rS,h26],by simp only[↓xP,xT,rL,rB,rA,rS]⟩]
    simp_all
  ·simp only[↓xP,xT,rL,rB,rA,rS,h1,ho,h25,h26,h27,hi',ZGB]
   rw [List.drop_of_length_le (by omega)]
   refine ZiE (fun h=>?_) (fun h=>?_)
   ·simp_all
   cases hc:ZHI ⟨lo,hi⟩ cut<;>simp only[↓xP,xT,rL,rB,rA,rS,ZHf,hc,h1,ho]
   all_goals repeat' (refine ZiE (fun h=>?_) (fun h=>?_))
   all_goals simp_all
 ·simp [ZA,h,h2,h3]
theorem ZF6 (lo hi:Str) (l:List Pair) (k:List Session) (se:Bool) (cut:Str) (hn:k.length≤4611686018427387904):EE F 155 [.ag [.u (.str lo),.u (.str hi),.u (.sl 2 (l.map Pair.u)),.u (.sl 3 (k.map Session.u)),.u (.bool se),.u (.str cut)]] []=ok1 (B (ZA ⟨⟨lo,hi⟩,l,k,se,cut⟩)):=by
 rw [R155,b155]
 simp only[↓xP,xT,rL,rB,rA,rS,ZFf,Z6,ZFI k hn]
 refine ZiE (fun h=>?_) (fun h=>?_)
 ·simp_all [ZA]
 refine ZiE (fun h2=>?_) (fun h2=>?_)
 ·simp_all [ZA]
 refine ZiE (fun h3=>?_) (fun h3=>?_)
 ·simp_all [ZA]
 simp only[Bool.not_eq_false'] at h h2 h3
 have hlen:=Z4 h2
 refine (Zjc (fun (i:Nat) st=>st.s 1=.t (.sc (.ptr (.loc 1 0) 0 0))∧st.o (.loc 1 0)=some (.box [.u (.str lo),.u (.str hi),.u (.sl 2 (l.map Pair.u)),.u (.sl 3 (k.map Session.u)),.u (.bool se),.u (.str cut)])∧st.s 3=DI i) (fun i=>l.length - i) (fun i=>ok1 (B (((l.drop i).all fun q=>ZFj ⟨lo,hi⟩ q.key)&&(decide (cut=[])||se&&ZHI ⟨lo,hi⟩ cut)))) ?_ 0 ⟨by simp only[↓xP,xT,rL,rB,rA,rS],by simp only[↓xP,xT,rL,rB,rA,rS],by simp only[↓xP,xT,rL,rB,rA,rS]; rfl⟩).trans ?_
 ·rintro i st ⟨h1,ho,h3'⟩ ih
  by_cases hi':i<l.length
  ·obtain ⟨⟨pk,pv⟩,hp⟩:∃ p,l[i]?=some p:=⟨_,List.getElem?_eq_getElem hi'⟩
   have hd:l.drop i=⟨pk,pv⟩::l.drop (i+1):=by rw [List.drop_eq_getElem_cons hi',(List.getElem?_eq_some_iff.1 hp).2]
   have hw:=w_succ (i:=i) (by omega)
   have hk:=(ZIg h2 hp).1
   simp only[↓xP,xT,rL,rB,rA,rS,h1,ho,h3',hi',hp,hw,Pair.u,ZFC]
   rw [hd]
   refine ZiE (fun h=>?_) (fun h=>?_)
   ·simp_all [ZFG]
   ·rw [ih (i+1) _ (by omega) ⟨by simp only[↓xP,xT,rL,rB,rA,rS,h1],by simp only[↓xP,xT,rL,rB,rA,rS,ho],by simp only[↓xP,xT,rL,rB,rA,rS]⟩]
    simp_all [ZFG]
  ·simp only[↓xP,xT,rL,rB,rA,rS,h1,ho,h3',hi',ZHk]
   rw [List.drop_of_length_le (by omega)]
   cases hc:ZHI ⟨lo,hi⟩ cut<;>simp only[↓xP,xT,rL,rB,rA,rS,ZHf,hc,h1,ho]
   all_goals repeat' (refine ZiE (fun h=>?_) (fun h=>?_))
   all_goals simp_all
 ·simp [ZA,h,h2,h3]
def digs (k:Nat) (o:Str):Str:=if h:k=0 then o else digs (k / 10) (UInt8.ofNat (IntKind.u8.wrap (IntKind.i64.wrap (48 + (k:Int).tmod 10))).toNat::o)
termination_by k
decreasing_by omega
def ZHE (K:Int):Str:=109::digs K.toNat []
theorem ZFk (K:Int) (h0:1≤K) (h1:K≤4611686018427387904):EE F 87 [I K] []=ok1 (S (ZHE K)):=by
 rw [R87,b87]
 have hk:¬K≤0:=by omega
 obtain ⟨k,rfl⟩:∃ k:Nat,K=k:=⟨K.toNat,by omega⟩
 simp only[↓xP,xT,rL,rB,rA,rS,hk]
 refine (Zjc (fun (a:Nat×Str) st=>a.2.length+a.1≤4611686018427387904∧st.s 0=DI (a.1:Int)∧st.s 3=DS a.2) (fun a=>a.1) (fun a=>ok1 (S (109::digs a.1 a.2))) ?_ (k,[]) ⟨by simp; omega,by simp only[↓xP,xT,rL,rB,rA,rS],by simp only[↓xP,xT,rL,rB,rA,rS]⟩).trans ?_
 ·rintro ⟨k,o⟩ st ⟨hl,h0,h3⟩ ih
  dsimp only at hl h0 h3 ih ⊢
  rw [digs]
  by_cases hz:k=0
  ·subst hz
   have hlen:1+o.length≤9223372036854775807:=by omega
   rw [dif_pos rfl]
   have hno:¬(0:Int)<((0:Nat):Int):=by omega
   simp only[↓xP,xT,rL,rB,rA,rS,h0,h3,hno,hlen]
  ·have hyes:(0:Int)<(k:Int):=by omega
   have hq:IntKind.i64.wrap ((k:Int).tdiv 10)=((k / 10:Nat):Int):=by
    have:(k:Int).tdiv 10=((k / 10:Nat):Int):=by rw [Int.tdiv_eq_ediv_of_nonneg (by omega)]; rfl
    rw [this,w64 (by omega) (by omega)]
   have hle:1+o.length≤9223372036854775807:=by omega
   have h10:¬(10:Int)=0:=by omega
   simp only[↓xP,xT,rL,rB,rA,rS,h0,h3,hyes,hq,hle,h10]
   rw [dif_neg hz]
   refine ih (k / 10,_) _ (by dsimp only; omega) ⟨?_,?_,?_⟩
   ·simp only[List.length_cons]; omega
   ·simp only[↓xP,xT,rL,rB,rA,rS]
   ·simp only[↓xP,xT,rL,rB,rA,rS]
 ·simp [ZHE]
def mkL {α:Type} (f:Int→α) (w:Int) (K:Int) (n:Nat):List α:=(List.range n).map fun (i:Nat)=>f (K+w * (i:Int))
theorem ZY {α:Type} (f:Int→α) (w K:Int) (n:Nat):(mkL f w K n).length=n:=by simp [mkL]
theorem ZLV {α:Type} (u:α→List U) (f:Int→α) (w K:Int) (n:Nat):List.take n (List.map u (mkL f w K n))=List.map u (mkL f w K n):=List.take_of_length_le (by simp [ZY])
theorem ZOb {α:Type} (f:Int→α) (w K:Int) {n i:Nat} (h:i<n):(mkL f w K n)[i]?=some (f (K+w*i)):=by simp [mkL,List.getElem?_map,List.getElem?_range h]
theorem ZHR {α β:Type} {u:α→β} {f:Int→α} {w K:Int} {l:List α} {i:Nat} {x:α} (h:l[i]?=some x):((mkL f w K i++l.drop i).map u)[i]?=some (u x):=by
 rw [List.getElem?_map,List.getElem?_append_right (by simp [ZY]),ZY,List.getElem?_drop]
 simp [h]
theorem ZHS {α β:Type} {u:α→β} {f:Int→α} {w K:Int} {l:List α} {i:Nat} {x:α} (h:l[i]?=some x):((mkL f w K i++l.drop i).map u).set i (u (f (K+w*i)))=(mkL f w K (i+1)++l.drop (i+1)).map u:=by
 have hi:=(List.getElem?_eq_some_iff.1 h).1
 have e:mkL f w K (i+1)=mkL f w K i++[f (K+w*i)]:=by simp [mkL,List.range_succ]
 rw [←List.map_set,List.set_append_right _ _ (by simp [ZY]),ZY,Nat.sub_self,List.drop_eq_getElem_cons hi,List.set_cons_zero,e,List.append_assoc]
 rfl
theorem ZFX {α:Type} (r:List α) (i:Nat) (h:i<r.length) (c:α):(r.set i c)[i]?=some c:=by simp [h]
theorem ZFF {a b:Int} (h:a=b):DI a=DI b:=by rw [h]

def ZHQ (K:Int):Int:=(K)
theorem ZHP (l:List Int) (K:Int) (h1:1≤K) (h2:K+1*l.length≤4611686018427387904):EE F 33 [.sc (.own (.par 0) l.length),I K] [.row 1 (l.map iU)]=some ⟨[I (K+1*l.length)],[],[.row 1 ((mkL ZHQ 1 K l.length).map iU)]⟩:=by
 refine (EE_run (fn:=i33) (by kernel_rfl) rfl).trans ?_
 simp only[i33,b33,ZdN,ZcQ,List.length_cons,List.length_nil]
 simp only[↓xP,xT,rL,rB,rA,rS]
 refine (Zjc (fun (i:Nat) st=>i≤l.length∧st.s 0=.t (.sc (.own (.par 0) l.length))∧st.s 5=DI i∧st.s 1=DI (K+1*i)∧st.o (.par 0)=some (.row 1 ((mkL ZHQ 1 K i++l.drop i).map iU))) (fun i=>l.length - i) (fun i=>some ⟨[I (K+1*l.length)],[],[.row 1 ((mkL ZHQ 1 K l.length).map iU)]⟩) ?_ 0 ⟨by omega,by simp only[↓xP,xT,rL,rB,rA,rS],by simp only[↓xP,xT,rL,rB,rA,rS]; rfl,by simp only[↓xP,xT,rL,rB,rA,rS]; exact ZFF (by omega),by simp only[↓xP,xT,rL,rB,rA,rS]; simp [mkL]⟩).trans rfl
 rintro i st ⟨hle,h0,h5,h1',ho⟩ ih
 by_cases hi:i<l.length
 ·obtain ⟨x,hx⟩:∃ x,l[i]?=some x:=⟨_,List.getElem?_eq_getElem hi⟩
  have hw:=w_succ (i:=i) (by omega)
  have hg:=ZHR (u:=iU) (f:=ZHQ) (w:=1) (K:=K) hx
  have hf:=ZHS (u:=iU) (f:=ZHQ) (w:=1) (K:=K) hx
  simp only[iU,ZHQ] at hf
  have hlen:i<((mkL ZHQ 1 K i++l.drop i).map iU).length:=by simp [ZY]; omega
  have hk1:1≤K+1 * (i:Int):=by omega
  have hk2:K+1 * (i:Int)+1≤4611686018427387904:=by omega
  have hn:K+1 * ((i+1:Nat):Int)=K+1 * (i:Int)+1:=by omega
  generalize (mkL ZHQ 1 K i++l.drop i).map iU=r at hg hf hlen ho
  obtain ⟨K',hK⟩:∃ K',K'=K+1 * (i:Int):=⟨_,rfl⟩
  rw [←hK] at h1' hf hn hk1 hk2
  
  simp only[iU] at hg hf
  have hgs:=ZFX r i hlen
  have hw0:IntKind.i64.wrap (K'+1)=K'+1:=by rw [w64 (by omega) (by omega)]
  simp only[↓xP,xT,rL,rB,rA,rS,h0,h5,h1',ho,hi,hg,hgs,List.set_set,hw,hf,hw0]
  exact ih (i+1) _ (by omega) ⟨by omega,by simp only[↓xP,xT,rL,rB,rA,rS,h0],by simp only[↓xP,xT,rL,rB,rA,rS],by simp only[↓xP,xT,rL,rB,rA,rS]; exact ZFF (by omega),by simp only[↓xP,xT,rL,rB,rA,rS]⟩
 ·have:i=l.length:=by omega
  subst this
  simp only[↓xP,xT,rL,rB,rA,rS,h0,h5,h1',ho,hi,List.drop_length,List.append_nil,List.length_map,ZY]
def ZF9 (K:Int):Pair:=⟨(ZHE (K)),(K+1)⟩
theorem ZHr (l:List Pair) (K:Int) (h1:1≤K) (h2:K+2*l.length≤4611686018427387904):EE F 45 [.sc (.own (.par 0) l.length),I K] [.row 2 (l.map Pair.u)]=some ⟨[I (K+2*l.length)],[],[.row 2 ((mkL ZF9 2 K l.length).map Pair.u)]⟩:=by
 refine (EE_run (fn:=i45) (by kernel_rfl) rfl).trans ?_
 simp only[i45,b45,ZdN,ZcQ,List.length_cons,List.length_nil]
 simp only[↓xP,xT,rL,rB,rA,rS]
 refine (Zjc (fun (i:Nat) st=>i≤l.length∧st.s 0=.t (.sc (.own (.par 0) l.length))∧st.s 5=DI i∧st.s 1=DI (K+2*i)∧st.o (.par 0)=some (.row 2 ((mkL ZF9 2 K i++l.drop i).map Pair.u))) (fun i=>l.length - i) (fun i=>some ⟨[I (K+2*l.length)],[],[.row 2 ((mkL ZF9 2 K l.length).map Pair.u)]⟩) ?_ 0 ⟨by omega,by simp only[↓xP,xT,rL,rB,rA,rS],by simp only[↓xP,xT,rL,rB,rA,rS]; rfl,by simp only[↓xP,xT,rL,rB,rA,rS]; exact ZFF (by omega),by simp only[↓xP,xT,rL,rB,rA,rS]; simp [mkL]⟩).trans rfl
 rintro i st ⟨hle,h0,h5,h1',ho⟩ ih
 by_cases hi:i<l.length
 ·obtain ⟨x,hx⟩:∃ x,l[i]?=some x:=⟨_,List.getElem?_eq_getElem hi⟩
  have hw:=w_succ (i:=i) (by omega)
  have hg:=ZHR (u:=Pair.u) (f:=ZF9) (w:=2) (K:=K) hx
  have hf:=ZHS (u:=Pair.u) (f:=ZF9) (w:=2) (K:=K) hx
  have hlen:i<((mkL ZF9 2 K i++l.drop i).map Pair.u).length:=by simp [ZY]; omega
  have hk1:1≤K+2 * (i:Int):=by omega
  have hk2:K+2 * (i:Int)+2≤4611686018427387904:=by omega
  have hn:K+2 * ((i+1:Nat):Int)=K+2 * (i:Int)+2:=by omega
  generalize (mkL ZF9 2 K i++l.drop i).map Pair.u=r at hg hf hlen ho
  obtain ⟨K',hK⟩:∃ K',K'=K+2 * (i:Int):=⟨_,rfl⟩
  rw [←hK] at h1' hf hn hk1 hk2
  obtain ⟨c1,c2⟩:=x
  simp only[Pair.u,ZF9] at hg hf
  have hgs:=ZFX r i hlen
  have hw0:IntKind.i64.wrap (K'+1)=K'+1:=by rw [w64 (by omega) (by omega)]
  have hw1:IntKind.i64.wrap (K'+1+1)=K'+1+1:=by rw [w64 (by omega) (by omega)]
  have mt0:=ZFk (K') (by omega) (by omega)
  simp only[↓xP,xT,rL,rB,rA,rS,h0,h5,h1',ho,hi,hg,hgs,List.set_set,hw,hf,hw0,hw1,mt0]
  exact ih (i+1) _ (by omega) ⟨by omega,by simp only[↓xP,xT,rL,rB,rA,rS,h0],by simp only[↓xP,xT,rL,rB,rA,rS],by simp only[↓xP,xT,rL,rB,rA,rS]; exact ZFF (by omega),by simp only[↓xP,xT,rL,rB,rA,rS]⟩
 ·have:i=l.length:=by omega
  subst this
  simp only[↓xP,xT,rL,rB,rA,rS,h0,h5,h1',ho,hi,List.drop_length,List.append_nil,List.length_map,ZY]
def ZFY (K:Int):Session:=⟨(K),(K+1),(K+1+1)⟩
theorem ZJG (l:List Session) (K:Int) (h1:1≤K) (h2:K+3*l.length≤4611686018427387904):EE F 101 [.sc (.own (.par 0) l.length),I K] [.row 3 (l.map Session.u)]=some ⟨[I (K+3*l.length)],[],[.row 3 ((mkL ZFY 3 K l.length).map Session.u)]⟩:=by
 refine (EE_run (fn:=i101) (by kernel_rfl) rfl).trans ?_
 simp only[i101,b101,ZdN,ZcQ,List.length_cons,List.length_nil]
 simp only[↓xP,xT,rL,rB,rA,rS]
 refine (Zjc (fun (i:Nat) st=>i≤l.length∧st.s 0=.t (.sc (.own (.par 0) l.length))∧st.s 5=DI i∧st.s 1=DI (K+3*i)∧st.o (.par 0)=some (.row 3 ((mkL ZFY 3 K i++l.drop i).map Session.u))) (fun i=>l.length - i) (fun i=>some ⟨[I (K+3*l.length)],[],[.row 3 ((mkL ZFY 3 K l.length).map Session.u)]⟩) ?_ 0 ⟨by omega,by simp only[↓xP,xT,rL,rB,rA,rS],by simp only[↓xP,xT,rL,rB,rA,rS]; rfl,by simp only[↓xP,xT,rL,rB,rA,rS]; exact ZFF (by omega),by simp only[↓xP,xT,rL,rB,rA,rS]; simp [mkL]⟩).trans rfl
 rintro i st ⟨hle,h0,h5,h1',ho⟩ ih
 by_cases hi:i<l.length
 ·obtain ⟨x,hx⟩:∃ x,l[i]?=some x:=⟨_,List.getElem?_eq_getElem hi⟩
  have hw:=w_succ (i:=i) (by omega)
  have hg:=ZHR (u:=Session.u) (f:=ZFY) (w:=3) (K:=K) hx
  have hf:=ZHS (u:=Session.u) (f:=ZFY) (w:=3) (K:=K) hx
  have hlen:i<((mkL ZFY 3 K i++l.drop i).map Session.u).length:=by simp [ZY]; omega
  have hk1:1≤K+3 * (i:Int):=by omega
  have hk2:K+3 * (i:Int)+3≤4611686018427387904:=by omega
  have hn:K+3 * ((i+1:Nat):Int)=K+3 * (i:Int)+3:=by omega
  generalize (mkL ZFY 3 K i++l.drop i).map Session.u=r at hg hf hlen ho
  obtain ⟨K',hK⟩:∃ K',K'=K+3 * (i:Int):=⟨_,rfl⟩
  rw [←hK] at h1' hf hn hk1 hk2
  obtain ⟨c1,c2,c3⟩:=x
  simp only[Session.u,ZFY] at hg hf
  have hgs:=ZFX r i hlen
  have hw0:IntKind.i64.wrap (K'+1)=K'+1:=by rw [w64 (by omega) (by omega)]
  have hw1:IntKind.i64.wrap (K'+1+1)=K'+1+1:=by rw [w64 (by omega) (by omega)]
  have hw2:IntKind.i64.wrap (K'+1+1+1)=K'+1+1+1:=by rw [w64 (by omega) (by omega)]
  simp only[↓xP,xT,rL,rB,rA,rS,h0,h5,h1',ho,hi,hg,hgs,List.set_set,hw,hf,hw0,hw1,hw2]
  exact ih (i+1) _ (by omega) ⟨by omega,by simp only[↓xP,xT,rL,rB,rA,rS,h0],by simp only[↓xP,xT,rL,rB,rA,rS],by simp only[↓xP,xT,rL,rB,rA,rS]; exact ZFF (by omega),by simp only[↓xP,xT,rL,rB,rA,rS]⟩
 ·have:i=l.length:=by omega
  subst this
  simp only[↓xP,xT,rL,rB,rA,rS,h0,h5,h1',ho,hi,List.drop_length,List.append_nil,List.length_map,ZY]
def ZGu (K:Int):Answer:=⟨⟨(K),(K+1),⟨(K+1+1),(ZHE (K+1+1+1)),(K+1+1+1+1),(K+1+1+1+1+1)⟩⟩,(K+1+1+1+1+1+1)⟩
theorem ZJ4 (l:List Answer) (K:Int) (h1:1≤K) (h2:K+7*l.length≤4611686018427387904):EE F 38 [.sc (.own (.par 0) l.length),I K] [.row 7 (l.map Answer.u)]=some ⟨[I (K+7*l.length)],[],[.row 7 ((mkL ZGu 7 K l.length).map Answer.u)]⟩:=by
 refine (EE_run (fn:=i38) (by kernel_rfl) rfl).trans ?_
 simp only[i38,b38,ZdN,ZcQ,List.length_cons,List.length_nil]
 simp only[↓xP,xT,rL,rB,rA,rS]
 refine (Zjc (fun (i:Nat) st=>i≤l.length∧st.s 0=.t (.sc (.own (.par 0) l.length))∧st.s 5=DI i∧st.s 1=DI (K+7*i)∧st.o (.par 0)=some (.row 7 ((mkL ZGu 7 K i++l.drop i).map Answer.u))) (fun i=>l.length - i) (fun i=>some ⟨[I (K+7*l.length)],[],[.row 7 ((mkL ZGu 7 K l.length).map Answer.u)]⟩) ?_ 0 ⟨by omega,by simp only[↓xP,xT,rL,rB,rA,rS],by simp only[↓xP,xT,rL,rB,rA,rS]; rfl,by simp only[↓xP,xT,rL,rB,rA,rS]; exact ZFF (by omega),by simp only[↓xP,xT,rL,rB,rA,rS]; simp [mkL]⟩).trans rfl
 rintro i st ⟨hle,h0,h5,h1',ho⟩ ih
 by_cases hi:i<l.length
 ·obtain ⟨x,hx⟩:∃ x,l[i]?=some x:=⟨_,List.getElem?_eq_getElem hi⟩
  have hw:=w_succ (i:=i) (by omega)
  have hg:=ZHR (u:=Answer.u) (f:=ZGu) (w:=7) (K:=K) hx
  have hf:=ZHS (u:=Answer.u) (f:=ZGu) (w:=7) (K:=K) hx
  have hlen:i<((mkL ZGu 7 K i++l.drop i).map Answer.u).length:=by simp [ZY]; omega
  have hk1:1≤K+7 * (i:Int):=by omega
  have hk2:K+7 * (i:Int)+7≤4611686018427387904:=by omega
  have hn:K+7 * ((i+1:Nat):Int)=K+7 * (i:Int)+7:=by omega
  generalize (mkL ZGu 7 K i++l.drop i).map Answer.u=r at hg hf hlen ho
  obtain ⟨K',hK⟩:∃ K',K'=K+7 * (i:Int):=⟨_,rfl⟩
  rw [←hK] at h1' hf hn hk1 hk2
  obtain ⟨⟨c1,c2,⟨c3,c4,c5,c6⟩⟩,c7⟩:=x
  simp only[Answer.u,ZGu] at hg hf
  have hgs:=ZFX r i hlen
  have hw0:IntKind.i64.wrap (K'+1)=K'+1:=by rw [w64 (by omega) (by omega)]
  have hw1:IntKind.i64.wrap (K'+1+1)=K'+1+1:=by rw [w64 (by omega) (by omega)]
  have hw2:IntKind.i64.wrap (K'+1+1+1)=K'+1+1+1:=by rw [w64 (by omega) (by omega)]
  have hw3:IntKind.i64.wrap (K'+1+1+1+1)=K'+1+1+1+1:=by rw [w64 (by omega) (by omega)]
  have hw4:IntKind.i64.wrap (K'+1+1+1+1+1)=K'+1+1+1+1+1:=by rw [w64 (by omega) (by omega)]
  have hw5:IntKind.i64.wrap (K'+1+1+1+1+1+1)=K'+1+1+1+1+1+1:=by rw [w64 (by omega) (by omega)]
  have hw6:IntKind.i64.wrap (K'+1+1+1+1+1+1+1)=K'+1+1+1+1+1+1+1:=by rw [w64 (by omega) (by omega)]
  have mt3:=ZFk (K'+1+1+1) (by omega) (by omega)
  simp only[↓xP,xT,rL,rB,rA,rS,h0,h5,h1',ho,hi,hg,hgs,List.set_set,hw,hf,hw0,hw1,hw2,hw3,hw4,hw5,hw6,mt3]
  exact ih (i+1) _ (by omega) ⟨by omega,by simp only[↓xP,xT,rL,rB,rA,rS,h0],by simp only[↓xP,xT,rL,rB,rA,rS],by simp only[↓xP,xT,rL,rB,rA,rS]; exact ZFF (by omega),by simp only[↓xP,xT,rL,rB,rA,rS]⟩
 ·have:i=l.length:=by omega
  subst this
  simp only[↓xP,xT,rL,rB,rA,rS,h0,h5,h1',ho,hi,List.drop_length,List.append_nil,List.length_map,ZY]
def cmpS (a b:Str):Int:=if ZaZ a b=true then -1 else if ZaZ b a=true then 1 else 0
theorem ZN9 (s:Str):EE F 210 [S s] []=ok1 (B false):=by
 rw [R210,b210]
 simp only[↓xP,xT,rL,rB,rA,rS,ne_eq,not_true_eq_false,decide_false]
theorem ZKN (a b:Str):EE F 147 [S a,S b] []=ok1 (I (cmpS a b)):=by
 rw [R147,b147]
 simp only[↓xP,xT,rL,rB,rA,rS,ZN9,ZI3]
 repeat' (refine ZiE (fun h=>?_) (fun h=>?_))
 all_goals simp_all [cmpS]
theorem ZLh (p:Str) (v:Int) (key:Str):EE F 280 [.ag [.u (.str p),.u (.int .i64 v)],S key] []=ok1 (I (cmpS p key)):=by
 rw [R280,b280]
 simp only[↓xP,xT,rL,rB,rA,rS,ZKN]
def place (key:Str):List Pair→Nat
 | []=>0
 | p::l=>if ZaZ p.key key=true then place key l+1 else 0
theorem ZG8 (key:Str):∀ l,place key l≤l.length
 | []=>Nat.le_refl _
 | p::l=>by simp only[place]; split; simpa using ZG8 key l; simp
theorem ZIQ (key:Str):∀ (l:List Pair) (i:Nat),i≤l.length→(∀ t p,t<i→l[t]?=some p→ZaZ p.key key=true)→(∀ p,l[i]?=some p→ZaZ p.key key=false)→place key l=i
 | [],i,hi,_,_=>by simp at hi; simp [place,hi]
 | p::l,0,_,_,h2=>by simp [place,h2 p rfl]
 | p::l,i+1,hi,h1,h2=>by
  have:=h1 0 p (by omega) rfl
  simp only[place,this,if_true]
  rw [ZIQ key l i (by simpa using hi) (fun t q ht hq=>h1 (t+1) q (by omega) hq) (fun q hq=>h2 q hq)]
/-- The keys ascend. -/
def Asc (l:List Pair):Prop:=∀ (s t:Nat) p q,s<t→l[s]?=some p→l[t]?=some q→ZaZ p.key q.key=true
theorem ZIn {l:List Pair} (h:ZB l=true):Asc l:=by
 have hc:∀ (t:Nat) p q,l[t]?=some p→l[t+1]?=some q→ZaZ p.key q.key=true:=by
  intro t p q hp hq
  simp only[ZB,Bool.and_eq_true,decide_eq_true_eq] at h
  have:=(ZFs _ 0 rfl).1 h.2 (t+1) (by omega) (List.getElem?_eq_some_iff.1 hq).1
  simp only[ZFq,hq,Nat.add_sub_cancel,hp] at this
  simp_all
 intro s t p q hst hp hq
 induction t generalizing q with
 | zero=>omega
 | succ t ih=>
  obtain ⟨r,hr⟩:∃ r,l[t]?=some r:=⟨_,List.getElem?_eq_getElem (by have:=(List.getElem?_eq_some_iff.1 hq).1; omega)⟩
  by_cases e:s=t
  ·subst e; exact hc _ _ _ hp hq
  ·exact lt_trans (ih r (by omega) hr) (hc _ _ _ hr hq)
theorem ZOi {i j:Nat} (h:i+j<9223372036854775808):IntKind.i64.wrap ((IntKind.u64.wrap (IntKind.i64.wrap ((i:Int) + (j:Int)))).fdiv (2 ^ min (Int.toNat 1) IntKind.u64.bits))=(((i+j) / 2:Nat):Int):=by
 rw [show (2:Int) ^ min (Int.toNat 1) IntKind.u64.bits=2 from rfl]
 rw [show IntKind.i64.wrap ((i:Int) + (j:Int))=(i:Int)+j from w64 (by omega) (by omega)]
 have:IntKind.u64.wrap ((i:Int)+j)=(i:Int)+j:=by rw [IntKind.wrap_u64]; omega
 rw [this,Int.fdiv_eq_ediv_of_nonneg _ (by omega),w64 (by omega) (by omega)]
 omega
def ZJS (key:Str) (l:List Pair):Bool:=match l[place key l]? with
 | some p=>decide (p.key=key)
 | none=>false
theorem ZNl (l:List Pair) (key:Str) (ha:Asc l) (hn:l.length≤1048576):EE F 279 [L 2 (l.map Pair.u),S key,.sc (.u (.fn 280 []))] []=some ⟨[I (place key l),B (ZJS key l)],[],[]⟩:=by
 rw [R279,b279]
 simp only[↓xP,xT,rL,rB,rA,rS]
 refine (Zjc (fun (a:Nat×Nat) st=>a.1≤a.2∧a.2≤l.length∧(∀ t p,t<a.1→l[t]?=some p→ZaZ p.key key=true)∧(∀ t p,a.2≤t→l[t]?=some p→ZaZ p.key key=false)∧
  st.s 0=DU (.sl 2 (l.map Pair.u))∧st.s 1=DS key∧st.s 2=.t (.sc (.u (.fn 280 [])))∧st.s 8=DI l.length∧st.s 9=DI a.1∧st.s 10=DI a.2) (fun a=>a.2 - a.1) (fun a=>some ⟨[I (place key l),B (ZJS key l)],[],[]⟩) ?_ (0,l.length) ⟨by omega,by dsimp only; omega,by omega,?_,by simp only[↓xP,xT,rL,rB,rA,rS],by simp only[↓xP,xT,rL,rB,rA,rS],by simp only[↓xP,xT,rL,rB,rA,rS],by simp only[↓xP,xT,rL,rB,rA,rS],by simp only[↓xP,xT,rL,rB,rA,rS]; rfl,by simp only[↓xP,xT,rL,rB,rA,rS]⟩).trans rfl
 ·rintro ⟨i,j⟩ st ⟨hij,hj,hlo,hhi,h0,h1,h2,h8,h9,h10⟩ ih
  dsimp only at hij hj hlo hhi h9 h10 ih
  by_cases h:i<j
  ·obtain ⟨⟨pk,pv⟩,hp⟩:∃ p,l[(i+j) / 2]?=some p:=⟨_,List.getElem?_eq_getElem (by omega)⟩
   have hm:=ZOi (i:=i) (j:=j) (by omega)
   have hw:=w_succ (i:=(i+j) / 2) (by omega)
   have hb:¬(1:Int)<0:=by omega
   by_cases hc:ZaZ pk key=true
   ·have hs:cmpS pk key = -1:=by simp [cmpS,hc]
    have hn1:(-1:Int)<0:=by omega
    simp only[↓xP,xT,rL,rB,rA,rS,h0,h1,h2,h8,h9,h10,h,hb,hm,hp,hw,Pair.u,ZLh,hs,hn1]
    refine ih ((i+j) / 2+1,j) _ (by dsimp only; omega) ⟨by dsimp only; omega,hj,fun t q ht hq=>?_,hhi,by simp only[↓xP,xT,rL,rB,rA,rS,h0],by simp only[↓xP,xT,rL,rB,rA,rS,h1],by simp only[↓xP,xT,rL,rB,rA,rS,h2],by simp only[↓xP,xT,rL,rB,rA,rS,h8],by simp only[↓xP,xT,rL,rB,rA,rS],by simp only[↓xP,xT,rL,rB,rA,rS,h10]⟩
    dsimp only at ht
    by_cases e:t=(i+j) / 2
    ·subst e; rw [hp] at hq; cases hq; exact hc
    ·exact lt_trans (ha t _ _ _ (by omega) hq hp) hc
   ·have hs:¬cmpS pk key<0:=by unfold cmpS; rw [if_neg hc]; split<;>omega
    simp only[↓xP,xT,rL,rB,rA,rS,h0,h1,h2,h8,h9,h10,h,hb,hm,hp,hw,Pair.u,ZLh,hs]
    refine ih (i,(i+j) / 2) _ (by dsimp only; omega) ⟨by dsimp only; omega,by dsimp only; omega,hlo,fun t q ht hq=>?_,by simp only[↓xP,xT,rL,rB,rA,rS,h0],by simp only[↓xP,xT,rL,rB,rA,rS,h1],by simp only[↓xP,xT,rL,rB,rA,rS,h2],by simp only[↓xP,xT,rL,rB,rA,rS,h8],by simp only[↓xP,xT,rL,rB,rA,rS,h9],by simp only[↓xP,xT,rL,rB,rA,rS]⟩
    dsimp only at ht
    rw [Bool.eq_false_iff]
    intro h3
    by_cases e:t=(i+j) / 2
    ·subst e; rw [hp] at hq; cases hq; exact hc h3
    ·exact hc (lt_trans (ha _ t _ _ (by omega) hp hq) h3)
  ·have hpl:place key l=i:=ZIQ key l i (by omega) hlo (fun p hp=>hhi i p (by omega) hp)
   by_cases hi:i<l.length
   ·obtain ⟨⟨pk,pv⟩,hp⟩:∃ p,l[i]?=some p:=⟨_,List.getElem?_eq_getElem hi⟩
    have h3:=hhi i _ (by omega) hp
    simp only[↓xP,xT,rL,rB,rA,rS,h0,h1,h2,h8,h9,h10,h,hi,hp,Pair.u,ZLh,ZJS,hpl]
    have:decide (cmpS pk key=0)=decide (pk=key):=by
     simp only at h3
     rcases ZHO pk key with h4|h4|h4
     ·rw [h3] at h4; cases h4
     ·subst h4; simp [cmpS,ZG0]
     ·have:pk≠key:=fun e=>by subst e; simp [ZG0] at h4
      simp [cmpS,h3,h4,this]
    rw [this]
   ·have hp:l[i]?=none:=List.getElem?_eq_none (by omega)
    simp only[↓xP,xT,rL,rB,rA,rS,h0,h1,h2,h8,h9,h10,h,hi,ZJS,hpl,hp]
 ·intro t p ht hp
  have:=(List.getElem?_eq_some_iff.1 hp).1
  dsimp only at ht
  omega
theorem ZHu (l:List Pair) (key:Str) (ha:Asc l) (hn:l.length≤1048576):EE F 241 [L 2 (l.map Pair.u),S key] []=some ⟨[I (place key l),B (ZJS key l)],[],[]⟩:=by
 rw [R241,b241]
 simp only[↓xP,xT,rL,rB,rA,rS,ZNl l key ha hn]
theorem ZL0 {key:Str}:∀ {l:List Pair} {t:Nat} {p:Pair},t<place key l→l[t]?=some p→ZaZ p.key key=true
 | [],t,p,ht,hp=>by simp at hp
 | q :: l,t,p,ht,hp=>by
  simp only[place] at ht
  split at ht
  ·rename_i hq
   cases t with
   | zero=>cases hp; exact hq
   | succ t=>exact ZL0 (l:=l) (t:=t) (by omega) hp
  ·omega
theorem ZKa {key:Str}:∀ {l:List Pair} {p:Pair},l[place key l]?=some p→ZaZ p.key key=false
 | [],p,hp=>by simp at hp
 | q::l,p,hp=>by
  simp only[place] at hp
  split at hp
  ·exact ZKa (l:=l) hp
  ·rename_i hq; cases hp; simpa using hq
theorem ZNT {key:Str} {l:List Pair} (ha:Asc l) {t:Nat} {p:Pair} (ht:place key l≤t) (hp:l[t]?=some p):ZaZ p.key key=false:=by
 obtain ⟨q,hq⟩:∃ q,l[place key l]?=some q:=⟨_,List.getElem?_eq_getElem (by have:=(List.getElem?_eq_some_iff.1 hp).1; omega)⟩
 have h1:=ZKa hq
 by_cases e:place key l=t
 ·subst e; rw [hq] at hp; cases hp; exact h1
 ·rw [Bool.eq_false_iff]
  intro h2
  rw [lt_trans (ha _ t _ _ (by omega) hq hp) h2] at h1
  cases h1
theorem ZHb (l:List Pair) (hn:l.length≤1048576):EE F 242 [L 2 (l.map Pair.u)] []=some ⟨[.sc (.own (.par 0) l.length)],[.row 2 (l.map Pair.u)],[]⟩:=by
 rw [R242,b242]
 have h1:l.length≤maxLen:=by simp [maxLen]; omega
 have h2:l.length*24≤140737488355328:=by omega
 simp only[↓xP,xT,rL,rB,rA,rS,h1,h2]
theorem ZIE (n:Nat) (K:Int) (h1:1≤K) (h2:K+2*n≤4611686018427387904):EE F 46 [L 2 ((mkL ZF9 2 K n).map Pair.u),I K] []=ok1 (I (K+2*n)):=by
 rw [R46,b46]
 simp only[↓xP,xT,rL,rB,rA,rS]
 refine (Zjc (fun (i:Nat) st=>i≤n∧st.s 0=DU (.sl 2 ((mkL ZF9 2 K n).map Pair.u))∧st.s 5=DI i∧st.s 1=DI (K+2*i)) (fun i=>n - i) (fun i=>ok1 (I (K+2*n))) ?_ 0 ⟨by omega,by simp only[↓xP,xT,rL,rB,rA,rS],by simp only[↓xP,xT,rL,rB,rA,rS]; rfl,by simp only[↓xP,xT,rL,rB,rA,rS]; exact ZFF (by omega)⟩).trans rfl
 rintro i st ⟨hle,h0,h5,h1'⟩ ih
 have hlen:=ZY ZF9 2 K n
 by_cases hi:i<n
 ·have hx:=ZOb ZF9 2 K hi
  have hw:=w_succ (i:=i) (by omega)
  have hk1:1≤K+2 * (i:Int):=by omega
  have hk2:K+2 * (i:Int)+2≤4611686018427387904:=by omega
  have hn:K+2 * ((i+1:Nat):Int)=K+2 * (i:Int)+2:=by omega
  obtain ⟨K',hK⟩:∃ K',K'=K+2 * (i:Int):=⟨_,rfl⟩
  rw [←hK] at h1' hx hn hk1 hk2
  have hw0:IntKind.i64.wrap (K'+1)=K'+1:=by rw [w64 (by omega) (by omega)]
  have hw1:IntKind.i64.wrap (K'+1+1)=K'+1+1:=by rw [w64 (by omega) (by omega)]
  have mt0:=ZFk K' (by omega) (by omega)
  simp only[↓xP,xT,rL,rB,rA,rS,h0,h5,h1',hlen,hi,hx,hw,Pair.u,ZF9,hw0,hw1,mt0,ne_eq,not_true_eq_false,decide_false]
  exact ih (i+1) _ (by omega) ⟨by omega,by simp only[↓xP,xT,rL,rB,rA,rS,h0],by simp only[↓xP,xT,rL,rB,rA,rS],by simp only[↓xP,xT,rL,rB,rA,rS]; exact ZFF (by omega)⟩
 ·have:i=n:=by omega
  subst this
  simp only[↓xP,xT,rL,rB,rA,rS,h0,h5,h1',hlen,hi]
/-- The place of the first such number, or -1. -/
def idxI (l:List Int) (x:Int):Int:=if x∈l then (l.idxOf x:Int) else -1
theorem ZN5 {x:Int} {l:List Int}:idxI (x::l) x=0:=by simp [idxI]
theorem ZN7 {x y:Int} {l:List Int} (h:y≠x):idxI (y::l) x=if x∈l then idxI l x+1 else -1:=by
 have h':x≠y:=fun e=>h e.symm
 simp only[idxI,List.mem_cons,h',false_or]
 by_cases hm:x∈l
 ·simp only[hm,if_true]
  have:(y==x)=false:=by simpa using h
  simp [List.idxOf_cons,this]
 ·simp [hm]
theorem ZNJ {l:List Int} {x:Int}:idxI l x<0↔x∉l:=by
 unfold idxI
 split<;>simp_all
theorem ZN6 {l:List Int} {x:Int}:0≤idxI l x↔x∈l:=by
 have:=ZNJ (l:=l) (x:=x)
 constructor
 ·intro h; by_cases hm:x∈l
  ·exact hm
  ·have:=this.2 hm; omega
 ·intro h
  by_cases hq:idxI l x<0
  ·exact absurd h (this.1 hq)
  ·omega
/-- From a place on. -/
def idxF (l:List Int) (x:Int) (i:Nat):Int:=if x∈l.drop i then (i:Int)+idxI (l.drop i) x else -1
theorem ZOn (l:List Int) (x:Int):idxF l x 0=idxI l x:=by
 simp only[idxF,List.drop_zero,idxI]
 split<;>simp
theorem ZNH (l:List Int) (x:Int) {i:Nat} (h:¬i<l.length):idxF l x i = -1:=by
 simp [idxF,List.drop_of_length_le (show l.length≤i by omega)]
theorem ZNI {l:List Int} {x:Int} {i:Nat} (h:l[i]?=some x):idxF l x i=i:=by
 obtain ⟨hi,hx⟩:=List.getElem?_eq_some_iff.1 h
 simp [idxF,List.drop_eq_getElem_cons hi,hx,ZN5]
theorem ZNe {l:List Int} {x y:Int} {i:Nat} (h:l[i]?=some y) (hn:y≠x):idxF l x i=idxF l x (i+1):=by
 obtain ⟨hi,hx⟩:=List.getElem?_eq_some_iff.1 h
 have hn':x≠y:=fun e=>hn e.symm
 simp only[idxF,List.drop_eq_getElem_cons hi,hx,List.mem_cons,hn',false_or,ZN7 hn]
 by_cases hm:x∈l.drop (i+1)
 ·simp only[hm,if_true]; omega
 ·simp [hm]
theorem ZNf (l:List Int) (x:Int) (hn:l.length≤4611686018427387904):EE F 268 [L 1 (l.map iU),I x] []=ok1 (I (idxI l x)):=by
 rw [R268,b268]
 simp only[↓xP,xT,rL,rB,rA,rS]
 refine (Zjc (fun (i:Nat) st=>i≤l.length∧st.s 0=DU (.sl 1 (l.map iU))∧st.s 1=DI x∧st.s 7=DI l.length∧st.s 8=DI i) (fun i=>l.length - i) (fun i=>ok1 (I (idxF l x i))) ?_ 0 (by and_intros<;>first|omega|rfl|(simp only[↓xP,xT,rL,rB,rA,rS]<;>first|done|rfl|omega))).trans (by rw [ZOn])
 rintro i st ⟨hle,h0,h1,h7,h8⟩ ih
 by_cases hi:i<l.length
 ·obtain ⟨y,hy⟩:∃ y,l[i]?=some y:=⟨_,List.getElem?_eq_getElem hi⟩
  have hw:=w_succ (i:=i) (by omega)
  simp only[↓xP,xT,rL,rB,rA,rS,h0,h1,h7,h8,hi,hy,hw,iU]
  refine ZiE (fun h=>?_) (fun h=>?_)
  ·simp only[decide_eq_true_eq] at h
   rw [ZNI (by rw [hy,h])]
  ·simp only[decide_eq_false_iff_not] at h
   rw [ZNe hy (fun e=>h e.symm)]
   exact ih (i+1) _ (by omega) (by and_intros<;>first|omega|rfl|(simp only[↓xP,xT,rL,rB,rA,rS,h0,h1,h7]<;>first|done|rfl|omega))
 ·simp only[↓xP,xT,rL,rB,rA,rS,h0,h1,h7,h8,hi]
  rw [ZNH l x hi]
theorem ZK4 (l:List Int) (x:Int) (hn:l.length≤4611686018427387904):EE F 211 [L 1 (l.map iU),I x] []=ok1 (B (decide (x∈l))):=by
 rw [R211,b211]
 simp only[↓xP,xT,rL,rB,rA,rS,ZNf l x hn,ge_iff_le,ZN6]
def okAt (l:List Int) (k:Nat):Bool:=match l[k]? with
 | some x=>inR x 0 4&&!decide (x∈l.take k)
 | none=>true
def ZS (c:Config):Bool:=decide (1≤c.epoch)&&decide (c.epoch≤60)&&decide (1≤c.members.length)&&decide (c.members.length≤4)&&!(c.fresh&&decide (c.members.length<2))&&allF c.members.length (okAt c.members) 0
theorem ZKU {l:List Int} {k:Nat} {x:Int} (h:l[k]?=some x):okAt l k=(inR x 0 4&&!decide (x∈l.take k)):=by simp [okAt,h]
theorem ZIq {n:Nat} {i:Nat} (h:i≤n):vcut n none (some (DI (i:Int)))=some (0,i):=by
 simp [vcut,D.int?]
 omega
theorem ZGz (e:Int) (l:List Int) (f:Bool) (hn:l.length≤4611686018427387904):EE F 148 [.ag [.u (.int .i64 e),.u (.sl 1 (l.map iU)),.u (.bool f)]] []=ok1 (B (ZS ⟨e,l,f⟩)):=by
 rw [R148,b148]
 simp only[↓xP,xT,rL,rB,rA,rS]
 by_cases hg:(decide (1≤e)&&decide (e≤60)&&decide (1≤l.length)&&decide (l.length≤4)&&!(f&&decide (l.length<2)))=true
 ·have e1:ZS ⟨e,l,f⟩=allF l.length (okAt l) 0:=by simp only[ZS,hg,Bool.true_and]
  rw [e1]
  simp only[Bool.and_eq_true,decide_eq_true_eq,Bool.not_eq_true',Bool.and_eq_false_iff,decide_eq_false_iff_not] at hg
  obtain ⟨⟨⟨⟨h1,h2⟩,h3⟩,h4⟩,h5⟩:=hg
  have g1:¬e<1:=by omega
  have g2:¬60<e:=by omega
  have g3:¬(l.length:Int)<1:=by omega
  have g4:¬(4:Int)<(l.length:Int):=by omega
  simp only[g1,g2,g3,g4,gt_iff_lt,decide_false,↓xP,xT,rL,rB,rA,rS]
  repeat' (refine ZiE (fun h=>?_) (fun h=>?_))
  all_goals (try (exfalso; simp only[decide_eq_true_eq] at *; simp_all; omega))
  all_goals
   refine (Zjc (fun (i:Nat) st=>i≤l.length∧st.s 1=.t (.sc (.ptr (.loc 1 0) 0 0))∧st.o (.loc 1 0)=some (.box [.u (.int .i64 e),.u (.sl 1 (l.map iU)),.u (.bool f)])∧st.s 34=DU (.sl 1 (l.map iU))∧st.s 35=DI l.length∧st.s 36=DI i) (fun i=>l.length - i) (fun i=>ok1 (B (allF l.length (okAt l) i))) ?_ 0 (by and_intros<;>first|omega|rfl|(simp only[↓xP,xT,rL,rB,rA,rS]<;>first|done|rfl|omega))).trans rfl
   rintro i st ⟨hle,hb,ho,h34,h35,h36⟩ ih
   by_cases hi:i<l.length
   ·obtain ⟨y,hy⟩:∃ y,l[i]?=some y:=⟨_,List.getElem?_eq_getElem hi⟩
    have hw:=w_succ (i:=i) (by omega)
    have hct:=ZIq (n:=l.length) hle
    have hlt:(l.take i).length≤4611686018427387904:=by simp; omega
    have hct2:=ZK4 (l.take i) y hlt
    simp only[↓xP,xT,rL,rB,rA,rS,hb,ho,h34,h35,h36,hi,hy,hw,iU,ZHt,List.length_map,hct,List.drop_zero,←List.map_take,hct2]
    rw [ZFV hi,ZKU hy]
    repeat' (refine ZiE (fun h=>?_) (fun h=>?_))
    all_goals first
     | (simp_all; done)
     | (rw [ih (i+1) _ (by omega) (by and_intros<;>first|omega|rfl|(simp only[↓xP,xT,rL,rB,rA,rS,hb,ho,h34,h35]<;>first|done|rfl|omega))]; simp_all)
   ·simp only[↓xP,xT,rL,rB,rA,rS,hb,ho,h34,h35,h36,hi]
    rw [ZFU hi]
 ·have hg2:=hg
  rw [Bool.not_eq_true] at hg2
  have e1:ZS ⟨e,l,f⟩=false:=by simp only[ZS,hg2,Bool.false_and]
  clear hg2
  rw [e1]
  repeat' (refine ZiE (fun h=>?_) (fun h=>?_))
  all_goals first
   | rfl
   | (exfalso; apply hg; simp only[decide_eq_true_eq,decide_eq_false_iff_not] at *; simp_all; omega)
theorem ZGA (e:Int) (l:List Int) (f:Bool) (hn:l.length≤4611686018427387904):EE F 144 [.ag [.u (.int .i64 e),.u (.sl 1 (l.map iU)),.u (.bool f)]] []=ok1 (B (ZS ⟨e,l,f⟩)):=by
 rw [R144,b144]
 simp only[↓xP,xT,rL,rB,rA,rS,ZX]
 by_cases hg:(decide (1≤e)&&decide (e≤60)&&decide (1≤l.length)&&decide (l.length≤4)&&!(f&&decide (l.length<2)))=true
 ·have e1 : ZS ⟨e,l,f⟩=allF l.length (okAt l) 0:=by simp only[ZS,hg,Bool.true_and]
  rw [e1]
  simp only[Bool.and_eq_true,decide_eq_true_eq,Bool.not_eq_true',Bool.and_eq_false_iff,decide_eq_false_iff_not] at hg
  obtain ⟨⟨⟨⟨h1,h2⟩,h3⟩,h4⟩,h5⟩:=hg
  have g1:inR e 1 60=true:=by simp [inR,h1,h2]
  have g2:inR (l.length:Int) 1 4=true:=by simp [inR]; omega
  simp only[g1,g2,↓xP,xT,rL,rB,rA,rS]
  repeat' (refine ZiE (fun h=>?_) (fun h=>?_))
  all_goals (try (exfalso; simp only[decide_eq_true_eq] at *; simp_all; omega))
  all_goals
   refine (Zjc (fun (i:Nat) st=>i≤l.length∧st.s 1=.t (.sc (.ptr (.loc 1 0) 0 0))∧st.o (.loc 1 0)=some (.box [.u (.int .i64 e),.u (.sl 1 (l.map iU)),.u (.bool f)])∧st.s 3=DI i) (fun i=>l.length - i) (fun i=>ok1 (B (allF l.length (okAt l) i))) ?_ 0 (by and_intros<;>first|omega|rfl|(simp only[↓xP,xT,rL,rB,rA,rS]<;>first|done|rfl|omega))).trans rfl
   rintro i st ⟨hle,hb,ho,h3⟩ ih
   by_cases hi:i<l.length
   ·obtain ⟨y,hy⟩:∃ y,l[i]?=some y:=⟨_,List.getElem?_eq_getElem hi⟩
    have hw:=w_succ (i:=i) (by omega)
    simp only[↓xP,xT,rL,rB,rA,rS,hb,ho,h3,hi,hy,iU,ZX]
    rw [ZFV hi,ZKU hy]
    refine ZiE (fun h=>?_) (fun h=>?_)
    ·simp_all
    refine (Zjc (fun (j:Nat) st=>j≤i∧st.s 1=.t (.sc (.ptr (.loc 1 0) 0 0))∧st.o (.loc 1 0)=some (.box [.u (.int .i64 e),.u (.sl 1 (l.map iU)),.u (.bool f)])∧st.s 3=DI i∧st.s 4=DI j) (fun j=>i - j) (fun j=>ok1 (B (!decide (y∈(l.take i).drop j)&&allF l.length (okAt l) (i+1)))) ?_ 0 (by and_intros<;>first|omega|rfl|(simp only[↓xP,xT,rL,rB,rA,rS,hb,ho,h3]<;>first|done|rfl|omega))).trans (by simp_all)
    rintro j st ⟨hlj,hb,ho,h3,h4⟩ ihj
    by_cases hj:j<i
    ·obtain ⟨z,hz⟩:∃ z,l[j]?=some z:=⟨_,List.getElem?_eq_getElem (by omega)⟩
     have hwj:=w_succ (i:=j) (by omega)
     have hd:(l.take i).drop j=z::(l.take i).drop (j+1):=by
      rw [List.drop_eq_getElem_cons (by simp; omega)]
      simp [(List.getElem?_eq_some_iff.1 hz).2]
     simp only[↓xP,xT,rL,rB,rA,rS,hb,ho,h3,h4,hj,hz,hy,iU,hwj]
     rw [hd]
     refine ZiE (fun h=>?_) (fun h=>?_)
     ·simp_all
     ·rw [ihj (j+1) _ (by omega) (by and_intros<;>first|omega|rfl|(simp only[↓xP,xT,rL,rB,rA,rS,hb,ho,h3]<;>first|done|rfl|omega))]
      simp only[decide_eq_false_iff_not] at h
      have h':¬y=z:=fun e=>h e.symm
      simp [h']
    ·simp only[↓xP,xT,rL,rB,rA,rS,hb,ho,h3,h4,hj,hw]
     rw [List.drop_of_length_le (by simp; omega)]
     rw [ih (i+1) _ (by omega) (by and_intros<;>first|omega|rfl|(simp only[↓xP,xT,rL,rB,rA,rS,hb,ho]<;>first|done|rfl|omega))]
     simp
   ·simp only[↓xP,xT,rL,rB,rA,rS,hb,ho,h3,hi]
    rw [ZFU hi]
 ·have hg2:=hg
  rw [Bool.not_eq_true] at hg2
  have e1:ZS ⟨e,l,f⟩=false:=by simp only[ZS,hg2,Bool.false_and]
  clear hg2
  rw [e1]
  repeat' (refine ZiE (fun h=>?_) (fun h=>?_))
  all_goals first
   | rfl
   | (exfalso; apply hg; simp only[decide_eq_true_eq,decide_eq_false_iff_not,inR] at *; simp_all; omega)
theorem ZO {n k:Nat} (h:n≤1048576) (hk:k≤100000000):n≤maxLen∧n*k≤140737488355328:=by
 refine ⟨by simp [maxLen]; omega,?_⟩
 have:=Nat.mul_le_mul h hk
 omega
def rep {α:Type} (l:List α) (a m:Nat) (b:List α):List α:=l.take a++b++l.drop (a+m)
theorem ZIR {α:Type} {l:List α} {a m:Nat} {b:List α} (h:a+m≤l.length):(rep l a m b).length=l.length - m+b.length:=by
 simp [rep]; omega
def zero_Pair:List U:=[.str [],.int .i64 0]
def zero_Session:List U:=[.int .i64 0,.int .i64 0,.int .i64 0]
theorem ZNS (st:St) (d c:Nat) (zero:List U) (bytes:Nat) (h:c*bytes≤140737488355328):stMk st d (DI 0) (DI (c:Int)) zero bytes=some (((st.cool (.loc d 0)).obj (.loc d 0) (some (.row zero.length []))).put d (.t (.sc (.own (.loc d 0) 0)))):=by
 have h0:(0:Int)≤(c:Int):=by omega
 simp [stMk,D.int?,h,h0]
theorem ZHJ {n i:Nat} (h:i≤n):vcut n (some (DI (i:Int))) none=some (i,n):=by
 simp [vcut,D.int?]
 omega
theorem ZH {α β:Type} (f:α→β) (l:List α):List.take l.length (List.map f l)=List.map f l:=List.take_of_length_le (by simp)
theorem ZHh (l b:List Pair) (a m:Nat) (h:a+m≤l.length) (hn:l.length+b.length≤1048576):EE F 278 [L 2 (l.map Pair.u),I a,I m,L 2 (b.map Pair.u)] []=some ⟨[.sc (.own (.par 0) (rep l a m b).length)],[.row 2 ((rep l a m b).map Pair.u)],[]⟩:=by
 rw [R278,b278]
 have w1:IntKind.i64.wrap ((l.length:Int) - (m:Int))=((l.length - m:Nat):Int):=by rw [w64 (by omega) (by omega)]; omega
 have w2:IntKind.i64.wrap (((l.length - m:Nat):Int) + (b.length:Int))=((l.length - m+b.length:Nat):Int):=by rw [w64 (by omega) (by omega)]; omega
 have w3:IntKind.i64.wrap ((a:Int) + (m:Int))=((a+m:Nat):Int):=by rw [w64 (by omega) (by omega)]; omega
 have c1:=ZIq (n:=l.length) (i:=a) (by omega)
 have c2:=ZHJ (n:=l.length) (i:=a+m) h
 have k0:=fun st d=>ZNS st d (l.length - m+b.length) (Go.Proofs.YtmfjkbbmhaofbaaGreatV.zero_Pair) 24 (by omega)
 have ha:min a l.length=a:=by omega
 have q1:a≤maxLen∧a*24≤140737488355328:=ZO (by omega) (by omega)
 have q2:a+b.length≤maxLen∧(a+b.length)*24≤140737488355328:=ZO (by omega) (by omega)
 have q3:a+b.length + (l.length - (a+m))≤maxLen∧(a+b.length + (l.length - (a+m)))*24≤140737488355328:=ZO (by omega) (by omega)
 simp only[zero_Pair] at k0
 simp only[↓xP,xT,rL,rB,rA,rS,w1,w2,w3,k0,c1,c2,List.drop_zero,List.length_map,List.length_take,List.length_drop,List.length_append,List.length_nil,Nat.zero_add,List.nil_append,ha,q1.1,q1.2,q2.1,q2.2,q3.1,q3.2,ZH,rep,List.map_append,List.map_take,List.map_drop]
theorem ZHm (l b:List Session) (a m:Nat) (h:a+m≤l.length) (hn:l.length+b.length≤1048576):EE F 300 [L 3 (l.map Session.u),I a,I m,L 3 (b.map Session.u)] []=some ⟨[.sc (.own (.par 0) (rep l a m b).length)],[.row 3 ((rep l a m b).map Session.u)],[]⟩:=by
 rw [R300,b300]
 have w1:IntKind.i64.wrap ((l.length:Int) - (m:Int))=((l.length - m:Nat):Int):=by rw [w64 (by omega) (by omega)]; omega
 have w2:IntKind.i64.wrap (((l.length - m:Nat):Int) + (b.length:Int))=((l.length - m+b.length:Nat):Int):=by rw [w64 (by omega) (by omega)]; omega
 have w3:IntKind.i64.wrap ((a:Int) + (m:Int))=((a+m:Nat):Int):=by rw [w64 (by omega) (by omega)]; omega
 have c1:=ZIq (n:=l.length) (i:=a) (by omega)
 have c2:=ZHJ (n:=l.length) (i:=a+m) h
 have k0:=fun st d=>ZNS st d (l.length - m+b.length) (Go.Proofs.YtmfjkbbmhaofbaaGreatV.zero_Session) 24 (by omega)
 have ha:min a l.length=a:=by omega
 have q1:a≤maxLen∧a*24≤140737488355328:=ZO (by omega) (by omega)
 have q2:a+b.length≤maxLen∧(a+b.length)*24≤140737488355328:=ZO (by omega) (by omega)
 have q3:a+b.length + (l.length - (a+m))≤maxLen∧(a+b.length + (l.length - (a+m)))*24≤140737488355328:=ZO (by omega) (by omega)
 simp only[zero_Session] at k0
 simp only[↓xP,xT,rL,rB,rA,rS,w1,w2,w3,k0,c1,c2,List.drop_zero,List.length_map,List.length_take,List.length_drop,List.length_append,List.length_nil,Nat.zero_add,List.nil_append,ha,q1.1,q1.2,q2.1,q2.2,q3.1,q3.2,ZH,rep,List.map_append,List.map_take,List.map_drop]
def hit (key:Str) (l:List Pair):Option Pair:=match l[place key l]? with
 | some p=>if p.key=key then some p else none
 | none=>none
def ZFn (l:List Pair) (key:Str):Int:=if ZB l=true then (match hit key l with
 | some p=>p.value
 | none=>-1) else -1
def Z2 (l:List Pair) (key:Str) (v:Int):List Pair×Bool:=
 if ZB l=true∧ZW key=true∧inR v 0 999=true then
  (if (hit key l).isSome=true then (rep l (place key l) 1 [⟨key,v⟩],true) else if 48≤l.length then (l,false) else (rep l (place key l) 0 [⟨key,v⟩],true))
 else ([],false)
def ZFe (l:List Pair) (key:Str):List Pair×Bool:=
 if ZB l=true then (if (hit key l).isSome=true then (rep l (place key l) 1 [],true) else (l,false)) else ([],false)
def ZZ (u:Pair→List U) (sz:Nat) (r:List Pair×Bool):Option Ret:=some ⟨[.sc (.own (.par 0) r.1.length),B r.2],[.row sz (r.1.map u)],[]⟩
theorem ZI2 {key:Str} {l:List Pair}:ZJS key l=(hit key l).isSome:=by
 unfold ZJS hit
 cases l[place key l]? with
 | none=>rfl
 | some p=>by_cases h:p.key=key<;>simp [h]
theorem ZGt {key:Str} {l:List Pair} {p:Pair} (h:hit key l=some p):l[place key l]?=some p∧p.key=key:=by
 unfold hit at h
 split at h
 ·rename_i q hq
  split at h
  ·rename_i hk; cases h; exact ⟨hq,hk⟩
  ·cases h
 ·cases h
theorem ZIF {key:Str} {l:List Pair} (h:hit key l=none):∀ p,l[place key l]?=some p→p.key≠key:=by
 intro p hp
 unfold hit at h
 rw [hp] at h
 simp only at h
 split at h
 ·cases h
 ·assumption
theorem ZGC (l:List Pair) (key:Str) (hn:l.length≤4611686018427387904):EE F 232 [L 2 (l.map Pair.u),S key] []=ok1 (I (place key l)):=by
 rw [R232,b232]
 simp only[↓xP,xT,rL,rB,rA,rS]
 refine (Zjc (fun (i:Nat) st=>i≤l.length∧(∀ t p,t<i→l[t]?=some p→ZaZ p.key key=true)∧st.s 0=DU (.sl 2 (l.map Pair.u))∧st.s 1=DS key∧st.s 5=DI i) (fun i=>l.length - i) (fun i=>ok1 (I (place key l))) ?_ 0 ⟨by omega,fun t p ht=>by omega,(by and_intros<;>first|omega|rfl|(simp only[↓xP,xT,rL,rB,rA,rS]<;>first|done|rfl|omega))⟩).trans rfl
 rintro i st ⟨hle,hlo,h0,h1,h5⟩ ih
 by_cases hi:i<l.length
 ·obtain ⟨⟨pk,pv⟩,hp⟩:∃ p,l[i]?=some p:=⟨_,List.getElem?_eq_getElem hi⟩
  have hw:=w_succ (i:=i) (by omega)
  simp only[↓xP,xT,rL,rB,rA,rS,h0,h1,h5,hi,hp,Pair.u]
  refine ZiE (fun h=>?_) (fun h=>?_)
  ·simp only[↓xP,xT,rL,rB,rA,rS,h0,h1,h5,hw]
   exact ih (i+1) _ (by omega) ⟨by omega,fun t p ht hq=>by
    by_cases e:t=i
    ·subst e; rw [hp] at hq; cases hq; exact h
    ·exact hlo t p (by omega) hq,(by and_intros<;>first|omega|rfl|(simp only[↓xP,xT,rL,rB,rA,rS,h0,h1]<;>first|done|rfl|omega))⟩
  ·have:place key l=i:=ZIQ key l i (by omega) hlo (fun p hq=>by rw [hp] at hq; cases hq; exact h)
   simp only[↓xP,xT,rL,rB,rA,rS,h0,h1,h5,this]
 ·have:place key l=i:=ZIQ key l i (by omega) hlo (fun p hq=>by have:=(List.getElem?_eq_some_iff.1 hq).1; omega)
  simp only[↓xP,xT,rL,rB,rA,rS,h0,h1,h5,hi,this]
theorem ZLi (l:List Pair) (key:Str):EE F 235 [L 2 (l.map Pair.u),S key] []=ok1 (I (ZFn l key)):=by
 rw [R235,b235]
 simp only[↓xP,xT,rL,rB,rA,rS,ZFN]
 refine ZiE (fun h=>?_) (fun h=>?_)
 ·simp_all [ZFn]
 simp only[Bool.not_eq_false'] at h
 have hl:=Z4 h
 simp only[↓xP,xT,rL,rB,rA,rS,ZHu l key (ZIn h) (by omega),ZI2]
 cases hh:hit key l with
 | none=>simp [ZFn,h,hh,↓xP,xQ,xR,xS,ZLR,rL,rB,rA,rS]
 | some p=>
  obtain ⟨pk,pv⟩:=p
  obtain ⟨h1,h2⟩:=ZGt hh
  simp only[↓xP,xT,rL,rB,rA,rS,Option.isSome_some,h1,Pair.u,ZFn,h,hh]
  try simp
theorem ZLj (l:List Pair) (key:Str) (hn:l.length≤4611686018427387904):EE F 171 [L 2 (l.map Pair.u),S key] []=ok1 (I (ZFn l key)):=by
 rw [R171,b171]
 have hpl:=ZG8 key l
 cases h:ZB l
 ·simp only[↓xP,xT,rL,rB,rA,rS,ZGC l key hn,Z6,h,ZFn]
  try simp
 cases hh:hit key l with
 | none=>
  have hno:=ZIF hh
  by_cases hi:place key l=l.length
  ·have hi':((place key l:Nat):Int)=(l.length:Int):=by omega
   simp only[↓xP,xT,rL,rB,rA,rS,ZGC l key hn,Z6,h,hi',ZFn,hh]
   try simp
  ·obtain ⟨⟨pk,pv⟩,hp⟩:∃ p,l[place key l]?=some p:=⟨_,List.getElem?_eq_getElem (by omega)⟩
   have hi':¬((place key l:Nat):Int)=(l.length:Int):=by omega
   have hne:¬pk=key:=hno _ hp
   simp only[↓xP,xT,rL,rB,rA,rS,ZGC l key hn,Z6,h,hi',ZFn,hh,hp,Pair.u,hne]
   simp [sel,hne]
 | some p=>
  obtain ⟨pk,pv⟩:=p
  obtain ⟨h1,h2⟩:=ZGt hh
  have hlt:=(List.getElem?_eq_some_iff.1 h1).1
  have hi':¬((place key l:Nat):Int)=(l.length:Int):=by omega
  dsimp only at h2
  simp only[↓xP,xT,rL,rB,rA,rS,ZGC l key hn,Z6,h,hi',ZFn,hh,h1,Pair.u,h2]
  simp [sel]
def yU (n:Int):List U:=[.int .u8 n]
/-- A reader: its bytes, and how many numbers it drew. -/
def rd (bs:List Int) (p:Nat):Obj:=.box [.u (.sl 1 (bs.map yU)),.u (.int .i64 p)]
/-- What a function that draws comes to: results of a kind; the reader went on by at most so many. -/
def Gd (bs:List Int) (p c:Nat) (R:List T→List Obj→Prop) (x:Option Ret):Prop:=∃ r n q,x=some ⟨r,n,[rd bs q]⟩∧p≤q∧q≤p+c∧R r n
theorem ZNj {fin:St→Option Ret} {is:List Za} {c:IC} {α:Type} {G:Option Ret→Prop} (Inv:α→St→Prop) (μ:α→Nat)
  (h:∀ a st,Inv a st→(∀ a' st',μ a'<μ a→Inv a' st'→G (KK F fin (.inLoop c::is) st'))→G (KK F fin (.code c::.inLoop c::is) st)) {st:St} (a:α) (hI:Inv a st):G (KK F fin (.code (.loop c)::is) st):=by
 rw [ZgK]
 have all:∀ n a st,μ a<n→Inv a st→G (KK F fin (.inLoop c::is) st):=by
  intro n
  induction n with
  | zero=>intro a st h0; omega
  | succ n ih=>
   intro a st hn hI
   rw [ZfN]
   exact h a st hI (fun a' st' hm hI'=>ih a' st' (by omega) hI')
 exact all (μ a+1) a st (by omega) hI
theorem rdx:(∀ bs p,(rd bs p).data=true)∧(∀ bs p q,ZaJ (some (rd bs p)) (rd bs q)=true)∧(∀ id bs p,Obj.mapC (C.kill id) (rd bs p)=rd bs p)∧(∀ st id bs p,Obj.mapC (St.coolC st id) (rd bs p)=rd bs p):=by
 refine ⟨fun _ _=>rfl,fun _ _ _=>rfl,fun _ _ _=>rfl,fun st id bs p=>?_⟩
 have h:∀ u,st.coolC id (.u u)=.u u:=by
  intro u
  unfold St.coolC
  cases st.o id with
  | none=>rfl
  | some ob=>cases ob<;>rfl
 simp [rd,Obj.mapC,h]
theorem Gd.run {f:Nat} {a:List T} {bs:List Int} {p c:Nat} {R:List T→List Obj→Prop} {fn:IFn} (hF:Go.Proofs.YtmfjkbbmhaofbaaGreatV.F f=some fn) (hn:a.length=fn.np) (h:Gd bs p c R (KK F (FF fn.res 1) [.code fn.body] (ZdN 0 a (ZcQ 0 [rd bs p] S0)))):Gd bs p c R (EE F f a [rd bs p]):=by
 rw [EE_run hF hn]; exact h
theorem ZKk {i:Nat} (h:i≤1048576):IntKind.i64.wrap (((i+1:Nat):Int) - 1)=(i:Int):=by rw [w64 (by omega) (by omega)]; omega
theorem rdx2:(∀ bs p,Obj.flat (rd bs p)=(bs.map yU).isEmpty)∧(∀ bs p,Obj.data (rd bs p)=true)∧(∀ (x:Bool) (a:List Id),sel x a a=a):=by
 refine ⟨fun bs p=>?_,fun bs p=>rfl,fun x a=>by cases x<;>rfl⟩
 simp [rd,Obj.flat,C.isSl,U.flat]
def Code (code:List Int):Prop:=code.length≤9223372036854775807∧∀ b,b∈code→0≤b∧b≤255
/-- A property of a call's end. -/
def Ok (R:Ret→Prop) (x:Option Ret):Prop:=∃ r,x=some r∧R r
theorem Ok.run {f:Nat} {a:List T} {R:Ret→Prop} {fn:IFn} (hF:Go.Proofs.YtmfjkbbmhaofbaaGreatV.F f=some fn) (hn:a.length=fn.np) (h:Ok R (KK F (FF fn.res 0) [.code fn.body] (ZdN 0 a (ZcQ 0 [] S0)))):Ok R (EE F f a []):=by
 rw [EE_run hF hn]; exact h
theorem ZOu (us:List U) (hl:us.length=1) (ht:∀ (j:Nat) ty u,[Ty.i .u8][j]?=some ty→us[j]?=some u→UT ty u):∃ x,us=yU x∧(0≤x∧x≤255):=by
 match us,hl with
 | [a],_=>obtain ⟨n,rfl,h⟩:=(ht 0 _ a rfl rfl).u8_of; exact ⟨n,rfl,h⟩
theorem Code.of {u:U} (hu:UT (.sl [.i .u8]) u):∃ code:List Int,u=.sl 1 (code.map yU)∧Code code:=by
 obtain ⟨code,rfl,hl,hb⟩:=hu.sl_of ZOu
 exact ⟨code,rfl,hl,hb⟩
theorem ZOc {l:List Pair} {i:Nat} {p q:Pair} (h:l[i]?=some p):(l.map Pair.u).set i (Pair.u q)=(rep l i 1 [q]).map Pair.u:=by
 obtain ⟨hi,_⟩:=List.getElem?_eq_some_iff.1 h
 rw [←List.map_set]
 congr 1
 rw [List.set_eq_take_append_cons_drop,if_pos hi]
 simp [rep]
theorem ZNV {l:List Pair} {i:Nat} {p q:Pair} (h:l[i]?=some p):(rep l i 1 [q]).length=l.length:=by
 obtain ⟨hi,_⟩:=List.getElem?_eq_some_iff.1 h
 rw [ZIR (by omega)]
 simp; omega
theorem ZLl (l:List Pair) (key:Str) (v:Int) (hn:l.length≤1048576):EE F 231 [L 2 (l.map Pair.u),S key,I v] []=ZZ Pair.u 2 (Z2 l key v):=by
 rw [R231,b231]
 have hpl:=ZG8 key l
 have hv:=Z6 l
 cases h:ZB l
 ·rw [h] at hv
  simp only[↓xP,xT,rL,rB,rA,rS,hv,Z2,h,Bool.false_eq_true,false_and,if_false,ZZ,List.map_nil,List.length_nil]
 rw [h] at hv
 have hl48:=Z4 h
 have hkv:=ZFo key
 cases hk:ZW key
 ·rw [hk] at hkv
  simp only[↓xP,xT,rL,rB,rA,rS,hv,hkv,Z2,hk,Bool.false_eq_true,false_and,and_false,if_false,ZZ,List.map_nil,List.length_nil]
 rw [hk] at hkv
 cases hr:inR v 0 999
 ·simp only[↓xP,xT,rL,rB,rA,rS,hv,hkv,ZX,hr,Z2,Bool.false_eq_true,false_and,and_false,if_false,ZZ,List.map_nil,List.length_nil]
 have q0:l.length≤maxLen∧l.length*24≤140737488355328:=ZO hn (by omega)
 have hpl4:=ZGC l key (by omega)
 cases hh:hit key l with
 | some p=>
  obtain ⟨pk,pv⟩:=p
  obtain ⟨h1,h2⟩:=ZGt hh
  dsimp only at h2
  subst h2
  have hlt:=(List.getElem?_eq_some_iff.1 h1).1
  have hli:((place pk l:Nat):Int)<(l.length:Int):=by omega
  have hset:=ZOc (q:=⟨pk,v⟩) h1
  have hrl:=ZNV (q:=⟨pk,v⟩) h1
  simp only[Pair.u] at hset
  have hpp:Z2 l pk v=(rep l (place pk l) 1 [⟨pk,v⟩],true):=by simp only[Z2,h,hk,hr,hh,Option.isSome_some,and_self,if_true]
  rw [hpp]
  simp only[↓xP,xT,rL,rB,rA,rS,hv,hkv,ZX,hr,hpl4,List.length_map,Nat.zero_add,List.nil_append,hli,h1,Pair.u,q0.1,q0.2,hset,hlt]
  simp [sel,hrl,ZZ]
 | none=>
  have hno:=ZIF hh
  have hmin:min (place key l) l.length=place key l:=by omega
  have hct:=ZIq (n:=l.length) (i:=place key l) (by omega)
  have hcf:=ZHJ (n:=l.length) (i:=place key l) (by omega)
  have q1:place key l≤maxLen∧place key l*24≤140737488355328:=ZO (by omega) (by omega)
  have q2:place key l+1≤maxLen∧(place key l+1)*24≤140737488355328:=ZO (by omega) (by omega)
  have q3:place key l+1 + (l.length - place key l)≤maxLen∧(place key l+1 + (l.length - place key l))*24≤140737488355328:=ZO (by omega) (by omega)
  have hlen:(rep l (place key l) 0 [⟨key,v⟩]).length=place key l+1 + (l.length - place key l):=by rw [ZIR (by omega)]; simp; omega
  have her:List.take (place key l) (l.map Pair.u)++[[U.str key,U.int .i64 v]]++List.drop (place key l) (l.map Pair.u)=(rep l (place key l) 0 [⟨key,v⟩]).map Pair.u:=by simp [rep,List.map_take,List.map_drop,Pair.u]
  by_cases hge:(48:Int)≤(l.length:Int)
  ·have hge':48≤l.length:=by omega
   have hpp:Z2 l key v=(l,false):=by simp only[Z2,h,hk,hr,hh,Option.isSome_none,Bool.false_eq_true,if_false,hge',and_self,if_true]
   rw [hpp]
   by_cases hlt:place key l<l.length
   ·obtain ⟨⟨pk,pv⟩,hp⟩:∃ p,l[place key l]?=some p:=⟨_,List.getElem?_eq_getElem (by omega)⟩
    have hli:((place key l:Nat):Int)<(l.length:Int):=by omega
    have hne:¬pk=key:=hno _ hp
    simp only[↓xP,xT,rL,rB,rA,rS,hv,hkv,ZX,hr,hpl4,List.length_map,Nat.zero_add,List.nil_append,hli,hp,Pair.u,hne,q0.1,q0.2,ge_iff_le,hge,ZZ,ZH]
   ·have hli:¬((place key l:Nat):Int)<(l.length:Int):=by omega
    simp only[↓xP,xT,rL,rB,rA,rS,hv,hkv,ZX,hr,hpl4,List.length_map,Nat.zero_add,List.nil_append,hli,Pair.u,q0.1,q0.2,ge_iff_le,hge,ZZ,ZH]
  ·have hge':¬48≤l.length:=by omega
   have hpp:Z2 l key v=(rep l (place key l) 0 [⟨key,v⟩],true):=by simp only[Z2,h,hk,hr,hh,Option.isSome_none,Bool.false_eq_true,if_false,hge',and_self,if_true]
   rw [hpp]
   by_cases hlt:place key l<l.length
   ·obtain ⟨⟨pk,pv⟩,hp⟩:∃ p,l[place key l]?=some p:=⟨_,List.getElem?_eq_getElem (by omega)⟩
    have hli:((place key l:Nat):Int)<(l.length:Int):=by omega
    have hne:¬pk=key:=hno _ hp
    simp only[↓xP,xT,rL,rB,rA,rS,hv,hkv,ZX,hr,hpl4,List.length_map,List.length_take,List.length_drop,Nat.zero_add,List.nil_append,hli,hp,Pair.u,hne,q1.1,q1.2,q2.1,q2.2,q3.1,q3.2,ge_iff_le,hge,ZZ,ZH,hct,hcf,hmin,hlen,her,List.drop_zero,List.length_append,List.length_cons,List.length_nil]
   ·have hli:¬((place key l:Nat):Int)<(l.length:Int):=by omega
    simp only[↓xP,xT,rL,rB,rA,rS,hv,hkv,ZX,hr,hpl4,List.length_map,List.length_take,List.length_drop,Nat.zero_add,List.nil_append,hli,Pair.u,q1.1,q1.2,q2.1,q2.2,q3.1,q3.2,ge_iff_le,hge,ZZ,ZH,hct,hcf,hmin,hlen,her,List.drop_zero,List.length_append,List.length_cons,List.length_nil]
def ZK2 (p:Pair):Prop:=ZW p.key=true∧inR p.value 0 999=true
def Up (a b:Pair):Prop:=ZaZ a.key b.key=true
theorem ZFl (l:List Pair):ZB l=true↔l.length≤48∧(∀ p,p∈l→ZK2 p)∧l.Pairwise Up:=by
 constructor
 ·intro h
  refine ⟨Z4 h,fun p hp=>?_,?_⟩
  ·obtain ⟨i,hi⟩:=List.mem_iff_getElem?.1 hp
   exact ZIg h hi
  ·rw [List.pairwise_iff_getElem]
   intro i j hi hj hij
   exact ZIn h i j _ _ hij (List.getElem?_eq_getElem hi) (List.getElem?_eq_getElem hj)
 ·rintro ⟨h1,h2,h3⟩
  simp only[ZB,Bool.and_eq_true,decide_eq_true_eq]
  refine ⟨h1,(ZFs _ 0 rfl).2 fun j _ hj=>?_⟩
  obtain ⟨p,hp⟩:∃ p,l[j]?=some p:=⟨_,List.getElem?_eq_getElem hj⟩
  have hf:=h2 p (List.mem_of_getElem? hp)
  simp only[ZFq,hp,hf.1,hf.2,Bool.and_true,Bool.true_and,Bool.or_eq_true,decide_eq_true_eq]
  by_cases h0:j=0
  ·exact .inl h0
  ·right
   obtain ⟨q,hq⟩:∃ q,l[j - 1]?=some q:=⟨_,List.getElem?_eq_getElem (by omega)⟩
   rw [hq]
   have:=List.pairwise_iff_getElem.1 h3 (j - 1) j (by omega) hj (by omega)
   rw [(List.getElem?_eq_some_iff.1 hq).2,(List.getElem?_eq_some_iff.1 hp).2] at this
   exact this
theorem ZKv (l:List Pair) (key:Str) (hn:l.length≤1048576):EE F 230 [L 2 (l.map Pair.u),S key] []=ZZ Pair.u 2 (ZFe l key):=by
 rw [R230,b230]
 have hpl:=ZG8 key l
 have hv:=Z6 l
 cases h:ZB l
 ·rw [h] at hv
  simp only[↓xP,xT,rL,rB,rA,rS,hv,ZFe,h,Bool.false_eq_true,false_and,if_false,ZZ,List.map_nil,List.length_nil]
 rw [h] at hv
 have q0:l.length≤maxLen∧l.length*24≤140737488355328:=ZO hn (by omega)
 have hpl4:=ZGC l key (by omega)
 cases hh:hit key l with
 | none=>
  have hno:=ZIF hh
  have hpp:ZFe l key=(l,false):=by simp only[ZFe,h,hh,Option.isSome_none,Bool.false_eq_true,if_false,if_true]
  rw [hpp]
  by_cases hi:place key l=l.length
  ·have hi':((place key l:Nat):Int)=(l.length:Int):=by omega
   simp only[↓xP,xT,rL,rB,rA,rS,hv,hpl4,List.length_map,hi',Nat.zero_add,List.nil_append,q0.1,q0.2,ZZ,ZH]
  ·obtain ⟨⟨pk,pv⟩,hp⟩:∃ p,l[place key l]?=some p:=⟨_,List.getElem?_eq_getElem (by omega)⟩
   have hi':¬((place key l:Nat):Int)=(l.length:Int):=by omega
   have hne:¬pk=key:=hno _ hp
   simp only[↓xP,xT,rL,rB,rA,rS,hv,hpl4,List.length_map,hi',hp,Pair.u,hne,Nat.zero_add,List.nil_append,q0.1,q0.2,ZZ,ZH,ne_eq,not_false_eq_true]
 | some p=>
  obtain ⟨pk,pv⟩:=p
  obtain ⟨h1,h2⟩:=ZGt hh
  dsimp only at h2
  subst h2
  have hlt:=(List.getElem?_eq_some_iff.1 h1).1
  have hi':¬((place pk l:Nat):Int)=(l.length:Int):=by omega
  have hmin:min (place pk l) l.length=place pk l:=by omega
  have hw:=w_succ (i:=place pk l) (by omega)
  have hct:=ZIq (n:=l.length) (i:=place pk l) (by omega)
  have hcf:=ZHJ (n:=l.length) (i:=place pk l+1) (by omega)
  have q1:place pk l≤maxLen∧place pk l*24≤140737488355328:=ZO (by omega) (by omega)
  have q3:place pk l + (l.length - (place pk l+1))≤maxLen∧(place pk l + (l.length - (place pk l+1)))*24≤140737488355328:=ZO (by omega) (by omega)
  have hlen:(rep l (place pk l) 1 []).length=place pk l + (l.length - (place pk l+1)):=by rw [ZIR (by omega)]; simp; omega
  have her:List.take (place pk l) (l.map Pair.u)++List.drop (place pk l+1) (l.map Pair.u)=(rep l (place pk l) 1 []).map Pair.u:=by simp [rep,List.map_take,List.map_drop]
  have hpp:ZFe l pk=(rep l (place pk l) 1 [],true):=by simp only[ZFe,h,hh,Option.isSome_some,if_true]
  rw [hpp]
  simp only[↓xP,xT,rL,rB,rA,rS,hv,hpl4,List.length_map,List.length_take,List.length_drop,hi',h1,Pair.u,Nat.zero_add,List.nil_append,hw,hct,hcf,hmin,q1.1,q1.2,q3.1,q3.2,ZZ,ZH,hlen,her,List.drop_zero,ne_eq,not_true_eq_false]
def ZFb (l:List Pair) (c:Command):List Pair×Int:=
  if ZB l=true∧Z5 c=true∧¬c.kind=5 then
    (if c.kind=1∨(c.kind=4∧¬c.old=ZFn l c.key) then (l,ZFn l c.key)
     else if c.kind=3 then ((ZFe l c.key).1,ZFn l c.key)
     else if ZFn l c.key<0∧8≤l.length then (l,-2)
     else ((Z2 l c.key c.value).1,ZFn l c.key))
  else ([],-3)
def ZP (r:List Pair×Int):Option Ret:=some ⟨[.sc (.own (.par 0) r.1.length),I r.2],[.row 2 (r.1.map Pair.u)],[]⟩
theorem ZIy (l:List Pair) (k:Int) (key:Str) (v o:Int) (hn:l.length≤1048576):EE F 271 [L 2 (l.map Pair.u),.ag [.u (.int .i64 k),.u (.str key),.u (.int .i64 v),.u (.int .i64 o)]] []=ZP (ZFb l ⟨k,key,v,o⟩):=by
  rw [R271,b271]
  have hv:=Z6 l
  have hcv:=ZGq k key v o
  cases h:ZB l
  · rw [h] at hv
    simp only[↓xP,xT,rL,rB,rA,rS,hv,ZFb,h,Bool.false_eq_true,false_and,if_false,ZP,List.map_nil,List.length_nil]
  rw [h] at hv
  cases h2:Z5 ⟨k,key,v,o⟩
  · rw [h2] at hcv
    simp only[↓xP,xT,rL,rB,rA,rS,hv,hcv,ZFb,h,h2,Bool.false_eq_true,false_and,and_false,if_false,ZP,List.map_nil,List.length_nil]
  rw [h2] at hcv
  by_cases h5:k=5
  · subst h5
    simp only[↓xP,xT,rL,rB,rA,rS,hv,hcv,ZFb,not_true_eq_false,and_false,if_false,ZP,List.map_nil,List.length_nil]
  have q0:l.length≤maxLen∧l.length*24≤140737488355328:=ZO hn (by omega)
  have hpg:=ZLj l key (by omega)
  have hpd:=ZKv l key hn
  have hpp:=ZLl l key v hn
  generalize hgo:ZFn l key=old at hpg
  generalize hdo:ZFe l key=dr at hpd
  generalize hpo:Z2 l key v=pu at hpp
  obtain ⟨dl,db⟩:=dr
  obtain ⟨pl,pb⟩:=pu
  simp only[ZZ] at hpd hpp
  by_cases h1:k=1
  · subst h1
    simp only[↓xP,xT,rL,rB,rA,rS,hv,hcv,h5,hpg,List.length_map,Nat.zero_add,List.nil_append,q0.1,q0.2,ZFb,h,h2,hgo,hdo,hpo,and_self,true_or,false_or,not_false_eq_true,if_true,ZP,ZH]
  by_cases h4:k=4
  · subst h4
    by_cases ho:o=old
    · subst ho
      have h43:¬(4:Int)=3:=by omega
      by_cases hlt:o<0
      · by_cases h8:(8:Int)≤(l.length:Int)
        · have h8':8≤l.length:=by omega
          simp only[↓xP,xT,rL,rB,rA,rS,hv,hcv,h5,h1,h43,hlt,h8,h8',hpg,List.length_map,Nat.zero_add,List.nil_append,q0.1,q0.2,ZFb,h,h2,hgo,hdo,hpo,and_self,true_or,false_or,or_self,and_false,true_and,not_true_eq_false,not_false_eq_true,if_true,if_false,ZP,ZH,ge_iff_le,ne_eq]
        · have h8':¬8≤l.length:=by omega
          simp only[↓xP,xT,rL,rB,rA,rS,hv,hcv,h5,h1,h43,hlt,h8,h8',hpg,hpp,List.length_map,Nat.zero_add,List.nil_append,q0.1,q0.2,ZFb,h,h2,hgo,hdo,hpo,and_self,true_or,false_or,or_self,and_false,true_and,not_true_eq_false,not_false_eq_true,if_true,if_false,ZP,ZH,ge_iff_le,ne_eq]
      · simp only[↓xP,xT,rL,rB,rA,rS,hv,hcv,h5,h1,h43,hlt,hpg,hpp,List.length_map,Nat.zero_add,List.nil_append,q0.1,q0.2,ZFb,h,h2,hgo,hdo,hpo,and_self,true_or,false_or,or_self,and_false,false_and,true_and,not_true_eq_false,not_false_eq_true,if_true,if_false,ZP,ZH,ge_iff_le,ne_eq]
    · simp only[↓xP,xT,rL,rB,rA,rS,hv,hcv,h5,h1,ho,hpg,List.length_map,Nat.zero_add,List.nil_append,q0.1,q0.2,ZFb,h,h2,hgo,hdo,hpo,and_self,true_or,or_true,false_or,not_false_eq_true,if_true,ZP,ZH,ne_eq]
  by_cases h3:k=3
  · subst h3
    simp only[↓xP,xT,rL,rB,rA,rS,hv,hcv,h5,h1,h4,hpg,hpd,List.length_map,Nat.zero_add,List.nil_append,q0.1,q0.2,ZFb,h,h2,hgo,hdo,hpo,and_self,true_or,false_or,or_self,false_and,not_false_eq_true,if_true,if_false,ZP,ZH]
  · by_cases hlt:old<0
    · by_cases h8:(8:Int)≤(l.length:Int)
      · have h8':8≤l.length:=by omega
        simp only[↓xP,xT,rL,rB,rA,rS,hv,hcv,h5,h1,h4,h3,hlt,h8,h8',hpg,List.length_map,Nat.zero_add,List.nil_append,q0.1,q0.2,ZFb,h,h2,hgo,hdo,hpo,and_self,true_or,false_or,or_self,and_false,false_and,true_and,not_true_eq_false,not_false_eq_true,if_true,if_false,ZP,ZH,ge_iff_le,ne_eq]
      · have h8':¬8≤l.length:=by omega
        simp only[↓xP,xT,rL,rB,rA,rS,hv,hcv,h5,h1,h4,h3,hlt,h8,h8',hpg,hpp,List.length_map,Nat.zero_add,List.nil_append,q0.1,q0.2,ZFb,h,h2,hgo,hdo,hpo,and_self,true_or,false_or,or_self,and_false,false_and,true_and,not_true_eq_false,not_false_eq_true,if_true,if_false,ZP,ZH,ge_iff_le,ne_eq]
    · simp only[↓xP,xT,rL,rB,rA,rS,hv,hcv,h5,h1,h4,h3,hlt,hpg,hpp,List.length_map,Nat.zero_add,List.nil_append,q0.1,q0.2,ZFb,h,h2,hgo,hdo,hpo,and_self,true_or,false_or,or_self,and_false,false_and,true_and,not_true_eq_false,not_false_eq_true,if_true,if_false,ZP,ZH,ge_iff_le,ne_eq]
theorem ZHH (l:List Session) (hn:l.length≤1048576):EE F 273 [L 3 (l.map Session.u)] []=some ⟨[.sc (.own (.par 0) l.length)],[.row 3 (l.map Session.u)],[]⟩:=by
 rw [R273,b273]
 have h1:l.length≤maxLen:=by simp [maxLen]; omega
 have h2:l.length*24≤140737488355328:=by omega
 have h3:∀ n:Nat,¬(n:Int)<0:=fun n=>by omega
 simp only[↓xP,xT,rL,rB,rA,rS,h1,h2]
def pc (id:Id) (b:Bool) (l:List Pair):C:=match b with
 | false=>.u (.sl 2 (l.map Pair.u))
 | true=>.own id l.length
theorem ofR:(∀ (st:St) d res x y z,St.ofRet st d ⟨res,[x,y,z],[]⟩=(((st.obj (.loc d 0) (some x)).obj (.loc d 1) (some y)).obj (.loc d 2) (some z)).put d (retD (res.map (T.mapC (C.ren (Zah d))))))∧
 (∀ (st:St) d res x y z w,St.ofRet st d ⟨res,[x,y,z,w],[]⟩=((((st.obj (.loc d 0) (some x)).obj (.loc d 1) (some y)).obj (.loc d 2) (some z)).obj (.loc d 3) (some w)).put d (retD (res.map (T.mapC (C.ren (Zah d))))))∧List.range 3=[0,1,2]∧List.range 4=[0,1,2,3]:=
 ⟨fun st d res x y z=>rfl,fun st d res x y z w=>rfl,rfl,rfl⟩
def cmpI (a b:Int):Int:=if a<b then -1 else if b<a then 1 else 0
theorem ZN8 (x:Int):EE F 310 [I x] []=ok1 (B false):=by
 rw [R310,b310]
 simp only[↓xP,xT,rL,rB,rA,rS,ne_eq,not_true_eq_false]
theorem ZM7 (a b:Int):EE F 299 [I a,I b] []=ok1 (I (cmpI a b)):=by
 rw [R299,b299]
 simp only[↓xP,xT,rL,rB,rA,rS,ZN8]
 unfold cmpI
 by_cases h1:a<b
 ·simp only[h1,if_true,decide_true,sel]
 ·by_cases h2:b<a
  ·simp only[h1,h2,if_true,if_false,decide_true,decide_false,sel,gt_iff_lt,Bool.false_eq_true]
  ·simp only[h1,h2,if_true,if_false,decide_true,decide_false,sel,gt_iff_lt,Bool.false_eq_true]
theorem ZIv (a b c:Int) (x:Int):EE F 298 [.ag [.u (.int .i64 a),.u (.int .i64 b),.u (.int .i64 c)],I x] []=ok1 (I (cmpI a x)):=by
 rw [R298,b298]
 simp only[↓xP,xT,rL,rB,rA,rS,ZM7]
theorem ZLk (l:List Pair) (key:Str) (v:Int) (hn:l.length≤1048576):EE F 237 [L 2 (l.map Pair.u),S key,I v] []=ZZ Pair.u 2 (Z2 l key v):=by
 rw [R237,b237]
 have hv:=ZFN l
 cases h:ZB l
 ·rw [h] at hv
  simp only[↓xP,xT,rL,rB,rA,rS,hv,Z2,h,Bool.false_eq_true,false_and,if_false,ZZ,List.map_nil,List.length_nil]
 rw [h] at hv
 have hl48:=Z4 h
 have hkv:=ZFw key
 cases hk:ZW key
 ·rw [hk] at hkv
  simp only[↓xP,xT,rL,rB,rA,rS,hv,hkv,Z2,hk,Bool.false_eq_true,false_and,and_false,if_false,ZZ,List.map_nil,List.length_nil]
 rw [hk] at hkv
 cases hr:inR v 0 999
 ·simp only[↓xP,xT,rL,rB,rA,rS,hv,hkv,ZFx,hr,Z2,Bool.false_eq_true,false_and,and_false,if_false,ZZ,List.map_nil,List.length_nil]
 have hpl:=ZHu l key (ZIn h) (by omega)
 have hple:=ZG8 key l
 rw [ZI2] at hpl
 have e0:((0:Nat):Int)=0:=rfl
 have e1:((1:Nat):Int)=1:=rfl
 have hmap : [[U.str key,U.int .i64 v]]=List.map Pair.u [⟨key,v⟩]:=rfl
 cases hh:hit key l with
 | some p=>
  have h1:=(ZGt hh).1
  have hlt:=(List.getElem?_eq_some_iff.1 h1).1
  have hre:=ZHh l [⟨key,v⟩] (place key l) 1 (by omega) (by simp only[List.length_cons,List.length_nil]; omega)
  rw [e1,←hmap] at hre
  have hpp:Z2 l key v=(rep l (place key l) 1 [⟨key,v⟩],true):=by simp only[Z2,h,hk,hr,hh,Option.isSome_some,and_self,if_true]
  rw [hh,Option.isSome_some] at hpl
  simp only[↓xP,xT,rL,rB,rA,rS,hv,hkv,ZFx,hr,hpl,hre,hpp,ZZ]
 | none=>
  rw [hh,Option.isSome_none] at hpl
  by_cases h48:48≤l.length
  ·have h48':(48:Int)≤(l.length:Int):=by omega
   have hc:=ZHb l (by omega)
   have hpp:Z2 l key v=(l,false):=by simp only[Z2,h,hk,hr,hh,Option.isSome_none,Bool.false_eq_true,if_false,h48,and_self,if_true]
   simp only[↓xP,xT,rL,rB,rA,rS,hv,hkv,ZFx,hr,hpl,List.length_map,ge_iff_le,h48',hc,hpp,ZZ]
  ·have h48':¬(48:Int)≤(l.length:Int):=by omega
   have hre:=ZHh l [⟨key,v⟩] (place key l) 0 (by omega) (by simp only[List.length_cons,List.length_nil]; omega)
   rw [e0,←hmap] at hre
   have hpp:Z2 l key v=(rep l (place key l) 0 [⟨key,v⟩],true):=by simp only[Z2,h,hk,hr,hh,Option.isSome_none,Bool.false_eq_true,if_false,h48,and_self,if_true]
   simp only[↓xP,xT,rL,rB,rA,rS,hv,hkv,ZFx,hr,hpl,List.length_map,ge_iff_le,h48',hre,hpp,ZZ]
theorem ZKu (l:List Pair) (key:Str) (hn:l.length≤1048576):EE F 236 [L 2 (l.map Pair.u),S key] []=ZZ Pair.u 2 (ZFe l key):=by
 rw [R236,b236]
 have hv:=ZFN l
 cases h:ZB l
 ·rw [h] at hv
  simp only[↓xP,xT,rL,rB,rA,rS,hv,ZFe,h,Bool.false_eq_true,false_and,if_false,ZZ,List.map_nil,List.length_nil]
 rw [h] at hv
 have hl48:=Z4 h
 have hpl:=ZHu l key (ZIn h) (by omega)
 have hple:=ZG8 key l
 rw [ZI2] at hpl
 have e1:((1:Nat):Int)=1:=rfl
 cases hh:hit key l with
 | some p=>
  have h1:=(ZGt hh).1
  have hlt:=(List.getElem?_eq_some_iff.1 h1).1
  have hre:=ZHh l [] (place key l) 1 (by omega) (by simp only[List.length_nil]; omega)
  rw [e1,List.map_nil] at hre
  have hpp:ZFe l key=(rep l (place key l) 1 [],true):=by simp only[ZFe,h,hh,Option.isSome_some,if_true]
  rw [hh,Option.isSome_some] at hpl
  simp only[↓xP,xT,rL,rB,rA,rS,hv,hpl,hre,hpp,ZZ]
 | none=>
  rw [hh,Option.isSome_none] at hpl
  have hc:=ZHb l (by omega)
  have hpp:ZFe l key=(l,false):=by simp only[ZFe,h,hh,Option.isSome_none,Bool.false_eq_true,if_false,if_true]
  simp only[↓xP,xT,rL,rB,rA,rS,hv,hpl,hc,hpp,ZZ]
/-- Literals of slices in drawn regions. -/
def fxl1 (d n k:Nat) (ok:Bool) (ids:List Id) (r:Option (List (List U))):Option Fx:=if ok=true∧ids=[] then r.map fun r=>⟨some d,.t (.sc (.own (.loc d 0) n)),[(.loc d 0,.row k r)],[]⟩ else none
theorem ZOs:(∀ (E:Zb) (st:St) d n zero ps,fx E st (.lit d n zero ps)=fxl1 d n zero.length (st.dead d 1) (st.partIds ps) (st.fillRows zero.length (List.replicate n zero) ps))∧
 (∀ d n k r,fxl1 d n k true [] (some r)=some ⟨some d,.t (.sc (.own (.loc d 0) n)),[(.loc d 0,.row k r)],[]⟩):=by
 refine ⟨fun E st d n zero ps=>?_,fun d n k r=>rfl⟩
 simp only[fx,fxl1]
theorem ZT {α:Type} {l:List α} {i:Nat} {x:α} (h:l[i]?=some x):l.drop i=x::l.drop (i+1):=by
 have hi:=(List.getElem?_eq_some_iff.1 h).1
 rw [List.drop_eq_getElem_cons hi,(List.getElem?_eq_some_iff.1 h).2]
def ZIu (c:Config):Bool:=decide (c.epoch=0)&&decide (c.members.length=0)&&!c.fresh
theorem ZJl (e:Int) (l:List Int) (f:Bool):EE F 260 [.ag [.u (.int .i64 e),.u (.sl 1 (l.map iU)),.u (.bool f)]] []=ok1 (B (ZIu ⟨e,l,f⟩)):=by
 rw [R260,b260]
 simp only[↓xP,xT,rL,rB,rA,rS]
 repeat' (refine ZiE (fun h=>?_) (fun h=>?_))
 all_goals simp_all [ZIu]
theorem ZJm (e:Int) (l:List Int) (f:Bool):EE F 251 [.ag [.u (.int .i64 e),.u (.sl 1 (l.map iU)),.u (.bool f)]] []=ok1 (B (ZIu ⟨e,l,f⟩)):=by
 rw [R251,b251]
 simp only[↓xP,xT,rL,rB,rA,rS]
 repeat' (refine ZiE (fun h=>?_) (fun h=>?_))
 all_goals simp_all [ZIu]
def ZM (l:List Entry):Bool:=decide (l.length≤24)&&l.all ZQ
theorem ZGr (l:List Entry) (hn:l.length≤4611686018427387904):EE F 225 [L 6 (l.map Entry.u)] []=ok1 (B (ZM l)):=by
 rw [R225,b225]
 simp only[↓xP,xT,rL,rB,rA,rS]
 refine ZiE (fun h=>?_) (fun h=>?_)
 ·have:¬l.length≤24:=by simp at h; omega
  simp [ZM,this]
 have hl:l.length≤24:=by simp at h; omega
 refine (Zjc (fun (i:Nat) st=>st.s 8=DU (.sl 6 (l.map Entry.u))∧st.s 9=DI l.length∧st.s 10=DI i) (fun i=>l.length - i) (fun i=>ok1 (B ((l.drop i).all ZQ))) ?_ 0 (by and_intros<;>first|omega|rfl|(simp only[↓xP,xT,rL,rB,rA,rS]<;>first|done|rfl|omega))).trans (by simp [ZM,hl])
 rintro i st ⟨h8,h9,h10⟩ ih
 by_cases hi:i<l.length
 ·obtain ⟨⟨c,s,k,key,v,o⟩,hx⟩:∃ x,l[i]?=some x:=⟨_,List.getElem?_eq_getElem hi⟩
  have hw:=w_succ (i:=i) (by omega)
  simp only[↓xP,xT,rL,rB,rA,rS,h8,h9,h10,hi,hx,hw,Entry.u,ZGU]
  rw [ZT hx]
  refine ZiE (fun h=>?_) (fun h=>?_)
  ·simp_all
  ·rw [ih (i+1) _ (by omega) (by and_intros<;>first|omega|rfl|(simp only[↓xP,xT,rL,rB,rA,rS,h8,h9]<;>first|done|rfl|omega))]; simp_all
 ·simp only[↓xP,xT,rL,rB,rA,rS,h8,h9,h10,hi]
  rw [List.drop_of_length_le (by omega)]; rfl
theorem ZGs (l:List Entry) (hn:l.length≤4611686018427387904):EE F 222 [L 6 (l.map Entry.u)] []=ok1 (B (ZM l)):=by
 rw [R222,b222]
 simp only[↓xP,xT,rL,rB,rA,rS]
 refine (Zjc (fun (i:Nat) st=>i≤24∧i≤l.length∧st.s 0=DU (.sl 6 (l.map Entry.u))∧st.s 3=DI i) (fun i=>l.length - i) (fun i=>ok1 (B (decide (l.length≤24)&&(l.drop i).all ZQ))) ?_ 0 (by and_intros<;>first|omega|rfl|(simp only[↓xP,xT,rL,rB,rA,rS]<;>first|done|rfl|omega))).trans (by simp [ZM])
 rintro i st ⟨h24,hle,h0,h3⟩ ih
 by_cases hi:i<l.length
 ·obtain ⟨⟨c,s,k,key,v,o⟩,hx⟩:∃ x,l[i]?=some x:=⟨_,List.getElem?_eq_getElem hi⟩
  have hw:=w_succ (i:=i) (by omega)
  by_cases hc:i=24
  ·have hc2:((24:Int)≤(i:Int))=True:=by simp; omega
   simp only[↓xP,xT,rL,rB,rA,rS,h0,h3,hi,hx,hw,hc2,Entry.u,ZF4]
   have:¬l.length≤24:=by omega
   simp [this]
  ·have hc2:((24:Int)≤(i:Int))=False:=by simp; omega
   simp only[↓xP,xT,rL,rB,rA,rS,h0,h3,hi,hx,hw,hc2,Entry.u,ZF4]
   rw [ZT hx]
   refine ZiE (fun h=>?_) (fun h=>?_)
   ·simp_all
   ·rw [ih (i+1) _ (by omega) (by and_intros<;>first|omega|rfl|(simp only[↓xP,xT,rL,rB,rA,rS,h0]<;>first|done|rfl|omega))]; simp_all
 ·simp only[↓xP,xT,rL,rB,rA,rS,h0,h3,hi]
  rw [List.drop_of_length_le (by omega)]
  have:l.length≤24:=by omega
  simp [this]
def ZFg (r:Replica):Bool:=if ZIu r.conf=true then !r.ready&&decide (r.log.length=0) else ZS r.conf&&ZM r.log&&(r.ready||decide (r.log.length=0))
theorem ZIS (e:Int) (ms:List Int) (f rd:Bool) (lg:List Entry) (h1:ms.length≤4611686018427387904) (h2:lg.length≤4611686018427387904):EE F 195 [.ag [.u (.int .i64 e),.u (.sl 1 (ms.map iU)),.u (.bool f),.u (.bool rd),.u (.sl 6 (lg.map Entry.u))]] []=ok1 (B (ZFg ⟨⟨e,ms,f⟩,rd,lg⟩)):=by
 rw [R195,b195]
 have a:=ZGz e ms f h1
 have b:=ZGr lg h2
 simp only[↓xP,xT,rL,rB,rA,rS,ZJl,a,b]
 repeat' (refine ZiE (fun h=>?_) (fun h=>?_))
 all_goals simp_all [ZFg]
theorem ZIT (e:Int) (ms:List Int) (f rd:Bool) (lg:List Entry) (h1:ms.length≤4611686018427387904) (h2:lg.length≤4611686018427387904):EE F 188 [.ag [.u (.int .i64 e),.u (.sl 1 (ms.map iU)),.u (.bool f),.u (.bool rd),.u (.sl 6 (lg.map Entry.u))]] []=ok1 (B (ZFg ⟨⟨e,ms,f⟩,rd,lg⟩)):=by
 rw [R188,b188]
 have a:=ZGA e ms f h1
 have b:=ZGs lg h2
 simp only[↓xP,xT,rL,rB,rA,rS,ZJm,a,b]
 repeat' (refine ZiE (fun h=>?_) (fun h=>?_))
 all_goals simp_all [ZFg]
def Z0 (m:Message):Bool:=decide (1≤m.epoch)&&decide (m.epoch≤60)&&(if m.kind=1 then inR m.to_ 0 4&&ZS m.conf&&decide (m.conf.epoch=m.epoch)&&decide (m.log.length=0) else if m.kind=2 then inR m.to_ 0 4&&ZIu m.conf&&ZM m.log else if m.kind=3 then decide (m.to_ = -1)&&ZIu m.conf&&decide (m.log.length=0) else false)
theorem ZIO (k t ep e:Int) (ms:List Int) (f:Bool) (lg:List Entry) (h1:ms.length≤4611686018427387904) (h2:lg.length≤4611686018427387904):EE F 259 [.ag [.u (.int .i64 k),.u (.int .i64 t),.u (.int .i64 ep),.u (.int .i64 e),.u (.sl 1 (ms.map iU)),.u (.bool f),.u (.sl 6 (lg.map Entry.u))]] []=ok1 (B (Z0 ⟨k,t,ep,⟨e,ms,f⟩,lg⟩)):=by
 rw [R259,b259]
 have a:=ZGz e ms f h1
 have b:=ZGr lg h2
 simp only[↓xP,xT,rL,rB,rA,rS,ZJl,a,b,ZHt]
 repeat' (refine ZiE (fun h=>?_) (fun h=>?_))
 all_goals first|(simp_all [Z0,inR]; done)|(simp_all [Z0,inR]; grind)|(simp_all [Z0,inR,ZS]; done)|(simp_all [Z0,inR,ZS]; grind)|skip
theorem ZIP (k t ep e:Int) (ms:List Int) (f:Bool) (lg:List Entry) (h1:ms.length≤4611686018427387904) (h2:lg.length≤4611686018427387904):EE F 250 [.ag [.u (.int .i64 k),.u (.int .i64 t),.u (.int .i64 ep),.u (.int .i64 e),.u (.sl 1 (ms.map iU)),.u (.bool f),.u (.sl 6 (lg.map Entry.u))]] []=ok1 (B (Z0 ⟨k,t,ep,⟨e,ms,f⟩,lg⟩)):=by
 rw [R250,b250]
 have a:=ZGA e ms f h1
 have b:=ZGs lg h2
 simp only[↓xP,xT,rL,rB,rA,rS,ZJm,a,b,ZX]
 repeat' (refine ZiE (fun h=>?_) (fun h=>?_))
 all_goals first|(simp_all [Z0,inR]; done)|(simp_all [Z0,inR]; grind)|(simp_all [Z0,inR,ZS]; done)|(simp_all [Z0,inR,ZS]; grind)|skip
def ZHj (l:List Message):Bool:=decide (l.length≤10)&&l.all Z0
theorem ZKl (l:List Message) (hs:ZFv l):EE F 194 [L 7 (l.map Message.u)] []=ok1 (B (ZHj l)):=by
 have hn:=hs.1
 rw [R194,b194]
 simp only[↓xP,xT,rL,rB,rA,rS]
 refine ZiE (fun h=>?_) (fun h=>?_)
 ·have:¬l.length≤10:=by simp at h; omega
  simp [ZHj,this]
 have hl:l.length≤10:=by simp at h; omega
 refine (Zjc (fun (i:Nat) st=>st.s 8=DU (.sl 7 (l.map Message.u))∧st.s 9=DI l.length∧st.s 10=DI i) (fun i=>l.length - i) (fun i=>ok1 (B ((l.drop i).all Z0))) ?_ 0 (by and_intros<;>first|omega|rfl|(simp only[↓xP,xT,rL,rB,rA,rS]<;>first|done|rfl|omega))).trans (by simp [ZHj,hl])
 rintro i st ⟨h8,h9,h10⟩ ih
 by_cases hi:i<l.length
 ·obtain ⟨⟨k,t,ep,⟨e,ms,f⟩,lg⟩,hx⟩:∃ x,l[i]?=some x:=⟨_,List.getElem?_eq_getElem hi⟩
  have hw:=w_succ (i:=i) (by omega)
  have hsx:=hs.2 _ (List.mem_of_getElem? hx)
  have hm:=ZIO k t ep e ms f lg (by have:=hsx.1.1.1; simp only at this; omega) (by have:=hsx.2.1.1; simp only at this; omega)
  simp only[↓xP,xT,rL,rB,rA,rS,h8,h9,h10,hi,hx,hw,Message.u,hm]
  rw [ZT hx]
  refine ZiE (fun h=>?_) (fun h=>?_)
  ·simp_all
  ·rw [ih (i+1) _ (by omega) (by and_intros<;>first|omega|rfl|(simp only[↓xP,xT,rL,rB,rA,rS,h8,h9]<;>first|done|rfl|omega))]; simp_all
 ·simp only[↓xP,xT,rL,rB,rA,rS,h8,h9,h10,hi]
  rw [List.drop_of_length_le (by omega)]; rfl
theorem ZKm (l:List Message) (hs:ZFv l):EE F 187 [L 7 (l.map Message.u)] []=ok1 (B (ZHj l)):=by
 have hn:=hs.1
 rw [R187,b187]
 simp only[↓xP,xT,rL,rB,rA,rS]
 refine (Zjc (fun (i:Nat) st=>i≤10∧i≤l.length∧st.s 0=DU (.sl 7 (l.map Message.u))∧st.s 3=DI i) (fun i=>l.length - i) (fun i=>ok1 (B (decide (l.length≤10)&&(l.drop i).all Z0))) ?_ 0 (by and_intros<;>first|omega|rfl|(simp only[↓xP,xT,rL,rB,rA,rS]<;>first|done|rfl|omega))).trans (by simp [ZHj])
 rintro i st ⟨h24,hle,h0,h3⟩ ih
 by_cases hi:i<l.length
 ·obtain ⟨⟨k,t,ep,⟨e,ms,f⟩,lg⟩,hx⟩:∃ x,l[i]?=some x:=⟨_,List.getElem?_eq_getElem hi⟩
  have hw:=w_succ (i:=i) (by omega)
  have hsx:=hs.2 _ (List.mem_of_getElem? hx)
  have hm:=ZIP k t ep e ms f lg (by have:=hsx.1.1.1; simp only at this; omega) (by have:=hsx.2.1.1; simp only at this; omega)
  by_cases hc:i=10
  ·have hc2:((10:Int)≤(i:Int))=True:=by simp; omega
   simp only[↓xP,xT,rL,rB,rA,rS,h0,h3,hi,hx,hw,hc2,Message.u,hm]
   have:¬l.length≤10:=by omega
   simp [this]
  ·have hc2:((10:Int)≤(i:Int))=False:=by simp; omega
   simp only[↓xP,xT,rL,rB,rA,rS,h0,h3,hi,hx,hw,hc2,Message.u,hm]
   rw [ZT hx]
   refine ZiE (fun h=>?_) (fun h=>?_)
   ·simp_all
   ·rw [ih (i+1) _ (by omega) (by and_intros<;>first|omega|rfl|(simp only[↓xP,xT,rL,rB,rA,rS,h0]<;>first|done|rfl|omega))]; simp_all
 ·simp only[↓xP,xT,rL,rB,rA,rS,h0,h3,hi]
  rw [List.drop_of_length_le (by omega)]
  have:l.length≤10:=by omega
  simp [this]
def ZFh (a:Answer):Bool:=ZQ a.asked&&inR a.reply (-4) 999
def ZV (l:List Answer):Bool:=decide (l.length≤24)&&l.all ZFh
theorem ZJu (l:List Answer) (hn:l.length≤4611686018427387904):EE F 196 [L 7 (l.map Answer.u)] []=ok1 (B (ZV l)):=by
 rw [R196,b196]
 simp only[↓xP,xT,rL,rB,rA,rS]
 refine ZiE (fun h=>?_) (fun h=>?_)
 ·have:¬l.length≤24:=by simp at h; omega
  simp [ZV,this]
 have hl:l.length≤24:=by simp at h; omega
 refine (Zjc (fun (i:Nat) st=>st.s 8=DU (.sl 7 (l.map Answer.u))∧st.s 9=DI l.length∧st.s 10=DI i) (fun i=>l.length - i) (fun i=>ok1 (B ((l.drop i).all ZFh))) ?_ 0 (by and_intros<;>first|omega|rfl|(simp only[↓xP,xT,rL,rB,rA,rS]<;>first|done|rfl|omega))).trans (by simp [ZV,hl])
 rintro i st ⟨h8,h9,h10⟩ ih
 by_cases hi:i<l.length
 ·obtain ⟨⟨⟨c,s,k,key,v,o⟩,r⟩,hx⟩:∃ x,l[i]?=some x:=⟨_,List.getElem?_eq_getElem hi⟩
  have hw:=w_succ (i:=i) (by omega)
  simp only[↓xP,xT,rL,rB,rA,rS,h8,h9,h10,hi,hx,hw,Answer.u,ZGU]
  rw [ZT hx]
  repeat' (refine ZiE (fun h=>?_) (fun h=>?_))
  all_goals first|(rw [ih (i+1) _ (by omega) (by and_intros<;>first|omega|rfl|(simp only[↓xP,xT,rL,rB,rA,rS,h8,h9]<;>first|done|rfl|omega))]; simp_all [ZFh,inR]; done)|(simp_all [ZFh,inR]; done)|(simp_all [ZFh,inR]; grind)|skip
 ·simp only[↓xP,xT,rL,rB,rA,rS,h8,h9,h10,hi]
  rw [List.drop_of_length_le (by omega)]; rfl
def ZE (c:Chain):Bool:=ZA c.base&&ZS c.conf&&decide (c.nodes.length=5)&&decide (c.up.length=5)&&ZHj c.bag&&(c.nodes.all fun r=>ZFg r&&decide (r.conf.epoch≤c.conf.epoch))&&(c.bag.all fun m=>decide (m.epoch≤c.conf.epoch))&&ZV c.answers
theorem ZHD (c0 c1:Str) (c2:List Pair) (c3:List Session) (c4:Bool) (c5:Str) (c6:Int) (c7:List Int) (c8:Bool) (c9:List Replica) (c10:List Bool) (c11:List Message) (c12:List Answer) (hs:Chain.Small ⟨⟨⟨c0,c1⟩,c2,c3,c4,c5⟩,⟨c6,c7,c8⟩,c9,c10,c11,c12⟩):EE F 124 [.ag [.u (.str c0),.u (.str c1),.u (.sl 2 (c2.map Pair.u)),.u (.sl 3 (c3.map Session.u)),.u (.bool c4),.u (.str c5),.u (.int .i64 c6),.u (.sl 1 (c7.map iU)),.u (.bool c8),.u (.sl 5 (c9.map Replica.u)),.u (.sl 1 (c10.map bU)),.u (.sl 7 (c11.map Message.u)),.u (.sl 7 (c12.map Answer.u))]] []=ok1 (B (ZE ⟨⟨⟨c0,c1⟩,c2,c3,c4,c5⟩,⟨c6,c7,c8⟩,c9,c10,c11,c12⟩)):=by
 rw [R124,b124]
 obtain ⟨hb,hcf,hnd,hup,hbag,hans,_⟩:=hs
 have a1:=ZF5 c0 c1 c2 c3 c4 c5 (by have:=hb.2.2.1.1; simp only at this; omega)
 have a2:=ZGz c6 c7 c8 (by have:=hcf.1.1; simp only at this; omega)
 have a3:=ZKl c11 hbag
 have a4:=ZJu c12 (by have:=hans.1; simp only at this; omega)
 have hnl:c9.length≤1048576:=hnd.1
 have hbl:c11.length≤1048576:=hbag.1
 simp only[↓xP,xT,rL,rB,rA,rS,a1,a2,a3,List.length_map,ne_eq]
 refine ZiE (fun h=>?_) (fun g1=>?_)
 ·rw [Bool.not_eq_true'] at h; simp [ZE,h]
 refine ZiE (fun h=>?_) (fun g2=>?_)
 ·rw [Bool.not_eq_true'] at h; simp [ZE,h]
 refine ZiE (fun h=>?_) (fun g3=>?_)
 ·have:¬c9.length=5:=by simp at h; omega
  simp [ZE,this]
 refine ZiE (fun h=>?_) (fun g4=>?_)
 ·have:¬c10.length=5:=by simp at h; omega
  simp [ZE,this]
 refine ZiE (fun h=>?_) (fun g5=>?_)
 ·rw [Bool.not_eq_true'] at h; simp [ZE,h]
 rw [Bool.not_eq_false'] at g1 g2 g5
 have g3':c9.length=5:=by simp at g3; omega
 have g4':c10.length=5:=by simp at g4; omega
 have hcv:ZE ⟨⟨⟨c0,c1⟩,c2,c3,c4,c5⟩,⟨c6,c7,c8⟩,c9,c10,c11,c12⟩=((c9.all fun r=>ZFg r&&decide (r.conf.epoch≤c6))&&((c11.all fun m=>decide (m.epoch≤c6))&&ZV c12)):=by
  simp only[ZE,g1,g2,g3',g4',g5,decide_true,Bool.and_true,Bool.true_and,Bool.and_assoc]
 rw [hcv]
 refine Zjc (fun (i:Nat) st=>st.s 1=.t (.sc (.ptr (.loc 1 0) 0 0))∧st.o (.loc 1 0)=some (.box [.u (.str c0),.u (.str c1),.u (.sl 2 (c2.map Pair.u)),.u (.sl 3 (c3.map Session.u)),.u (.bool c4),.u (.str c5),.u (.int .i64 c6),.u (.sl 1 (c7.map iU)),.u (.bool c8),.u (.sl 5 (c9.map Replica.u)),.u (.sl 1 (c10.map bU)),.u (.sl 7 (c11.map Message.u)),.u (.sl 7 (c12.map Answer.u))])∧st.s 36=DU (.sl 5 (c9.map Replica.u))∧st.s 37=DI c9.length∧st.s 38=DI i) (fun i=>c9.length - i) (fun i=>ok1 (B (((c9.drop i).all fun r=>ZFg r&&decide (r.conf.epoch≤c6))&&((c11.all fun m=>decide (m.epoch≤c6))&&ZV c12)))) ?_ 0 (by and_intros<;>first|omega|rfl|(simp only[↓xP,xT,rL,rB,rA,rS]<;>first|done|rfl|omega))
 rintro i st ⟨h1,ho,h36,h37,h38⟩ ih
 by_cases hi:i<c9.length
 ·obtain ⟨⟨⟨e,ms,f⟩,rd,lg⟩,hx⟩:∃ x,c9[i]?=some x:=⟨_,List.getElem?_eq_getElem hi⟩
  have hw:=w_succ (i:=i) (by omega)
  have hsx:=hnd.2 _ (List.mem_of_getElem? hx)
  have hr:=ZIS e ms f rd lg (by have:=hsx.1.1.1; simp only at this; omega) (by have:=hsx.2.1.1; simp only at this; omega)
  simp only[↓xP,xT,rL,rB,rA,rS,h1,ho,h36,h37,h38,hi,hx,hw,Replica.u,hr]
  rw [ZT hx,List.all_cons]
  refine ZiE (fun h=>?_) (fun q1=>?_)
  ·rw [Bool.not_eq_true'] at h; simp [h]
  refine ZiE (fun h=>?_) (fun q2=>?_)
  ·have:¬e≤c6:=by simp at h; omega
   simp [this]
  rw [Bool.not_eq_false'] at q1
  have q2':e≤c6:=by simp at q2; omega
  rw [ih (i+1) _ (by omega) (by and_intros<;>first|omega|rfl|(simp only[↓xP,xT,rL,rB,rA,rS,h1,ho,h36,h37]<;>first|done|rfl|omega))]
  simp [q1,q2']
 simp only[↓xP,xT,rL,rB,rA,rS,h1,ho,h36,h37,h38,hi]
 rw [List.drop_of_length_le (by omega),List.all_nil,Bool.true_and]
 refine Zjc (fun (i:Nat) st=>st.s 1=.t (.sc (.ptr (.loc 1 0) 0 0))∧st.o (.loc 1 0)=some (.box [.u (.str c0),.u (.str c1),.u (.sl 2 (c2.map Pair.u)),.u (.sl 3 (c3.map Session.u)),.u (.bool c4),.u (.str c5),.u (.int .i64 c6),.u (.sl 1 (c7.map iU)),.u (.bool c8),.u (.sl 5 (c9.map Replica.u)),.u (.sl 1 (c10.map bU)),.u (.sl 7 (c11.map Message.u)),.u (.sl 7 (c12.map Answer.u))])∧st.s 56=DU (.sl 7 (c11.map Message.u))∧st.s 57=DI c11.length∧st.s 58=DI i) (fun i=>c11.length - i) (fun i=>ok1 (B (((c11.drop i).all fun m=>decide (m.epoch≤c6))&&ZV c12))) ?_ 0 (by and_intros<;>first|omega|rfl|(simp only[↓xP,xT,rL,rB,rA,rS,h1,ho]<;>first|done|rfl|omega))
 clear h1 ho h36 h37 h38 hi ih
 rintro i st ⟨h1,ho,h36,h37,h38⟩ ih
 by_cases hi:i<c11.length
 ·obtain ⟨⟨k,t,ep,⟨e,ms,f⟩,lg⟩,hx⟩:∃ x,c11[i]?=some x:=⟨_,List.getElem?_eq_getElem hi⟩
  have hw:=w_succ (i:=i) (by omega)
  simp only[↓xP,xT,rL,rB,rA,rS,h1,ho,h36,h37,h38,hi,hx,hw,Message.u]
  rw [ZT hx,List.all_cons]
  refine ZiE (fun h=>?_) (fun q2=>?_)
  ·have:¬ep≤c6:=by simp at h; omega
   simp [this]
  have q2':ep≤c6:=by simp at q2; omega
  rw [ih (i+1) _ (by omega) (by and_intros<;>first|omega|rfl|(simp only[↓xP,xT,rL,rB,rA,rS,h1,ho,h36,h37]<;>first|done|rfl|omega))]
  simp [q2']
 simp only[↓xP,xT,rL,rB,rA,rS,h1,ho,h36,h37,h38,hi,a4]
 rw [List.drop_of_length_le (by omega),List.all_nil,Bool.true_and]
theorem ZGT (c0 c1:Str) (c2:List Pair) (c3:List Session) (c4:Bool) (c5:Str) (c6:Int) (c7:List Int) (c8:Bool) (c9:List Replica) (c10:List Bool) (c11:List Message) (c12:List Answer) (hs:Chain.Small ⟨⟨⟨c0,c1⟩,c2,c3,c4,c5⟩,⟨c6,c7,c8⟩,c9,c10,c11,c12⟩):EE F 117 [.ag [.u (.str c0),.u (.str c1),.u (.sl 2 (c2.map Pair.u)),.u (.sl 3 (c3.map Session.u)),.u (.bool c4),.u (.str c5),.u (.int .i64 c6),.u (.sl 1 (c7.map iU)),.u (.bool c8),.u (.sl 5 (c9.map Replica.u)),.u (.sl 1 (c10.map bU)),.u (.sl 7 (c11.map Message.u)),.u (.sl 7 (c12.map Answer.u))]] []=ok1 (B (ZE ⟨⟨⟨c0,c1⟩,c2,c3,c4,c5⟩,⟨c6,c7,c8⟩,c9,c10,c11,c12⟩)):=by
  rw [R117,b117]
  obtain ⟨hb,hcf,hnd,hup,hbag,hans,_⟩:=hs
  have a1:=ZF6 c0 c1 c2 c3 c4 c5 (by have:=hb.2.2.1.1; simp only at this; omega)
  have a2:=ZGA c6 c7 c8 (by have:=hcf.1.1; simp only at this; omega)
  have a3:=ZKm c11 hbag
  have hnl:c9.length≤1048576:=hnd.1
  have hbl:c11.length≤1048576:=hbag.1
  have hal:c12.length≤1048576:=hans.1
  simp only[↓xP,xT,rL,rB,rA,rS,a1,a2,a3,List.length_map,ne_eq]
  refine ZiE (fun h=>?_) (fun g1=>?_)
  · rw [Bool.not_eq_true'] at h; simp [ZE,h]
  refine ZiE (fun h=>?_) (fun g2=>?_)
  · rw [Bool.not_eq_true'] at h; simp [ZE,h]
  refine ZiE (fun h=>?_) (fun g3=>?_)
  · have:¬c9.length=5:=by simp at h; omega
    simp [ZE,this]
  refine ZiE (fun h=>?_) (fun g4=>?_)
  · have:¬c10.length=5:=by simp at h; omega
    simp [ZE,this]
  refine ZiE (fun h=>?_) (fun g5=>?_)
  · rw [Bool.not_eq_true'] at h; simp [ZE,h]
  refine ZiE (fun h=>?_) (fun g6=>?_)
  · have:¬c12.length≤24:=by simp at h; omega
    simp [ZE,ZV,this]
  rw [Bool.not_eq_false'] at g1 g2 g5
  have g3':c9.length=5:=by simp at g3; omega
  have g4':c10.length=5:=by simp at g4; omega
  have g6':c12.length≤24:=by simp at g6; omega
  have hcv:ZE ⟨⟨⟨c0,c1⟩,c2,c3,c4,c5⟩,⟨c6,c7,c8⟩,c9,c10,c11,c12⟩=((c9.all fun r=>ZFg r&&decide (r.conf.epoch≤c6))&&((c11.all fun m=>decide (m.epoch≤c6))&&ZV c12)):=by
    simp only[ZE,g1,g2,g3',g4',g5,decide_true,Bool.and_true,Bool.true_and,Bool.and_assoc]
  rw [hcv]
  refine Zjc (fun (i:Nat) st=>i≤5∧st.s 1=.t (.sc (.ptr (.loc 1 0) 0 0))∧st.o (.loc 1 0)=some (.box [.u (.str c0),.u (.str c1),.u (.sl 2 (c2.map Pair.u)),.u (.sl 3 (c3.map Session.u)),.u (.bool c4),.u (.str c5),.u (.int .i64 c6),.u (.sl 1 (c7.map iU)),.u (.bool c8),.u (.sl 5 (c9.map Replica.u)),.u (.sl 1 (c10.map bU)),.u (.sl 7 (c11.map Message.u)),.u (.sl 7 (c12.map Answer.u))])∧st.s 3=DI i) (fun i=>5 - i) (fun i=>ok1 (B (((c9.drop i).all fun r=>ZFg r&&decide (r.conf.epoch≤c6))&&((c11.all fun m=>decide (m.epoch≤c6))&&ZV c12)))) ?_ 0 (by and_intros<;>first|omega|rfl|(simp only[↓xP,xT,rL,rB,rA,rS]<;>first|done|rfl|omega))
  rintro i st ⟨hi5,h1,ho,h3⟩ ih
  by_cases hi:i<5
  · obtain ⟨⟨⟨e,ms,f⟩,rd,lg⟩,hx⟩:∃ x,c9[i]?=some x:=⟨_,List.getElem?_eq_getElem (by omega)⟩
    have hw:=w_succ (i:=i) (by omega)
    have hlt:((i:Int)<5)=True:=by simp; omega
    have hsx:=hnd.2 _ (List.mem_of_getElem? hx)
    have hr:=ZIT e ms f rd lg (by have:=hsx.1.1.1; simp only at this; omega) (by have:=hsx.2.1.1; simp only at this; omega)
    rw [ZT hx,List.all_cons]
    cases q1:ZFg ⟨⟨e,ms,f⟩,rd,lg⟩
    · simp only[↓xP,xT,rL,rB,rA,rS,rdx2,h1,ho,h3,hlt,hx,hw,Replica.u,hr,q1]
      try simp
    · by_cases q2:e≤c6
      · have q2':(c6<e)=False:=by simp; omega
        simp only[↓xP,xT,rL,rB,rA,rS,rdx2,h1,ho,h3,hlt,hx,hw,Replica.u,hr,q1,q2']
        rw [ih (i+1) _ (by omega) ⟨by omega,(by and_intros<;>first|omega|rfl|(simp only[↓xP,xT,rL,rB,rA,rS,h1,ho,hw]<;>first|done|rfl|omega))⟩]
        simp [q2]
      · have q2':(c6<e)=True:=by simp; omega
        simp only[↓xP,xT,rL,rB,rA,rS,rdx2,h1,ho,h3,hlt,hx,hw,Replica.u,hr,q1,q2']
        try simp [q2]
  have hlt:((i:Int)<5)=False:=by simp; omega
  simp only[↓xP,xT,rL,rB,rA,rS,h1,ho,h3,hlt]
  rw [List.drop_of_length_le (by omega),List.all_nil,Bool.true_and]
  refine Zjc (fun (i:Nat) st=>st.s 1=.t (.sc (.ptr (.loc 1 0) 0 0))∧st.o (.loc 1 0)=some (.box [.u (.str c0),.u (.str c1),.u (.sl 2 (c2.map Pair.u)),.u (.sl 3 (c3.map Session.u)),.u (.bool c4),.u (.str c5),.u (.int .i64 c6),.u (.sl 1 (c7.map iU)),.u (.bool c8),.u (.sl 5 (c9.map Replica.u)),.u (.sl 1 (c10.map bU)),.u (.sl 7 (c11.map Message.u)),.u (.sl 7 (c12.map Answer.u))])∧st.s 4=DI i) (fun i=>c11.length - i) (fun i=>ok1 (B (((c11.drop i).all fun m=>decide (m.epoch≤c6))&&ZV c12))) ?_ 0 (by and_intros<;>first|omega|rfl|(simp only[↓xP,xT,rL,rB,rA,rS,h1,ho]<;>first|done|rfl|omega))
  clear h1 ho h3 hi ih hlt
  rintro i st ⟨h1,ho,h3⟩ ih
  by_cases hi:i<c11.length
  · obtain ⟨⟨k,t,ep,⟨e,ms,f⟩,lg⟩,hx⟩:∃ x,c11[i]?=some x:=⟨_,List.getElem?_eq_getElem hi⟩
    have hw:=w_succ (i:=i) (by omega)
    rw [ZT hx,List.all_cons]
    by_cases q2:ep≤c6
    · have q2':(c6<ep)=False:=by simp; omega
      simp only[↓xP,xT,rL,rB,rA,rS,rdx2,h1,ho,h3,hi,hx,hw,Message.u,q2']
      rw [ih (i+1) _ (by omega) (by and_intros<;>first|omega|rfl|(simp only[↓xP,xT,rL,rB,rA,rS,h1,ho,hw]<;>first|done|rfl|omega))]
      try simp [q2]
    · have q2':(c6<ep)=True:=by simp; omega
      simp only[↓xP,xT,rL,rB,rA,rS,rdx2,h1,ho,h3,hi,hx,hw,Message.u,q2']
      try simp [q2]
  simp only[↓xP,xT,rL,rB,rA,rS,h1,ho,h3,hi]
  rw [List.drop_of_length_le (by omega),List.all_nil,Bool.true_and]
  have han:ZV c12=(c12.drop 0).all ZFh:=by simp [ZV,g6']
  rw [han]
  refine Zjc (fun (i:Nat) st=>st.s 1=.t (.sc (.ptr (.loc 1 0) 0 0))∧st.o (.loc 1 0)=some (.box [.u (.str c0),.u (.str c1),.u (.sl 2 (c2.map Pair.u)),.u (.sl 3 (c3.map Session.u)),.u (.bool c4),.u (.str c5),.u (.int .i64 c6),.u (.sl 1 (c7.map iU)),.u (.bool c8),.u (.sl 5 (c9.map Replica.u)),.u (.sl 1 (c10.map bU)),.u (.sl 7 (c11.map Message.u)),.u (.sl 7 (c12.map Answer.u))])∧st.s 5=DI i) (fun i=>c12.length - i) (fun i=>ok1 (B ((c12.drop i).all ZFh))) ?_ 0 (by and_intros<;>first|omega|rfl|(simp only[↓xP,xT,rL,rB,rA,rS,h1,ho]<;>first|done|rfl|omega))
  clear h1 ho h3 hi ih
  rintro i st ⟨h1,ho,h3⟩ ih
  by_cases hi:i<c12.length
  · obtain ⟨⟨⟨c,s,k,key,v,o⟩,r⟩,hx⟩:∃ x,c12[i]?=some x:=⟨_,List.getElem?_eq_getElem hi⟩
    have hw:=w_succ (i:=i) (by omega)
    simp only[↓xP,xT,rL,rB,rA,rS,h1,ho,h3,hi,hx,hw,Answer.u,ZF4,ZX]
    rw [ZT hx,List.all_cons]
    refine ZiE (fun h=>?_) (fun q1=>?_)
    · rw [Bool.not_eq_true'] at h; simp [ZFh,h]
    refine ZiE (fun h=>?_) (fun q2=>?_)
    · rw [Bool.not_eq_true'] at h; simp [ZFh,h]
    rw [Bool.not_eq_false'] at q1 q2
    rw [ih (i+1) _ (by omega) (by and_intros<;>first|omega|rfl|(simp only[↓xP,xT,rL,rB,rA,rS,h1,ho]<;>first|done|rfl|omega))]
    simp [ZFh,q1,q2]
  simp only[↓xP,xT,rL,rB,rA,rS,h1,ho,h3,hi]
  rw [List.drop_of_length_le (by omega),List.all_nil]
def ZGV (l:List Interval) (j:Nat):Bool:=match l[j - 1]?,l[j]? with
 | some a,some b=>ZGW a b
 | _,_=>true
def ZG7 (l:List Interval) (j:Nat):Bool:=(match l[j]? with
 | some a=>ZF a
 | none=>true)&&(decide (j=0)||ZGV l j)
def ZD (l:List Interval):Bool:=match l[0]?,l[l.length - 1]? with
 | some a,some b=>decide (l.length≤6)&&ZF a&&decide (a.low=[])&&decide (b.high=[])&&allF l.length (ZGV l) 1
 | _,_=>false
theorem ZMu {l:List Interval} {a:Interval} (ha:l[0]?=some a):allF l.length (ZG7 l) 0=(ZF a&&allF l.length (ZGV l) 1):=by
 have h0:0<l.length:=(List.getElem?_eq_some_iff.1 ha).1
 rw [Bool.eq_iff_iff,Bool.and_eq_true,ZFs _ 0 rfl,ZFs _ 1 rfl]
 constructor
 ·intro h
  refine ⟨?_,fun j h1 h2=>?_⟩
  ·have:=h 0 (by omega) h0
   simpa [ZG7,ha] using this
  ·have:=h j (by omega) h2
   simp only[ZG7,Bool.and_eq_true,Bool.or_eq_true,decide_eq_true_eq] at this
   rcases this.2 with e|e
   ·omega
   ·exact e
 ·rintro ⟨h1,h2⟩ j _ hj
  by_cases e:j=0
  ·subst e; simp [ZG7,ha,h1]
  ·have hjn:=h2 j (by omega) hj
   obtain ⟨x,hx⟩:∃ x,l[j - 1]?=some x:=⟨_,List.getElem?_eq_getElem (by omega)⟩
   obtain ⟨y,hy⟩:∃ x,l[j]?=some x:=⟨_,List.getElem?_eq_getElem hj⟩
   have hjn2:=hjn
   simp only[ZGV,hx,hy,ZGW,Bool.and_eq_true] at hjn2
   simp [ZG7,hy,hjn,hjn2.1.1.2]
theorem ZF0 (l:List Interval) (hn:l.length≤1048576):EE F 163 [L 2 (l.map Interval.u)] []=ok1 (B (ZD l)):=by
 rw [R163,b163]
 by_cases hl:l=[]
 ·subst hl
  simp only[↓xP,xT,rL,rB,rA,rS,List.map_nil]
  rfl
 have h1:1≤l.length:=List.length_pos_iff.2 hl
 obtain ⟨⟨alo,ahi⟩,ha⟩:∃ a,l[0]?=some a:=⟨_,List.getElem?_eq_getElem (by omega)⟩
 obtain ⟨⟨blo,bhi⟩,hb⟩:∃ a,l[l.length - 1]?=some a:=⟨_,List.getElem?_eq_getElem (by omega)⟩
 have hw1:IntKind.i64.wrap ((l.length:Int) - 1)=((l.length - 1:Nat):Int):=by rw [w64 (by omega) (by omega)]; omega
 have hpv:ZD l=(decide (l.length≤6)&&decide (alo=[])&&decide (bhi=[])&&allF l.length (ZG7 l) 0):=by
  rw [ZMu ha]
  simp only[ZD,ha,hb]
  cases decide (l.length≤6)<;>cases decide (alo=[])<;>cases decide (bhi=[])<;>cases ZF ⟨alo,ahi⟩<;>simp
 simp only[↓xP,xT,rL,rB,rA,rS,List.length_map,ha,hb,Interval.u,hw1,ne_eq]
 refine ZiE (fun h=>?_) (fun g1=>?_)
 ·simp at h; omega
 refine ZiE (fun h=>?_) (fun g2=>?_)
 ·have:¬l.length≤6:=by simp at h; omega
  rw [hpv]; simp [this]
 refine ZiE (fun h=>?_) (fun g3=>?_)
 ·have:¬alo=[]:=by simpa using h
  rw [hpv]; simp [this]
 refine ZiE (fun h=>?_) (fun g4=>?_)
 ·have:¬bhi=[]:=by simpa using h
  rw [hpv]; simp [this]
 have hg:(decide (l.length≤6)&&decide (alo=[])&&decide (bhi=[]))=true:=by
  have a1:l.length≤6:=by simp at g2; omega
  have a2:alo=[]:=by simpa using g3
  have a3:bhi=[]:=by simpa using g4
  simp [a1,a2,a3]
 rw [hpv,hg,Bool.true_and]
 refine Zjc (fun (i:Nat) st=>i≤l.length∧st.s 0=DU (.sl 2 (l.map Interval.u))∧st.s 32=DU (.sl 2 (l.map Interval.u))∧st.s 33=DI l.length∧st.s 34=DI i) (fun i=>l.length - i) (fun i=>ok1 (B (allF l.length (ZG7 l) i))) ?_ 0 (by and_intros<;>first|omega|rfl|(simp only[↓xP,xT,rL,rB,rA,rS]<;>first|done|rfl|omega))
 rintro i st ⟨hle,h0,h32,h33,h34⟩ ih
 by_cases hi:i<l.length
 ·obtain ⟨⟨lo,hi'⟩,hx⟩:∃ x,l[i]?=some x:=⟨_,List.getElem?_eq_getElem hi⟩
  have hw:=w_succ (i:=i) (by omega)
  rw [ZFV hi]
  by_cases e:i=0
  ·subst e
   have hgt:decide (((0:Nat):Int) > 0)=false:=by decide
   simp only[↓xP,xT,rL,rB,rA,rS,h0,h32,h33,h34,hi,hx,hw,Interval.u,ZU,hgt]
   refine ZiE (fun h=>?_) (fun h=>?_)
   ·simp_all [ZG7]
   ·rw [ih 1 _ (by omega) (by and_intros<;>first|omega|rfl|(simp only[↓xP,xT,rL,rB,rA,rS,h0,h32,h33]<;>first|done|rfl|omega))]; simp_all [ZG7]
  ·obtain ⟨k,rfl⟩:∃ k,i=k+1:=⟨i - 1,by omega⟩
   obtain ⟨⟨clo,chi⟩,hc⟩:∃ a,l[k]?=some a:=⟨_,List.getElem?_eq_getElem (by omega)⟩
   have hp:=ZKk (i:=k) (by omega)
   have hgt:decide (((k+1:Nat):Int) > 0)=true:=by simp
   have hjo:=ZIG clo chi lo hi'
   have hpa:ZG7 l (k+1)=(ZF ⟨lo,hi'⟩&&ZGW ⟨clo,chi⟩ ⟨lo,hi'⟩):=by simp [ZG7,ZGV,hx,hc]
   rw [hpa]
   cases hj:ZGW ⟨clo,chi⟩ ⟨lo,hi'⟩<;>simp only[ZH6,hj,↓xP,xT,rL,rB,rA,rS] at hjo
   all_goals simp only[↓xP,xT,rL,rB,rA,rS,rdx2,h0,h32,h33,h34,hi,hx,hc,hw,hp,hgt,Interval.u,ZU,hjo]
   all_goals refine ZiE (fun h=>?_) (fun h=>?_)
   ·simp_all
   ·simp_all
   ·simp_all
   ·rw [ih (k+1+1) _ (by omega) (by and_intros<;>first|omega|rfl|(simp only[↓xP,xT,rL,rB,rA,rS,h0,h32,h33,hw]<;>first|done|rfl|omega))]; simp_all
 ·simp only[↓xP,xT,rL,rB,rA,rS,h0,h32,h33,h34,hi]
  rw [ZFU hi]
end Go.Proofs.YtmfjkbbmhaofbaaGreatV
