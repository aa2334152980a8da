/- Lemmas of functions that the law FnExactNextPlan reaches. No conditions but those that the lemmas state. -/
import Derived.Test.YtmfjkbbmhaofbaaGreatJ
import Derived.Test.YtmfjkbbmhaofbaaGreatS7
import Derived.Test.YtmfjkbbmhaofbaaGreatS8
import Derived.Test.YtmfjkbbmhaofbaaGreatV28
namespace Go.Proofs.YtmfjkbbmhaofbaaGreatV
open Go Go.RowKit
open Nat renaming reduceLT → rL, reduceAdd → rA, reduceSub → rS, reduceBEq → rB
open IOp (dst isF args)
set_option linter.unusedVariables false
set_option linter.unusedSimpArgs false
set_option maxRecDepth 4000
abbrev Str:=List UInt8
abbrev B (b:Bool):T:=.sc (.u (.bool b))
abbrev S (b:Str):T:=.sc (.u (.str b))
abbrev I (n:Int):T:=.sc (.u (.int .i64 n))
abbrev L (z:Nat) (r:List (List U)):T:=.sc (.u (.sl z r))
abbrev ok1 (t:T):Option Ret:=some ⟨[t],[],[]⟩
def iU (n:Int):List U:=[.int .i64 n]
def bU (b:Bool):List U:=[.bool b]
/-- Whole numbers of 64 bits. -/
def Z7 (x:Int):Prop:=-9223372036854775808≤x∧x≤9223372036854775807
theorem UT.int_of {u:U} (h:UT (.i .i64) u):∃ n,u=.int .i64 n∧Z7 n:=by
 cases h with
 | i k n h=>exact ⟨n,rfl,bounds_i64 h⟩
theorem UT.u8_of {u:U} (h:UT (.i .u8) u):∃ n,u=.int .u8 n∧0≤n∧n≤255:=by
 cases h with
 | i k n h=>exact ⟨n,rfl,bounds_u8 h⟩
theorem UT.bool_of {u:U} (h:UT .b u):∃ b,u=.bool b:=by
 cases h with
 | b x=>exact ⟨x,rfl⟩
theorem UT.str_of {u:U} (h:UT .s u):∃ s,u=.str s∧s.length≤9223372036854775807:=by
 cases h with
 | s x h=>exact ⟨x,rfl,h⟩
theorem ZL3 {α:Type} {f:α→List U} {p:α→Prop}:∀ {rows:List (List U)},(∀ row,row∈rows→∃ x,row=f x∧p x)→∃ l:List α,rows=l.map f∧∀ y,y∈l→p y
 | [],_=>⟨[],rfl,fun y h=>by cases h⟩
 | r::rs,h=>by
  obtain ⟨x,hx,px⟩:=h r (List.mem_cons_self ..)
  obtain ⟨l,hl,pl⟩:=ZL3 (rows:=rs) (fun row hr=>h row (List.mem_cons_of_mem _ hr))
  refine ⟨x::l,by rw [hx,hl]; rfl,fun y hy=>?_⟩
  rcases List.mem_cons.1 hy with rfl|hy
  ·exact px
  ·exact pl y hy
/-- A slice of elements that are read. -/
theorem UT.sl_of {fs:List Ty} {u:U} (h:UT (.sl fs) u) {α:Type} {f:α→List U} {p:α→Prop} (he:∀ us:List U,us.length=fs.length→(∀ (j:Nat) ty u,fs[j]?=some ty→us[j]?=some u→UT ty u)→∃ x,us=f x∧p x) :
  ∃ l:List α,u=.sl fs.length (l.map f)∧l.length≤9223372036854775807∧∀ y,y∈l→p y:=by
 cases h with
 | sl _ rows hl hr hc=>
  obtain ⟨l,rfl,hp⟩:=ZL3 (f:=f) (p:=p) (rows:=rows) (fun row hrow=>he row (hr row hrow) (fun j ty u hj hu=>by
   obtain ⟨i,hi⟩:=List.mem_iff_getElem?.1 hrow
   exact hc i j row ty u hi hj hu))
  have hm:maxLen=9223372036854775807:=by decide
  rw [hm,List.length_map] at hl
  exact ⟨l,rfl,hl,hp⟩
theorem ZK1 (us:List U) (hl:us.length=1) (ht:∀ (j:Nat) ty u,[Ty.i .i64][j]?=some ty→us[j]?=some u→UT ty u):∃ x,us=iU x∧Z7 x:=by
 match us,hl with
 | [a],_=>obtain ⟨n,rfl,h⟩:=(ht 0 _ a rfl rfl).int_of; exact ⟨n,rfl,h⟩
theorem ZM5 (us:List U) (hl:us.length=1) (ht:∀ (j:Nat) ty u,[Ty.b][j]?=some ty→us[j]?=some u→UT ty u):∃ x,us=bU x∧True:=by
 match us,hl with
 | [a],_=>obtain ⟨n,rfl⟩:=(ht 0 _ a rfl rfl).bool_of; exact ⟨n,rfl,trivial⟩
structure Interval where
 low:Str
 high:Str
def Interval.u (x:Interval):List U:=[.str x.low,.str x.high]
def Interval.Fit (x:Interval):Prop:=x.low.length≤9223372036854775807∧x.high.length≤9223372036854775807
theorem Interval.of (us:List U) (hl:us.length=2) (ht:∀ (j:Nat) ty u,[Ty.s,.s][j]?=some ty→us[j]?=some u→UT ty u):∃ x,us=Interval.u x∧Interval.Fit x:=by
 match us,hl with
 | [c0,c1],_=>
  obtain ⟨x0,rfl,f0⟩:=(ht 0 _ c0 rfl rfl).str_of
  obtain ⟨x1,rfl,f1⟩:=(ht 1 _ c1 rfl rfl).str_of
  exact ⟨⟨x0,x1⟩,rfl,⟨f0,f1⟩⟩
structure Pair where
 key:Str
 value:Int
def Pair.u (x:Pair):List U:=[.str x.key,.int .i64 x.value]
def Pair.Fit (x:Pair):Prop:=x.key.length≤9223372036854775807∧Z7 x.value
theorem Pair.of (us:List U) (hl:us.length=2) (ht:∀ (j:Nat) ty u,[Ty.s,.i .i64][j]?=some ty→us[j]?=some u→UT ty u):∃ x,us=Pair.u x∧Pair.Fit x:=by
 match us,hl with
 | [c0,c1],_=>
  obtain ⟨x0,rfl,f0⟩:=(ht 0 _ c0 rfl rfl).str_of
  obtain ⟨x1,rfl,f1⟩:=(ht 1 _ c1 rfl rfl).int_of
  exact ⟨⟨x0,x1⟩,rfl,⟨f0,f1⟩⟩
structure Command where
 kind:Int
 key:Str
 value:Int
 old:Int
def Command.u (x:Command):List U:=[.int .i64 x.kind,.str x.key,.int .i64 x.value,.int .i64 x.old]
def Command.Fit (x:Command):Prop:=Z7 x.kind∧x.key.length≤9223372036854775807∧Z7 x.value∧Z7 x.old
theorem Command.of (us:List U) (hl:us.length=4) (ht:∀ (j:Nat) ty u,[Ty.i .i64,.s,.i .i64,.i .i64][j]?=some ty→us[j]?=some u→UT ty u):∃ x,us=Command.u x∧Command.Fit x:=by
 match us,hl with
 | [c0,c1,c2,c3],_=>
  obtain ⟨x0,rfl,f0⟩:=(ht 0 _ c0 rfl rfl).int_of
  obtain ⟨x1,rfl,f1⟩:=(ht 1 _ c1 rfl rfl).str_of
  obtain ⟨x2,rfl,f2⟩:=(ht 2 _ c2 rfl rfl).int_of
  obtain ⟨x3,rfl,f3⟩:=(ht 3 _ c3 rfl rfl).int_of
  exact ⟨⟨x0,x1,x2,x3⟩,rfl,⟨f0,f1,f2,f3⟩⟩
structure Session where
 client:Int
 seq:Int
 reply:Int
def Session.u (x:Session):List U:=[.int .i64 x.client,.int .i64 x.seq,.int .i64 x.reply]
def Session.Fit (x:Session):Prop:=Z7 x.client∧Z7 x.seq∧Z7 x.reply
theorem Session.of (us:List U) (hl:us.length=3) (ht:∀ (j:Nat) ty u,[Ty.i .i64,.i .i64,.i .i64][j]?=some ty→us[j]?=some u→UT ty u):∃ x,us=Session.u x∧Session.Fit x:=by
 match us,hl with
 | [c0,c1,c2],_=>
  obtain ⟨x0,rfl,f0⟩:=(ht 0 _ c0 rfl rfl).int_of
  obtain ⟨x1,rfl,f1⟩:=(ht 1 _ c1 rfl rfl).int_of
  obtain ⟨x2,rfl,f2⟩:=(ht 2 _ c2 rfl rfl).int_of
  exact ⟨⟨x0,x1,x2⟩,rfl,⟨f0,f1,f2⟩⟩
structure Entry where
 client:Int
 seq:Int
 cmd:Command
def Entry.u (x:Entry):List U:=[.int .i64 x.client,.int .i64 x.seq,.int .i64 x.cmd.kind,.str x.cmd.key,.int .i64 x.cmd.value,.int .i64 x.cmd.old]
def Entry.Fit (x:Entry):Prop:=Z7 x.client∧Z7 x.seq∧Command.Fit x.cmd
theorem Entry.of (us:List U) (hl:us.length=6) (ht:∀ (j:Nat) ty u,[Ty.i .i64,.i .i64,.i .i64,.s,.i .i64,.i .i64][j]?=some ty→us[j]?=some u→UT ty u):∃ x,us=Entry.u x∧Entry.Fit x:=by
 match us,hl with
 | [c0,c1,c2,c3,c4,c5],_=>
  obtain ⟨x0,rfl,f0⟩:=(ht 0 _ c0 rfl rfl).int_of
  obtain ⟨x1,rfl,f1⟩:=(ht 1 _ c1 rfl rfl).int_of
  obtain ⟨x2,rfl,f2⟩:=(ht 2 _ c2 rfl rfl).int_of
  obtain ⟨x3,rfl,f3⟩:=(ht 3 _ c3 rfl rfl).str_of
  obtain ⟨x4,rfl,f4⟩:=(ht 4 _ c4 rfl rfl).int_of
  obtain ⟨x5,rfl,f5⟩:=(ht 5 _ c5 rfl rfl).int_of
  exact ⟨⟨x0,x1,⟨x2,x3,x4,x5⟩⟩,rfl,⟨f0,f1,⟨f2,f3,f4,f5⟩⟩⟩
structure Answer where
 asked:Entry
 reply:Int
def Answer.u (x:Answer):List U:=[.int .i64 x.asked.client,.int .i64 x.asked.seq,.int .i64 x.asked.cmd.kind,.str x.asked.cmd.key,.int .i64 x.asked.cmd.value,.int .i64 x.asked.cmd.old,.int .i64 x.reply]
def Answer.Fit (x:Answer):Prop:=Entry.Fit x.asked∧Z7 x.reply
theorem Answer.of (us:List U) (hl:us.length=7) (ht:∀ (j:Nat) ty u,[Ty.i .i64,.i .i64,.i .i64,.s,.i .i64,.i .i64,.i .i64][j]?=some ty→us[j]?=some u→UT ty u):∃ x,us=Answer.u x∧Answer.Fit x:=by
 match us,hl with
 | [c0,c1,c2,c3,c4,c5,c6],_=>
  obtain ⟨x0,rfl,f0⟩:=(ht 0 _ c0 rfl rfl).int_of
  obtain ⟨x1,rfl,f1⟩:=(ht 1 _ c1 rfl rfl).int_of
  obtain ⟨x2,rfl,f2⟩:=(ht 2 _ c2 rfl rfl).int_of
  obtain ⟨x3,rfl,f3⟩:=(ht 3 _ c3 rfl rfl).str_of
  obtain ⟨x4,rfl,f4⟩:=(ht 4 _ c4 rfl rfl).int_of
  obtain ⟨x5,rfl,f5⟩:=(ht 5 _ c5 rfl rfl).int_of
  obtain ⟨x6,rfl,f6⟩:=(ht 6 _ c6 rfl rfl).int_of
  exact ⟨⟨⟨x0,x1,⟨x2,x3,x4,x5⟩⟩,x6⟩,rfl,⟨⟨f0,f1,⟨f2,f3,f4,f5⟩⟩,f6⟩⟩
structure State where
 span:Interval
 pairs:(List Pair)
 known:(List Session)
 sealed:Bool
 cut:Str
def State.u (x:State):List U:=[.str x.span.low,.str x.span.high,.sl 2 (x.pairs.map Pair.u),.sl 3 (x.known.map Session.u),.bool x.sealed,.str x.cut]
def State.Fit (x:State):Prop:=Interval.Fit x.span∧(x.pairs.length≤9223372036854775807∧∀ y,y∈x.pairs→Pair.Fit y)∧(x.known.length≤9223372036854775807∧∀ y,y∈x.known→Session.Fit y)∧True∧x.cut.length≤9223372036854775807
theorem State.of (us:List U) (hl:us.length=6) (ht:∀ (j:Nat) ty u,[Ty.s,.s,.sl [.s,.i .i64],.sl [.i .i64,.i .i64,.i .i64],.b,.s][j]?=some ty→us[j]?=some u→UT ty u):∃ x,us=State.u x∧State.Fit x:=by
 match us,hl with
 | [c0,c1,c2,c3,c4,c5],_=>
  obtain ⟨x0,rfl,f0⟩:=(ht 0 _ c0 rfl rfl).str_of
  obtain ⟨x1,rfl,f1⟩:=(ht 1 _ c1 rfl rfl).str_of
  obtain ⟨x2,rfl,f2⟩:=(ht 2 _ c2 rfl rfl).sl_of Pair.of
  obtain ⟨x3,rfl,f3⟩:=(ht 3 _ c3 rfl rfl).sl_of Session.of
  obtain ⟨x4,rfl⟩:=(ht 4 _ c4 rfl rfl).bool_of
  obtain ⟨x5,rfl,f5⟩:=(ht 5 _ c5 rfl rfl).str_of
  exact ⟨⟨⟨x0,x1⟩,x2,x3,x4,x5⟩,rfl,⟨⟨f0,f1⟩,f2,f3,trivial,f5⟩⟩
structure Piece where
 span:Interval
 pairs:(List Pair)
def Piece.u (x:Piece):List U:=[.str x.span.low,.str x.span.high,.sl 2 (x.pairs.map Pair.u)]
def Piece.Fit (x:Piece):Prop:=Interval.Fit x.span∧(x.pairs.length≤9223372036854775807∧∀ y,y∈x.pairs→Pair.Fit y)
theorem Piece.of (us:List U) (hl:us.length=3) (ht:∀ (j:Nat) ty u,[Ty.s,.s,.sl [.s,.i .i64]][j]?=some ty→us[j]?=some u→UT ty u):∃ x,us=Piece.u x∧Piece.Fit x:=by
 match us,hl with
 | [c0,c1,c2],_=>
  obtain ⟨x0,rfl,f0⟩:=(ht 0 _ c0 rfl rfl).str_of
  obtain ⟨x1,rfl,f1⟩:=(ht 1 _ c1 rfl rfl).str_of
  obtain ⟨x2,rfl,f2⟩:=(ht 2 _ c2 rfl rfl).sl_of Pair.of
  exact ⟨⟨⟨x0,x1⟩,x2⟩,rfl,⟨⟨f0,f1⟩,f2⟩⟩
structure Config where
 epoch:Int
 members:(List Int)
 fresh:Bool
def Config.u (x:Config):List U:=[.int .i64 x.epoch,.sl 1 (x.members.map iU),.bool x.fresh]
def Config.Fit (x:Config):Prop:=Z7 x.epoch∧(x.members.length≤9223372036854775807∧∀ y,y∈x.members→Z7 y)∧True
theorem Config.of (us:List U) (hl:us.length=3) (ht:∀ (j:Nat) ty u,[Ty.i .i64,.sl [.i .i64],.b][j]?=some ty→us[j]?=some u→UT ty u):∃ x,us=Config.u x∧Config.Fit x:=by
 match us,hl with
 | [c0,c1,c2],_=>
  obtain ⟨x0,rfl,f0⟩:=(ht 0 _ c0 rfl rfl).int_of
  obtain ⟨x1,rfl,f1⟩:=(ht 1 _ c1 rfl rfl).sl_of ZK1
  obtain ⟨x2,rfl⟩:=(ht 2 _ c2 rfl rfl).bool_of
  exact ⟨⟨x0,x1,x2⟩,rfl,⟨f0,f1,trivial⟩⟩
structure Event where
 kind:Int
 node:Int
 place:Int
 sent:Entry
def Event.u (x:Event):List U:=[.int .i64 x.kind,.int .i64 x.node,.int .i64 x.place,.int .i64 x.sent.client,.int .i64 x.sent.seq,.int .i64 x.sent.cmd.kind,.str x.sent.cmd.key,.int .i64 x.sent.cmd.value,.int .i64 x.sent.cmd.old]
def Event.Fit (x:Event):Prop:=Z7 x.kind∧Z7 x.node∧Z7 x.place∧Entry.Fit x.sent
theorem Event.of (us:List U) (hl:us.length=9) (ht:∀ (j:Nat) ty u,[Ty.i .i64,.i .i64,.i .i64,.i .i64,.i .i64,.i .i64,.s,.i .i64,.i .i64][j]?=some ty→us[j]?=some u→UT ty u):∃ x,us=Event.u x∧Event.Fit x:=by
 match us,hl with
 | [c0,c1,c2,c3,c4,c5,c6,c7,c8],_=>
  obtain ⟨x0,rfl,f0⟩:=(ht 0 _ c0 rfl rfl).int_of
  obtain ⟨x1,rfl,f1⟩:=(ht 1 _ c1 rfl rfl).int_of
  obtain ⟨x2,rfl,f2⟩:=(ht 2 _ c2 rfl rfl).int_of
  obtain ⟨x3,rfl,f3⟩:=(ht 3 _ c3 rfl rfl).int_of
  obtain ⟨x4,rfl,f4⟩:=(ht 4 _ c4 rfl rfl).int_of
  obtain ⟨x5,rfl,f5⟩:=(ht 5 _ c5 rfl rfl).int_of
  obtain ⟨x6,rfl,f6⟩:=(ht 6 _ c6 rfl rfl).str_of
  obtain ⟨x7,rfl,f7⟩:=(ht 7 _ c7 rfl rfl).int_of
  obtain ⟨x8,rfl,f8⟩:=(ht 8 _ c8 rfl rfl).int_of
  exact ⟨⟨x0,x1,x2,⟨x3,x4,⟨x5,x6,x7,x8⟩⟩⟩,rfl,⟨f0,f1,f2,⟨f3,f4,⟨f5,f6,f7,f8⟩⟩⟩⟩
structure Plan where
 kind:Int
 first:Int
 second:Int
 key:Str
 from_:Int
 to_:Int
 step:Int
def Plan.u (x:Plan):List U:=[.int .i64 x.kind,.int .i64 x.first,.int .i64 x.second,.str x.key,.int .i64 x.from_,.int .i64 x.to_,.int .i64 x.step]
def Plan.Fit (x:Plan):Prop:=Z7 x.kind∧Z7 x.first∧Z7 x.second∧x.key.length≤9223372036854775807∧Z7 x.from_∧Z7 x.to_∧Z7 x.step
theorem Plan.of (us:List U) (hl:us.length=7) (ht:∀ (j:Nat) ty u,[Ty.i .i64,.i .i64,.i .i64,.s,.i .i64,.i .i64,.i .i64][j]?=some ty→us[j]?=some u→UT ty u):∃ x,us=Plan.u x∧Plan.Fit x:=by
 match us,hl with
 | [c0,c1,c2,c3,c4,c5,c6],_=>
  obtain ⟨x0,rfl,f0⟩:=(ht 0 _ c0 rfl rfl).int_of
  obtain ⟨x1,rfl,f1⟩:=(ht 1 _ c1 rfl rfl).int_of
  obtain ⟨x2,rfl,f2⟩:=(ht 2 _ c2 rfl rfl).int_of
  obtain ⟨x3,rfl,f3⟩:=(ht 3 _ c3 rfl rfl).str_of
  obtain ⟨x4,rfl,f4⟩:=(ht 4 _ c4 rfl rfl).int_of
  obtain ⟨x5,rfl,f5⟩:=(ht 5 _ c5 rfl rfl).int_of
  obtain ⟨x6,rfl,f6⟩:=(ht 6 _ c6 rfl rfl).int_of
  exact ⟨⟨x0,x1,x2,x3,x4,x5,x6⟩,rfl,⟨f0,f1,f2,f3,f4,f5,f6⟩⟩
structure Deed where
 kind:Int
 who:Int
 node:Int
 number:Int
 wish:Command
 inner:Event
 work:Plan
def Deed.u (x:Deed):List U:=[.int .i64 x.kind,.int .i64 x.who,.int .i64 x.node,.int .i64 x.number,.int .i64 x.wish.kind,.str x.wish.key,.int .i64 x.wish.value,.int .i64 x.wish.old,.int .i64 x.inner.kind,.int .i64 x.inner.node,.int .i64 x.inner.place,.int .i64 x.inner.sent.client,.int .i64 x.inner.sent.seq,.int .i64 x.inner.sent.cmd.kind,.str x.inner.sent.cmd.key,.int .i64 x.inner.sent.cmd.value,.int .i64 x.inner.sent.cmd.old,.int .i64 x.work.kind,.int .i64 x.work.first,.int .i64 x.work.second,.str x.work.key,.int .i64 x.work.from_,.int .i64 x.work.to_,.int .i64 x.work.step]
def Deed.Fit (x:Deed):Prop:=Z7 x.kind∧Z7 x.who∧Z7 x.node∧Z7 x.number∧Command.Fit x.wish∧Event.Fit x.inner∧Plan.Fit x.work
theorem Deed.of (us:List U) (hl:us.length=24) (ht:∀ (j:Nat) ty u,[Ty.i .i64,.i .i64,.i .i64,.i .i64,.i .i64,.s,.i .i64,.i .i64,.i .i64,.i .i64,.i .i64,.i .i64,.i .i64,.i .i64,.s,.i .i64,.i .i64,.i .i64,.i .i64,.i .i64,.s,.i .i64,.i .i64,.i .i64][j]?=some ty→us[j]?=some u→UT ty u):∃ x,us=Deed.u x∧Deed.Fit x:=by
 match us,hl with
 | [c0,c1,c2,c3,c4,c5,c6,c7,c8,c9,c10,c11,c12,c13,c14,c15,c16,c17,c18,c19,c20,c21,c22,c23],_=>
  obtain ⟨x0,rfl,f0⟩:=(ht 0 _ c0 rfl rfl).int_of
  obtain ⟨x1,rfl,f1⟩:=(ht 1 _ c1 rfl rfl).int_of
  obtain ⟨x2,rfl,f2⟩:=(ht 2 _ c2 rfl rfl).int_of
  obtain ⟨x3,rfl,f3⟩:=(ht 3 _ c3 rfl rfl).int_of
  obtain ⟨x4,rfl,f4⟩:=(ht 4 _ c4 rfl rfl).int_of
  obtain ⟨x5,rfl,f5⟩:=(ht 5 _ c5 rfl rfl).str_of
  obtain ⟨x6,rfl,f6⟩:=(ht 6 _ c6 rfl rfl).int_of
  obtain ⟨x7,rfl,f7⟩:=(ht 7 _ c7 rfl rfl).int_of
  obtain ⟨x8,rfl,f8⟩:=(ht 8 _ c8 rfl rfl).int_of
  obtain ⟨x9,rfl,f9⟩:=(ht 9 _ c9 rfl rfl).int_of
  obtain ⟨x10,rfl,f10⟩:=(ht 10 _ c10 rfl rfl).int_of
  obtain ⟨x11,rfl,f11⟩:=(ht 11 _ c11 rfl rfl).int_of
  obtain ⟨x12,rfl,f12⟩:=(ht 12 _ c12 rfl rfl).int_of
  obtain ⟨x13,rfl,f13⟩:=(ht 13 _ c13 rfl rfl).int_of
  obtain ⟨x14,rfl,f14⟩:=(ht 14 _ c14 rfl rfl).str_of
  obtain ⟨x15,rfl,f15⟩:=(ht 15 _ c15 rfl rfl).int_of
  obtain ⟨x16,rfl,f16⟩:=(ht 16 _ c16 rfl rfl).int_of
  obtain ⟨x17,rfl,f17⟩:=(ht 17 _ c17 rfl rfl).int_of
  obtain ⟨x18,rfl,f18⟩:=(ht 18 _ c18 rfl rfl).int_of
  obtain ⟨x19,rfl,f19⟩:=(ht 19 _ c19 rfl rfl).int_of
  obtain ⟨x20,rfl,f20⟩:=(ht 20 _ c20 rfl rfl).str_of
  obtain ⟨x21,rfl,f21⟩:=(ht 21 _ c21 rfl rfl).int_of
  obtain ⟨x22,rfl,f22⟩:=(ht 22 _ c22 rfl rfl).int_of
  obtain ⟨x23,rfl,f23⟩:=(ht 23 _ c23 rfl rfl).int_of
  exact ⟨⟨x0,x1,x2,x3,⟨x4,x5,x6,x7⟩,⟨x8,x9,x10,⟨x11,x12,⟨x13,x14,x15,x16⟩⟩⟩,⟨x17,x18,x19,x20,x21,x22,x23⟩⟩,rfl,⟨f0,f1,f2,f3,⟨f4,f5,f6,f7⟩,⟨f8,f9,f10,⟨f11,f12,⟨f13,f14,f15,f16⟩⟩⟩,⟨f17,f18,f19,f20,f21,f22,f23⟩⟩⟩
structure Replica where
 conf:Config
 ready:Bool
 log:(List Entry)
def Replica.u (x:Replica):List U:=[.int .i64 x.conf.epoch,.sl 1 (x.conf.members.map iU),.bool x.conf.fresh,.bool x.ready,.sl 6 (x.log.map Entry.u)]
def Replica.Fit (x:Replica):Prop:=Config.Fit x.conf∧True∧(x.log.length≤9223372036854775807∧∀ y,y∈x.log→Entry.Fit y)
theorem Replica.of (us:List U) (hl:us.length=5) (ht:∀ (j:Nat) ty u,[Ty.i .i64,.sl [.i .i64],.b,.b,.sl [.i .i64,.i .i64,.i .i64,.s,.i .i64,.i .i64]][j]?=some ty→us[j]?=some u→UT ty u):∃ x,us=Replica.u x∧Replica.Fit x:=by
 match us,hl with
 | [c0,c1,c2,c3,c4],_=>
  obtain ⟨x0,rfl,f0⟩:=(ht 0 _ c0 rfl rfl).int_of
  obtain ⟨x1,rfl,f1⟩:=(ht 1 _ c1 rfl rfl).sl_of ZK1
  obtain ⟨x2,rfl⟩:=(ht 2 _ c2 rfl rfl).bool_of
  obtain ⟨x3,rfl⟩:=(ht 3 _ c3 rfl rfl).bool_of
  obtain ⟨x4,rfl,f4⟩:=(ht 4 _ c4 rfl rfl).sl_of Entry.of
  exact ⟨⟨⟨x0,x1,x2⟩,x3,x4⟩,rfl,⟨⟨f0,f1,trivial⟩,trivial,f4⟩⟩
structure Message where
 kind:Int
 to_:Int
 epoch:Int
 conf:Config
 log:(List Entry)
def Message.u (x:Message):List U:=[.int .i64 x.kind,.int .i64 x.to_,.int .i64 x.epoch,.int .i64 x.conf.epoch,.sl 1 (x.conf.members.map iU),.bool x.conf.fresh,.sl 6 (x.log.map Entry.u)]
def Message.Fit (x:Message):Prop:=Z7 x.kind∧Z7 x.to_∧Z7 x.epoch∧Config.Fit x.conf∧(x.log.length≤9223372036854775807∧∀ y,y∈x.log→Entry.Fit y)
theorem Message.of (us:List U) (hl:us.length=7) (ht:∀ (j:Nat) ty u,[Ty.i .i64,.i .i64,.i .i64,.i .i64,.sl [.i .i64],.b,.sl [.i .i64,.i .i64,.i .i64,.s,.i .i64,.i .i64]][j]?=some ty→us[j]?=some u→UT ty u):∃ x,us=Message.u x∧Message.Fit x:=by
 match us,hl with
 | [c0,c1,c2,c3,c4,c5,c6],_=>
  obtain ⟨x0,rfl,f0⟩:=(ht 0 _ c0 rfl rfl).int_of
  obtain ⟨x1,rfl,f1⟩:=(ht 1 _ c1 rfl rfl).int_of
  obtain ⟨x2,rfl,f2⟩:=(ht 2 _ c2 rfl rfl).int_of
  obtain ⟨x3,rfl,f3⟩:=(ht 3 _ c3 rfl rfl).int_of
  obtain ⟨x4,rfl,f4⟩:=(ht 4 _ c4 rfl rfl).sl_of ZK1
  obtain ⟨x5,rfl⟩:=(ht 5 _ c5 rfl rfl).bool_of
  obtain ⟨x6,rfl,f6⟩:=(ht 6 _ c6 rfl rfl).sl_of Entry.of
  exact ⟨⟨x0,x1,x2,⟨x3,x4,x5⟩,x6⟩,rfl,⟨f0,f1,f2,⟨f3,f4,trivial⟩,f6⟩⟩
structure Chain where
 base:State
 conf:Config
 nodes:(List Replica)
 up:(List Bool)
 bag:(List Message)
 answers:(List Answer)
def Chain.u (x:Chain):List U:=[.str x.base.span.low,.str x.base.span.high,.sl 2 (x.base.pairs.map Pair.u),.sl 3 (x.base.known.map Session.u),.bool x.base.sealed,.str x.base.cut,.int .i64 x.conf.epoch,.sl 1 (x.conf.members.map iU),.bool x.conf.fresh,.sl 5 (x.nodes.map Replica.u),.sl 1 (x.up.map bU),.sl 7 (x.bag.map Message.u),.sl 7 (x.answers.map Answer.u)]
def Chain.Fit (x:Chain):Prop:=State.Fit x.base∧Config.Fit x.conf∧(x.nodes.length≤9223372036854775807∧∀ y,y∈x.nodes→Replica.Fit y)∧(x.up.length≤9223372036854775807∧∀ y,y∈x.up→True)∧(x.bag.length≤9223372036854775807∧∀ y,y∈x.bag→Message.Fit y)∧(x.answers.length≤9223372036854775807∧∀ y,y∈x.answers→Answer.Fit y)
theorem Chain.of (us:List U) (hl:us.length=13) (ht:∀ (j:Nat) ty u,[Ty.s,.s,.sl [.s,.i .i64],.sl [.i .i64,.i .i64,.i .i64],.b,.s,.i .i64,.sl [.i .i64],.b,.sl [.i .i64,.sl [.i .i64],.b,.b,.sl [.i .i64,.i .i64,.i .i64,.s,.i .i64,.i .i64]],.sl [.b],.sl [.i .i64,.i .i64,.i .i64,.i .i64,.sl [.i .i64],.b,.sl [.i .i64,.i .i64,.i .i64,.s,.i .i64,.i .i64]],.sl [.i .i64,.i .i64,.i .i64,.s,.i .i64,.i .i64,.i .i64]][j]?=some ty→us[j]?=some u→UT ty u):∃ x,us=Chain.u x∧Chain.Fit x:=by
 match us,hl with
 | [c0,c1,c2,c3,c4,c5,c6,c7,c8,c9,c10,c11,c12],_=>
  obtain ⟨x0,rfl,f0⟩:=(ht 0 _ c0 rfl rfl).str_of
  obtain ⟨x1,rfl,f1⟩:=(ht 1 _ c1 rfl rfl).str_of
  obtain ⟨x2,rfl,f2⟩:=(ht 2 _ c2 rfl rfl).sl_of Pair.of
  obtain ⟨x3,rfl,f3⟩:=(ht 3 _ c3 rfl rfl).sl_of Session.of
  obtain ⟨x4,rfl⟩:=(ht 4 _ c4 rfl rfl).bool_of
  obtain ⟨x5,rfl,f5⟩:=(ht 5 _ c5 rfl rfl).str_of
  obtain ⟨x6,rfl,f6⟩:=(ht 6 _ c6 rfl rfl).int_of
  obtain ⟨x7,rfl,f7⟩:=(ht 7 _ c7 rfl rfl).sl_of ZK1
  obtain ⟨x8,rfl⟩:=(ht 8 _ c8 rfl rfl).bool_of
  obtain ⟨x9,rfl,f9⟩:=(ht 9 _ c9 rfl rfl).sl_of Replica.of
  obtain ⟨x10,rfl,f10⟩:=(ht 10 _ c10 rfl rfl).sl_of ZM5
  obtain ⟨x11,rfl,f11⟩:=(ht 11 _ c11 rfl rfl).sl_of Message.of
  obtain ⟨x12,rfl,f12⟩:=(ht 12 _ c12 rfl rfl).sl_of Answer.of
  exact ⟨⟨⟨⟨x0,x1⟩,x2,x3,x4,x5⟩,⟨x6,x7,x8⟩,x9,x10,x11,x12⟩,rfl,⟨⟨⟨f0,f1⟩,f2,f3,trivial,f5⟩,⟨f6,f7,trivial⟩,f9,f10,f11,f12⟩⟩
structure Route where
 number:Int
 span:Interval
def Route.u (x:Route):List U:=[.int .i64 x.number,.str x.span.low,.str x.span.high]
def Route.Fit (x:Route):Prop:=Z7 x.number∧Interval.Fit x.span
theorem Route.of (us:List U) (hl:us.length=3) (ht:∀ (j:Nat) ty u,[Ty.i .i64,.s,.s][j]?=some ty→us[j]?=some u→UT ty u):∃ x,us=Route.u x∧Route.Fit x:=by
 match us,hl with
 | [c0,c1,c2],_=>
  obtain ⟨x0,rfl,f0⟩:=(ht 0 _ c0 rfl rfl).int_of
  obtain ⟨x1,rfl,f1⟩:=(ht 1 _ c1 rfl rfl).str_of
  obtain ⟨x2,rfl,f2⟩:=(ht 2 _ c2 rfl rfl).str_of
  exact ⟨⟨x0,⟨x1,x2⟩⟩,rfl,⟨f0,⟨f1,f2⟩⟩⟩
structure Caller where
 cache:(List Route)
 seq:Int
 busy:Bool
 wish:Command
 called:Int
def Caller.u (x:Caller):List U:=[.sl 3 (x.cache.map Route.u),.int .i64 x.seq,.bool x.busy,.int .i64 x.wish.kind,.str x.wish.key,.int .i64 x.wish.value,.int .i64 x.wish.old,.int .i64 x.called]
def Caller.Fit (x:Caller):Prop:=(x.cache.length≤9223372036854775807∧∀ y,y∈x.cache→Route.Fit y)∧Z7 x.seq∧True∧Command.Fit x.wish∧Z7 x.called
theorem Caller.of (us:List U) (hl:us.length=8) (ht:∀ (j:Nat) ty u,[Ty.sl [.i .i64,.s,.s],.i .i64,.b,.i .i64,.s,.i .i64,.i .i64,.i .i64][j]?=some ty→us[j]?=some u→UT ty u):∃ x,us=Caller.u x∧Caller.Fit x:=by
 match us,hl with
 | [c0,c1,c2,c3,c4,c5,c6,c7],_=>
  obtain ⟨x0,rfl,f0⟩:=(ht 0 _ c0 rfl rfl).sl_of Route.of
  obtain ⟨x1,rfl,f1⟩:=(ht 1 _ c1 rfl rfl).int_of
  obtain ⟨x2,rfl⟩:=(ht 2 _ c2 rfl rfl).bool_of
  obtain ⟨x3,rfl,f3⟩:=(ht 3 _ c3 rfl rfl).int_of
  obtain ⟨x4,rfl,f4⟩:=(ht 4 _ c4 rfl rfl).str_of
  obtain ⟨x5,rfl,f5⟩:=(ht 5 _ c5 rfl rfl).int_of
  obtain ⟨x6,rfl,f6⟩:=(ht 6 _ c6 rfl rfl).int_of
  obtain ⟨x7,rfl,f7⟩:=(ht 7 _ c7 rfl rfl).int_of
  exact ⟨⟨x0,x1,x2,⟨x3,x4,x5,x6⟩,x7⟩,rfl,⟨f0,f1,trivial,⟨f3,f4,f5,f6⟩,f7⟩⟩
structure Result where
 client:Int
 seq:Int
 wish:Command
 reply:Int
 called:Int
 returned:Int
def Result.u (x:Result):List U:=[.int .i64 x.client,.int .i64 x.seq,.int .i64 x.wish.kind,.str x.wish.key,.int .i64 x.wish.value,.int .i64 x.wish.old,.int .i64 x.reply,.int .i64 x.called,.int .i64 x.returned]
def Result.Fit (x:Result):Prop:=Z7 x.client∧Z7 x.seq∧Command.Fit x.wish∧Z7 x.reply∧Z7 x.called∧Z7 x.returned
theorem Result.of (us:List U) (hl:us.length=9) (ht:∀ (j:Nat) ty u,[Ty.i .i64,.i .i64,.i .i64,.s,.i .i64,.i .i64,.i .i64,.i .i64,.i .i64][j]?=some ty→us[j]?=some u→UT ty u):∃ x,us=Result.u x∧Result.Fit x:=by
 match us,hl with
 | [c0,c1,c2,c3,c4,c5,c6,c7,c8],_=>
  obtain ⟨x0,rfl,f0⟩:=(ht 0 _ c0 rfl rfl).int_of
  obtain ⟨x1,rfl,f1⟩:=(ht 1 _ c1 rfl rfl).int_of
  obtain ⟨x2,rfl,f2⟩:=(ht 2 _ c2 rfl rfl).int_of
  obtain ⟨x3,rfl,f3⟩:=(ht 3 _ c3 rfl rfl).str_of
  obtain ⟨x4,rfl,f4⟩:=(ht 4 _ c4 rfl rfl).int_of
  obtain ⟨x5,rfl,f5⟩:=(ht 5 _ c5 rfl rfl).int_of
  obtain ⟨x6,rfl,f6⟩:=(ht 6 _ c6 rfl rfl).int_of
  obtain ⟨x7,rfl,f7⟩:=(ht 7 _ c7 rfl rfl).int_of
  obtain ⟨x8,rfl,f8⟩:=(ht 8 _ c8 rfl rfl).int_of
  exact ⟨⟨x0,x1,⟨x2,x3,x4,x5⟩,x6,x7,x8⟩,rfl,⟨f0,f1,⟨f2,f3,f4,f5⟩,f6,f7,f8⟩⟩
structure Shard where
 live:Bool
 group:Chain
def Shard.u (x:Shard):List U:=[.bool x.live,.str x.group.base.span.low,.str x.group.base.span.high,.sl 2 (x.group.base.pairs.map Pair.u),.sl 3 (x.group.base.known.map Session.u),.bool x.group.base.sealed,.str x.group.base.cut,.int .i64 x.group.conf.epoch,.sl 1 (x.group.conf.members.map iU),.bool x.group.conf.fresh,.sl 5 (x.group.nodes.map Replica.u),.sl 1 (x.group.up.map bU),.sl 7 (x.group.bag.map Message.u),.sl 7 (x.group.answers.map Answer.u)]
def Shard.Fit (x:Shard):Prop:=True∧Chain.Fit x.group
theorem Shard.of (us:List U) (hl:us.length=14) (ht:∀ (j:Nat) ty u,[Ty.b,.s,.s,.sl [.s,.i .i64],.sl [.i .i64,.i .i64,.i .i64],.b,.s,.i .i64,.sl [.i .i64],.b,.sl [.i .i64,.sl [.i .i64],.b,.b,.sl [.i .i64,.i .i64,.i .i64,.s,.i .i64,.i .i64]],.sl [.b],.sl [.i .i64,.i .i64,.i .i64,.i .i64,.sl [.i .i64],.b,.sl [.i .i64,.i .i64,.i .i64,.s,.i .i64,.i .i64]],.sl [.i .i64,.i .i64,.i .i64,.s,.i .i64,.i .i64,.i .i64]][j]?=some ty→us[j]?=some u→UT ty u):∃ x,us=Shard.u x∧Shard.Fit x:=by
 match us,hl with
 | [c0,c1,c2,c3,c4,c5,c6,c7,c8,c9,c10,c11,c12,c13],_=>
  obtain ⟨x0,rfl⟩:=(ht 0 _ c0 rfl rfl).bool_of
  obtain ⟨x1,rfl,f1⟩:=(ht 1 _ c1 rfl rfl).str_of
  obtain ⟨x2,rfl,f2⟩:=(ht 2 _ c2 rfl rfl).str_of
  obtain ⟨x3,rfl,f3⟩:=(ht 3 _ c3 rfl rfl).sl_of Pair.of
  obtain ⟨x4,rfl,f4⟩:=(ht 4 _ c4 rfl rfl).sl_of Session.of
  obtain ⟨x5,rfl⟩:=(ht 5 _ c5 rfl rfl).bool_of
  obtain ⟨x6,rfl,f6⟩:=(ht 6 _ c6 rfl rfl).str_of
  obtain ⟨x7,rfl,f7⟩:=(ht 7 _ c7 rfl rfl).int_of
  obtain ⟨x8,rfl,f8⟩:=(ht 8 _ c8 rfl rfl).sl_of ZK1
  obtain ⟨x9,rfl⟩:=(ht 9 _ c9 rfl rfl).bool_of
  obtain ⟨x10,rfl,f10⟩:=(ht 10 _ c10 rfl rfl).sl_of Replica.of
  obtain ⟨x11,rfl,f11⟩:=(ht 11 _ c11 rfl rfl).sl_of ZM5
  obtain ⟨x12,rfl,f12⟩:=(ht 12 _ c12 rfl rfl).sl_of Message.of
  obtain ⟨x13,rfl,f13⟩:=(ht 13 _ c13 rfl rfl).sl_of Answer.of
  exact ⟨⟨x0,⟨⟨⟨x1,x2⟩,x3,x4,x5,x6⟩,⟨x7,x8,x9⟩,x10,x11,x12,x13⟩⟩,rfl,⟨trivial,⟨⟨⟨f1,f2⟩,f3,f4,trivial,f6⟩,⟨f7,f8,trivial⟩,f10,f11,f12,f13⟩⟩⟩
structure Cluster where
 shards:(List Shard)
 clients:(List Caller)
 results:(List Result)
 work:Plan
 turn:Int
 clock:Int
def Cluster.u (x:Cluster):List U:=[.sl 14 (x.shards.map Shard.u),.sl 8 (x.clients.map Caller.u),.sl 9 (x.results.map Result.u),.int .i64 x.work.kind,.int .i64 x.work.first,.int .i64 x.work.second,.str x.work.key,.int .i64 x.work.from_,.int .i64 x.work.to_,.int .i64 x.work.step,.int .i64 x.turn,.int .i64 x.clock]
def Cluster.Fit (x:Cluster):Prop:=(x.shards.length≤9223372036854775807∧∀ y,y∈x.shards→Shard.Fit y)∧(x.clients.length≤9223372036854775807∧∀ y,y∈x.clients→Caller.Fit y)∧(x.results.length≤9223372036854775807∧∀ y,y∈x.results→Result.Fit y)∧Plan.Fit x.work∧Z7 x.turn∧Z7 x.clock
theorem Cluster.of (us:List U) (hl:us.length=12) (ht:∀ (j:Nat) ty u,[Ty.sl [.b,.s,.s,.sl [.s,.i .i64],.sl [.i .i64,.i .i64,.i .i64],.b,.s,.i .i64,.sl [.i .i64],.b,.sl [.i .i64,.sl [.i .i64],.b,.b,.sl [.i .i64,.i .i64,.i .i64,.s,.i .i64,.i .i64]],.sl [.b],.sl [.i .i64,.i .i64,.i .i64,.i .i64,.sl [.i .i64],.b,.sl [.i .i64,.i .i64,.i .i64,.s,.i .i64,.i .i64]],.sl [.i .i64,.i .i64,.i .i64,.s,.i .i64,.i .i64,.i .i64]],.sl [.sl [.i .i64,.s,.s],.i .i64,.b,.i .i64,.s,.i .i64,.i .i64,.i .i64],.sl [.i .i64,.i .i64,.i .i64,.s,.i .i64,.i .i64,.i .i64,.i .i64,.i .i64],.i .i64,.i .i64,.i .i64,.s,.i .i64,.i .i64,.i .i64,.i .i64,.i .i64][j]?=some ty→us[j]?=some u→UT ty u):∃ x,us=Cluster.u x∧Cluster.Fit x:=by
 match us,hl with
 | [c0,c1,c2,c3,c4,c5,c6,c7,c8,c9,c10,c11],_=>
  obtain ⟨x0,rfl,f0⟩:=(ht 0 _ c0 rfl rfl).sl_of Shard.of
  obtain ⟨x1,rfl,f1⟩:=(ht 1 _ c1 rfl rfl).sl_of Caller.of
  obtain ⟨x2,rfl,f2⟩:=(ht 2 _ c2 rfl rfl).sl_of Result.of
  obtain ⟨x3,rfl,f3⟩:=(ht 3 _ c3 rfl rfl).int_of
  obtain ⟨x4,rfl,f4⟩:=(ht 4 _ c4 rfl rfl).int_of
  obtain ⟨x5,rfl,f5⟩:=(ht 5 _ c5 rfl rfl).int_of
  obtain ⟨x6,rfl,f6⟩:=(ht 6 _ c6 rfl rfl).str_of
  obtain ⟨x7,rfl,f7⟩:=(ht 7 _ c7 rfl rfl).int_of
  obtain ⟨x8,rfl,f8⟩:=(ht 8 _ c8 rfl rfl).int_of
  obtain ⟨x9,rfl,f9⟩:=(ht 9 _ c9 rfl rfl).int_of
  obtain ⟨x10,rfl,f10⟩:=(ht 10 _ c10 rfl rfl).int_of
  obtain ⟨x11,rfl,f11⟩:=(ht 11 _ c11 rfl rfl).int_of
  exact ⟨⟨x0,x1,x2,⟨x3,x4,x5,x6,x7,x8,x9⟩,x10,x11⟩,rfl,⟨f0,f1,f2,⟨f3,f4,f5,f6,f7,f8,f9⟩,f10,f11⟩⟩
theorem ZK0:(∀ l:List Pair,ZcG (l.map Pair.u)=true)∧(∀ l:List Session,ZcG (l.map Session.u)=true)∧(∀ l:List Int,ZcG (l.map iU)=true)∧(∀ l:List Answer,ZcG (l.map Answer.u)=true)∧(∀ l:List Entry,ZcG (l.map Entry.u)=true)∧(∀ l:List Bool,ZcG (l.map bU)=true)∧(∀ l:List Route,ZcG (l.map Route.u)=true)∧(∀ l:List Result,ZcG (l.map Result.u)=true)∧(∀ l:List Interval,ZcG (l.map Interval.u)=true)∧(∀ (b:Bool) (x:List Id),sel b x x=x)∧
  (∀ (st:St) d res x0 x1 x2 x3 x4 x5 x6,St.ofRet st d ⟨res,[x0,x1,x2,x3,x4,x5,x6],[]⟩=(((((((st.obj (.loc d 0) (some x0)).obj (.loc d 1) (some x1)).obj (.loc d 2) (some x2)).obj (.loc d 3) (some x3)).obj (.loc d 4) (some x4)).obj (.loc d 5) (some x5)).obj (.loc d 6) (some x6)).put d (retD (res.map (T.mapC (C.ren (Zah d))))))∧List.range 7=[0,1,2,3,4,5,6]∧
  (∀ l:List Pair,Zbi (l.map Pair.u)=true)∧(∀ l:List Session,Zbi (l.map Session.u)=true)∧(∀ l:List Int,Zbi (l.map iU)=true)∧(∀ l:List Answer,Zbi (l.map Answer.u)=true)∧(∀ l:List Entry,Zbi (l.map Entry.u)=true)∧(∀ l:List Bool,Zbi (l.map bU)=true)∧(∀ l:List Route,Zbi (l.map Route.u)=true)∧(∀ l:List Result,Zbi (l.map Result.u)=true)∧(∀ l:List Interval,Zbi (l.map Interval.u)=true):=
 ⟨Zi4 fun _=>rfl,Zi4 fun _=>rfl,Zi4 fun _=>rfl,Zi4 fun _=>rfl,Zi4 fun _=>rfl,Zi4 fun _=>rfl,Zi4 fun _=>rfl,Zi4 fun _=>rfl,Zi4 fun _=>rfl,fun b x=>by cases b<;>rfl,fun st d res x0 x1 x2 x3 x4 x5 x6=>rfl,rfl,Zjd fun _=>rfl,Zjd fun _=>rfl,Zjd fun _=>rfl,Zjd fun _=>rfl,Zjd fun _=>rfl,Zjd fun _=>rfl,Zjd fun _=>rfl,Zjd fun _=>rfl,Zjd fun _=>rfl⟩
theorem xT:(type_of% xQ)∧(type_of% xR)∧(type_of% xS)∧(type_of% ZK0):=⟨xQ,xR,xS,ZK0⟩
theorem xU:(type_of% xQ)∧(type_of% xR)∧(type_of% xD)∧(type_of% ZK0):=⟨xQ,xR,xD,ZK0⟩
/-- A part is taken off, unless that is too much. -/
def offZ (left:Int) (n:Nat) (k:Int→Int):Int:=if IntKind.i64.wrap (left - n)<0 then -1 else k (IntKind.i64.wrap (left - n))
def chkZ (a:Int) (k:Int→Int):Int:=if a<0 then -1 else k a
def allZ {α:Type} (g:α→Int→Int):List α→Int→Int
 | [],a=>a
 | x::xs,a=>chkZ (g x a) (allZ g xs)
theorem ZGE {α:Type} {g:α→Int→Int} {l:List α} {i:Nat} {x:α} (h:l[i]?=some x) (a:Int):allZ g (l.drop i) a=chkZ (g x a) (allZ g (l.drop (i+1))):=by
 have hi:=(List.getElem?_eq_some_iff.1 h).1
 have he:=(List.getElem?_eq_some_iff.1 h).2
 rw [List.drop_eq_getElem_cons hi,he]; rfl
/-- No more is left than was there; what was counted is small. -/
def LeZ (g:Int→Int) (P:Prop):Prop:=∀ a,0≤a→a≤1048576→g a≤a∧(0≤g a→P)
theorem LeZ.id:LeZ (fun a=>a) True:=fun a _ _=>⟨Int.le_refl _,fun _=>trivial⟩
theorem LeZ.off {n:Nat} {k:Int→Int} {P:Prop} (hn:n≤9223372036854775807) (hk:LeZ k P):LeZ (fun a=>offZ a n k) (n≤1048576∧P):=by
 intro a h0 h1
 simp only[offZ]
 rw [w64 (by omega) (by omega)]
 split
 ·exact ⟨by omega,fun h=>by omega⟩
 ·obtain ⟨h2,h3⟩:=hk (a - n) (by omega) (by omega)
  exact ⟨by omega,fun h=>⟨by omega,h3 h⟩⟩
theorem LeZ.chk {g k:Int→Int} {P Q:Prop} (hg:LeZ g P) (hk:LeZ k Q):LeZ (fun a=>chkZ (g a) k) (P∧Q):=by
 intro a h0 h1
 obtain ⟨h2,h3⟩:=hg a h0 h1
 simp only[chkZ]
 split
 ·exact ⟨by omega,fun h=>by omega⟩
 ·obtain ⟨h4,h5⟩:=hk (g a) (by omega) (by omega)
  exact ⟨by omega,fun h=>⟨h3 (by omega),h5 h⟩⟩
theorem LeZ.all {α:Type} {g:α→Int→Int} {P:α→Prop}:∀ {l:List α},(∀ x,x∈l→LeZ (g x) (P x))→LeZ (allZ g l) (∀ x,x∈l→P x)
 | [],_=>fun a _ _=>⟨Int.le_refl _,fun _ x h=>by cases h⟩
 | x::xs,h=>by
  have h1:=(h x (List.mem_cons_self ..)).chk (LeZ.all (l:=xs) (fun y hy=>h y (List.mem_cons_of_mem _ hy)))
  intro a h0 h2
  obtain ⟨h3,h4⟩:=h1 a h0 h2
  refine ⟨h3,fun h y hy=>?_⟩
  rcases List.mem_cons.1 hy with rfl|hy
  ·exact (h4 h).1
  ·exact (h4 h).2 y hy
theorem ZFL {α:Type} {f:α→List U} {z:List U} {l:List α} {i:Nat} {x:α} (h:l[i]?=some x):((l.take i).map f++List.replicate (l.length - i) z).set i (f x)=(l.take (i+1)).map f++List.replicate (l.length - (i+1)) z:=by
 have hi:=(List.getElem?_eq_some_iff.1 h).1
 have he:=(List.getElem?_eq_some_iff.1 h).2
 have h1:((l.take i).map f).length=i:=by simp; omega
 rw [List.set_append_right _ _ (by omega),h1,Nat.sub_self,show l.length - i=(l.length - (i+1))+1 by omega,List.replicate_succ,List.set_cons_zero,List.take_succ_eq_append_getElem hi,List.map_append,List.append_assoc,he]
 rfl
theorem ZFK {α:Type} {f:α→List U} {z:List U} {l:List α} {i:Nat} (hi:i<l.length):((l.take i).map f++List.replicate (l.length - i) z)[i]?=some z:=by
 have h1:((l.take i).map f).length=i:=by simp; omega
 rw [List.getElem?_append_right (by omega),h1,Nat.sub_self,show l.length - i=(l.length - (i+1))+1 by omega,List.replicate_succ]
 rfl
theorem ZFJ {α:Type} {f:α→List U} {z:List U} {l:List α}:(l.take l.length).map f++List.replicate (l.length - l.length) z=l.map f:=by simp
theorem ZIT (st:St) (d n:Nat) (zero:List U) (bytes:Nat) (h:n*bytes≤140737488355328):stMk st d (DI (n:Int)) (DI (n:Int)) zero bytes=some (((st.cool (.loc d 0)).obj (.loc d 0) (some (.row zero.length (List.replicate n zero)))).put d (.t (.sc (.own (.loc d 0) n)))):=by
 simp [stMk,D.int?,h]
theorem ZKp (st:St) (d n:Nat) (zero:List U) (bytes:Nat) (h:n*bytes≤140737488355328) (hz:zero.all U.zed=true):Zhg st d (DI (n:Int)) (DI (n:Int)) zero bytes=some (((st.cool (.loc d 0)).obj (.loc d 0) (some (.deep zero.length (List.replicate n zero)))).put d (.t (.sc (.down (.loc d 0) n)))):=by
 simp only[List.all_eq_true] at hz
 simp only[Zhg,D.int?,Option.bind_some,List.all_eq_true]
 rw [if_pos ⟨by omega,by omega,by simpa using h,hz⟩]
 simp
def ZHN (l:(List Int)):Prop:=l.length≤1048576∧True
def ZJe (l:(List Int)) (left:Int):Int:=offZ left l.length fun a=>a
theorem ZMs (l:(List Int)) (left:Int):EE F 283 [L 1 (l.map iU),I left] []=ok1 (I (ZJe l left)):=by
 rw [R283,b283]
 simp only[↓xP,xU,rB,rA,rS]
 refine ZiE (fun h=>?_) (fun h=>?_)<;>(simp only[decide_eq_true_eq,decide_eq_false_iff_not] at h; simp [ZJe,offZ,h])
theorem ZMr (l:(List Int)) (hf:(l.length≤9223372036854775807∧∀ y,y∈l→Z7 y)):LeZ (ZJe l) (ZHN l):=LeZ.off hf.1 (LeZ.id)
theorem ZMx (l:(List Int)) (hs:ZHN l):EE F 289 [L 1 (l.map iU)] []=some ⟨[.sc (.own (.par 0) l.length)],[.row 1 (l.map iU)],[]⟩:=by
 have hl:=hs.1
 rw [R289,b289]
 simp only[↓xP,xU,rB,rA,rS,ZIT _ 7 l.length [.int .i64 0] 8 (by omega)]
 refine (Zjc (fun (i:Nat) st=>i≤l.length∧st.s 0=DU (.sl 1 (l.map iU))∧st.s 4=DI i∧st.s 3=.t (.sc (.own (.loc 7 0) l.length))∧st.o (.loc 7 0)=some (.row 1 ((l.take i).map iU++List.replicate (l.length - i) [.int .i64 0]))) (fun i=>l.length - i) (fun i=>some ⟨[.sc (.own (.par 0) l.length)],[.row 1 (l.map iU)],[]⟩) ?_ 0 ⟨by omega,by simp only[↓xP,xU,rB,rA,rS],by simp only[↓xP,xU,rB,rA,rS]; rfl,by simp only[↓xP,xU,rB,rA,rS],by simp only[↓xP,xU,rB,rA,rS,Nat.sub_zero]⟩)
 rintro i st ⟨hle,h0,h4,h3,ho⟩ ih
 by_cases hi:i<l.length
 ·obtain ⟨x,hx⟩:∃ x,l[i]?=some x:=⟨_,List.getElem?_eq_getElem hi⟩
  have hw:=w_succ (i:=i) (by omega)
  have hg:=ZFK (f:=iU) (z:=[.int .i64 0]) hi
  have hf:=ZFL (f:=iU) (z:=[.int .i64 0]) hx
  simp only[iU] at hf
  simp only[↓xP,xU,rB,rA,rS,h0,h4,h3,ho,hi,hx,hw,hg,hf,iU]
  exact ih (i+1) _ (by omega) ⟨by omega,by simp only[↓xP,xU,rB,rA,rS,h0],by simp only[↓xP,xU,rB,rA,rS],by simp only[↓xP,xU,rB,rA,rS,h3],by simp only[↓xP,xU,rB,rA,rS,iU]⟩
 ·have:i=l.length:=by omega
  subst this
  rw [ZFJ] at ho
  simp only[↓xP,xU,rB,rA,rS,h0,h4,h3,ho,hi]
theorem ZMg (l:(List Int)) (hs:ZHN l):EE F 32 [L 1 (l.map iU),L 1 (l.map iU)] []=ok1 (B true):=by
 have hl:=hs.1
 rw [R32,b32]
 simp only[↓xP,xU,rB,rA,rS,ne_eq,not_true_eq_false]
 refine (Zjc (fun (i:Nat) st=>st.s 0=DU (.sl 1 (l.map iU))∧st.s 1=DU (.sl 1 (l.map iU))∧st.s 5=DI i) (fun i=>l.length - i) (fun i=>ok1 (B true)) ?_ 0 ⟨by simp only[↓xP,xU,rB,rA,rS],by simp only[↓xP,xU,rB,rA,rS],by simp only[↓xP,xU,rB,rA,rS]; rfl⟩)
 rintro i st ⟨h0,h1,h5⟩ ih
 by_cases hi:i<l.length
 ·obtain ⟨x,hx⟩:∃ x,l[i]?=some x:=⟨_,List.getElem?_eq_getElem hi⟩
  have hw:=w_succ (i:=i) (by omega)
  simp only[↓xP,xU,rB,rA,rS,h0,h1,h5,hi,hx,hw,iU,ne_eq,not_true_eq_false]
  exact ih (i+1) _ (by omega) ⟨by simp only[↓xP,xU,rB,rA,rS,h0],by simp only[↓xP,xU,rB,rA,rS,h1],by simp only[↓xP,xU,rB,rA,rS]⟩
 ·simp only[↓xP,xU,rB,rA,rS,h0,h1,h5,hi]
def ZHm (l:(List Bool)):Prop:=l.length≤1048576∧True
def ZIs (l:(List Bool)) (left:Int):Int:=offZ left l.length fun a=>a
theorem ZLI (l:(List Bool)) (left:Int):EE F 246 [L 1 (l.map bU),I left] []=ok1 (I (ZIs l left)):=by
 rw [R246,b246]
 simp only[↓xP,xU,rB,rA,rS]
 refine ZiE (fun h=>?_) (fun h=>?_)<;>(simp only[decide_eq_true_eq,decide_eq_false_iff_not] at h; simp [ZIs,offZ,h])
theorem ZLH (l:(List Bool)) (hf:(l.length≤9223372036854775807∧∀ y,y∈l→True)):LeZ (ZIs l) (ZHm l):=LeZ.off hf.1 (LeZ.id)
theorem ZLT (l:(List Bool)) (hs:ZHm l):EE F 255 [L 1 (l.map bU)] []=some ⟨[.sc (.own (.par 0) l.length)],[.row 1 (l.map bU)],[]⟩:=by
 have hl:=hs.1
 rw [R255,b255]
 simp only[↓xP,xU,rB,rA,rS,ZIT _ 7 l.length [.bool false] 1 (by omega)]
 refine (Zjc (fun (i:Nat) st=>i≤l.length∧st.s 0=DU (.sl 1 (l.map bU))∧st.s 4=DI i∧st.s 3=.t (.sc (.own (.loc 7 0) l.length))∧st.o (.loc 7 0)=some (.row 1 ((l.take i).map bU++List.replicate (l.length - i) [.bool false]))) (fun i=>l.length - i) (fun i=>some ⟨[.sc (.own (.par 0) l.length)],[.row 1 (l.map bU)],[]⟩) ?_ 0 ⟨by omega,by simp only[↓xP,xU,rB,rA,rS],by simp only[↓xP,xU,rB,rA,rS]; rfl,by simp only[↓xP,xU,rB,rA,rS],by simp only[↓xP,xU,rB,rA,rS,Nat.sub_zero]⟩)
 rintro i st ⟨hle,h0,h4,h3,ho⟩ ih
 by_cases hi:i<l.length
 ·obtain ⟨x,hx⟩:∃ x,l[i]?=some x:=⟨_,List.getElem?_eq_getElem hi⟩
  have hw:=w_succ (i:=i) (by omega)
  have hg:=ZFK (f:=bU) (z:=[.bool false]) hi
  have hf:=ZFL (f:=bU) (z:=[.bool false]) hx
  simp only[bU] at hf
  simp only[↓xP,xU,rB,rA,rS,h0,h4,h3,ho,hi,hx,hw,hg,hf,bU]
  exact ih (i+1) _ (by omega) ⟨by omega,by simp only[↓xP,xU,rB,rA,rS,h0],by simp only[↓xP,xU,rB,rA,rS],by simp only[↓xP,xU,rB,rA,rS,h3],by simp only[↓xP,xU,rB,rA,rS,bU]⟩
 ·have:i=l.length:=by omega
  subst this
  rw [ZFJ] at ho
  simp only[↓xP,xU,rB,rA,rS,h0,h4,h3,ho,hi]
theorem ZLt (l:(List Bool)) (hs:ZHm l):EE F 264 [L 1 (l.map bU),L 1 (l.map bU)] []=ok1 (B true):=by
 have hl:=hs.1
 rw [R264,b264]
 simp only[↓xP,xU,rB,rA,rS,ne_eq,not_true_eq_false]
 refine (Zjc (fun (i:Nat) st=>st.s 0=DU (.sl 1 (l.map bU))∧st.s 1=DU (.sl 1 (l.map bU))∧st.s 5=DI i) (fun i=>l.length - i) (fun i=>ok1 (B true)) ?_ 0 ⟨by simp only[↓xP,xU,rB,rA,rS],by simp only[↓xP,xU,rB,rA,rS],by simp only[↓xP,xU,rB,rA,rS]; rfl⟩)
 rintro i st ⟨h0,h1,h5⟩ ih
 by_cases hi:i<l.length
 ·obtain ⟨x,hx⟩:∃ x,l[i]?=some x:=⟨_,List.getElem?_eq_getElem hi⟩
  have hw:=w_succ (i:=i) (by omega)
  simp only[↓xP,xU,rB,rA,rS,h0,h1,h5,hi,hx,hw,bU,ne_eq,not_true_eq_false]
  exact ih (i+1) _ (by omega) ⟨by simp only[↓xP,xU,rB,rA,rS,h0],by simp only[↓xP,xU,rB,rA,rS,h1],by simp only[↓xP,xU,rB,rA,rS]⟩
 ·simp only[↓xP,xU,rB,rA,rS,h0,h1,h5,hi]
def Interval.Small (x:Interval):Prop:=x.low.length≤1048576∧x.high.length≤1048576∧True
def ZGu (x:Interval) (a:Int):Int:=offZ a x.low.length fun a=>offZ a x.high.length fun a=>a
theorem ZHV (c0:Str) (c1:Str) (left:Int):EE F 54 [.ag [.u (.str c0),.u (.str c1)],I left] []=ok1 (I (ZGu ⟨c0,c1⟩ left)):=by
 rw [R54,b54]
 simp only[↓xP,xU,rB,rA,rS]
 repeat' (refine ZiE (fun h=>?_) (fun h=>?_))
 all_goals (simp only[decide_eq_true_eq,decide_eq_false_iff_not] at *; simp [ZGu,offZ,chkZ, *])
theorem ZHU (x:Interval) (hf:Interval.Fit x):LeZ (ZGu x) (Interval.Small x):=LeZ.off hf.1 (LeZ.off hf.2 LeZ.id)
theorem ZHW (c0:Str) (c1:Str):EE F 56 [.ag [.u (.str c0),.u (.str c1)]] []=ok1 (.ag [.u (.str c0),.u (.str c1)]):=by
 rw [R56,b56]
 simp only[↓xP,xU,rB,rA,rS]
theorem ZHS (c0:Str) (c1:Str):EE F 150 [.ag [.u (.str c0),.u (.str c1)],.ag [.u (.str c0),.u (.str c1)]] []=ok1 (B true):=by
 rw [R150,b150]
 simp only[↓xP,xU,rB,rA,rS,ne_eq,not_true_eq_false]
def Pair.Small (x:Pair):Prop:=x.key.length≤1048576∧True
def ZHP (x:Pair) (a:Int):Int:=offZ a x.key.length fun a=>a
theorem ZMu (c0:Str) (c1:Int) (left:Int):EE F 301 [.ag [.u (.str c0),.u (.int .i64 c1)],I left] []=ok1 (I (ZHP ⟨c0,c1⟩ left)):=by
 rw [R301,b301]
 simp only[↓xP,xU,rB,rA,rS]
 repeat' (refine ZiE (fun h=>?_) (fun h=>?_))
 all_goals (simp only[decide_eq_true_eq,decide_eq_false_iff_not] at *; simp [ZHP,offZ,chkZ, *])
theorem ZMt (x:Pair) (hf:Pair.Fit x):LeZ (ZHP x) (Pair.Small x):=LeZ.off hf.1 LeZ.id
theorem ZMy (c0:Str) (c1:Int):EE F 304 [.ag [.u (.str c0),.u (.int .i64 c1)]] []=ok1 (.ag [.u (.str c0),.u (.int .i64 c1)]):=by
 rw [R304,b304]
 simp only[↓xP,xU,rB,rA,rS]
theorem ZMh (c0:Str) (c1:Int):EE F 97 [.ag [.u (.str c0),.u (.int .i64 c1)],.ag [.u (.str c0),.u (.int .i64 c1)]] []=ok1 (B true):=by
 rw [R97,b97]
 simp only[↓xP,xU,rB,rA,rS,ne_eq,not_true_eq_false]
def ZGN (l:(List Pair)):Prop:=l.length≤1048576∧∀ y,y∈l→Pair.Small y
def ZHL (l:(List Pair)) (left:Int):Int:=offZ left l.length fun a=>allZ ZHP l a
theorem ZLM (l:(List Pair)) (hf:(l.length≤9223372036854775807∧∀ y,y∈l→Pair.Fit y)) (left:Int):EE F 281 [L 2 (l.map Pair.u),I left] []=ok1 (I (ZHL l left)):=by
 have hl:=hf.1
 rw [R281,b281]
 simp only[↓xP,xU,rB,rA,rS]
 refine ZiE (fun h=>?_) (fun h=>?_)
 ·simp only[decide_eq_true_eq] at h
  simp [ZHL,offZ,h]
 ·refine (Zjc (fun (a:Nat×Int) st=>st.s 0=DU (.sl 2 (l.map Pair.u))∧st.s 5=DI a.1∧st.s 1=DI a.2) (fun a=>l.length - a.1) (fun a=>ok1 (I (allZ ZHP (l.drop a.1) a.2))) ?_ (0,IntKind.i64.wrap (left - l.length)) ⟨by simp only[↓xP,xU,rB,rA,rS],by simp only[↓xP,xU,rB,rA,rS]; rfl,by simp only[↓xP,xU,rB,rA,rS]⟩).trans ?_
  ·rintro ⟨i,a⟩ st ⟨h0,h5,h1⟩ ih
   dsimp only at h0 h5 h1 ih ⊢
   by_cases hi:i<l.length
   ·obtain ⟨⟨c0,c1⟩,hx⟩:∃ x,l[i]?=some x:=⟨_,List.getElem?_eq_getElem hi⟩
    have hw:=w_succ (i:=i) (by omega)
    have hfx:=hf.2 _ (List.mem_of_getElem? hx)
    simp only[↓xP,xU,rB,rA,rS,h0,h5,h1,hi,hx,hw,Pair.u,ZMu]
    rw [ZGE hx,chkZ]
    refine ZiE (fun h=>?_) (fun h=>?_)
    ·simp only[decide_eq_true_eq] at h
     simp [h]
    ·rw [ih (i+1,ZHP ⟨c0,c1⟩ a) _ (by dsimp only; omega) ⟨by simp only[↓xP,xU,rB,rA,rS,h0],by simp only[↓xP,xU,rB,rA,rS],by simp only[↓xP,xU,rB,rA,rS]⟩]
     simp only[decide_eq_false_iff_not] at h
     simp [h]
   ·simp only[↓xP,xU,rB,rA,rS,h0,h5,h1,hi]
    rw [List.drop_of_length_le (by omega)]; rfl
  ·simp only[decide_eq_false_iff_not] at h
   simp [ZHL,offZ,h]
theorem ZLL (l:(List Pair)) (hf:(l.length≤9223372036854775807∧∀ y,y∈l→Pair.Fit y)):LeZ (ZHL l) (ZGN l):=LeZ.off hf.1 (LeZ.all fun x hx=>ZMt x (hf.2 x hx))
theorem ZLV (l:(List Pair)) (hs:ZGN l):EE F 287 [L 2 (l.map Pair.u)] []=some ⟨[.sc (.own (.par 0) l.length)],[.row 2 (l.map Pair.u)],[]⟩:=by
 have hl:=hs.1
 rw [R287,b287]
 simp only[↓xP,xU,rB,rA,rS,ZIT _ 7 l.length [.str [],.int .i64 0] 24 (by omega)]
 refine (Zjc (fun (i:Nat) st=>i≤l.length∧st.s 0=DU (.sl 2 (l.map Pair.u))∧st.s 4=DI i∧st.s 3=.t (.sc (.own (.loc 7 0) l.length))∧st.o (.loc 7 0)=some (.row 2 ((l.take i).map Pair.u++List.replicate (l.length - i) [.str [],.int .i64 0]))) (fun i=>l.length - i) (fun i=>some ⟨[.sc (.own (.par 0) l.length)],[.row 2 (l.map Pair.u)],[]⟩) ?_ 0 ⟨by omega,by simp only[↓xP,xU,rB,rA,rS],by simp only[↓xP,xU,rB,rA,rS]; rfl,by simp only[↓xP,xU,rB,rA,rS],by simp only[↓xP,xU,rB,rA,rS,Nat.sub_zero]⟩)
 rintro i st ⟨hle,h0,h4,h3,ho⟩ ih
 by_cases hi:i<l.length
 ·obtain ⟨⟨c0,c1⟩,hx⟩:∃ x,l[i]?=some x:=⟨_,List.getElem?_eq_getElem hi⟩
  have hw:=w_succ (i:=i) (by omega)
  have hg:=ZFK (f:=Pair.u) (z:=[.str [],.int .i64 0]) hi
  have hf:=ZFL (f:=Pair.u) (z:=[.str [],.int .i64 0]) hx
  simp only[Pair.u] at hf
  simp only[↓xP,xU,rB,rA,rS,h0,h4,h3,ho,hi,hx,hw,hg,hf,Pair.u,ZMy]
  exact ih (i+1) _ (by omega) ⟨by omega,by simp only[↓xP,xU,rB,rA,rS,h0],by simp only[↓xP,xU,rB,rA,rS],by simp only[↓xP,xU,rB,rA,rS,h3],by simp only[↓xP,xU,rB,rA,rS,Pair.u]⟩
 ·have:i=l.length:=by omega
  subst this
  rw [ZFJ] at ho
  simp only[↓xP,xU,rB,rA,rS,h0,h4,h3,ho,hi]
theorem ZLv (l:(List Pair)) (hs:ZGN l):EE F 44 [L 2 (l.map Pair.u),L 2 (l.map Pair.u)] []=ok1 (B true):=by
 have hl:=hs.1
 rw [R44,b44]
 simp only[↓xP,xU,rB,rA,rS,ne_eq,not_true_eq_false]
 refine (Zjc (fun (i:Nat) st=>st.s 0=DU (.sl 2 (l.map Pair.u))∧st.s 1=DU (.sl 2 (l.map Pair.u))∧st.s 5=DI i) (fun i=>l.length - i) (fun i=>ok1 (B true)) ?_ 0 ⟨by simp only[↓xP,xU,rB,rA,rS],by simp only[↓xP,xU,rB,rA,rS],by simp only[↓xP,xU,rB,rA,rS]; rfl⟩)
 rintro i st ⟨h0,h1,h5⟩ ih
 by_cases hi:i<l.length
 ·obtain ⟨⟨c0,c1⟩,hx⟩:∃ x,l[i]?=some x:=⟨_,List.getElem?_eq_getElem hi⟩
  have hw:=w_succ (i:=i) (by omega)
  simp only[↓xP,xU,rB,rA,rS,h0,h1,h5,hi,hx,hw,Pair.u,ZMh,ne_eq,not_true_eq_false]
  exact ih (i+1) _ (by omega) ⟨by simp only[↓xP,xU,rB,rA,rS,h0],by simp only[↓xP,xU,rB,rA,rS,h1],by simp only[↓xP,xU,rB,rA,rS]⟩
 ·simp only[↓xP,xU,rB,rA,rS,h0,h1,h5,hi]
def Command.Small (x:Command):Prop:=x.key.length≤1048576∧True
def ZGm (x:Command) (a:Int):Int:=offZ a x.key.length fun a=>a
theorem ZHt (c0:Int) (c1:Str) (c2:Int) (c3:Int) (left:Int):EE F 185 [.ag [.u (.int .i64 c0),.u (.str c1),.u (.int .i64 c2),.u (.int .i64 c3)],I left] []=ok1 (I (ZGm ⟨c0,c1,c2,c3⟩ left)):=by
 rw [R185,b185]
 simp only[↓xP,xU,rB,rA,rS]
 repeat' (refine ZiE (fun h=>?_) (fun h=>?_))
 all_goals (simp only[decide_eq_true_eq,decide_eq_false_iff_not] at *; simp [ZGm,offZ,chkZ, *])
theorem ZHs (x:Command) (hf:Command.Fit x):LeZ (ZGm x) (Command.Small x):=LeZ.off hf.2.1 LeZ.id
theorem ZHv (c0:Int) (c1:Str) (c2:Int) (c3:Int):EE F 193 [.ag [.u (.int .i64 c0),.u (.str c1),.u (.int .i64 c2),.u (.int .i64 c3)]] []=ok1 (.ag [.u (.int .i64 c0),.u (.str c1),.u (.int .i64 c2),.u (.int .i64 c3)]):=by
 rw [R193,b193]
 simp only[↓xP,xU,rB,rA,rS]
theorem ZHn (c0:Int) (c1:Str) (c2:Int) (c3:Int):EE F 207 [.ag [.u (.int .i64 c0),.u (.str c1),.u (.int .i64 c2),.u (.int .i64 c3)],.ag [.u (.int .i64 c0),.u (.str c1),.u (.int .i64 c2),.u (.int .i64 c3)]] []=ok1 (B true):=by
 rw [R207,b207]
 simp only[↓xP,xU,rB,rA,rS,ne_eq,not_true_eq_false]
theorem ZKQ (c0:Int) (c1:Int) (c2:Int):EE F 305 [.ag [.u (.int .i64 c0),.u (.int .i64 c1),.u (.int .i64 c2)]] []=ok1 (.ag [.u (.int .i64 c0),.u (.int .i64 c1),.u (.int .i64 c2)]):=by
 rw [R305,b305]
 simp only[↓xP,xU,rB,rA,rS]
theorem ZKm (c0:Int) (c1:Int) (c2:Int):EE F 228 [.ag [.u (.int .i64 c0),.u (.int .i64 c1),.u (.int .i64 c2)],.ag [.u (.int .i64 c0),.u (.int .i64 c1),.u (.int .i64 c2)]] []=ok1 (B true):=by
 rw [R228,b228]
 simp only[↓xP,xU,rB,rA,rS,ne_eq,not_true_eq_false]
def ZGq (l:(List Session)):Prop:=l.length≤1048576∧True
def ZG8 (l:(List Session)) (left:Int):Int:=offZ left l.length fun a=>a
theorem ZJY (l:(List Session)) (left:Int):EE F 282 [L 3 (l.map Session.u),I left] []=ok1 (I (ZG8 l left)):=by
 rw [R282,b282]
 simp only[↓xP,xU,rB,rA,rS]
 refine ZiE (fun h=>?_) (fun h=>?_)<;>(simp only[decide_eq_true_eq,decide_eq_false_iff_not] at h; simp [ZG8,offZ,h])
theorem ZJX (l:(List Session)) (hf:(l.length≤9223372036854775807∧∀ y,y∈l→Session.Fit y)):LeZ (ZG8 l) (ZGq l):=LeZ.off hf.1 (LeZ.id)
theorem ZJ1 (l:(List Session)) (hs:ZGq l):EE F 288 [L 3 (l.map Session.u)] []=some ⟨[.sc (.own (.par 0) l.length)],[.row 3 (l.map Session.u)],[]⟩:=by
 have hl:=hs.1
 rw [R288,b288]
 simp only[↓xP,xU,rB,rA,rS,ZIT _ 7 l.length [.int .i64 0,.int .i64 0,.int .i64 0] 24 (by omega)]
 refine (Zjc (fun (i:Nat) st=>i≤l.length∧st.s 0=DU (.sl 3 (l.map Session.u))∧st.s 4=DI i∧st.s 3=.t (.sc (.own (.loc 7 0) l.length))∧st.o (.loc 7 0)=some (.row 3 ((l.take i).map Session.u++List.replicate (l.length - i) [.int .i64 0,.int .i64 0,.int .i64 0]))) (fun i=>l.length - i) (fun i=>some ⟨[.sc (.own (.par 0) l.length)],[.row 3 (l.map Session.u)],[]⟩) ?_ 0 ⟨by omega,by simp only[↓xP,xU,rB,rA,rS],by simp only[↓xP,xU,rB,rA,rS]; rfl,by simp only[↓xP,xU,rB,rA,rS],by simp only[↓xP,xU,rB,rA,rS,Nat.sub_zero]⟩)
 rintro i st ⟨hle,h0,h4,h3,ho⟩ ih
 by_cases hi:i<l.length
 ·obtain ⟨⟨c0,c1,c2⟩,hx⟩:∃ x,l[i]?=some x:=⟨_,List.getElem?_eq_getElem hi⟩
  have hw:=w_succ (i:=i) (by omega)
  have hg:=ZFK (f:=Session.u) (z:=[.int .i64 0,.int .i64 0,.int .i64 0]) hi
  have hf:=ZFL (f:=Session.u) (z:=[.int .i64 0,.int .i64 0,.int .i64 0]) hx
  simp only[Session.u] at hf
  simp only[↓xP,xU,rB,rA,rS,h0,h4,h3,ho,hi,hx,hw,hg,hf,Session.u,ZKQ]
  exact ih (i+1) _ (by omega) ⟨by omega,by simp only[↓xP,xU,rB,rA,rS,h0],by simp only[↓xP,xU,rB,rA,rS],by simp only[↓xP,xU,rB,rA,rS,h3],by simp only[↓xP,xU,rB,rA,rS,Session.u]⟩
 ·have:i=l.length:=by omega
  subst this
  rw [ZFJ] at ho
  simp only[↓xP,xU,rB,rA,rS,h0,h4,h3,ho,hi]
theorem ZJI (l:(List Session)) (hs:ZGq l):EE F 168 [L 3 (l.map Session.u),L 3 (l.map Session.u)] []=ok1 (B true):=by
 have hl:=hs.1
 rw [R168,b168]
 simp only[↓xP,xU,rB,rA,rS,ne_eq,not_true_eq_false]
 refine (Zjc (fun (i:Nat) st=>st.s 0=DU (.sl 3 (l.map Session.u))∧st.s 1=DU (.sl 3 (l.map Session.u))∧st.s 5=DI i) (fun i=>l.length - i) (fun i=>ok1 (B true)) ?_ 0 ⟨by simp only[↓xP,xU,rB,rA,rS],by simp only[↓xP,xU,rB,rA,rS],by simp only[↓xP,xU,rB,rA,rS]; rfl⟩)
 rintro i st ⟨h0,h1,h5⟩ ih
 by_cases hi:i<l.length
 ·obtain ⟨⟨c0,c1,c2⟩,hx⟩:∃ x,l[i]?=some x:=⟨_,List.getElem?_eq_getElem hi⟩
  have hw:=w_succ (i:=i) (by omega)
  simp only[↓xP,xU,rB,rA,rS,h0,h1,h5,hi,hx,hw,Session.u,ZKm,ne_eq,not_true_eq_false]
  exact ih (i+1) _ (by omega) ⟨by simp only[↓xP,xU,rB,rA,rS,h0],by simp only[↓xP,xU,rB,rA,rS,h1],by simp only[↓xP,xU,rB,rA,rS]⟩
 ·simp only[↓xP,xU,rB,rA,rS,h0,h1,h5,hi]
def Entry.Small (x:Entry):Prop:=Command.Small x.cmd∧True
def ZGT (x:Entry) (a:Int):Int:=chkZ (ZGm x.cmd a) fun a=>a
theorem ZJA (c0:Int) (c1:Int) (c2:Int) (c3:Str) (c4:Int) (c5:Int) (left:Int):EE F 303 [.ag [.u (.int .i64 c0),.u (.int .i64 c1),.u (.int .i64 c2),.u (.str c3),.u (.int .i64 c4),.u (.int .i64 c5)],I left] []=ok1 (I (ZGT ⟨c0,c1,⟨c2,c3,c4,c5⟩⟩ left)):=by
 rw [R303,b303]
 simp only[↓xP,xU,rB,rA,rS,ZHt]
 repeat' (refine ZiE (fun h=>?_) (fun h=>?_))
 all_goals (simp only[decide_eq_true_eq,decide_eq_false_iff_not] at *; simp [ZGT,offZ,chkZ, *])
theorem ZJz (x:Entry) (hf:Entry.Fit x):LeZ (ZGT x) (Entry.Small x):=LeZ.chk (ZHs _ hf.2.2) LeZ.id
theorem ZJB (c0:Int) (c1:Int) (c2:Int) (c3:Str) (c4:Int) (c5:Int):EE F 307 [.ag [.u (.int .i64 c0),.u (.int .i64 c1),.u (.int .i64 c2),.u (.str c3),.u (.int .i64 c4),.u (.int .i64 c5)]] []=ok1 (.ag [.u (.int .i64 c0),.u (.int .i64 c1),.u (.int .i64 c2),.u (.str c3),.u (.int .i64 c4),.u (.int .i64 c5)]):=by
 rw [R307,b307]
 simp only[↓xP,xU,rB,rA,rS,ZHv]
theorem ZJh (c0:Int) (c1:Int) (c2:Int) (c3:Str) (c4:Int) (c5:Int):EE F 154 [.ag [.u (.int .i64 c0),.u (.int .i64 c1),.u (.int .i64 c2),.u (.str c3),.u (.int .i64 c4),.u (.int .i64 c5)],.ag [.u (.int .i64 c0),.u (.int .i64 c1),.u (.int .i64 c2),.u (.str c3),.u (.int .i64 c4),.u (.int .i64 c5)]] []=ok1 (B true):=by
 rw [R154,b154]
 simp only[↓xP,xU,rB,rA,rS,ZHn,ne_eq,not_true_eq_false]
def ZGt (l:(List Entry)):Prop:=l.length≤1048576∧∀ y,y∈l→Entry.Small y
def ZGK (l:(List Entry)) (left:Int):Int:=offZ left l.length fun a=>allZ ZGT l a
theorem ZIZ (l:(List Entry)) (hf:(l.length≤9223372036854775807∧∀ y,y∈l→Entry.Fit y)) (left:Int):EE F 302 [L 6 (l.map Entry.u),I left] []=ok1 (I (ZGK l left)):=by
 have hl:=hf.1
 rw [R302,b302]
 simp only[↓xP,xU,rB,rA,rS]
 refine ZiE (fun h=>?_) (fun h=>?_)
 ·simp only[decide_eq_true_eq] at h
  simp [ZGK,offZ,h]
 ·refine (Zjc (fun (a:Nat×Int) st=>st.s 0=DU (.sl 6 (l.map Entry.u))∧st.s 5=DI a.1∧st.s 1=DI a.2) (fun a=>l.length - a.1) (fun a=>ok1 (I (allZ ZGT (l.drop a.1) a.2))) ?_ (0,IntKind.i64.wrap (left - l.length)) ⟨by simp only[↓xP,xU,rB,rA,rS],by simp only[↓xP,xU,rB,rA,rS]; rfl,by simp only[↓xP,xU,rB,rA,rS]⟩).trans ?_
  ·rintro ⟨i,a⟩ st ⟨h0,h5,h1⟩ ih
   dsimp only at h0 h5 h1 ih ⊢
   by_cases hi:i<l.length
   ·obtain ⟨⟨c0,c1,⟨c2,c3,c4,c5⟩⟩,hx⟩:∃ x,l[i]?=some x:=⟨_,List.getElem?_eq_getElem hi⟩
    have hw:=w_succ (i:=i) (by omega)
    have hfx:=hf.2 _ (List.mem_of_getElem? hx)
    simp only[↓xP,xU,rB,rA,rS,h0,h5,h1,hi,hx,hw,Entry.u,ZJA]
    rw [ZGE hx,chkZ]
    refine ZiE (fun h=>?_) (fun h=>?_)
    ·simp only[decide_eq_true_eq] at h
     simp [h]
    ·rw [ih (i+1,ZGT ⟨c0,c1,⟨c2,c3,c4,c5⟩⟩ a) _ (by dsimp only; omega) ⟨by simp only[↓xP,xU,rB,rA,rS,h0],by simp only[↓xP,xU,rB,rA,rS],by simp only[↓xP,xU,rB,rA,rS]⟩]
     simp only[decide_eq_false_iff_not] at h
     simp [h]
   ·simp only[↓xP,xU,rB,rA,rS,h0,h5,h1,hi]
    rw [List.drop_of_length_le (by omega)]; rfl
  ·simp only[decide_eq_false_iff_not] at h
   simp [ZGK,offZ,h]
theorem ZIY (l:(List Entry)) (hf:(l.length≤9223372036854775807∧∀ y,y∈l→Entry.Fit y)):LeZ (ZGK l) (ZGt l):=LeZ.off hf.1 (LeZ.all fun x hx=>ZJz x (hf.2 x hx))
theorem ZI0 (l:(List Entry)) (hs:ZGt l):EE F 306 [L 6 (l.map Entry.u)] []=some ⟨[.sc (.own (.par 0) l.length)],[.row 6 (l.map Entry.u)],[]⟩:=by
 have hl:=hs.1
 rw [R306,b306]
 simp only[↓xP,xU,rB,rA,rS,ZIT _ 7 l.length [.int .i64 0,.int .i64 0,.int .i64 0,.str [],.int .i64 0,.int .i64 0] 56 (by omega)]
 refine (Zjc (fun (i:Nat) st=>i≤l.length∧st.s 0=DU (.sl 6 (l.map Entry.u))∧st.s 4=DI i∧st.s 3=.t (.sc (.own (.loc 7 0) l.length))∧st.o (.loc 7 0)=some (.row 6 ((l.take i).map Entry.u++List.replicate (l.length - i) [.int .i64 0,.int .i64 0,.int .i64 0,.str [],.int .i64 0,.int .i64 0]))) (fun i=>l.length - i) (fun i=>some ⟨[.sc (.own (.par 0) l.length)],[.row 6 (l.map Entry.u)],[]⟩) ?_ 0 ⟨by omega,by simp only[↓xP,xU,rB,rA,rS],by simp only[↓xP,xU,rB,rA,rS]; rfl,by simp only[↓xP,xU,rB,rA,rS],by simp only[↓xP,xU,rB,rA,rS,Nat.sub_zero]⟩)
 rintro i st ⟨hle,h0,h4,h3,ho⟩ ih
 by_cases hi:i<l.length
 ·obtain ⟨⟨c0,c1,⟨c2,c3,c4,c5⟩⟩,hx⟩:∃ x,l[i]?=some x:=⟨_,List.getElem?_eq_getElem hi⟩
  have hw:=w_succ (i:=i) (by omega)
  have hg:=ZFK (f:=Entry.u) (z:=[.int .i64 0,.int .i64 0,.int .i64 0,.str [],.int .i64 0,.int .i64 0]) hi
  have hf:=ZFL (f:=Entry.u) (z:=[.int .i64 0,.int .i64 0,.int .i64 0,.str [],.int .i64 0,.int .i64 0]) hx
  simp only[Entry.u] at hf
  simp only[↓xP,xU,rB,rA,rS,h0,h4,h3,ho,hi,hx,hw,hg,hf,Entry.u,ZJB]
  exact ih (i+1) _ (by omega) ⟨by omega,by simp only[↓xP,xU,rB,rA,rS,h0],by simp only[↓xP,xU,rB,rA,rS],by simp only[↓xP,xU,rB,rA,rS,h3],by simp only[↓xP,xU,rB,rA,rS,Entry.u]⟩
 ·have:i=l.length:=by omega
  subst this
  rw [ZFJ] at ho
  simp only[↓xP,xU,rB,rA,rS,h0,h4,h3,ho,hi]
theorem ZIR (l:(List Entry)) (hs:ZGt l):EE F 308 [L 6 (l.map Entry.u),L 6 (l.map Entry.u)] []=ok1 (B true):=by
 have hl:=hs.1
 rw [R308,b308]
 simp only[↓xP,xU,rB,rA,rS,ne_eq,not_true_eq_false]
 refine (Zjc (fun (i:Nat) st=>st.s 0=DU (.sl 6 (l.map Entry.u))∧st.s 1=DU (.sl 6 (l.map Entry.u))∧st.s 5=DI i) (fun i=>l.length - i) (fun i=>ok1 (B true)) ?_ 0 ⟨by simp only[↓xP,xU,rB,rA,rS],by simp only[↓xP,xU,rB,rA,rS],by simp only[↓xP,xU,rB,rA,rS]; rfl⟩)
 rintro i st ⟨h0,h1,h5⟩ ih
 by_cases hi:i<l.length
 ·obtain ⟨⟨c0,c1,⟨c2,c3,c4,c5⟩⟩,hx⟩:∃ x,l[i]?=some x:=⟨_,List.getElem?_eq_getElem hi⟩
  have hw:=w_succ (i:=i) (by omega)
  simp only[↓xP,xU,rB,rA,rS,h0,h1,h5,hi,hx,hw,Entry.u,ZJh,ne_eq,not_true_eq_false]
  exact ih (i+1) _ (by omega) ⟨by simp only[↓xP,xU,rB,rA,rS,h0],by simp only[↓xP,xU,rB,rA,rS,h1],by simp only[↓xP,xU,rB,rA,rS]⟩
 ·simp only[↓xP,xU,rB,rA,rS,h0,h1,h5,hi]
def Answer.Small (x:Answer):Prop:=Entry.Small x.asked∧True
def ZGH (x:Answer) (a:Int):Int:=chkZ (ZGT x.asked a) fun a=>a
theorem ZLd (c0:Int) (c1:Int) (c2:Int) (c3:Str) (c4:Int) (c5:Int) (c6:Int) (left:Int):EE F 286 [.ag [.u (.int .i64 c0),.u (.int .i64 c1),.u (.int .i64 c2),.u (.str c3),.u (.int .i64 c4),.u (.int .i64 c5),.u (.int .i64 c6)],I left] []=ok1 (I (ZGH ⟨⟨c0,c1,⟨c2,c3,c4,c5⟩⟩,c6⟩ left)):=by
 rw [R286,b286]
 simp only[↓xP,xU,rB,rA,rS,ZJA]
 repeat' (refine ZiE (fun h=>?_) (fun h=>?_))
 all_goals (simp only[decide_eq_true_eq,decide_eq_false_iff_not] at *; simp [ZGH,offZ,chkZ, *])
theorem ZLc (x:Answer) (hf:Answer.Fit x):LeZ (ZGH x) (Answer.Small x):=LeZ.chk (ZJz _ hf.1) LeZ.id
theorem ZLm (c0:Int) (c1:Int) (c2:Int) (c3:Str) (c4:Int) (c5:Int) (c6:Int):EE F 292 [.ag [.u (.int .i64 c0),.u (.int .i64 c1),.u (.int .i64 c2),.u (.str c3),.u (.int .i64 c4),.u (.int .i64 c5),.u (.int .i64 c6)]] []=ok1 (.ag [.u (.int .i64 c0),.u (.int .i64 c1),.u (.int .i64 c2),.u (.str c3),.u (.int .i64 c4),.u (.int .i64 c5),.u (.int .i64 c6)]):=by
 rw [R292,b292]
 simp only[↓xP,xU,rB,rA,rS,ZJB]
theorem ZKU (c0:Int) (c1:Int) (c2:Int) (c3:Str) (c4:Int) (c5:Int) (c6:Int):EE F 90 [.ag [.u (.int .i64 c0),.u (.int .i64 c1),.u (.int .i64 c2),.u (.str c3),.u (.int .i64 c4),.u (.int .i64 c5),.u (.int .i64 c6)],.ag [.u (.int .i64 c0),.u (.int .i64 c1),.u (.int .i64 c2),.u (.str c3),.u (.int .i64 c4),.u (.int .i64 c5),.u (.int .i64 c6)]] []=ok1 (B true):=by
 rw [R90,b90]
 simp only[↓xP,xU,rB,rA,rS,ZJh,ne_eq,not_true_eq_false]
def ZGB (l:(List Answer)):Prop:=l.length≤1048576∧∀ y,y∈l→Answer.Small y
def ZGR (l:(List Answer)) (left:Int):Int:=offZ left l.length fun a=>allZ ZGH l a
theorem ZKA (l:(List Answer)) (hf:(l.length≤9223372036854775807∧∀ y,y∈l→Answer.Fit y)) (left:Int):EE F 248 [L 7 (l.map Answer.u),I left] []=ok1 (I (ZGR l left)):=by
 have hl:=hf.1
 rw [R248,b248]
 simp only[↓xP,xU,rB,rA,rS]
 refine ZiE (fun h=>?_) (fun h=>?_)
 ·simp only[decide_eq_true_eq] at h
  simp [ZGR,offZ,h]
 ·refine (Zjc (fun (a:Nat×Int) st=>st.s 0=DU (.sl 7 (l.map Answer.u))∧st.s 5=DI a.1∧st.s 1=DI a.2) (fun a=>l.length - a.1) (fun a=>ok1 (I (allZ ZGH (l.drop a.1) a.2))) ?_ (0,IntKind.i64.wrap (left - l.length)) ⟨by simp only[↓xP,xU,rB,rA,rS],by simp only[↓xP,xU,rB,rA,rS]; rfl,by simp only[↓xP,xU,rB,rA,rS]⟩).trans ?_
  ·rintro ⟨i,a⟩ st ⟨h0,h5,h1⟩ ih
   dsimp only at h0 h5 h1 ih ⊢
   by_cases hi:i<l.length
   ·obtain ⟨⟨⟨c0,c1,⟨c2,c3,c4,c5⟩⟩,c6⟩,hx⟩:∃ x,l[i]?=some x:=⟨_,List.getElem?_eq_getElem hi⟩
    have hw:=w_succ (i:=i) (by omega)
    have hfx:=hf.2 _ (List.mem_of_getElem? hx)
    simp only[↓xP,xU,rB,rA,rS,h0,h5,h1,hi,hx,hw,Answer.u,ZLd]
    rw [ZGE hx,chkZ]
    refine ZiE (fun h=>?_) (fun h=>?_)
    ·simp only[decide_eq_true_eq] at h
     simp [h]
    ·rw [ih (i+1,ZGH ⟨⟨c0,c1,⟨c2,c3,c4,c5⟩⟩,c6⟩ a) _ (by dsimp only; omega) ⟨by simp only[↓xP,xU,rB,rA,rS,h0],by simp only[↓xP,xU,rB,rA,rS],by simp only[↓xP,xU,rB,rA,rS]⟩]
     simp only[decide_eq_false_iff_not] at h
     simp [h]
   ·simp only[↓xP,xU,rB,rA,rS,h0,h5,h1,hi]
    rw [List.drop_of_length_le (by omega)]; rfl
  ·simp only[decide_eq_false_iff_not] at h
   simp [ZGR,offZ,h]
theorem ZKz (l:(List Answer)) (hf:(l.length≤9223372036854775807∧∀ y,y∈l→Answer.Fit y)):LeZ (ZGR l) (ZGB l):=LeZ.off hf.1 (LeZ.all fun x hx=>ZLc x (hf.2 x hx))
theorem ZKL (l:(List Answer)) (hs:ZGB l):EE F 257 [L 7 (l.map Answer.u)] []=some ⟨[.sc (.own (.par 0) l.length)],[.row 7 (l.map Answer.u)],[]⟩:=by
 have hl:=hs.1
 rw [R257,b257]
 simp only[↓xP,xU,rB,rA,rS,ZIT _ 7 l.length [.int .i64 0,.int .i64 0,.int .i64 0,.str [],.int .i64 0,.int .i64 0,.int .i64 0] 64 (by omega)]
 refine (Zjc (fun (i:Nat) st=>i≤l.length∧st.s 0=DU (.sl 7 (l.map Answer.u))∧st.s 4=DI i∧st.s 3=.t (.sc (.own (.loc 7 0) l.length))∧st.o (.loc 7 0)=some (.row 7 ((l.take i).map Answer.u++List.replicate (l.length - i) [.int .i64 0,.int .i64 0,.int .i64 0,.str [],.int .i64 0,.int .i64 0,.int .i64 0]))) (fun i=>l.length - i) (fun i=>some ⟨[.sc (.own (.par 0) l.length)],[.row 7 (l.map Answer.u)],[]⟩) ?_ 0 ⟨by omega,by simp only[↓xP,xU,rB,rA,rS],by simp only[↓xP,xU,rB,rA,rS]; rfl,by simp only[↓xP,xU,rB,rA,rS],by simp only[↓xP,xU,rB,rA,rS,Nat.sub_zero]⟩)
 rintro i st ⟨hle,h0,h4,h3,ho⟩ ih
 by_cases hi:i<l.length
 ·obtain ⟨⟨⟨c0,c1,⟨c2,c3,c4,c5⟩⟩,c6⟩,hx⟩:∃ x,l[i]?=some x:=⟨_,List.getElem?_eq_getElem hi⟩
  have hw:=w_succ (i:=i) (by omega)
  have hg:=ZFK (f:=Answer.u) (z:=[.int .i64 0,.int .i64 0,.int .i64 0,.str [],.int .i64 0,.int .i64 0,.int .i64 0]) hi
  have hf:=ZFL (f:=Answer.u) (z:=[.int .i64 0,.int .i64 0,.int .i64 0,.str [],.int .i64 0,.int .i64 0,.int .i64 0]) hx
  simp only[Answer.u] at hf
  simp only[↓xP,xU,rB,rA,rS,h0,h4,h3,ho,hi,hx,hw,hg,hf,Answer.u,ZLm]
  exact ih (i+1) _ (by omega) ⟨by omega,by simp only[↓xP,xU,rB,rA,rS,h0],by simp only[↓xP,xU,rB,rA,rS],by simp only[↓xP,xU,rB,rA,rS,h3],by simp only[↓xP,xU,rB,rA,rS,Answer.u]⟩
 ·have:i=l.length:=by omega
  subst this
  rw [ZFJ] at ho
  simp only[↓xP,xU,rB,rA,rS,h0,h4,h3,ho,hi]
theorem ZKh (l:(List Answer)) (hs:ZGB l):EE F 37 [L 7 (l.map Answer.u),L 7 (l.map Answer.u)] []=ok1 (B true):=by
 have hl:=hs.1
 rw [R37,b37]
 simp only[↓xP,xU,rB,rA,rS,ne_eq,not_true_eq_false]
 refine (Zjc (fun (i:Nat) st=>st.s 0=DU (.sl 7 (l.map Answer.u))∧st.s 1=DU (.sl 7 (l.map Answer.u))∧st.s 5=DI i) (fun i=>l.length - i) (fun i=>ok1 (B true)) ?_ 0 ⟨by simp only[↓xP,xU,rB,rA,rS],by simp only[↓xP,xU,rB,rA,rS],by simp only[↓xP,xU,rB,rA,rS]; rfl⟩)
 rintro i st ⟨h0,h1,h5⟩ ih
 by_cases hi:i<l.length
 ·obtain ⟨⟨⟨c0,c1,⟨c2,c3,c4,c5⟩⟩,c6⟩,hx⟩:∃ x,l[i]?=some x:=⟨_,List.getElem?_eq_getElem hi⟩
  have hw:=w_succ (i:=i) (by omega)
  simp only[↓xP,xU,rB,rA,rS,h0,h1,h5,hi,hx,hw,Answer.u,ZKU,ne_eq,not_true_eq_false]
  exact ih (i+1) _ (by omega) ⟨by simp only[↓xP,xU,rB,rA,rS,h0],by simp only[↓xP,xU,rB,rA,rS,h1],by simp only[↓xP,xU,rB,rA,rS]⟩
 ·simp only[↓xP,xU,rB,rA,rS,h0,h1,h5,hi]
def State.Small (x:State):Prop:=Interval.Small x.span∧ZGN x.pairs∧ZGq x.known∧x.cut.length≤1048576∧True
def ZIu (x:State) (a:Int):Int:=chkZ (ZGu x.span a) fun a=>chkZ (ZHL x.pairs a) fun a=>chkZ (ZG8 x.known a) fun a=>offZ a x.cut.length fun a=>a
theorem ZLS (c0:Str) (c1:Str) (c2:(List Pair)) (c3:(List Session)) (c4:Bool) (c5:Str) (hf:State.Fit ⟨⟨c0,c1⟩,c2,c3,c4,c5⟩) (left:Int):EE F 243 [.ag [.u (.str c0),.u (.str c1),.u (.sl 2 (c2.map Pair.u)),.u (.sl 3 (c3.map Session.u)),.u (.bool c4),.u (.str c5)],I left] []=ok1 (I (ZIu ⟨⟨c0,c1⟩,c2,c3,c4,c5⟩ left)):=by
 rw [R243,b243]
 simp only[↓xP,xU,rB,rA,rS,ZHV,ZLM c2 hf.2.1,ZJY]
 repeat' (refine ZiE (fun h=>?_) (fun h=>?_))
 all_goals (simp only[decide_eq_true_eq,decide_eq_false_iff_not] at *; simp [ZIu,offZ,chkZ, *])
theorem ZLR (x:State) (hf:State.Fit x):LeZ (ZIu x) (State.Small x):=LeZ.chk (ZHU _ hf.1) (LeZ.chk (ZLL _ hf.2.1) (LeZ.chk (ZJX _ hf.2.2.1) (LeZ.off hf.2.2.2.2 LeZ.id)))
theorem ZLY (c0:Str) (c1:Str) (c2:(List Pair)) (c3:(List Session)) (c4:Bool) (c5:Str) (hs:State.Small ⟨⟨c0,c1⟩,c2,c3,c4,c5⟩):EE F 252 [.ag [.u (.str c0),.u (.str c1),.u (.sl 2 (c2.map Pair.u)),.u (.sl 3 (c3.map Session.u)),.u (.bool c4),.u (.str c5)]] []=some ⟨[.ag [.u (.str c0),.u (.str c1),.own (.par 0) c2.length,.own (.par 1) c3.length,.u (.bool c4),.u (.str c5)]],[.row 2 (c2.map Pair.u),.row 3 (c3.map Session.u)],[]⟩:=by
 rw [R252,b252]
 simp only[↓xP,xU,rB,rA,rS,ZHW,ZLV c2 hs.2.1,ZJ1 c3 hs.2.2.1]
theorem ZLy (c0:Str) (c1:Str) (c2:(List Pair)) (c3:(List Session)) (c4:Bool) (c5:Str) (hs:State.Small ⟨⟨c0,c1⟩,c2,c3,c4,c5⟩):EE F 100 [.ag [.u (.str c0),.u (.str c1),.u (.sl 2 (c2.map Pair.u)),.u (.sl 3 (c3.map Session.u)),.u (.bool c4),.u (.str c5)],.ag [.u (.str c0),.u (.str c1),.u (.sl 2 (c2.map Pair.u)),.u (.sl 3 (c3.map Session.u)),.u (.bool c4),.u (.str c5)]] []=ok1 (B true):=by
 rw [R100,b100]
 simp only[↓xP,xU,rB,rA,rS,ZHS,ZLv c2 hs.2.1,ZJI c3 hs.2.2.1,ne_eq,not_true_eq_false]
def Piece.Small (x:Piece):Prop:=Interval.Small x.span∧ZGN x.pairs∧True
def Config.Small (x:Config):Prop:=ZHN x.members∧True
def ZGJ (x:Config) (a:Int):Int:=chkZ (ZJe x.members a) fun a=>a
theorem ZHK (c0:Int) (c1:(List Int)) (c2:Bool) (left:Int):EE F 244 [.ag [.u (.int .i64 c0),.u (.sl 1 (c1.map iU)),.u (.bool c2)],I left] []=ok1 (I (ZGJ ⟨c0,c1,c2⟩ left)):=by
 rw [R244,b244]
 simp only[↓xP,xU,rB,rA,rS,ZMs]
 repeat' (refine ZiE (fun h=>?_) (fun h=>?_))
 all_goals (simp only[decide_eq_true_eq,decide_eq_false_iff_not] at *; simp [ZGJ,offZ,chkZ, *])
theorem ZHJ (x:Config) (hf:Config.Fit x):LeZ (ZGJ x) (Config.Small x):=LeZ.chk (ZMr _ hf.2.1) LeZ.id
theorem ZHM (c0:Int) (c1:(List Int)) (c2:Bool) (hs:Config.Small ⟨c0,c1,c2⟩):EE F 253 [.ag [.u (.int .i64 c0),.u (.sl 1 (c1.map iU)),.u (.bool c2)]] []=some ⟨[.ag [.u (.int .i64 c0),.own (.par 0) c1.length,.u (.bool c2)]],[.row 1 (c1.map iU)],[]⟩:=by
 rw [R253,b253]
 simp only[↓xP,xU,rB,rA,rS,ZMx c1 hs.1]
theorem ZHC (c0:Int) (c1:(List Int)) (c2:Bool) (hs:Config.Small ⟨c0,c1,c2⟩):EE F 262 [.ag [.u (.int .i64 c0),.u (.sl 1 (c1.map iU)),.u (.bool c2)],.ag [.u (.int .i64 c0),.u (.sl 1 (c1.map iU)),.u (.bool c2)]] []=ok1 (B true):=by
 rw [R262,b262]
 simp only[↓xP,xU,rB,rA,rS,ZMg c1 hs.1,ne_eq,not_true_eq_false]
def Event.Small (x:Event):Prop:=Entry.Small x.sent∧True
def Plan.Small (x:Plan):Prop:=x.key.length≤1048576∧True
def ZJf (x:Plan) (a:Int):Int:=offZ a x.key.length fun a=>a
theorem ZMw (c0:Int) (c1:Int) (c2:Int) (c3:Str) (c4:Int) (c5:Int) (c6:Int) (left:Int):EE F 64 [.ag [.u (.int .i64 c0),.u (.int .i64 c1),.u (.int .i64 c2),.u (.str c3),.u (.int .i64 c4),.u (.int .i64 c5),.u (.int .i64 c6)],I left] []=ok1 (I (ZJf ⟨c0,c1,c2,c3,c4,c5,c6⟩ left)):=by
 rw [R64,b64]
 simp only[↓xP,xU,rB,rA,rS]
 repeat' (refine ZiE (fun h=>?_) (fun h=>?_))
 all_goals (simp only[decide_eq_true_eq,decide_eq_false_iff_not] at *; simp [ZJf,offZ,chkZ, *])
theorem ZMv (x:Plan) (hf:Plan.Fit x):LeZ (ZJf x) (Plan.Small x):=LeZ.off hf.2.2.2.1 LeZ.id
theorem ZMz (c0:Int) (c1:Int) (c2:Int) (c3:Str) (c4:Int) (c5:Int) (c6:Int):EE F 70 [.ag [.u (.int .i64 c0),.u (.int .i64 c1),.u (.int .i64 c2),.u (.str c3),.u (.int .i64 c4),.u (.int .i64 c5),.u (.int .i64 c6)]] []=ok1 (.ag [.u (.int .i64 c0),.u (.int .i64 c1),.u (.int .i64 c2),.u (.str c3),.u (.int .i64 c4),.u (.int .i64 c5),.u (.int .i64 c6)]):=by
 rw [R70,b70]
 simp only[↓xP,xU,rB,rA,rS]
theorem ZIz (c0:Int) (c1:Int) (c2:Int) (c3:Str) (c4:Int) (c5:Int) (c6:Int):EE F 23 [.ag [.u (.int .i64 c0),.u (.int .i64 c1),.u (.int .i64 c2),.u (.str c3),.u (.int .i64 c4),.u (.int .i64 c5),.u (.int .i64 c6)],.ag [.u (.int .i64 c0),.u (.int .i64 c1),.u (.int .i64 c2),.u (.str c3),.u (.int .i64 c4),.u (.int .i64 c5),.u (.int .i64 c6)]] []=ok1 (B true):=by
 rw [R23,b23]
 simp only[↓xP,xU,rB,rA,rS,ne_eq,not_true_eq_false]
def Deed.Small (x:Deed):Prop:=Command.Small x.wish∧Event.Small x.inner∧Plan.Small x.work∧True
def Replica.Small (x:Replica):Prop:=Config.Small x.conf∧ZGt x.log∧True
def ZGo (x:Replica) (a:Int):Int:=chkZ (ZGJ x.conf a) fun a=>chkZ (ZGK x.log a) fun a=>a
theorem ZKI (c0:Int) (c1:(List Int)) (c2:Bool) (c3:Bool) (c4:(List Entry)) (hf:Replica.Fit ⟨⟨c0,c1,c2⟩,c3,c4⟩) (left:Int):EE F 284 [.ag [.u (.int .i64 c0),.u (.sl 1 (c1.map iU)),.u (.bool c2),.u (.bool c3),.u (.sl 6 (c4.map Entry.u))],I left] []=ok1 (I (ZGo ⟨⟨c0,c1,c2⟩,c3,c4⟩ left)):=by
 rw [R284,b284]
 simp only[↓xP,xU,rB,rA,rS,ZHK,ZIZ c4 hf.2.2]
 repeat' (refine ZiE (fun h=>?_) (fun h=>?_))
 all_goals (simp only[decide_eq_true_eq,decide_eq_false_iff_not] at *; simp [ZGo,offZ,chkZ, *])
theorem ZKH (x:Replica) (hf:Replica.Fit x):LeZ (ZGo x) (Replica.Small x):=LeZ.chk (ZHJ _ hf.1) (LeZ.chk (ZIY _ hf.2.2) LeZ.id)
theorem ZKO (c0:Int) (c1:(List Int)) (c2:Bool) (c3:Bool) (c4:(List Entry)) (hs:Replica.Small ⟨⟨c0,c1,c2⟩,c3,c4⟩):EE F 290 [.ag [.u (.int .i64 c0),.u (.sl 1 (c1.map iU)),.u (.bool c2),.u (.bool c3),.u (.sl 6 (c4.map Entry.u))]] []=some ⟨[.ag [.u (.int .i64 c0),.own (.par 0) c1.length,.u (.bool c2),.u (.bool c3),.own (.par 1) c4.length]],[.row 1 (c1.map iU),.row 6 (c4.map Entry.u)],[]⟩:=by
 rw [R290,b290]
 simp only[↓xP,xU,rB,rA,rS,ZHM c0 c1 c2 hs.1,ZI0 c4 hs.2.1]
theorem ZKk (c0:Int) (c1:(List Int)) (c2:Bool) (c3:Bool) (c4:(List Entry)) (hs:Replica.Small ⟨⟨c0,c1,c2⟩,c3,c4⟩):EE F 293 [.ag [.u (.int .i64 c0),.u (.sl 1 (c1.map iU)),.u (.bool c2),.u (.bool c3),.u (.sl 6 (c4.map Entry.u))],.ag [.u (.int .i64 c0),.u (.sl 1 (c1.map iU)),.u (.bool c2),.u (.bool c3),.u (.sl 6 (c4.map Entry.u))]] []=ok1 (B true):=by
 rw [R293,b293]
 simp only[↓xP,xU,rB,rA,rS,ZHC c0 c1 c2 hs.1,ZIR c4 hs.2.1,ne_eq,not_true_eq_false]
def ZGp (l:(List Replica)):Prop:=l.length≤1048576∧∀ y,y∈l→Replica.Small y
def ZGw (l:(List Replica)) (left:Int):Int:=offZ left l.length fun a=>allZ ZGo l a
theorem ZJW (l:(List Replica)) (hf:(l.length≤9223372036854775807∧∀ y,y∈l→Replica.Fit y)) (left:Int):EE F 245 [L 5 (l.map Replica.u),I left] []=ok1 (I (ZGw l left)):=by
 have hl:=hf.1
 rw [R245,b245]
 simp only[↓xP,xU,rB,rA,rS]
 refine ZiE (fun h=>?_) (fun h=>?_)
 ·simp only[decide_eq_true_eq] at h
  simp [ZGw,offZ,h]
 ·refine (Zjc (fun (a:Nat×Int) st=>st.s 0=DU (.sl 5 (l.map Replica.u))∧st.s 5=DI a.1∧st.s 1=DI a.2) (fun a=>l.length - a.1) (fun a=>ok1 (I (allZ ZGo (l.drop a.1) a.2))) ?_ (0,IntKind.i64.wrap (left - l.length)) ⟨by simp only[↓xP,xU,rB,rA,rS],by simp only[↓xP,xU,rB,rA,rS]; rfl,by simp only[↓xP,xU,rB,rA,rS]⟩).trans ?_
  ·rintro ⟨i,a⟩ st ⟨h0,h5,h1⟩ ih
   dsimp only at h0 h5 h1 ih ⊢
   by_cases hi:i<l.length
   ·obtain ⟨⟨⟨c0,c1,c2⟩,c3,c4⟩,hx⟩:∃ x,l[i]?=some x:=⟨_,List.getElem?_eq_getElem hi⟩
    have hw:=w_succ (i:=i) (by omega)
    have hfx:=hf.2 _ (List.mem_of_getElem? hx)
    simp only[↓xP,xU,rB,rA,rS,h0,h5,h1,hi,hx,hw,Replica.u,ZKI c0 c1 c2 c3 c4 hfx]
    rw [ZGE hx,chkZ]
    refine ZiE (fun h=>?_) (fun h=>?_)
    ·simp only[decide_eq_true_eq] at h
     simp [h]
    ·rw [ih (i+1,ZGo ⟨⟨c0,c1,c2⟩,c3,c4⟩ a) _ (by dsimp only; omega) ⟨by simp only[↓xP,xU,rB,rA,rS,h0],by simp only[↓xP,xU,rB,rA,rS],by simp only[↓xP,xU,rB,rA,rS]⟩]
     simp only[decide_eq_false_iff_not] at h
     simp [h]
   ·simp only[↓xP,xU,rB,rA,rS,h0,h5,h1,hi]
    rw [List.drop_of_length_le (by omega)]; rfl
  ·simp only[decide_eq_false_iff_not] at h
   simp [ZGw,offZ,h]
theorem ZJV (l:(List Replica)) (hf:(l.length≤9223372036854775807∧∀ y,y∈l→Replica.Fit y)):LeZ (ZGw l) (ZGp l):=LeZ.off hf.1 (LeZ.all fun x hx=>ZKH x (hf.2 x hx))
theorem ZJ0 (l:(List Replica)) (hs:ZGp l):EE F 254 [L 5 (l.map Replica.u)] []=some ⟨[.sc (.down (.par 0) l.length)],[.deep 5 (l.map Replica.u)],[]⟩:=by
 have hl:=hs.1
 rw [R254,b254]
 simp only[↓xP,xU,rB,rA,rS,ZKp _ 7 l.length [.int .i64 0,.sl 1 [],.bool false,.bool false,.sl 6 []] 72 (by omega) rfl]
 refine (Zjc (fun (i:Nat) st=>i≤l.length∧st.s 0=DU (.sl 5 (l.map Replica.u))∧st.s 4=DI i∧st.s 3=.t (.sc (.down (.loc 7 0) l.length))∧st.o (.loc 7 0)=some (.deep 5 ((l.take i).map Replica.u++List.replicate (l.length - i) [.int .i64 0,.sl 1 [],.bool false,.bool false,.sl 6 []]))) (fun i=>l.length - i) (fun i=>some ⟨[.sc (.down (.par 0) l.length)],[.deep 5 (l.map Replica.u)],[]⟩) ?_ 0 ⟨by omega,by simp only[↓xP,xU,rB,rA,rS],by simp only[↓xP,xU,rB,rA,rS]; rfl,by simp only[↓xP,xU,rB,rA,rS],by simp only[↓xP,xU,rB,rA,rS,Nat.sub_zero]⟩)
 rintro i st ⟨hle,h0,h4,h3,ho⟩ ih
 by_cases hi:i<l.length
 ·obtain ⟨⟨⟨c0,c1,c2⟩,c3,c4⟩,hx⟩:∃ x,l[i]?=some x:=⟨_,List.getElem?_eq_getElem hi⟩
  have hw:=w_succ (i:=i) (by omega)
  have hg:=ZFK (f:=Replica.u) (z:=[.int .i64 0,.sl 1 [],.bool false,.bool false,.sl 6 []]) hi
  have hf:=ZFL (f:=Replica.u) (z:=[.int .i64 0,.sl 1 [],.bool false,.bool false,.sl 6 []]) hx
  simp only[Replica.u] at hf
  have hsx:=hs.2 _ (List.mem_of_getElem? hx)
  simp only[↓xP,xU,rB,rA,rS,h0,h4,h3,ho,hi,hx,hw,hg,hf,Replica.u,ZKO c0 c1 c2 c3 c4 hsx]
  exact ih (i+1) _ (by omega) ⟨by omega,by simp only[↓xP,xU,rB,rA,rS,h0],by simp only[↓xP,xU,rB,rA,rS],by simp only[↓xP,xU,rB,rA,rS,h3],by simp only[↓xP,xU,rB,rA,rS,Replica.u]⟩
 ·have:i=l.length:=by omega
  subst this
  rw [ZFJ] at ho
  simp only[↓xP,xU,rB,rA,rS,h0,h4,h3,ho,hi]
theorem ZJH (l:(List Replica)) (hs:ZGp l):EE F 263 [L 5 (l.map Replica.u),L 5 (l.map Replica.u)] []=ok1 (B true):=by
 have hl:=hs.1
 rw [R263,b263]
 simp only[↓xP,xU,rB,rA,rS,ne_eq,not_true_eq_false]
 refine (Zjc (fun (i:Nat) st=>st.s 0=DU (.sl 5 (l.map Replica.u))∧st.s 1=DU (.sl 5 (l.map Replica.u))∧st.s 5=DI i) (fun i=>l.length - i) (fun i=>ok1 (B true)) ?_ 0 ⟨by simp only[↓xP,xU,rB,rA,rS],by simp only[↓xP,xU,rB,rA,rS],by simp only[↓xP,xU,rB,rA,rS]; rfl⟩)
 rintro i st ⟨h0,h1,h5⟩ ih
 by_cases hi:i<l.length
 ·obtain ⟨⟨⟨c0,c1,c2⟩,c3,c4⟩,hx⟩:∃ x,l[i]?=some x:=⟨_,List.getElem?_eq_getElem hi⟩
  have hw:=w_succ (i:=i) (by omega)
  have hsx:=hs.2 _ (List.mem_of_getElem? hx)
  simp only[↓xP,xU,rB,rA,rS,h0,h1,h5,hi,hx,hw,Replica.u,ZKk c0 c1 c2 c3 c4 hsx,ne_eq,not_true_eq_false]
  exact ih (i+1) _ (by omega) ⟨by simp only[↓xP,xU,rB,rA,rS,h0],by simp only[↓xP,xU,rB,rA,rS,h1],by simp only[↓xP,xU,rB,rA,rS]⟩
 ·simp only[↓xP,xU,rB,rA,rS,h0,h1,h5,hi]
def Message.Small (x:Message):Prop:=Config.Small x.conf∧ZGt x.log∧True
def ZGn (x:Message) (a:Int):Int:=chkZ (ZGJ x.conf a) fun a=>chkZ (ZGK x.log a) fun a=>a
theorem ZKG (c0:Int) (c1:Int) (c2:Int) (c3:Int) (c4:(List Int)) (c5:Bool) (c6:(List Entry)) (hf:Message.Fit ⟨c0,c1,c2,⟨c3,c4,c5⟩,c6⟩) (left:Int):EE F 285 [.ag [.u (.int .i64 c0),.u (.int .i64 c1),.u (.int .i64 c2),.u (.int .i64 c3),.u (.sl 1 (c4.map iU)),.u (.bool c5),.u (.sl 6 (c6.map Entry.u))],I left] []=ok1 (I (ZGn ⟨c0,c1,c2,⟨c3,c4,c5⟩,c6⟩ left)):=by
 rw [R285,b285]
 simp only[↓xP,xU,rB,rA,rS,ZHK,ZIZ c6 hf.2.2.2.2]
 repeat' (refine ZiE (fun h=>?_) (fun h=>?_))
 all_goals (simp only[decide_eq_true_eq,decide_eq_false_iff_not] at *; simp [ZGn,offZ,chkZ, *])
theorem ZKF (x:Message) (hf:Message.Fit x):LeZ (ZGn x) (Message.Small x):=LeZ.chk (ZHJ _ hf.2.2.2.1) (LeZ.chk (ZIY _ hf.2.2.2.2) LeZ.id)
theorem ZKN (c0:Int) (c1:Int) (c2:Int) (c3:Int) (c4:(List Int)) (c5:Bool) (c6:(List Entry)) (hs:Message.Small ⟨c0,c1,c2,⟨c3,c4,c5⟩,c6⟩):EE F 291 [.ag [.u (.int .i64 c0),.u (.int .i64 c1),.u (.int .i64 c2),.u (.int .i64 c3),.u (.sl 1 (c4.map iU)),.u (.bool c5),.u (.sl 6 (c6.map Entry.u))]] []=some ⟨[.ag [.u (.int .i64 c0),.u (.int .i64 c1),.u (.int .i64 c2),.u (.int .i64 c3),.own (.par 0) c4.length,.u (.bool c5),.own (.par 1) c6.length]],[.row 1 (c4.map iU),.row 6 (c6.map Entry.u)],[]⟩:=by
 rw [R291,b291]
 simp only[↓xP,xU,rB,rA,rS,ZHM c3 c4 c5 hs.1,ZI0 c6 hs.2.1]
theorem ZKj (c0:Int) (c1:Int) (c2:Int) (c3:Int) (c4:(List Int)) (c5:Bool) (c6:(List Entry)) (hs:Message.Small ⟨c0,c1,c2,⟨c3,c4,c5⟩,c6⟩):EE F 294 [.ag [.u (.int .i64 c0),.u (.int .i64 c1),.u (.int .i64 c2),.u (.int .i64 c3),.u (.sl 1 (c4.map iU)),.u (.bool c5),.u (.sl 6 (c6.map Entry.u))],.ag [.u (.int .i64 c0),.u (.int .i64 c1),.u (.int .i64 c2),.u (.int .i64 c3),.u (.sl 1 (c4.map iU)),.u (.bool c5),.u (.sl 6 (c6.map Entry.u))]] []=ok1 (B true):=by
 rw [R294,b294]
 simp only[↓xP,xU,rB,rA,rS,ZHC c3 c4 c5 hs.1,ZIR c6 hs.2.1,ne_eq,not_true_eq_false]
def ZFN (l:(List Message)):Prop:=l.length≤1048576∧∀ y,y∈l→Message.Small y
def ZGv (l:(List Message)) (left:Int):Int:=offZ left l.length fun a=>allZ ZGn l a
theorem ZJU (l:(List Message)) (hf:(l.length≤9223372036854775807∧∀ y,y∈l→Message.Fit y)) (left:Int):EE F 247 [L 7 (l.map Message.u),I left] []=ok1 (I (ZGv l left)):=by
 have hl:=hf.1
 rw [R247,b247]
 simp only[↓xP,xU,rB,rA,rS]
 refine ZiE (fun h=>?_) (fun h=>?_)
 ·simp only[decide_eq_true_eq] at h
  simp [ZGv,offZ,h]
 ·refine (Zjc (fun (a:Nat×Int) st=>st.s 0=DU (.sl 7 (l.map Message.u))∧st.s 5=DI a.1∧st.s 1=DI a.2) (fun a=>l.length - a.1) (fun a=>ok1 (I (allZ ZGn (l.drop a.1) a.2))) ?_ (0,IntKind.i64.wrap (left - l.length)) ⟨by simp only[↓xP,xU,rB,rA,rS],by simp only[↓xP,xU,rB,rA,rS]; rfl,by simp only[↓xP,xU,rB,rA,rS]⟩).trans ?_
  ·rintro ⟨i,a⟩ st ⟨h0,h5,h1⟩ ih
   dsimp only at h0 h5 h1 ih ⊢
   by_cases hi:i<l.length
   ·obtain ⟨⟨c0,c1,c2,⟨c3,c4,c5⟩,c6⟩,hx⟩:∃ x,l[i]?=some x:=⟨_,List.getElem?_eq_getElem hi⟩
    have hw:=w_succ (i:=i) (by omega)
    have hfx:=hf.2 _ (List.mem_of_getElem? hx)
    simp only[↓xP,xU,rB,rA,rS,h0,h5,h1,hi,hx,hw,Message.u,ZKG c0 c1 c2 c3 c4 c5 c6 hfx]
    rw [ZGE hx,chkZ]
    refine ZiE (fun h=>?_) (fun h=>?_)
    ·simp only[decide_eq_true_eq] at h
     simp [h]
    ·rw [ih (i+1,ZGn ⟨c0,c1,c2,⟨c3,c4,c5⟩,c6⟩ a) _ (by dsimp only; omega) ⟨by simp only[↓xP,xU,rB,rA,rS,h0],by simp only[↓xP,xU,rB,rA,rS],by simp only[↓xP,xU,rB,rA,rS]⟩]
     simp only[decide_eq_false_iff_not] at h
     simp [h]
   ·simp only[↓xP,xU,rB,rA,rS,h0,h5,h1,hi]
    rw [List.drop_of_length_le (by omega)]; rfl
  ·simp only[decide_eq_false_iff_not] at h
   simp [ZGv,offZ,h]
theorem ZJT (l:(List Message)) (hf:(l.length≤9223372036854775807∧∀ y,y∈l→Message.Fit y)):LeZ (ZGv l) (ZFN l):=LeZ.off hf.1 (LeZ.all fun x hx=>ZKF x (hf.2 x hx))
theorem ZJZ (l:(List Message)) (hs:ZFN l):EE F 256 [L 7 (l.map Message.u)] []=some ⟨[.sc (.down (.par 0) l.length)],[.deep 7 (l.map Message.u)],[]⟩:=by
 have hl:=hs.1
 rw [R256,b256]
 simp only[↓xP,xU,rB,rA,rS,ZKp _ 7 l.length [.int .i64 0,.int .i64 0,.int .i64 0,.int .i64 0,.sl 1 [],.bool false,.sl 6 []] 88 (by omega) rfl]
 refine (Zjc (fun (i:Nat) st=>i≤l.length∧st.s 0=DU (.sl 7 (l.map Message.u))∧st.s 4=DI i∧st.s 3=.t (.sc (.down (.loc 7 0) l.length))∧st.o (.loc 7 0)=some (.deep 7 ((l.take i).map Message.u++List.replicate (l.length - i) [.int .i64 0,.int .i64 0,.int .i64 0,.int .i64 0,.sl 1 [],.bool false,.sl 6 []]))) (fun i=>l.length - i) (fun i=>some ⟨[.sc (.down (.par 0) l.length)],[.deep 7 (l.map Message.u)],[]⟩) ?_ 0 ⟨by omega,by simp only[↓xP,xU,rB,rA,rS],by simp only[↓xP,xU,rB,rA,rS]; rfl,by simp only[↓xP,xU,rB,rA,rS],by simp only[↓xP,xU,rB,rA,rS,Nat.sub_zero]⟩)
 rintro i st ⟨hle,h0,h4,h3,ho⟩ ih
 by_cases hi:i<l.length
 ·obtain ⟨⟨c0,c1,c2,⟨c3,c4,c5⟩,c6⟩,hx⟩:∃ x,l[i]?=some x:=⟨_,List.getElem?_eq_getElem hi⟩
  have hw:=w_succ (i:=i) (by omega)
  have hg:=ZFK (f:=Message.u) (z:=[.int .i64 0,.int .i64 0,.int .i64 0,.int .i64 0,.sl 1 [],.bool false,.sl 6 []]) hi
  have hf:=ZFL (f:=Message.u) (z:=[.int .i64 0,.int .i64 0,.int .i64 0,.int .i64 0,.sl 1 [],.bool false,.sl 6 []]) hx
  simp only[Message.u] at hf
  have hsx:=hs.2 _ (List.mem_of_getElem? hx)
  simp only[↓xP,xU,rB,rA,rS,h0,h4,h3,ho,hi,hx,hw,hg,hf,Message.u,ZKN c0 c1 c2 c3 c4 c5 c6 hsx]
  exact ih (i+1) _ (by omega) ⟨by omega,by simp only[↓xP,xU,rB,rA,rS,h0],by simp only[↓xP,xU,rB,rA,rS],by simp only[↓xP,xU,rB,rA,rS,h3],by simp only[↓xP,xU,rB,rA,rS,Message.u]⟩
 ·have:i=l.length:=by omega
  subst this
  rw [ZFJ] at ho
  simp only[↓xP,xU,rB,rA,rS,h0,h4,h3,ho,hi]
theorem ZJG (l:(List Message)) (hs:ZFN l):EE F 265 [L 7 (l.map Message.u),L 7 (l.map Message.u)] []=ok1 (B true):=by
 have hl:=hs.1
 rw [R265,b265]
 simp only[↓xP,xU,rB,rA,rS,ne_eq,not_true_eq_false]
 refine (Zjc (fun (i:Nat) st=>st.s 0=DU (.sl 7 (l.map Message.u))∧st.s 1=DU (.sl 7 (l.map Message.u))∧st.s 5=DI i) (fun i=>l.length - i) (fun i=>ok1 (B true)) ?_ 0 ⟨by simp only[↓xP,xU,rB,rA,rS],by simp only[↓xP,xU,rB,rA,rS],by simp only[↓xP,xU,rB,rA,rS]; rfl⟩)
 rintro i st ⟨h0,h1,h5⟩ ih
 by_cases hi:i<l.length
 ·obtain ⟨⟨c0,c1,c2,⟨c3,c4,c5⟩,c6⟩,hx⟩:∃ x,l[i]?=some x:=⟨_,List.getElem?_eq_getElem hi⟩
  have hw:=w_succ (i:=i) (by omega)
  have hsx:=hs.2 _ (List.mem_of_getElem? hx)
  simp only[↓xP,xU,rB,rA,rS,h0,h1,h5,hi,hx,hw,Message.u,ZKj c0 c1 c2 c3 c4 c5 c6 hsx,ne_eq,not_true_eq_false]
  exact ih (i+1) _ (by omega) ⟨by simp only[↓xP,xU,rB,rA,rS,h0],by simp only[↓xP,xU,rB,rA,rS,h1],by simp only[↓xP,xU,rB,rA,rS]⟩
 ·simp only[↓xP,xU,rB,rA,rS,h0,h1,h5,hi]
def Chain.Small (x:Chain):Prop:=State.Small x.base∧Config.Small x.conf∧ZGp x.nodes∧ZHm x.up∧ZFN x.bag∧ZGB x.answers∧True
def ZIt (x:Chain) (a:Int):Int:=chkZ (ZIu x.base a) fun a=>chkZ (ZGJ x.conf a) fun a=>chkZ (ZGw x.nodes a) fun a=>chkZ (ZIs x.up a) fun a=>chkZ (ZGv x.bag a) fun a=>chkZ (ZGR x.answers a) fun a=>a
theorem ZLK (c0:Str) (c1:Str) (c2:(List Pair)) (c3:(List Session)) (c4:Bool) (c5:Str) (c6:Int) (c7:(List Int)) (c8:Bool) (c9:(List Replica)) (c10:(List Bool)) (c11:(List Message)) (c12:(List Answer)) (hf:Chain.Fit ⟨⟨⟨c0,c1⟩,c2,c3,c4,c5⟩,⟨c6,c7,c8⟩,c9,c10,c11,c12⟩) (left:Int):EE F 183 [.ag [.u (.str c0),.u (.str c1),.u (.sl 2 (c2.map Pair.u)),.u (.sl 3 (c3.map Session.u)),.u (.bool c4),.u (.str c5),.u (.int .i64 c6),.u (.sl 1 (c7.map iU)),.u (.bool c8),.u (.sl 5 (c9.map Replica.u)),.u (.sl 1 (c10.map bU)),.u (.sl 7 (c11.map Message.u)),.u (.sl 7 (c12.map Answer.u))],I left] []=ok1 (I (ZIt ⟨⟨⟨c0,c1⟩,c2,c3,c4,c5⟩,⟨c6,c7,c8⟩,c9,c10,c11,c12⟩ left)):=by
 rw [R183,b183]
 simp only[↓xP,xU,rB,rA,rS,ZLS c0 c1 c2 c3 c4 c5 hf.1,ZHK,ZJW c9 hf.2.2.1,ZLI,ZJU c11 hf.2.2.2.2.1,ZKA c12 hf.2.2.2.2.2]
 repeat' (refine ZiE (fun h=>?_) (fun h=>?_))
 all_goals (simp only[decide_eq_true_eq,decide_eq_false_iff_not] at *; simp [ZIt,offZ,chkZ, *])
theorem ZLJ (x:Chain) (hf:Chain.Fit x):LeZ (ZIt x) (Chain.Small x):=LeZ.chk (ZLR _ hf.1) (LeZ.chk (ZHJ _ hf.2.1) (LeZ.chk (ZJV _ hf.2.2.1) (LeZ.chk (ZLH _ hf.2.2.2.1) (LeZ.chk (ZJT _ hf.2.2.2.2.1) (LeZ.chk (ZKz _ hf.2.2.2.2.2) LeZ.id)))))
theorem ZLU (c0:Str) (c1:Str) (c2:(List Pair)) (c3:(List Session)) (c4:Bool) (c5:Str) (c6:Int) (c7:(List Int)) (c8:Bool) (c9:(List Replica)) (c10:(List Bool)) (c11:(List Message)) (c12:(List Answer)) (hs:Chain.Small ⟨⟨⟨c0,c1⟩,c2,c3,c4,c5⟩,⟨c6,c7,c8⟩,c9,c10,c11,c12⟩):EE F 191 [.ag [.u (.str c0),.u (.str c1),.u (.sl 2 (c2.map Pair.u)),.u (.sl 3 (c3.map Session.u)),.u (.bool c4),.u (.str c5),.u (.int .i64 c6),.u (.sl 1 (c7.map iU)),.u (.bool c8),.u (.sl 5 (c9.map Replica.u)),.u (.sl 1 (c10.map bU)),.u (.sl 7 (c11.map Message.u)),.u (.sl 7 (c12.map Answer.u))]] []=some ⟨[.ag [.u (.str c0),.u (.str c1),.own (.par 0) c2.length,.own (.par 1) c3.length,.u (.bool c4),.u (.str c5),.u (.int .i64 c6),.own (.par 2) c7.length,.u (.bool c8),.down (.par 3) c9.length,.own (.par 4) c10.length,.down (.par 5) c11.length,.own (.par 6) c12.length]],[.row 2 (c2.map Pair.u),.row 3 (c3.map Session.u),.row 1 (c7.map iU),.deep 5 (c9.map Replica.u),.row 1 (c10.map bU),.deep 7 (c11.map Message.u),.row 7 (c12.map Answer.u)],[]⟩:=by
 rw [R191,b191]
 simp only[↓xP,xU,rB,rA,rS,ZLY c0 c1 c2 c3 c4 c5 hs.1,ZHM c6 c7 c8 hs.2.1,ZJ0 c9 hs.2.2.1,ZLT c10 hs.2.2.2.1,ZJZ c11 hs.2.2.2.2.1,ZKL c12 hs.2.2.2.2.2.1]
theorem ZLu (c0:Str) (c1:Str) (c2:(List Pair)) (c3:(List Session)) (c4:Bool) (c5:Str) (c6:Int) (c7:(List Int)) (c8:Bool) (c9:(List Replica)) (c10:(List Bool)) (c11:(List Message)) (c12:(List Answer)) (hs:Chain.Small ⟨⟨⟨c0,c1⟩,c2,c3,c4,c5⟩,⟨c6,c7,c8⟩,c9,c10,c11,c12⟩):EE F 206 [.ag [.u (.str c0),.u (.str c1),.u (.sl 2 (c2.map Pair.u)),.u (.sl 3 (c3.map Session.u)),.u (.bool c4),.u (.str c5),.u (.int .i64 c6),.u (.sl 1 (c7.map iU)),.u (.bool c8),.u (.sl 5 (c9.map Replica.u)),.u (.sl 1 (c10.map bU)),.u (.sl 7 (c11.map Message.u)),.u (.sl 7 (c12.map Answer.u))],.ag [.u (.str c0),.u (.str c1),.u (.sl 2 (c2.map Pair.u)),.u (.sl 3 (c3.map Session.u)),.u (.bool c4),.u (.str c5),.u (.int .i64 c6),.u (.sl 1 (c7.map iU)),.u (.bool c8),.u (.sl 5 (c9.map Replica.u)),.u (.sl 1 (c10.map bU)),.u (.sl 7 (c11.map Message.u)),.u (.sl 7 (c12.map Answer.u))]] []=ok1 (B true):=by
 rw [R206,b206]
 simp only[↓xP,xU,rB,rA,rS,ZLy c0 c1 c2 c3 c4 c5 hs.1,ZHC c6 c7 c8 hs.2.1,ZJH c9 hs.2.2.1,ZLt c10 hs.2.2.2.1,ZJG c11 hs.2.2.2.2.1,ZKh c12 hs.2.2.2.2.2.1,ne_eq,not_true_eq_false]
def Route.Small (x:Route):Prop:=Interval.Small x.span∧True
def ZHh (x:Route) (a:Int):Int:=chkZ (ZGu x.span a) fun a=>a
theorem ZLO (c0:Int) (c1:Str) (c2:Str) (left:Int):EE F 249 [.ag [.u (.int .i64 c0),.u (.str c1),.u (.str c2)],I left] []=ok1 (I (ZHh ⟨c0,⟨c1,c2⟩⟩ left)):=by
 rw [R249,b249]
 simp only[↓xP,xU,rB,rA,rS,ZHV]
 repeat' (refine ZiE (fun h=>?_) (fun h=>?_))
 all_goals (simp only[decide_eq_true_eq,decide_eq_false_iff_not] at *; simp [ZHh,offZ,chkZ, *])
theorem ZLN (x:Route) (hf:Route.Fit x):LeZ (ZHh x) (Route.Small x):=LeZ.chk (ZHU _ hf.2) LeZ.id
theorem ZLW (c0:Int) (c1:Str) (c2:Str):EE F 258 [.ag [.u (.int .i64 c0),.u (.str c1),.u (.str c2)]] []=ok1 (.ag [.u (.int .i64 c0),.u (.str c1),.u (.str c2)]):=by
 rw [R258,b258]
 simp only[↓xP,xU,rB,rA,rS,ZHW]
theorem ZLw (c0:Int) (c1:Str) (c2:Str):EE F 83 [.ag [.u (.int .i64 c0),.u (.str c1),.u (.str c2)],.ag [.u (.int .i64 c0),.u (.str c1),.u (.str c2)]] []=ok1 (B true):=by
 rw [R83,b83]
 simp only[↓xP,xU,rB,rA,rS,ZHS,ne_eq,not_true_eq_false]
def ZGV (l:(List Route)):Prop:=l.length≤1048576∧∀ y,y∈l→Route.Small y
def ZHi (l:(List Route)) (left:Int):Int:=offZ left l.length fun a=>allZ ZHh l a
theorem ZLj (l:(List Route)) (hf:(l.length≤9223372036854775807∧∀ y,y∈l→Route.Fit y)) (left:Int):EE F 184 [L 3 (l.map Route.u),I left] []=ok1 (I (ZHi l left)):=by
 have hl:=hf.1
 rw [R184,b184]
 simp only[↓xP,xU,rB,rA,rS]
 refine ZiE (fun h=>?_) (fun h=>?_)
 ·simp only[decide_eq_true_eq] at h
  simp [ZHi,offZ,h]
 ·refine (Zjc (fun (a:Nat×Int) st=>st.s 0=DU (.sl 3 (l.map Route.u))∧st.s 5=DI a.1∧st.s 1=DI a.2) (fun a=>l.length - a.1) (fun a=>ok1 (I (allZ ZHh (l.drop a.1) a.2))) ?_ (0,IntKind.i64.wrap (left - l.length)) ⟨by simp only[↓xP,xU,rB,rA,rS],by simp only[↓xP,xU,rB,rA,rS]; rfl,by simp only[↓xP,xU,rB,rA,rS]⟩).trans ?_
  ·rintro ⟨i,a⟩ st ⟨h0,h5,h1⟩ ih
   dsimp only at h0 h5 h1 ih ⊢
   by_cases hi:i<l.length
   ·obtain ⟨⟨c0,⟨c1,c2⟩⟩,hx⟩:∃ x,l[i]?=some x:=⟨_,List.getElem?_eq_getElem hi⟩
    have hw:=w_succ (i:=i) (by omega)
    have hfx:=hf.2 _ (List.mem_of_getElem? hx)
    simp only[↓xP,xU,rB,rA,rS,h0,h5,h1,hi,hx,hw,Route.u,ZLO]
    rw [ZGE hx,chkZ]
    refine ZiE (fun h=>?_) (fun h=>?_)
    ·simp only[decide_eq_true_eq] at h
     simp [h]
    ·rw [ih (i+1,ZHh ⟨c0,⟨c1,c2⟩⟩ a) _ (by dsimp only; omega) ⟨by simp only[↓xP,xU,rB,rA,rS,h0],by simp only[↓xP,xU,rB,rA,rS],by simp only[↓xP,xU,rB,rA,rS]⟩]
     simp only[decide_eq_false_iff_not] at h
     simp [h]
   ·simp only[↓xP,xU,rB,rA,rS,h0,h5,h1,hi]
    rw [List.drop_of_length_le (by omega)]; rfl
  ·simp only[decide_eq_false_iff_not] at h
   simp [ZHi,offZ,h]
theorem ZLi (l:(List Route)) (hf:(l.length≤9223372036854775807∧∀ y,y∈l→Route.Fit y)):LeZ (ZHi l) (ZGV l):=LeZ.off hf.1 (LeZ.all fun x hx=>ZLN x (hf.2 x hx))
theorem ZLp (l:(List Route)) (hs:ZGV l):EE F 192 [L 3 (l.map Route.u)] []=some ⟨[.sc (.own (.par 0) l.length)],[.row 3 (l.map Route.u)],[]⟩:=by
 have hl:=hs.1
 rw [R192,b192]
 simp only[↓xP,xU,rB,rA,rS,ZIT _ 7 l.length [.int .i64 0,.str [],.str []] 40 (by omega)]
 refine (Zjc (fun (i:Nat) st=>i≤l.length∧st.s 0=DU (.sl 3 (l.map Route.u))∧st.s 4=DI i∧st.s 3=.t (.sc (.own (.loc 7 0) l.length))∧st.o (.loc 7 0)=some (.row 3 ((l.take i).map Route.u++List.replicate (l.length - i) [.int .i64 0,.str [],.str []]))) (fun i=>l.length - i) (fun i=>some ⟨[.sc (.own (.par 0) l.length)],[.row 3 (l.map Route.u)],[]⟩) ?_ 0 ⟨by omega,by simp only[↓xP,xU,rB,rA,rS],by simp only[↓xP,xU,rB,rA,rS]; rfl,by simp only[↓xP,xU,rB,rA,rS],by simp only[↓xP,xU,rB,rA,rS,Nat.sub_zero]⟩)
 rintro i st ⟨hle,h0,h4,h3,ho⟩ ih
 by_cases hi:i<l.length
 ·obtain ⟨⟨c0,⟨c1,c2⟩⟩,hx⟩:∃ x,l[i]?=some x:=⟨_,List.getElem?_eq_getElem hi⟩
  have hw:=w_succ (i:=i) (by omega)
  have hg:=ZFK (f:=Route.u) (z:=[.int .i64 0,.str [],.str []]) hi
  have hf:=ZFL (f:=Route.u) (z:=[.int .i64 0,.str [],.str []]) hx
  simp only[Route.u] at hf
  simp only[↓xP,xU,rB,rA,rS,h0,h4,h3,ho,hi,hx,hw,hg,hf,Route.u,ZLW]
  exact ih (i+1) _ (by omega) ⟨by omega,by simp only[↓xP,xU,rB,rA,rS,h0],by simp only[↓xP,xU,rB,rA,rS],by simp only[↓xP,xU,rB,rA,rS,h3],by simp only[↓xP,xU,rB,rA,rS,Route.u]⟩
 ·have:i=l.length:=by omega
  subst this
  rw [ZFJ] at ho
  simp only[↓xP,xU,rB,rA,rS,h0,h4,h3,ho,hi]
theorem ZKX (l:(List Route)) (hs:ZGV l):EE F 26 [L 3 (l.map Route.u),L 3 (l.map Route.u)] []=ok1 (B true):=by
 have hl:=hs.1
 rw [R26,b26]
 simp only[↓xP,xU,rB,rA,rS,ne_eq,not_true_eq_false]
 refine (Zjc (fun (i:Nat) st=>st.s 0=DU (.sl 3 (l.map Route.u))∧st.s 1=DU (.sl 3 (l.map Route.u))∧st.s 5=DI i) (fun i=>l.length - i) (fun i=>ok1 (B true)) ?_ 0 ⟨by simp only[↓xP,xU,rB,rA,rS],by simp only[↓xP,xU,rB,rA,rS],by simp only[↓xP,xU,rB,rA,rS]; rfl⟩)
 rintro i st ⟨h0,h1,h5⟩ ih
 by_cases hi:i<l.length
 ·obtain ⟨⟨c0,⟨c1,c2⟩⟩,hx⟩:∃ x,l[i]?=some x:=⟨_,List.getElem?_eq_getElem hi⟩
  have hw:=w_succ (i:=i) (by omega)
  simp only[↓xP,xU,rB,rA,rS,h0,h1,h5,hi,hx,hw,Route.u,ZLw,ne_eq,not_true_eq_false]
  exact ih (i+1) _ (by omega) ⟨by simp only[↓xP,xU,rB,rA,rS,h0],by simp only[↓xP,xU,rB,rA,rS,h1],by simp only[↓xP,xU,rB,rA,rS]⟩
 ·simp only[↓xP,xU,rB,rA,rS,h0,h1,h5,hi]
def Caller.Small (x:Caller):Prop:=ZGV x.cache∧Command.Small x.wish∧True
def ZGI (x:Caller) (a:Int):Int:=chkZ (ZHi x.cache a) fun a=>chkZ (ZGm x.wish a) fun a=>a
theorem ZLf (c0:(List Route)) (c1:Int) (c2:Bool) (c3:Int) (c4:Str) (c5:Int) (c6:Int) (c7:Int) (hf:Caller.Fit ⟨c0,c1,c2,⟨c3,c4,c5,c6⟩,c7⟩) (left:Int):EE F 114 [.ag [.u (.sl 3 (c0.map Route.u)),.u (.int .i64 c1),.u (.bool c2),.u (.int .i64 c3),.u (.str c4),.u (.int .i64 c5),.u (.int .i64 c6),.u (.int .i64 c7)],I left] []=ok1 (I (ZGI ⟨c0,c1,c2,⟨c3,c4,c5,c6⟩,c7⟩ left)):=by
 rw [R114,b114]
 simp only[↓xP,xU,rB,rA,rS,ZLj c0 hf.1,ZHt]
 repeat' (refine ZiE (fun h=>?_) (fun h=>?_))
 all_goals (simp only[decide_eq_true_eq,decide_eq_false_iff_not] at *; simp [ZGI,offZ,chkZ, *])
theorem ZLe (x:Caller) (hf:Caller.Fit x):LeZ (ZGI x) (Caller.Small x):=LeZ.chk (ZLi _ hf.1) (LeZ.chk (ZHs _ hf.2.2.2.1) LeZ.id)
theorem ZLn (c0:(List Route)) (c1:Int) (c2:Bool) (c3:Int) (c4:Str) (c5:Int) (c6:Int) (c7:Int) (hs:Caller.Small ⟨c0,c1,c2,⟨c3,c4,c5,c6⟩,c7⟩):EE F 122 [.ag [.u (.sl 3 (c0.map Route.u)),.u (.int .i64 c1),.u (.bool c2),.u (.int .i64 c3),.u (.str c4),.u (.int .i64 c5),.u (.int .i64 c6),.u (.int .i64 c7)]] []=some ⟨[.ag [.own (.par 0) c0.length,.u (.int .i64 c1),.u (.bool c2),.u (.int .i64 c3),.u (.str c4),.u (.int .i64 c5),.u (.int .i64 c6),.u (.int .i64 c7)]],[.row 3 (c0.map Route.u)],[]⟩:=by
 rw [R122,b122]
 simp only[↓xP,xU,rB,rA,rS,ZLp c0 hs.1,ZHv]
theorem ZKV (c0:(List Route)) (c1:Int) (c2:Bool) (c3:Int) (c4:Str) (c5:Int) (c6:Int) (c7:Int) (hs:Caller.Small ⟨c0,c1,c2,⟨c3,c4,c5,c6⟩,c7⟩):EE F 135 [.ag [.u (.sl 3 (c0.map Route.u)),.u (.int .i64 c1),.u (.bool c2),.u (.int .i64 c3),.u (.str c4),.u (.int .i64 c5),.u (.int .i64 c6),.u (.int .i64 c7)],.ag [.u (.sl 3 (c0.map Route.u)),.u (.int .i64 c1),.u (.bool c2),.u (.int .i64 c3),.u (.str c4),.u (.int .i64 c5),.u (.int .i64 c6),.u (.int .i64 c7)]] []=ok1 (B true):=by
 rw [R135,b135]
 simp only[↓xP,xU,rB,rA,rS,ZKX c0 hs.1,ZHn,ne_eq,not_true_eq_false]
def ZGC (l:(List Caller)):Prop:=l.length≤1048576∧∀ y,y∈l→Caller.Small y
def ZGS (l:(List Caller)) (left:Int):Int:=offZ left l.length fun a=>allZ ZGI l a
theorem ZKC (l:(List Caller)) (hf:(l.length≤9223372036854775807∧∀ y,y∈l→Caller.Fit y)) (left:Int):EE F 62 [L 8 (l.map Caller.u),I left] []=ok1 (I (ZGS l left)):=by
 have hl:=hf.1
 rw [R62,b62]
 simp only[↓xP,xU,rB,rA,rS]
 refine ZiE (fun h=>?_) (fun h=>?_)
 ·simp only[decide_eq_true_eq] at h
  simp [ZGS,offZ,h]
 ·refine (Zjc (fun (a:Nat×Int) st=>st.s 0=DU (.sl 8 (l.map Caller.u))∧st.s 5=DI a.1∧st.s 1=DI a.2) (fun a=>l.length - a.1) (fun a=>ok1 (I (allZ ZGI (l.drop a.1) a.2))) ?_ (0,IntKind.i64.wrap (left - l.length)) ⟨by simp only[↓xP,xU,rB,rA,rS],by simp only[↓xP,xU,rB,rA,rS]; rfl,by simp only[↓xP,xU,rB,rA,rS]⟩).trans ?_
  ·rintro ⟨i,a⟩ st ⟨h0,h5,h1⟩ ih
   dsimp only at h0 h5 h1 ih ⊢
   by_cases hi:i<l.length
   ·obtain ⟨⟨c0,c1,c2,⟨c3,c4,c5,c6⟩,c7⟩,hx⟩:∃ x,l[i]?=some x:=⟨_,List.getElem?_eq_getElem hi⟩
    have hw:=w_succ (i:=i) (by omega)
    have hfx:=hf.2 _ (List.mem_of_getElem? hx)
    simp only[↓xP,xU,rB,rA,rS,h0,h5,h1,hi,hx,hw,Caller.u,ZLf c0 c1 c2 c3 c4 c5 c6 c7 hfx]
    rw [ZGE hx,chkZ]
    refine ZiE (fun h=>?_) (fun h=>?_)
    ·simp only[decide_eq_true_eq] at h
     simp [h]
    ·rw [ih (i+1,ZGI ⟨c0,c1,c2,⟨c3,c4,c5,c6⟩,c7⟩ a) _ (by dsimp only; omega) ⟨by simp only[↓xP,xU,rB,rA,rS,h0],by simp only[↓xP,xU,rB,rA,rS],by simp only[↓xP,xU,rB,rA,rS]⟩]
     simp only[decide_eq_false_iff_not] at h
     simp [h]
   ·simp only[↓xP,xU,rB,rA,rS,h0,h5,h1,hi]
    rw [List.drop_of_length_le (by omega)]; rfl
  ·simp only[decide_eq_false_iff_not] at h
   simp [ZGS,offZ,h]
theorem ZKB (l:(List Caller)) (hf:(l.length≤9223372036854775807∧∀ y,y∈l→Caller.Fit y)):LeZ (ZGS l) (ZGC l):=LeZ.off hf.1 (LeZ.all fun x hx=>ZLe x (hf.2 x hx))
theorem ZKM (l:(List Caller)) (hs:ZGC l):EE F 68 [L 8 (l.map Caller.u)] []=some ⟨[.sc (.down (.par 0) l.length)],[.deep 8 (l.map Caller.u)],[]⟩:=by
 have hl:=hs.1
 rw [R68,b68]
 simp only[↓xP,xU,rB,rA,rS,ZKp _ 7 l.length [.sl 3 [],.int .i64 0,.bool false,.int .i64 0,.str [],.int .i64 0,.int .i64 0,.int .i64 0] 88 (by omega) rfl]
 refine (Zjc (fun (i:Nat) st=>i≤l.length∧st.s 0=DU (.sl 8 (l.map Caller.u))∧st.s 4=DI i∧st.s 3=.t (.sc (.down (.loc 7 0) l.length))∧st.o (.loc 7 0)=some (.deep 8 ((l.take i).map Caller.u++List.replicate (l.length - i) [.sl 3 [],.int .i64 0,.bool false,.int .i64 0,.str [],.int .i64 0,.int .i64 0,.int .i64 0]))) (fun i=>l.length - i) (fun i=>some ⟨[.sc (.down (.par 0) l.length)],[.deep 8 (l.map Caller.u)],[]⟩) ?_ 0 ⟨by omega,by simp only[↓xP,xU,rB,rA,rS],by simp only[↓xP,xU,rB,rA,rS]; rfl,by simp only[↓xP,xU,rB,rA,rS],by simp only[↓xP,xU,rB,rA,rS,Nat.sub_zero]⟩)
 rintro i st ⟨hle,h0,h4,h3,ho⟩ ih
 by_cases hi:i<l.length
 ·obtain ⟨⟨c0,c1,c2,⟨c3,c4,c5,c6⟩,c7⟩,hx⟩:∃ x,l[i]?=some x:=⟨_,List.getElem?_eq_getElem hi⟩
  have hw:=w_succ (i:=i) (by omega)
  have hg:=ZFK (f:=Caller.u) (z:=[.sl 3 [],.int .i64 0,.bool false,.int .i64 0,.str [],.int .i64 0,.int .i64 0,.int .i64 0]) hi
  have hf:=ZFL (f:=Caller.u) (z:=[.sl 3 [],.int .i64 0,.bool false,.int .i64 0,.str [],.int .i64 0,.int .i64 0,.int .i64 0]) hx
  simp only[Caller.u] at hf
  have hsx:=hs.2 _ (List.mem_of_getElem? hx)
  simp only[↓xP,xU,rB,rA,rS,h0,h4,h3,ho,hi,hx,hw,hg,hf,Caller.u,ZLn c0 c1 c2 c3 c4 c5 c6 c7 hsx]
  exact ih (i+1) _ (by omega) ⟨by omega,by simp only[↓xP,xU,rB,rA,rS,h0],by simp only[↓xP,xU,rB,rA,rS],by simp only[↓xP,xU,rB,rA,rS,h3],by simp only[↓xP,xU,rB,rA,rS,Caller.u]⟩
 ·have:i=l.length:=by omega
  subst this
  rw [ZFJ] at ho
  simp only[↓xP,xU,rB,rA,rS,h0,h4,h3,ho,hi]
theorem ZKi (l:(List Caller)) (hs:ZGC l):EE F 74 [L 8 (l.map Caller.u),L 8 (l.map Caller.u)] []=ok1 (B true):=by
 have hl:=hs.1
 rw [R74,b74]
 simp only[↓xP,xU,rB,rA,rS,ne_eq,not_true_eq_false]
 refine (Zjc (fun (i:Nat) st=>st.s 0=DU (.sl 8 (l.map Caller.u))∧st.s 1=DU (.sl 8 (l.map Caller.u))∧st.s 5=DI i) (fun i=>l.length - i) (fun i=>ok1 (B true)) ?_ 0 ⟨by simp only[↓xP,xU,rB,rA,rS],by simp only[↓xP,xU,rB,rA,rS],by simp only[↓xP,xU,rB,rA,rS]; rfl⟩)
 rintro i st ⟨h0,h1,h5⟩ ih
 by_cases hi:i<l.length
 ·obtain ⟨⟨c0,c1,c2,⟨c3,c4,c5,c6⟩,c7⟩,hx⟩:∃ x,l[i]?=some x:=⟨_,List.getElem?_eq_getElem hi⟩
  have hw:=w_succ (i:=i) (by omega)
  have hsx:=hs.2 _ (List.mem_of_getElem? hx)
  simp only[↓xP,xU,rB,rA,rS,h0,h1,h5,hi,hx,hw,Caller.u,ZKV c0 c1 c2 c3 c4 c5 c6 c7 hsx,ne_eq,not_true_eq_false]
  exact ih (i+1) _ (by omega) ⟨by simp only[↓xP,xU,rB,rA,rS,h0],by simp only[↓xP,xU,rB,rA,rS,h1],by simp only[↓xP,xU,rB,rA,rS]⟩
 ·simp only[↓xP,xU,rB,rA,rS,h0,h1,h5,hi]
def Result.Small (x:Result):Prop:=Command.Small x.wish∧True
def ZGL (x:Result) (a:Int):Int:=chkZ (ZGm x.wish a) fun a=>a
theorem ZLh (c0:Int) (c1:Int) (c2:Int) (c3:Str) (c4:Int) (c5:Int) (c6:Int) (c7:Int) (c8:Int) (left:Int):EE F 115 [.ag [.u (.int .i64 c0),.u (.int .i64 c1),.u (.int .i64 c2),.u (.str c3),.u (.int .i64 c4),.u (.int .i64 c5),.u (.int .i64 c6),.u (.int .i64 c7),.u (.int .i64 c8)],I left] []=ok1 (I (ZGL ⟨c0,c1,⟨c2,c3,c4,c5⟩,c6,c7,c8⟩ left)):=by
 rw [R115,b115]
 simp only[↓xP,xU,rB,rA,rS,ZHt]
 repeat' (refine ZiE (fun h=>?_) (fun h=>?_))
 all_goals (simp only[decide_eq_true_eq,decide_eq_false_iff_not] at *; simp [ZGL,offZ,chkZ, *])
theorem ZLg (x:Result) (hf:Result.Fit x):LeZ (ZGL x) (Result.Small x):=LeZ.chk (ZHs _ hf.2.2.1) LeZ.id
theorem ZLo (c0:Int) (c1:Int) (c2:Int) (c3:Str) (c4:Int) (c5:Int) (c6:Int) (c7:Int) (c8:Int):EE F 123 [.ag [.u (.int .i64 c0),.u (.int .i64 c1),.u (.int .i64 c2),.u (.str c3),.u (.int .i64 c4),.u (.int .i64 c5),.u (.int .i64 c6),.u (.int .i64 c7),.u (.int .i64 c8)]] []=ok1 (.ag [.u (.int .i64 c0),.u (.int .i64 c1),.u (.int .i64 c2),.u (.str c3),.u (.int .i64 c4),.u (.int .i64 c5),.u (.int .i64 c6),.u (.int .i64 c7),.u (.int .i64 c8)]):=by
 rw [R123,b123]
 simp only[↓xP,xU,rB,rA,rS,ZHv]
theorem ZKW (c0:Int) (c1:Int) (c2:Int) (c3:Str) (c4:Int) (c5:Int) (c6:Int) (c7:Int) (c8:Int):EE F 136 [.ag [.u (.int .i64 c0),.u (.int .i64 c1),.u (.int .i64 c2),.u (.str c3),.u (.int .i64 c4),.u (.int .i64 c5),.u (.int .i64 c6),.u (.int .i64 c7),.u (.int .i64 c8)],.ag [.u (.int .i64 c0),.u (.int .i64 c1),.u (.int .i64 c2),.u (.str c3),.u (.int .i64 c4),.u (.int .i64 c5),.u (.int .i64 c6),.u (.int .i64 c7),.u (.int .i64 c8)]] []=ok1 (B true):=by
 rw [R136,b136]
 simp only[↓xP,xU,rB,rA,rS,ZHn,ne_eq,not_true_eq_false]
def ZGD (l:(List Result)):Prop:=l.length≤1048576∧∀ y,y∈l→Result.Small y
def ZGU (l:(List Result)) (left:Int):Int:=offZ left l.length fun a=>allZ ZGL l a
theorem ZKK (l:(List Result)) (hf:(l.length≤9223372036854775807∧∀ y,y∈l→Result.Fit y)) (left:Int):EE F 63 [L 9 (l.map Result.u),I left] []=ok1 (I (ZGU l left)):=by
 have hl:=hf.1
 rw [R63,b63]
 simp only[↓xP,xU,rB,rA,rS]
 refine ZiE (fun h=>?_) (fun h=>?_)
 ·simp only[decide_eq_true_eq] at h
  simp [ZGU,offZ,h]
 ·refine (Zjc (fun (a:Nat×Int) st=>st.s 0=DU (.sl 9 (l.map Result.u))∧st.s 5=DI a.1∧st.s 1=DI a.2) (fun a=>l.length - a.1) (fun a=>ok1 (I (allZ ZGL (l.drop a.1) a.2))) ?_ (0,IntKind.i64.wrap (left - l.length)) ⟨by simp only[↓xP,xU,rB,rA,rS],by simp only[↓xP,xU,rB,rA,rS]; rfl,by simp only[↓xP,xU,rB,rA,rS]⟩).trans ?_
  ·rintro ⟨i,a⟩ st ⟨h0,h5,h1⟩ ih
   dsimp only at h0 h5 h1 ih ⊢
   by_cases hi:i<l.length
   ·obtain ⟨⟨c0,c1,⟨c2,c3,c4,c5⟩,c6,c7,c8⟩,hx⟩:∃ x,l[i]?=some x:=⟨_,List.getElem?_eq_getElem hi⟩
    have hw:=w_succ (i:=i) (by omega)
    have hfx:=hf.2 _ (List.mem_of_getElem? hx)
    simp only[↓xP,xU,rB,rA,rS,h0,h5,h1,hi,hx,hw,Result.u,ZLh]
    rw [ZGE hx,chkZ]
    refine ZiE (fun h=>?_) (fun h=>?_)
    ·simp only[decide_eq_true_eq] at h
     simp [h]
    ·rw [ih (i+1,ZGL ⟨c0,c1,⟨c2,c3,c4,c5⟩,c6,c7,c8⟩ a) _ (by dsimp only; omega) ⟨by simp only[↓xP,xU,rB,rA,rS,h0],by simp only[↓xP,xU,rB,rA,rS],by simp only[↓xP,xU,rB,rA,rS]⟩]
     simp only[decide_eq_false_iff_not] at h
     simp [h]
   ·simp only[↓xP,xU,rB,rA,rS,h0,h5,h1,hi]
    rw [List.drop_of_length_le (by omega)]; rfl
  ·simp only[decide_eq_false_iff_not] at h
   simp [ZGU,offZ,h]
theorem ZKJ (l:(List Result)) (hf:(l.length≤9223372036854775807∧∀ y,y∈l→Result.Fit y)):LeZ (ZGU l) (ZGD l):=LeZ.off hf.1 (LeZ.all fun x hx=>ZLg x (hf.2 x hx))
theorem ZKP (l:(List Result)) (hs:ZGD l):EE F 69 [L 9 (l.map Result.u)] []=some ⟨[.sc (.own (.par 0) l.length)],[.row 9 (l.map Result.u)],[]⟩:=by
 have hl:=hs.1
 rw [R69,b69]
 simp only[↓xP,xU,rB,rA,rS,ZIT _ 7 l.length [.int .i64 0,.int .i64 0,.int .i64 0,.str [],.int .i64 0,.int .i64 0,.int .i64 0,.int .i64 0,.int .i64 0] 80 (by omega)]
 refine (Zjc (fun (i:Nat) st=>i≤l.length∧st.s 0=DU (.sl 9 (l.map Result.u))∧st.s 4=DI i∧st.s 3=.t (.sc (.own (.loc 7 0) l.length))∧st.o (.loc 7 0)=some (.row 9 ((l.take i).map Result.u++List.replicate (l.length - i) [.int .i64 0,.int .i64 0,.int .i64 0,.str [],.int .i64 0,.int .i64 0,.int .i64 0,.int .i64 0,.int .i64 0]))) (fun i=>l.length - i) (fun i=>some ⟨[.sc (.own (.par 0) l.length)],[.row 9 (l.map Result.u)],[]⟩) ?_ 0 ⟨by omega,by simp only[↓xP,xU,rB,rA,rS],by simp only[↓xP,xU,rB,rA,rS]; rfl,by simp only[↓xP,xU,rB,rA,rS],by simp only[↓xP,xU,rB,rA,rS,Nat.sub_zero]⟩)
 rintro i st ⟨hle,h0,h4,h3,ho⟩ ih
 by_cases hi:i<l.length
 ·obtain ⟨⟨c0,c1,⟨c2,c3,c4,c5⟩,c6,c7,c8⟩,hx⟩:∃ x,l[i]?=some x:=⟨_,List.getElem?_eq_getElem hi⟩
  have hw:=w_succ (i:=i) (by omega)
  have hg:=ZFK (f:=Result.u) (z:=[.int .i64 0,.int .i64 0,.int .i64 0,.str [],.int .i64 0,.int .i64 0,.int .i64 0,.int .i64 0,.int .i64 0]) hi
  have hf:=ZFL (f:=Result.u) (z:=[.int .i64 0,.int .i64 0,.int .i64 0,.str [],.int .i64 0,.int .i64 0,.int .i64 0,.int .i64 0,.int .i64 0]) hx
  simp only[Result.u] at hf
  simp only[↓xP,xU,rB,rA,rS,h0,h4,h3,ho,hi,hx,hw,hg,hf,Result.u,ZLo]
  exact ih (i+1) _ (by omega) ⟨by omega,by simp only[↓xP,xU,rB,rA,rS,h0],by simp only[↓xP,xU,rB,rA,rS],by simp only[↓xP,xU,rB,rA,rS,h3],by simp only[↓xP,xU,rB,rA,rS,Result.u]⟩
 ·have:i=l.length:=by omega
  subst this
  rw [ZFJ] at ho
  simp only[↓xP,xU,rB,rA,rS,h0,h4,h3,ho,hi]
theorem ZKl (l:(List Result)) (hs:ZGD l):EE F 75 [L 9 (l.map Result.u),L 9 (l.map Result.u)] []=ok1 (B true):=by
 have hl:=hs.1
 rw [R75,b75]
 simp only[↓xP,xU,rB,rA,rS,ne_eq,not_true_eq_false]
 refine (Zjc (fun (i:Nat) st=>st.s 0=DU (.sl 9 (l.map Result.u))∧st.s 1=DU (.sl 9 (l.map Result.u))∧st.s 5=DI i) (fun i=>l.length - i) (fun i=>ok1 (B true)) ?_ 0 ⟨by simp only[↓xP,xU,rB,rA,rS],by simp only[↓xP,xU,rB,rA,rS],by simp only[↓xP,xU,rB,rA,rS]; rfl⟩)
 rintro i st ⟨h0,h1,h5⟩ ih
 by_cases hi:i<l.length
 ·obtain ⟨⟨c0,c1,⟨c2,c3,c4,c5⟩,c6,c7,c8⟩,hx⟩:∃ x,l[i]?=some x:=⟨_,List.getElem?_eq_getElem hi⟩
  have hw:=w_succ (i:=i) (by omega)
  simp only[↓xP,xU,rB,rA,rS,h0,h1,h5,hi,hx,hw,Result.u,ZKW,ne_eq,not_true_eq_false]
  exact ih (i+1) _ (by omega) ⟨by simp only[↓xP,xU,rB,rA,rS,h0],by simp only[↓xP,xU,rB,rA,rS,h1],by simp only[↓xP,xU,rB,rA,rS]⟩
 ·simp only[↓xP,xU,rB,rA,rS,h0,h1,h5,hi]
def Shard.Small (x:Shard):Prop:=Chain.Small x.group∧True
def ZHj (x:Shard) (a:Int):Int:=chkZ (ZIt x.group a) fun a=>a
theorem ZLQ (c0:Bool) (c1:Str) (c2:Str) (c3:(List Pair)) (c4:(List Session)) (c5:Bool) (c6:Str) (c7:Int) (c8:(List Int)) (c9:Bool) (c10:(List Replica)) (c11:(List Bool)) (c12:(List Message)) (c13:(List Answer)) (hf:Shard.Fit ⟨c0,⟨⟨⟨c1,c2⟩,c3,c4,c5,c6⟩,⟨c7,c8,c9⟩,c10,c11,c12,c13⟩⟩) (left:Int):EE F 113 [.ag [.u (.bool c0),.u (.str c1),.u (.str c2),.u (.sl 2 (c3.map Pair.u)),.u (.sl 3 (c4.map Session.u)),.u (.bool c5),.u (.str c6),.u (.int .i64 c7),.u (.sl 1 (c8.map iU)),.u (.bool c9),.u (.sl 5 (c10.map Replica.u)),.u (.sl 1 (c11.map bU)),.u (.sl 7 (c12.map Message.u)),.u (.sl 7 (c13.map Answer.u))],I left] []=ok1 (I (ZHj ⟨c0,⟨⟨⟨c1,c2⟩,c3,c4,c5,c6⟩,⟨c7,c8,c9⟩,c10,c11,c12,c13⟩⟩ left)):=by
 rw [R113,b113]
 simp only[↓xP,xU,rB,rA,rS,ZLK c1 c2 c3 c4 c5 c6 c7 c8 c9 c10 c11 c12 c13 hf.2]
 repeat' (refine ZiE (fun h=>?_) (fun h=>?_))
 all_goals (simp only[decide_eq_true_eq,decide_eq_false_iff_not] at *; simp [ZHj,offZ,chkZ, *])
theorem ZLP (x:Shard) (hf:Shard.Fit x):LeZ (ZHj x) (Shard.Small x):=LeZ.chk (ZLJ _ hf.2) LeZ.id
theorem ZLX (c0:Bool) (c1:Str) (c2:Str) (c3:(List Pair)) (c4:(List Session)) (c5:Bool) (c6:Str) (c7:Int) (c8:(List Int)) (c9:Bool) (c10:(List Replica)) (c11:(List Bool)) (c12:(List Message)) (c13:(List Answer)) (hs:Shard.Small ⟨c0,⟨⟨⟨c1,c2⟩,c3,c4,c5,c6⟩,⟨c7,c8,c9⟩,c10,c11,c12,c13⟩⟩):EE F 121 [.ag [.u (.bool c0),.u (.str c1),.u (.str c2),.u (.sl 2 (c3.map Pair.u)),.u (.sl 3 (c4.map Session.u)),.u (.bool c5),.u (.str c6),.u (.int .i64 c7),.u (.sl 1 (c8.map iU)),.u (.bool c9),.u (.sl 5 (c10.map Replica.u)),.u (.sl 1 (c11.map bU)),.u (.sl 7 (c12.map Message.u)),.u (.sl 7 (c13.map Answer.u))]] []=some ⟨[.ag [.u (.bool c0),.u (.str c1),.u (.str c2),.own (.par 0) c3.length,.own (.par 1) c4.length,.u (.bool c5),.u (.str c6),.u (.int .i64 c7),.own (.par 2) c8.length,.u (.bool c9),.down (.par 3) c10.length,.own (.par 4) c11.length,.down (.par 5) c12.length,.own (.par 6) c13.length]],[.row 2 (c3.map Pair.u),.row 3 (c4.map Session.u),.row 1 (c8.map iU),.deep 5 (c10.map Replica.u),.row 1 (c11.map bU),.deep 7 (c12.map Message.u),.row 7 (c13.map Answer.u)],[]⟩:=by
 rw [R121,b121]
 simp only[↓xP,xU,rB,rA,rS,ZLU c1 c2 c3 c4 c5 c6 c7 c8 c9 c10 c11 c12 c13 hs.1]
theorem ZLx (c0:Bool) (c1:Str) (c2:Str) (c3:(List Pair)) (c4:(List Session)) (c5:Bool) (c6:Str) (c7:Int) (c8:(List Int)) (c9:Bool) (c10:(List Replica)) (c11:(List Bool)) (c12:(List Message)) (c13:(List Answer)) (hs:Shard.Small ⟨c0,⟨⟨⟨c1,c2⟩,c3,c4,c5,c6⟩,⟨c7,c8,c9⟩,c10,c11,c12,c13⟩⟩):EE F 134 [.ag [.u (.bool c0),.u (.str c1),.u (.str c2),.u (.sl 2 (c3.map Pair.u)),.u (.sl 3 (c4.map Session.u)),.u (.bool c5),.u (.str c6),.u (.int .i64 c7),.u (.sl 1 (c8.map iU)),.u (.bool c9),.u (.sl 5 (c10.map Replica.u)),.u (.sl 1 (c11.map bU)),.u (.sl 7 (c12.map Message.u)),.u (.sl 7 (c13.map Answer.u))],.ag [.u (.bool c0),.u (.str c1),.u (.str c2),.u (.sl 2 (c3.map Pair.u)),.u (.sl 3 (c4.map Session.u)),.u (.bool c5),.u (.str c6),.u (.int .i64 c7),.u (.sl 1 (c8.map iU)),.u (.bool c9),.u (.sl 5 (c10.map Replica.u)),.u (.sl 1 (c11.map bU)),.u (.sl 7 (c12.map Message.u)),.u (.sl 7 (c13.map Answer.u))]] []=ok1 (B true):=by
 rw [R134,b134]
 simp only[↓xP,xU,rB,rA,rS,ZLu c1 c2 c3 c4 c5 c6 c7 c8 c9 c10 c11 c12 c13 hs.1,ne_eq,not_true_eq_false]
def ZGW (l:(List Shard)):Prop:=l.length≤1048576∧∀ y,y∈l→Shard.Small y
def ZHk (l:(List Shard)) (left:Int):Int:=offZ left l.length fun a=>allZ ZHj l a
theorem ZLl (l:(List Shard)) (hf:(l.length≤9223372036854775807∧∀ y,y∈l→Shard.Fit y)) (left:Int):EE F 61 [L 14 (l.map Shard.u),I left] []=ok1 (I (ZHk l left)):=by
 have hl:=hf.1
 rw [R61,b61]
 simp only[↓xP,xU,rB,rA,rS]
 refine ZiE (fun h=>?_) (fun h=>?_)
 ·simp only[decide_eq_true_eq] at h
  simp [ZHk,offZ,h]
 ·refine (Zjc (fun (a:Nat×Int) st=>st.s 0=DU (.sl 14 (l.map Shard.u))∧st.s 5=DI a.1∧st.s 1=DI a.2) (fun a=>l.length - a.1) (fun a=>ok1 (I (allZ ZHj (l.drop a.1) a.2))) ?_ (0,IntKind.i64.wrap (left - l.length)) ⟨by simp only[↓xP,xU,rB,rA,rS],by simp only[↓xP,xU,rB,rA,rS]; rfl,by simp only[↓xP,xU,rB,rA,rS]⟩).trans ?_
  ·rintro ⟨i,a⟩ st ⟨h0,h5,h1⟩ ih
   dsimp only at h0 h5 h1 ih ⊢
   by_cases hi:i<l.length
   ·obtain ⟨⟨c0,⟨⟨⟨c1,c2⟩,c3,c4,c5,c6⟩,⟨c7,c8,c9⟩,c10,c11,c12,c13⟩⟩,hx⟩:∃ x,l[i]?=some x:=⟨_,List.getElem?_eq_getElem hi⟩
    have hw:=w_succ (i:=i) (by omega)
    have hfx:=hf.2 _ (List.mem_of_getElem? hx)
    simp only[↓xP,xU,rB,rA,rS,h0,h5,h1,hi,hx,hw,Shard.u,ZLQ c0 c1 c2 c3 c4 c5 c6 c7 c8 c9 c10 c11 c12 c13 hfx]
    rw [ZGE hx,chkZ]
    refine ZiE (fun h=>?_) (fun h=>?_)
    ·simp only[decide_eq_true_eq] at h
     simp [h]
    ·rw [ih (i+1,ZHj ⟨c0,⟨⟨⟨c1,c2⟩,c3,c4,c5,c6⟩,⟨c7,c8,c9⟩,c10,c11,c12,c13⟩⟩ a) _ (by dsimp only; omega) ⟨by simp only[↓xP,xU,rB,rA,rS,h0],by simp only[↓xP,xU,rB,rA,rS],by simp only[↓xP,xU,rB,rA,rS]⟩]
     simp only[decide_eq_false_iff_not] at h
     simp [h]
   ·simp only[↓xP,xU,rB,rA,rS,h0,h5,h1,hi]
    rw [List.drop_of_length_le (by omega)]; rfl
  ·simp only[decide_eq_false_iff_not] at h
   simp [ZHk,offZ,h]
theorem ZLk (l:(List Shard)) (hf:(l.length≤9223372036854775807∧∀ y,y∈l→Shard.Fit y)):LeZ (ZHk l) (ZGW l):=LeZ.off hf.1 (LeZ.all fun x hx=>ZLP x (hf.2 x hx))
theorem ZLq (l:(List Shard)) (hs:ZGW l):EE F 67 [L 14 (l.map Shard.u)] []=some ⟨[.sc (.down (.par 0) l.length)],[.deep 14 (l.map Shard.u)],[]⟩:=by
 have hl:=hs.1
 rw [R67,b67]
 simp only[↓xP,xU,rB,rA,rS,ZKp _ 7 l.length [.bool false,.str [],.str [],.sl 2 [],.sl 3 [],.bool false,.str [],.int .i64 0,.sl 1 [],.bool false,.sl 5 [],.sl 1 [],.sl 7 [],.sl 7 []] 248 (by omega) rfl]
 refine (Zjc (fun (i:Nat) st=>i≤l.length∧st.s 0=DU (.sl 14 (l.map Shard.u))∧st.s 4=DI i∧st.s 3=.t (.sc (.down (.loc 7 0) l.length))∧st.o (.loc 7 0)=some (.deep 14 ((l.take i).map Shard.u++List.replicate (l.length - i) [.bool false,.str [],.str [],.sl 2 [],.sl 3 [],.bool false,.str [],.int .i64 0,.sl 1 [],.bool false,.sl 5 [],.sl 1 [],.sl 7 [],.sl 7 []]))) (fun i=>l.length - i) (fun i=>some ⟨[.sc (.down (.par 0) l.length)],[.deep 14 (l.map Shard.u)],[]⟩) ?_ 0 ⟨by omega,by simp only[↓xP,xU,rB,rA,rS],by simp only[↓xP,xU,rB,rA,rS]; rfl,by simp only[↓xP,xU,rB,rA,rS],by simp only[↓xP,xU,rB,rA,rS,Nat.sub_zero]⟩)
 rintro i st ⟨hle,h0,h4,h3,ho⟩ ih
 by_cases hi:i<l.length
 ·obtain ⟨⟨c0,⟨⟨⟨c1,c2⟩,c3,c4,c5,c6⟩,⟨c7,c8,c9⟩,c10,c11,c12,c13⟩⟩,hx⟩:∃ x,l[i]?=some x:=⟨_,List.getElem?_eq_getElem hi⟩
  have hw:=w_succ (i:=i) (by omega)
  have hg:=ZFK (f:=Shard.u) (z:=[.bool false,.str [],.str [],.sl 2 [],.sl 3 [],.bool false,.str [],.int .i64 0,.sl 1 [],.bool false,.sl 5 [],.sl 1 [],.sl 7 [],.sl 7 []]) hi
  have hf:=ZFL (f:=Shard.u) (z:=[.bool false,.str [],.str [],.sl 2 [],.sl 3 [],.bool false,.str [],.int .i64 0,.sl 1 [],.bool false,.sl 5 [],.sl 1 [],.sl 7 [],.sl 7 []]) hx
  simp only[Shard.u] at hf
  have hsx:=hs.2 _ (List.mem_of_getElem? hx)
  simp only[↓xP,xU,rB,rA,rS,h0,h4,h3,ho,hi,hx,hw,hg,hf,Shard.u,ZLX c0 c1 c2 c3 c4 c5 c6 c7 c8 c9 c10 c11 c12 c13 hsx]
  exact ih (i+1) _ (by omega) ⟨by omega,by simp only[↓xP,xU,rB,rA,rS,h0],by simp only[↓xP,xU,rB,rA,rS],by simp only[↓xP,xU,rB,rA,rS,h3],by simp only[↓xP,xU,rB,rA,rS,Shard.u]⟩
 ·have:i=l.length:=by omega
  subst this
  rw [ZFJ] at ho
  simp only[↓xP,xU,rB,rA,rS,h0,h4,h3,ho,hi]
theorem ZKY (l:(List Shard)) (hs:ZGW l):EE F 73 [L 14 (l.map Shard.u),L 14 (l.map Shard.u)] []=ok1 (B true):=by
 have hl:=hs.1
 rw [R73,b73]
 simp only[↓xP,xU,rB,rA,rS,ne_eq,not_true_eq_false]
 refine (Zjc (fun (i:Nat) st=>st.s 0=DU (.sl 14 (l.map Shard.u))∧st.s 1=DU (.sl 14 (l.map Shard.u))∧st.s 5=DI i) (fun i=>l.length - i) (fun i=>ok1 (B true)) ?_ 0 ⟨by simp only[↓xP,xU,rB,rA,rS],by simp only[↓xP,xU,rB,rA,rS],by simp only[↓xP,xU,rB,rA,rS]; rfl⟩)
 rintro i st ⟨h0,h1,h5⟩ ih
 by_cases hi:i<l.length
 ·obtain ⟨⟨c0,⟨⟨⟨c1,c2⟩,c3,c4,c5,c6⟩,⟨c7,c8,c9⟩,c10,c11,c12,c13⟩⟩,hx⟩:∃ x,l[i]?=some x:=⟨_,List.getElem?_eq_getElem hi⟩
  have hw:=w_succ (i:=i) (by omega)
  have hsx:=hs.2 _ (List.mem_of_getElem? hx)
  simp only[↓xP,xU,rB,rA,rS,h0,h1,h5,hi,hx,hw,Shard.u,ZLx c0 c1 c2 c3 c4 c5 c6 c7 c8 c9 c10 c11 c12 c13 hsx,ne_eq,not_true_eq_false]
  exact ih (i+1) _ (by omega) ⟨by simp only[↓xP,xU,rB,rA,rS,h0],by simp only[↓xP,xU,rB,rA,rS,h1],by simp only[↓xP,xU,rB,rA,rS]⟩
 ·simp only[↓xP,xU,rB,rA,rS,h0,h1,h5,hi]
def Cluster.Small (x:Cluster):Prop:=ZGW x.shards∧ZGC x.clients∧ZGD x.results∧Plan.Small x.work∧True
def ZH8 (x:Cluster) (a:Int):Int:=chkZ (ZHk x.shards a) fun a=>chkZ (ZGS x.clients a) fun a=>chkZ (ZGU x.results a) fun a=>chkZ (ZJf x.work a) fun a=>a
theorem ZKE (c0:(List Shard)) (c1:(List Caller)) (c2:(List Result)) (c3:Int) (c4:Int) (c5:Int) (c6:Str) (c7:Int) (c8:Int) (c9:Int) (c10:Int) (c11:Int) (hf:Cluster.Fit ⟨c0,c1,c2,⟨c3,c4,c5,c6,c7,c8,c9⟩,c10,c11⟩) (left:Int):EE F 14 [.ag [.u (.sl 14 (c0.map Shard.u)),.u (.sl 8 (c1.map Caller.u)),.u (.sl 9 (c2.map Result.u)),.u (.int .i64 c3),.u (.int .i64 c4),.u (.int .i64 c5),.u (.str c6),.u (.int .i64 c7),.u (.int .i64 c8),.u (.int .i64 c9),.u (.int .i64 c10),.u (.int .i64 c11)],I left] []=ok1 (I (ZH8 ⟨c0,c1,c2,⟨c3,c4,c5,c6,c7,c8,c9⟩,c10,c11⟩ left)):=by
 rw [R14,b14]
 simp only[↓xP,xU,rB,rA,rS,ZLl c0 hf.1,ZKC c1 hf.2.1,ZKK c2 hf.2.2.1,ZMw]
 repeat' (refine ZiE (fun h=>?_) (fun h=>?_))
 all_goals (simp only[decide_eq_true_eq,decide_eq_false_iff_not] at *; simp [ZH8,offZ,chkZ, *])
theorem ZKD (x:Cluster) (hf:Cluster.Fit x):LeZ (ZH8 x) (Cluster.Small x):=LeZ.chk (ZLk _ hf.1) (LeZ.chk (ZKB _ hf.2.1) (LeZ.chk (ZKJ _ hf.2.2.1) (LeZ.chk (ZMv _ hf.2.2.2.1) LeZ.id)))
theorem ZIv (c0:(List Shard)) (c1:(List Caller)) (c2:(List Result)) (c3:Int) (c4:Int) (c5:Int) (c6:Str) (c7:Int) (c8:Int) (c9:Int) (c10:Int) (c11:Int) (hs:Cluster.Small ⟨c0,c1,c2,⟨c3,c4,c5,c6,c7,c8,c9⟩,c10,c11⟩):EE F 16 [.ag [.u (.sl 14 (c0.map Shard.u)),.u (.sl 8 (c1.map Caller.u)),.u (.sl 9 (c2.map Result.u)),.u (.int .i64 c3),.u (.int .i64 c4),.u (.int .i64 c5),.u (.str c6),.u (.int .i64 c7),.u (.int .i64 c8),.u (.int .i64 c9),.u (.int .i64 c10),.u (.int .i64 c11)]] []=some ⟨[.ag [.down (.par 0) c0.length,.down (.par 1) c1.length,.own (.par 2) c2.length,.u (.int .i64 c3),.u (.int .i64 c4),.u (.int .i64 c5),.u (.str c6),.u (.int .i64 c7),.u (.int .i64 c8),.u (.int .i64 c9),.u (.int .i64 c10),.u (.int .i64 c11)]],[.deep 14 (c0.map Shard.u),.deep 8 (c1.map Caller.u),.row 9 (c2.map Result.u)],[]⟩:=by
 rw [R16,b16]
 simp only[↓xP,xU,rB,rA,rS,ZLq c0 hs.1,ZKM c1 hs.2.1,ZKP c2 hs.2.2.1,ZMz]
theorem ZId (c0:(List Shard)) (c1:(List Caller)) (c2:(List Result)) (c3:Int) (c4:Int) (c5:Int) (c6:Str) (c7:Int) (c8:Int) (c9:Int) (c10:Int) (c11:Int) (hs:Cluster.Small ⟨c0,c1,c2,⟨c3,c4,c5,c6,c7,c8,c9⟩,c10,c11⟩):EE F 18 [.ag [.u (.sl 14 (c0.map Shard.u)),.u (.sl 8 (c1.map Caller.u)),.u (.sl 9 (c2.map Result.u)),.u (.int .i64 c3),.u (.int .i64 c4),.u (.int .i64 c5),.u (.str c6),.u (.int .i64 c7),.u (.int .i64 c8),.u (.int .i64 c9),.u (.int .i64 c10),.u (.int .i64 c11)],.ag [.u (.sl 14 (c0.map Shard.u)),.u (.sl 8 (c1.map Caller.u)),.u (.sl 9 (c2.map Result.u)),.u (.int .i64 c3),.u (.int .i64 c4),.u (.int .i64 c5),.u (.str c6),.u (.int .i64 c7),.u (.int .i64 c8),.u (.int .i64 c9),.u (.int .i64 c10),.u (.int .i64 c11)]] []=ok1 (B true):=by
 rw [R18,b18]
 simp only[↓xP,xU,rB,rA,rS,ZKY c0 hs.1,ZKi c1 hs.2.1,ZKl c2 hs.2.2.1,ZIz,ne_eq,not_true_eq_false]
/-- All from a number on. -/
def allF (n:Nat) (p:Nat→Bool) (i:Nat):Bool:=if i<n then p i&&allF n p (i+1) else true
termination_by n - i
theorem ZFW {n:Nat} {p:Nat→Bool} {i:Nat} (h:i<n):allF n p i=(p i&&allF n p (i+1)):=by rw [allF,if_pos h]
theorem ZFV {n:Nat} {p:Nat→Bool} {i:Nat} (h:¬i<n):allF n p i=true:=by rw [allF,if_neg h]
theorem ZFC {n:Nat} {p:Nat→Bool}:∀ (k i:Nat),n - i=k→(allF n p i=true↔∀ j,i≤j→j<n→p j=true)
 | 0,i,h=>by
  rw [ZFV (by omega)]
  exact ⟨fun _ j h1 h2=>by omega,fun _=>rfl⟩
 | k+1,i,h=>by
  rw [ZFW (by omega),Bool.and_eq_true,ZFC k (i+1) (by omega)]
  refine ⟨fun ⟨h1,h2⟩ j hj hn=>?_,fun h1=>⟨h1 i (Nat.le_refl _) (by omega),fun j hj hn=>h1 j (by omega) hn⟩⟩
  by_cases e:j=i
  ·subst e; exact h1
  ·exact h2 j (by omega) hn
def inR (n a b:Int):Bool:=decide (a≤n)&&decide (n≤b)
theorem ZY (n a b:Int):EE F 66 [I n,I a,I b] []=ok1 (B (inR n a b)):=by
 rw [R66,b66]
 simp only[↓xP,xT,rL,rB,rA,rS]
 repeat' (refine ZiE (fun h=>?_) (fun h=>?_))
 all_goals (simp_all [inR]<;>(intros; omega))
theorem ZFy (n:Int):EE F 269 [I n] []=ok1 (B (inR n 0 999)):=by
 rw [R269,b269]
 simp only[↓xP,xT,rL,rB,rA,rS]
 repeat' (refine ZiE (fun h=>?_) (fun h=>?_))
 all_goals (simp_all [inR]<;>(intros; omega))
def ZHE (c:UInt8):Bool:=decide (97≤(c.toNat:Int))&&decide ((c.toNat:Int)≤122)
def Z2 (s:Str):Bool:=decide (1≤s.length)&&decide (s.length≤4)&&s.all ZHE
theorem cut1 (n:Nat):vcut (n+1) (some (DI 1)) none=some (1,n+1):=by
 have:(1:Int)≤(n:Int)+1:=by omega
 simp [vcut,D.int?,this]
theorem ZHF:∀ s:Str,EE F 239 [S s] []=ok1 (B (s.all ZHE))
 | []=>by
  rw [R239,b239]
  simp only[↓xP,xT,rL,rB,rA,rS]
 | c::s=>by
  have h2:(List.take (s.length+1) (c::s)).drop 1=s:=by simp
  rw [R239,b239]
  simp only[↓xP,xT,rL,rB,rA,rS,cut1,ZHF s,reduceCtorEq,ZHE,List.take_of_length_le]
  repeat' (refine ZiE (fun h=>?_) (fun h=>?_))
  all_goals (simp_all<;>(intros; omega))
theorem ZFx (s:Str):EE F 179 [S s] []=ok1 (B (Z2 s)):=by
 rw [R179,b179]
 simp only[↓xP,xT,rL,rB,rA,rS,ZHF]
 repeat' (refine ZiE (fun h=>?_) (fun h=>?_))
 all_goals (simp_all [Z2]<;>(intros; omega))
theorem ZFk (s:Str):EE F 221 [S s] []=ok1 (B (Z2 s)):=by
 rw [R221,b221]
 simp only[↓xP,xT,rL,rB,rA,rS,ZY]
 refine ZiE (fun h=>?_) (fun h=>?_)
 ·simp_all [Z2,inR]
  omega
 ·simp only[Bool.not_eq_false',inR,Bool.and_eq_true,decide_eq_true_eq] at h
  refine (Zjc (fun (i:Nat) st=>i≤s.length∧st.s 0=DU (.str s)∧st.s 3=DI i) (fun i=>s.length - i) (fun i=>ok1 (B ((s.drop i).all ZHE))) ?_ 0 ⟨by omega,by simp only[↓xP,xQ,rB],by simp only[↓xP,xQ,rB]; rfl⟩).trans ?_
  ·rintro i st ⟨hle,h0,h3⟩ ih
   by_cases hi:i<s.length
   ·have hc:s[i]?=some s[i]:=List.getElem?_eq_getElem hi
    have hd:s.drop i=s[i]::s.drop (i+1):=List.drop_eq_getElem_cons hi
    have hw:=w_succ (i:=i) (by omega)
    simp only[↓xP,xT,rL,rB,rA,rS,h0,h3,hi,hc,hw]
    rw [hd]
    generalize s[i]=c
    repeat' (refine ZiE (fun h=>?_) (fun h=>?_))
    ·simp_all [ZHE]
     omega
    ·simp_all [ZHE]
     omega
    ·rw [ih (i+1) _ (by omega) ⟨by omega,by simp only[↓xP,xQ,rB,h0],by simp only[↓xP,xQ,rB]⟩]
     simp_all [ZHE]
   ·simp only[↓xP,xT,rL,rB,rA,rS,h0,h3,hi]
    rw [List.drop_of_length_le (by omega)]; rfl
  ·simp [Z2]
   omega
theorem ZJr (s:Str):ZaZ [] s=decide (s≠[]):=by cases s<;>simp [ZaZ,Op.bytesLess]
theorem ZL2 (s:Str):ZaZ s []=false:=by cases s<;>simp [ZaZ,Op.bytesLess]
theorem ZIh (a b:UInt8) (s t:Str):ZaZ (a::s) (b::t)=(decide (a<b)||(a==b&&ZaZ s t)):=rfl
theorem ZGG:∀ s:Str,ZaZ s s=false
 | []=>rfl
 | a::s=>by rw [ZIh,ZGG s]; simp
theorem lt_trans:∀ {s t u:Str},ZaZ s t=true→ZaZ t u=true→ZaZ s u=true
 | _,[],_,h,_=>by rw [ZL2] at h; cases h
 | _,b::t,[],_,h=>by rw [ZL2] at h; cases h
 | [],b::t,c::u,_,_=>by rw [ZJr]; simp
 | a :: s,b::t,c::u,h1,h2=>by
  rw [ZIh] at h1 h2 ⊢
  simp only[Bool.or_eq_true,Bool.and_eq_true,decide_eq_true_eq,beq_iff_eq] at h1 h2 ⊢
  rcases h1 with h1|⟨rfl,h1⟩
  ·rcases h2 with h2|⟨rfl,h2⟩
   ·exact .inl (UInt8.lt_trans h1 h2)
   ·exact .inl h1
  ·rcases h2 with h2|⟨rfl,h2⟩
   ·exact .inl h2
   ·exact .inr ⟨rfl,lt_trans h1 h2⟩
theorem ZJq {s t:Str} (h:ZaZ s t=true):ZaZ t s=false:=by
 cases hq:ZaZ t s with
 | false=>rfl
 | true=>have:=lt_trans h hq; rw [ZGG] at this; cases this
theorem ZIi:∀ (s t:Str),ZaZ s t=true∨s=t∨ZaZ t s=true
 | [],[]=>.inr (.inl rfl)
 | [],b::t=>.inl (by rw [ZJr]; simp)
 | a::s,[]=>.inr (.inr (by rw [ZJr]; simp))
 | a :: s,b::t=>by
  rw [ZIh,ZIh]
  simp only[Bool.or_eq_true,Bool.and_eq_true,decide_eq_true_eq,beq_iff_eq,List.cons.injEq]
  rcases Nat.lt_trichotomy a.toNat b.toNat with h|h|h
  ·exact .inl (.inl (UInt8.lt_iff_toNat_lt.2 h))
  rotate_left
  ·exact .inr (.inr (.inl (UInt8.lt_iff_toNat_lt.2 h)))
  ·have h:=UInt8.toNat_inj.1 h
   subst h
   rcases ZIi s t with h|h|h
   ·exact .inl (.inr ⟨rfl,h⟩)
   ·exact .inr (.inl ⟨rfl,h⟩)
   ·exact .inr (.inr (.inr ⟨rfl,h⟩))
/-- For other strings 'at most' is 'not greater'. -/
theorem ZIB (s t:Str):(ZaZ s t||decide (s=t))=!ZaZ t s:=by
 rcases ZIi s t with h|h|h
 ·simp [h,ZJq h]
 ·subst h; simp [ZGG]
 ·have h1:=ZJq h
  have h2:¬s=t:=fun e=>by subst e; rw [ZGG] at h; cases h
  simp [h,h1,h2]
def ZG (v:Interval):Bool:=(decide (v.low=[])||Z2 v.low)&&(decide (v.high=[])||Z2 v.high)&&(decide (v.high=[])||ZaZ (if v.low=[] then [97] else v.low) v.high)
theorem ZKo (lo hi:Str):EE F 180 [.ag [.u (.str lo),.u (.str hi)]] []=ok1 (S (if lo=[] then [97] else lo)):=by
 rw [R180,b180]
 simp only[↓xP,xT,rL,rB,rA,rS]
 repeat' (refine ZiE (fun h=>?_) (fun h=>?_))
 all_goals simp_all
theorem ZW (lo hi:Str):EE F 110 [.ag [.u (.str lo),.u (.str hi)]] []=ok1 (B (ZG ⟨lo,hi⟩)):=by
 rw [R110,b110]
 simp only[↓xP,xT,rL,rB,rA,rS,ZFx,ZKo]
 repeat' (refine ZiE (fun h=>?_) (fun h=>?_))
 all_goals simp_all [ZG]
/-- A valid key after "a". -/
theorem lt_a {s:Str} (h:Z2 s=true):ZaZ [97] s=decide (s≠[97]):=by
 match s,h with
 | [],h=>simp [Z2] at h
 | c :: t,h=>
  simp only[Z2,ZHE,List.all_cons,Bool.and_eq_true,decide_eq_true_eq] at h
  have hc:97≤c.toNat:=by omega
  rw [ZIh,ZJr]
  by_cases e:c=97
  ·subst e; simp
  ·have h1:(97:UInt8)<c:=by
    rw [UInt8.lt_iff_toNat_lt]
    have:c.toNat≠97:=fun q=>e (UInt8.toNat_inj.1 q)
    show 97<c.toNat
    omega
   simp [h1,e]
theorem ZFe (lo hi:Str):EE F 213 [.ag [.u (.str lo),.u (.str hi)]] []=ok1 (B (ZG ⟨lo,hi⟩)):=by
 rw [R213,b213]
 simp only[↓xP,xT,rL,rB,rA,rS,ZFk]
 repeat' (refine ZiE (fun h=>?_) (fun h=>?_))
 all_goals simp_all [ZG,ZJr,lt_a]
/-- A key is between the bounds. -/
def ZFn (v:Interval) (key:Str):Bool:=!ZaZ key v.low&&(decide (v.high=[])||ZaZ key v.high)
theorem ZJ5 (lo hi key:Str):EE F 219 [.ag [.u (.str lo),.u (.str hi)],S key] []=ok1 (B (ZFn ⟨lo,hi⟩ key)):=by
 rw [R219,b219]
 simp only[↓xP,xT,rL,rB,rA,rS,ZIB]
 repeat' (refine ZiE (fun h=>?_) (fun h=>?_))
 all_goals simp_all [ZFn]
def ZFF (v:Interval) (key:Str):Bool:=ZG v&&Z2 key&&ZFn v key
theorem ZFE (lo hi key:Str):EE F 215 [.ag [.u (.str lo),.u (.str hi)],S key] []=ok1 (B (ZFF ⟨lo,hi⟩ key)):=by
 rw [R215,b215]
 simp only[↓xP,xT,rL,rB,rA,rS,ZFe,ZFk]
 repeat' (refine ZiE (fun h=>?_) (fun h=>?_))
 all_goals simp_all [ZFF,ZFn]
def ZFp (l:List Pair) (i:Nat):Bool:=match l[i]? with
 | some p=>Z2 p.key&&inR p.value 0 999&&(decide (i=0)||(match l[i - 1]? with
  | some q=>ZaZ q.key p.key
  | none=>true))
 | none=>true
def ZA (l:List Pair):Bool:=decide (l.length≤48)&&allF l.length (ZFp l) 0
theorem ZFq (l:List Pair):EE F 217 [L 2 (l.map Pair.u)] []=ok1 (B (ZA l)):=by
 rw [R217,b217]
 simp only[↓xP,xT,rL,rB,rA,rS]
 refine ZiE (fun h=>?_) (fun h=>?_)
 ·simp only[decide_eq_true_eq] at h
  simp [ZA,show ¬l.length≤48 by omega]
 ·simp only[decide_eq_false_iff_not] at h
  refine (Zjc (fun (i:Nat) st=>st.s 0=DU (.sl 2 (l.map Pair.u))∧st.s 8=DU (.sl 2 (l.map Pair.u))∧st.s 9=DI l.length∧st.s 10=DI i) (fun i=>l.length - i) (fun i=>ok1 (B (allF l.length (ZFp l) i))) ?_ 0 ⟨by simp only[↓xP,xT,rL,rB,rA,rS],by simp only[↓xP,xT,rL,rB,rA,rS],by simp only[↓xP,xT,rL,rB,rA,rS],by simp only[↓xP,xT,rL,rB,rA,rS]; rfl⟩).trans ?_
  ·rintro i st ⟨h0,h8,h9,h10⟩ ih
   by_cases hi:i<l.length
   ·obtain ⟨⟨pk,pv⟩,hp⟩:∃ p,l[i]?=some p:=⟨_,List.getElem?_eq_getElem hi⟩
    have hw:=w_succ (i:=i) (by omega)
    rw [ZFW hi]
    by_cases hz:i=0
    ·have h01:¬(0:Int)<(i:Int):=by omega
     simp only[↓xP,xT,rL,rB,rA,rS,h0,h8,h9,h10,hi,hp,hw,h01,Pair.u,ZFx,ZFy]
     repeat' (refine ZiE (fun h=>?_) (fun h=>?_))
     ·simp_all [ZFp]
     ·simp_all [ZFp]
     ·rw [ih (i+1) _ (by omega) ⟨by simp only[↓xP,xT,rL,rB,rA,rS,h0],by simp only[↓xP,xT,rL,rB,rA,rS,h8],by simp only[↓xP,xT,rL,rB,rA,rS,h9],by simp only[↓xP,xT,rL,rB,rA,rS]⟩]
      simp_all [ZFp]
    ·obtain ⟨⟨qk,qv⟩,hq⟩:∃ q,l[i - 1]?=some q:=⟨_,List.getElem?_eq_getElem (by omega)⟩
     have hw2:IntKind.i64.wrap ((i:Int) - 1)=((i - 1:Nat):Int):=by rw [w64 (by omega) (by omega)]; omega
     have h01:(0:Int)<(i:Int):=by omega
     simp only[↓xP,xT,rL,rB,rA,rS,h0,h8,h9,h10,hi,hp,hw,hw2,hq,h01,Pair.u,ZFx,ZFy]
     repeat' (refine ZiE (fun h=>?_) (fun h=>?_))
     ·simp_all [ZFp]
     ·simp_all [ZFp]
     ·simp_all [ZFp]
     ·rw [ih (i+1) _ (by omega) ⟨by simp only[↓xP,xT,rL,rB,rA,rS,h0],by simp only[↓xP,xT,rL,rB,rA,rS,h8],by simp only[↓xP,xT,rL,rB,rA,rS,h9],by simp only[↓xP,xT,rL,rB,rA,rS]⟩]
      simp_all [ZFp]
   ·simp only[↓xP,xT,rL,rB,rA,rS,h0,h8,h9,h10,hi]
    rw [ZFV hi]
  ·simp [ZA,show l.length≤48 by omega]
theorem Z6 (l:List Pair):EE F 162 [L 2 (l.map Pair.u)] []=ok1 (B (ZA l)):=by
  rw [R162,b162]
  simp only[↓xP,xT,rL,rB,rA,rS]
  refine ZiE (fun h=>?_) (fun h=>?_)
  · simp only[decide_eq_true_eq] at h
    simp [ZA,show ¬l.length≤48 by omega]
  · simp only[decide_eq_false_iff_not] at h
    refine (Zjc (fun (i:Nat) st=>st.s 0=DU (.sl 2 (l.map Pair.u))∧st.s 3=DI i) (fun i=>l.length - i) (fun i=>ok1 (B (allF l.length (ZFp l) i))) ?_ 0 ⟨by simp only[↓xP,xT,rL,rB,rA,rS],by simp only[↓xP,xT,rL,rB,rA,rS]; rfl⟩).trans ?_
    · rintro i st ⟨h0,h3⟩ ih
      by_cases hi:i<l.length
      · obtain ⟨⟨pk,pv⟩,hp⟩:∃ p,l[i]?=some p:=⟨_,List.getElem?_eq_getElem hi⟩
        have hw:=w_succ (i:=i) (by omega)
        rw [ZFW hi]
        by_cases hz:i=0
        · have h01:¬(0:Int)<(i:Int):=by omega
          simp only[↓xP,xT,rL,rB,rA,rS,h0,h3,hi,hp,hw,h01,Pair.u,ZFk,ZY]
          repeat' (refine ZiE (fun h=>?_) (fun h=>?_))
          · simp_all [ZFp]
          · simp_all [ZFp]
          · rw [ih (i+1) _ (by omega) ⟨by simp only[↓xP,xT,rL,rB,rA,rS,h0],by simp only[↓xP,xT,rL,rB,rA,rS]⟩]
            simp_all [ZFp]
        · obtain ⟨⟨qk,qv⟩,hq⟩:∃ q,l[i - 1]?=some q:=⟨_,List.getElem?_eq_getElem (by omega)⟩
          have hw2:IntKind.i64.wrap ((i:Int) - 1)=((i - 1:Nat):Int):=by rw [w64 (by omega) (by omega)]; omega
          have h01:(0:Int)<(i:Int):=by omega
          simp only[↓xP,xT,rL,rB,rA,rS,h0,h3,hi,hp,hw,hw2,hq,h01,Pair.u,ZFk,ZY,ZIB]
          repeat' (refine ZiE (fun h=>?_) (fun h=>?_))
          · simp_all [ZFp]
          · simp_all [ZFp]
          · simp_all [ZFp]
          · rw [ih (i+1) _ (by omega) ⟨by simp only[↓xP,xT,rL,rB,rA,rS,h0],by simp only[↓xP,xT,rL,rB,rA,rS]⟩]
            simp_all [ZFp]
      · simp only[↓xP,xT,rL,rB,rA,rS,h0,h3,hi]
        rw [ZFV hi]
    · simp [ZA,show l.length≤48 by omega]
theorem ZHT {l:List Pair} (h:ZA l=true) {i:Nat} {p:Pair} (hp:l[i]?=some p):Z2 p.key=true∧inR p.value 0 999=true:=by
 simp only[ZA,Bool.and_eq_true,decide_eq_true_eq] at h
 have:=(ZFC _ 0 rfl).1 h.2 i (by omega) (List.getElem?_eq_some_iff.1 hp).1
 simp only[ZFp,hp,Bool.and_eq_true] at this
 exact this.1
theorem ZI6 (n:Int):EE F 199 [I n] []=ok1 (B (inR n 1 3)):=by
 rw [R199,b199]
 simp only[↓xP,xT,rL,rB,rA,rS]
 repeat' (refine ZiE (fun h=>?_) (fun h=>?_))
 all_goals (simp_all [inR]<;>(intros; omega))
theorem ZHq (n:Int):EE F 203 [I n] []=ok1 (B (inR n 0 4)):=by
 rw [R203,b203]
 simp only[↓xP,xT,rL,rB,rA,rS]
 repeat' (refine ZiE (fun h=>?_) (fun h=>?_))
 all_goals (simp_all [inR]<;>(intros; omega))
theorem ZGb (n:Int):EE F 202 [I n] []=ok1 (B (inR n 0 7)):=by
 rw [R202,b202]
 simp only[↓xP,xT,rL,rB,rA,rS]
 repeat' (refine ZiE (fun h=>?_) (fun h=>?_))
 all_goals (simp_all [inR]<;>(intros; omega))
theorem ZG5 (n:Int):EE F 200 [I n] []=ok1 (B (inR n 1 999)):=by
 rw [R200,b200]
 simp only[↓xP,xT,rL,rB,rA,rS]
 repeat' (refine ZiE (fun h=>?_) (fun h=>?_))
 all_goals (simp_all [inR]<;>(intros; omega))
def Z5 (c:Command):Bool:=(Z2 c.key||decide (c.kind=5)&&decide (c.key=[])) &&
 ((decide (c.kind=1)||decide (c.kind=3)||decide (c.kind=5))&&decide (c.value=0)&&decide (c.old=0)||decide (c.kind=2)&&inR c.value 0 999&&decide (c.old=0)||decide (c.kind=4)&&inR c.value 0 999&&inR c.old (-1) 999)
theorem ZKS (k:Int):k=1∨k=2∨k=3∨k=4∨k=5∨(k<1∧¬5<k∧¬k=1∧¬k=2∧¬k=3∧¬k=4∧¬k=5)∨(¬k<1∧5<k∧¬k=1∧¬k=2∧¬k=3∧¬k=4∧¬k=5):=by omega
theorem ZF7 (k:Int) (key:Str) (v o:Int):EE F 229 [.ag [.u (.int .i64 k),.u (.str key),.u (.int .i64 v),.u (.int .i64 o)]] []=ok1 (B (Z5 ⟨k,key,v,o⟩)):=by
 rw [R229,b229]
 rcases ZKS k with h|h|h|h|h|h|h<;>(try subst h)<;>(try obtain ⟨_,_,_,_,_,_,_⟩:=h)<;>simp only[↓xP,xT,rL,rB,rA,rS,ZFk,ZY, *]<;>
  repeat' (refine ZiE (fun h=>?_) (fun h=>?_))
 all_goals (simp_all [Z5]<;>(intros; omega))
theorem ZF6 (k:Int) (key:Str) (v o:Int):EE F 234 [.ag [.u (.int .i64 k),.u (.str key),.u (.int .i64 v),.u (.int .i64 o)]] []=ok1 (B (Z5 ⟨k,key,v,o⟩)):=by
 rw [R234,b234]
 rcases ZKS k with h|h|h|h|h|h|h<;>(try subst h)<;>(try obtain ⟨_,_,_,_,_,_,_⟩:=h)<;>simp only[↓xP,xT,rL,rB,rA,rS,ZFx,ZFy, *]<;>
  repeat' (refine ZiE (fun h=>?_) (fun h=>?_))
 all_goals first|(simp_all [Z5,inR]; done)|(simp_all [Z5,inR]<;>(intros; omega))|(simp_all [Z5,inR]; rw [Bool.eq_iff_iff]; simp; omega)
def ZGM (c:Command):Bool:=Z5 c&&!decide (c.kind=5)
theorem ZJn (k:Int) (key:Str) (v o:Int):EE F 190 [.ag [.u (.int .i64 k),.u (.str key),.u (.int .i64 v),.u (.int .i64 o)]] []=ok1 (B (ZGM ⟨k,key,v,o⟩)):=by
 rw [R190,b190]
 simp only[↓xP,xT,rL,rB,rA,rS,ZF7]
 repeat' (refine ZiE (fun h=>?_) (fun h=>?_))
 all_goals (simp_all [ZGM])
theorem ZIw (k:Int) (key:Str) (v o:Int):EE F 198 [.ag [.u (.int .i64 k),.u (.str key),.u (.int .i64 v),.u (.int .i64 o)]] []=ok1 (B (ZGM ⟨k,key,v,o⟩)):=by
 rw [R198,b198]
 simp only[↓xP,xT,rL,rB,rA,rS,ZF6]
 repeat' (refine ZiE (fun h=>?_) (fun h=>?_))
 all_goals (simp_all [ZGM])
def ZT (e:Entry):Bool:=inR e.client 0 3&&inR e.seq 1 999&&Z5 e.cmd
theorem ZF0 (c s k:Int) (key:Str) (v o:Int):EE F 169 [.ag [.u (.int .i64 c),.u (.int .i64 s),.u (.int .i64 k),.u (.str key),.u (.int .i64 v),.u (.int .i64 o)]] []=ok1 (B (ZT ⟨c,s,⟨k,key,v,o⟩⟩)):=by
 rw [R169,b169]
 simp only[↓xP,xT,rL,rB,rA,rS,ZF7,ZY]
 repeat' (refine ZiE (fun h=>?_) (fun h=>?_))
 all_goals (simp_all [ZT])
theorem ZGz (c s k:Int) (key:Str) (v o:Int):EE F 175 [.ag [.u (.int .i64 c),.u (.int .i64 s),.u (.int .i64 k),.u (.str key),.u (.int .i64 v),.u (.int .i64 o)]] []=ok1 (B (ZT ⟨c,s,⟨k,key,v,o⟩⟩)):=by
 rw [R175,b175]
 simp only[↓xP,xT,rL,rB,rA,rS,ZF6,ZG5]
 repeat' (refine ZiE (fun h=>?_) (fun h=>?_))
 all_goals first|(simp_all [ZT,inR]; done)|(simp_all [ZT,inR]<;>(intros; omega))|(simp_all [ZT,inR]; rw [Bool.eq_iff_iff]; simp; omega)
def ZFr (p:Plan):Bool:=inR p.first 0 7&&(decide (p.kind=1)&&Z2 p.key&&decide (p.second=0)&&decide (p.from_=0)&&decide (p.to_=0)&&decide (p.step=0) ||
 decide (p.kind=2)&&inR p.second 0 7&&!decide (p.second=p.first)&&decide (p.key=[])&&decide (p.from_=0)&&decide (p.to_=0)&&decide (p.step=0) ||
 decide (p.kind=3)&&inR p.from_ 0 4&&inR p.to_ 0 4&&!decide (p.from_=p.to_)&&inR p.step 0 1&&decide (p.second=0)&&decide (p.key=[]))
theorem ZKb (k:Int):k=1∨k=2∨k=3∨(¬k=1∧¬k=2∧¬k=3):=by omega
theorem ZJv (k f s:Int) (key:Str) (a b c:Int):EE F 186 [.ag [.u (.int .i64 k),.u (.int .i64 f),.u (.int .i64 s),.u (.str key),.u (.int .i64 a),.u (.int .i64 b),.u (.int .i64 c)]] []=ok1 (B (ZFr ⟨k,f,s,key,a,b,c⟩)):=by
 rw [R186,b186]
 rcases ZKb k with h|h|h|h<;>(try subst h)<;>(try obtain ⟨_,_,_⟩:=h)<;>simp only[↓xP,xT,rL,rB,rA,rS,ZFk,ZY, *]<;>
  repeat' (refine ZiE (fun h=>?_) (fun h=>?_))
 all_goals first|(simp_all [ZFr]; done)|(simp_all [ZFr]<;>(intros; omega))|(simp_all [ZFr]; rw [Bool.eq_iff_iff]; simp; omega)
theorem ZJu (k f s:Int) (key:Str) (a b c:Int):EE F 128 [.ag [.u (.int .i64 k),.u (.int .i64 f),.u (.int .i64 s),.u (.str key),.u (.int .i64 a),.u (.int .i64 b),.u (.int .i64 c)]] []=ok1 (B (ZFr ⟨k,f,s,key,a,b,c⟩)):=by
 rw [R128,b128]
 rcases ZKb k with h|h|h|h<;>(try subst h)<;>(try obtain ⟨_,_,_⟩:=h)<;>simp only[↓xP,xT,rL,rB,rA,rS,ZFx,ZGb,ZHq, *]<;>
  repeat' (refine ZiE (fun h=>?_) (fun h=>?_))
 all_goals first|(simp_all [ZFr]; done)|(simp_all [ZFr,inR]<;>(intros; omega))|(simp_all [ZFr,Bool.and_assoc]; done)|(simp_all [ZFr,inR]; rw [Bool.eq_iff_iff]; simp; omega)
def ZHA (v:Interval) (key:Str):Bool:=ZG v&&Z2 key&&ZG ⟨v.low,key⟩&&ZG ⟨key,v.high⟩
def ZG9 (v:Interval) (key:Str):Option Ret:=sel (ZHA v key) (some ⟨[.ag [.u (.str v.low),.u (.str key)],.ag [.u (.str key),.u (.str v.high)],B true],[],[]⟩) (some ⟨[.ag [.u (.str []),.u (.str [])],.ag [.u (.str []),.u (.str [])],B false],[],[]⟩)
theorem ZHe (lo hi key:Str):EE F 216 [.ag [.u (.str lo),.u (.str hi)],S key] []=ZG9 ⟨lo,hi⟩ key:=by
 rw [R216,b216]
 simp only[↓xP,xT,rL,rB,rA,rS,ZFe,ZFk]
 repeat' (refine ZiE (fun h=>?_) (fun h=>?_))
 all_goals simp_all [ZHA,ZG9,sel]
theorem ZGe (lo hi key:Str):EE F 220 [.ag [.u (.str lo),.u (.str hi)],S key] []=ZG9 ⟨lo,hi⟩ key:=by
 rw [R220,b220]
 simp only[↓xP,xT,rL,rB,rA,rS,ZW,ZFx]
 repeat' (refine ZiE (fun h=>?_) (fun h=>?_))
 all_goals simp_all [ZHA,ZG9,sel]
def ZGA (a b:Interval):Bool:=ZG a&&ZG b&&!decide (a.high=[])&&decide (a.high=b.low)
def ZG3 (a b:Interval):Option Ret:=sel (ZGA a b) (some ⟨[.ag [.u (.str a.low),.u (.str b.high)],B true],[],[]⟩) (some ⟨[.ag [.u (.str []),.u (.str [])],B false],[],[]⟩)
theorem ZG2 (al ah bl bh:Str):EE F 157 [.ag [.u (.str al),.u (.str ah)],.ag [.u (.str bl),.u (.str bh)]] []=ZG3 ⟨al,ah⟩ ⟨bl,bh⟩:=by
 rw [R157,b157]
 simp only[↓xP,xT,rL,rB,rA,rS,ZFe]
 repeat' (refine ZiE (fun h=>?_) (fun h=>?_))
 all_goals simp_all [ZGA,ZG3,sel]
theorem ZG1 (al ah bl bh:Str):EE F 160 [.ag [.u (.str al),.u (.str ah)],.ag [.u (.str bl),.u (.str bh)]] []=ZG3 ⟨al,ah⟩ ⟨bl,bh⟩:=by
 rw [R160,b160]
 simp only[↓xP,xT,rL,rB,rA,rS,ZW]
 repeat' (refine ZiE (fun h=>?_) (fun h=>?_))
 all_goals simp_all [ZGA,ZG3,sel]
def Z1 (l:List Session) (i:Nat):Bool:=match l[i]? with
 | none=>true
 | some s=>inR s.client 0 3&&inR s.seq 1 999&&inR s.reply (-2) 999&&(decide (i=0)||(match l[i - 1]? with
  | some r=>decide (r.client<s.client)
  | none=>true))
def ZI (l:List Session):Bool:=allF l.length (Z1 l) 0
theorem ZFH (l:List Session) (hn:l.length≤4611686018427387904):EE F 214 [L 3 (l.map Session.u)] []=ok1 (B (ZI l)):=by
 rw [R214,b214]
 simp only[↓xP,xT,rL,rB,rA,rS]
 refine (Zjc (fun (i:Nat) st=>st.s 0=DU (.sl 3 (l.map Session.u))∧st.s 3=DI i) (fun i=>l.length - i) (fun i=>ok1 (B (allF l.length (Z1 l) i))) ?_ 0 ⟨by simp only[↓xP,xT,rL,rB,rA,rS],by simp only[↓xP,xT,rL,rB,rA,rS]; rfl⟩).trans ?_
 ·rintro i st ⟨h0,h3⟩ ih
  by_cases hi:i<l.length
  ·obtain ⟨⟨c,s,r⟩,hp⟩:∃ p,l[i]?=some p:=⟨_,List.getElem?_eq_getElem hi⟩
   have hw:=w_succ (i:=i) (by omega)
   rw [ZFW hi]
   by_cases hz:i=0
   ·have h01:¬(0:Int)<(i:Int):=by omega
    simp only[↓xP,xT,rL,rB,rA,rS,h0,h3,hi,hp,hw,h01,Session.u,ZY]
    repeat' (refine ZiE (fun h=>?_) (fun h=>?_))
    all_goals first|(rw [ih (i+1) _ (by omega) ⟨by simp only[↓xP,xT,rL,rB,rA,rS,h0],by simp only[↓xP,xT,rL,rB,rA,rS]⟩]; simp_all [Z1]; done)|(simp_all [Z1]; done)
   ·obtain ⟨⟨qc,qs,qr⟩,hq⟩:∃ q,l[i - 1]?=some q:=⟨_,List.getElem?_eq_getElem (by omega)⟩
    have hw2:IntKind.i64.wrap ((i:Int) - 1)=((i - 1:Nat):Int):=by rw [w64 (by omega) (by omega)]; omega
    have h01:(0:Int)<(i:Int):=by omega
    simp only[↓xP,xT,rL,rB,rA,rS,h0,h3,hi,hp,hw,hw2,hq,h01,Session.u,ZY]
    repeat' (refine ZiE (fun h=>?_) (fun h=>?_))
    all_goals first|(rw [ih (i+1) _ (by omega) ⟨by simp only[↓xP,xT,rL,rB,rA,rS,h0],by simp only[↓xP,xT,rL,rB,rA,rS]⟩]; simp_all [Z1]; done)|(simp_all [Z1]; done)|(simp_all [Z1]<;>(intros; omega))
  ·simp only[↓xP,xT,rL,rB,rA,rS,h0,h3,hi]
   rw [ZFV hi]
 ·rfl
theorem ZF2 (l:List Session) (hn:l.length≤4611686018427387904):EE F 218 [L 3 (l.map Session.u)] []=ok1 (B (ZI l)):=by
 rw [R218,b218]
 simp only[↓xP,xT,rL,rB,rA,rS]
 refine (Zjc (fun (i:Nat) st=>st.s 0=DU (.sl 3 (l.map Session.u))∧st.s 5=DU (.sl 3 (l.map Session.u))∧st.s 6=DI l.length∧st.s 7=DI i) (fun i=>l.length - i) (fun i=>ok1 (B (allF l.length (Z1 l) i))) ?_ 0 ⟨by simp only[↓xP,xT,rL,rB,rA,rS],by simp only[↓xP,xT,rL,rB,rA,rS],by simp only[↓xP,xT,rL,rB,rA,rS],by simp only[↓xP,xT,rL,rB,rA,rS]; rfl⟩).trans ?_
 ·rintro i st ⟨h0,h5,h6,h7⟩ ih
  by_cases hi:i<l.length
  ·obtain ⟨⟨c,s,r⟩,hp⟩:∃ p,l[i]?=some p:=⟨_,List.getElem?_eq_getElem hi⟩
   have hw:=w_succ (i:=i) (by omega)
   rw [ZFW hi]
   by_cases hz:i=0
   ·have h01:¬(0:Int)<(i:Int):=by omega
    simp only[↓xP,xT,rL,rB,rA,rS,h0,h5,h6,h7,hi,hp,hw,h01,Session.u,ZG5]
    repeat' (refine ZiE (fun h=>?_) (fun h=>?_))
    all_goals first|(rw [ih (i+1) _ (by omega) ⟨by simp only[↓xP,xT,rL,rB,rA,rS,h0],by simp only[↓xP,xT,rL,rB,rA,rS,h5],by simp only[↓xP,xT,rL,rB,rA,rS,h6],by simp only[↓xP,xT,rL,rB,rA,rS]⟩]; simp_all [Z1,inR]; done)|(rw [ih (i+1) _ (by omega) ⟨by simp only[↓xP,xT,rL,rB,rA,rS,h0],by simp only[↓xP,xT,rL,rB,rA,rS,h5],by simp only[↓xP,xT,rL,rB,rA,rS,h6],by simp only[↓xP,xT,rL,rB,rA,rS]⟩]; simp_all [Z1,inR]<;>(intros; omega))|(simp_all [Z1,inR]; done)|(simp_all [Z1,inR]<;>(intros; omega))
   ·obtain ⟨⟨qc,qs,qr⟩,hq⟩:∃ q,l[i - 1]?=some q:=⟨_,List.getElem?_eq_getElem (by omega)⟩
    have hw2:IntKind.i64.wrap ((i:Int) - 1)=((i - 1:Nat):Int):=by rw [w64 (by omega) (by omega)]; omega
    have h01:(0:Int)<(i:Int):=by omega
    simp only[↓xP,xT,rL,rB,rA,rS,h0,h5,h6,h7,hi,hp,hw,hw2,hq,h01,Session.u,ZG5]
    repeat' (refine ZiE (fun h=>?_) (fun h=>?_))
    all_goals first|(rw [ih (i+1) _ (by omega) ⟨by simp only[↓xP,xT,rL,rB,rA,rS,h0],by simp only[↓xP,xT,rL,rB,rA,rS,h5],by simp only[↓xP,xT,rL,rB,rA,rS,h6],by simp only[↓xP,xT,rL,rB,rA,rS]⟩]; simp_all [Z1,inR]; done)|(rw [ih (i+1) _ (by omega) ⟨by simp only[↓xP,xT,rL,rB,rA,rS,h0],by simp only[↓xP,xT,rL,rB,rA,rS,h5],by simp only[↓xP,xT,rL,rB,rA,rS,h6],by simp only[↓xP,xT,rL,rB,rA,rS]⟩]; simp_all [Z1,inR]<;>(intros; omega))|(simp_all [Z1,inR]; done)|(simp_all [Z1,inR]<;>(intros; omega))
  ·simp only[↓xP,xT,rL,rB,rA,rS,h0,h5,h6,h7,hi]
   rw [ZFV hi]
 ·rfl
def ZD (s:State):Bool:=ZG s.span&&ZA s.pairs&&ZI s.known&&(s.pairs.all fun q=>ZFn s.span q.key)&&(decide (s.cut=[])||s.sealed&&ZHA s.span s.cut)
theorem ZM {l:List Pair} (h:ZA l=true):l.length≤48:=by
 simp only[ZA,Bool.and_eq_true,decide_eq_true_eq] at h; exact h.1
theorem ZFs (lo hi:Str) (l:List Pair) (k:List Session) (se:Bool) (cut:Str) (hn:k.length≤4611686018427387904):EE F 158 [.ag [.u (.str lo),.u (.str hi),.u (.sl 2 (l.map Pair.u)),.u (.sl 3 (k.map Session.u)),.u (.bool se),.u (.str cut)]] []=ok1 (B (ZD ⟨⟨lo,hi⟩,l,k,se,cut⟩)):=by
 rw [R158,b158]
 simp only[↓xP,xT,rL,rB,rA,rS,ZW,ZFq,ZF2 k hn]
 refine ZiE (fun h=>?_) (fun h=>?_)
 ·simp_all [ZD]
 refine ZiE (fun h2=>?_) (fun h2=>?_)
 ·simp_all [ZD]
 refine ZiE (fun h3=>?_) (fun h3=>?_)
 ·simp_all [ZD]
 simp only[Bool.not_eq_false'] at h h2 h3
 have hlen:=ZM h2
 refine (Zjc (fun (i:Nat) st=>st.s 1=.t (.sc (.ptr (.loc 1 0) 0 0))∧st.o (.loc 1 0)=some (.box [.u (.str lo),.u (.str hi),.u (.sl 2 (l.map Pair.u)),.u (.sl 3 (k.map Session.u)),.u (.bool se),.u (.str cut)])∧st.s 25=DU (.sl 2 (l.map Pair.u))∧st.s 26=DI l.length∧st.s 27=DI i) (fun i=>l.length - i) (fun i=>ok1 (B (((l.drop i).all fun q=>ZFn ⟨lo,hi⟩ q.key)&&(decide (cut=[])||se&&ZHA ⟨lo,hi⟩ cut)))) ?_ 0 ⟨by simp only[↓xP,xT,rL,rB,rA,rS],by simp only[↓xP,xT,rL,rB,rA,rS],by simp only[↓xP,xT,rL,rB,rA,rS],by simp only[↓xP,xT,rL,rB,rA,rS],by simp only[↓xP,xT,rL,rB,rA,rS]; rfl⟩).trans ?_
 ·rintro i st ⟨h1,ho,h25,h26,h27⟩ ih
  by_cases hi':i<l.length
  ·obtain ⟨⟨pk,pv⟩,hp⟩:∃ p,l[i]?=some p:=⟨_,List.getElem?_eq_getElem hi'⟩
   have hd:l.drop i=⟨pk,pv⟩::l.drop (i+1):=by rw [List.drop_eq_getElem_cons hi',(List.getElem?_eq_some_iff.1 hp).2]
   have hw:=w_succ (i:=i) (by omega)
   simp only[↓xP,xT,rL,rB,rA,rS,h1,ho,h25,h26,h27,hi',hp,hw,Pair.u,ZJ5]
   rw [hd]
   refine ZiE (fun h=>?_) (fun h=>?_)
   ·simp_all
   ·rw [ih (i+1) _ (by omega) ⟨by simp only[↓xP,xT,rL,rB,rA,rS,h1],by simp only[↓xP,xT,rL,rB,rA,rS,ho],by simp only[↓xP,xT,rL,rB,rA,rS,h25],by simp only[↓xP,xT,rL,rB,rA,rS,h26],by simp only[↓xP,xT,rL,rB,rA,rS]⟩]
    simp_all
  ·simp only[↓xP,xT,rL,rB,rA,rS,h1,ho,h25,h26,h27,hi',ZGe]
   rw [List.drop_of_length_le (by omega)]
   refine ZiE (fun h=>?_) (fun h=>?_)
   ·simp_all
   cases hc:ZHA ⟨lo,hi⟩ cut<;>simp only[↓xP,xT,rL,rB,rA,rS,ZG9,hc,h1,ho]
   all_goals repeat' (refine ZiE (fun h=>?_) (fun h=>?_))
   all_goals simp_all
 ·simp [ZD,h,h2,h3]
theorem ZFt (lo hi:Str) (l:List Pair) (k:List Session) (se:Bool) (cut:Str) (hn:k.length≤4611686018427387904):EE F 155 [.ag [.u (.str lo),.u (.str hi),.u (.sl 2 (l.map Pair.u)),.u (.sl 3 (k.map Session.u)),.u (.bool se),.u (.str cut)]] []=ok1 (B (ZD ⟨⟨lo,hi⟩,l,k,se,cut⟩)):=by
 rw [R155,b155]
 simp only[↓xP,xT,rL,rB,rA,rS,ZFe,Z6,ZFH k hn]
 refine ZiE (fun h=>?_) (fun h=>?_)
 ·simp_all [ZD]
 refine ZiE (fun h2=>?_) (fun h2=>?_)
 ·simp_all [ZD]
 refine ZiE (fun h3=>?_) (fun h3=>?_)
 ·simp_all [ZD]
 simp only[Bool.not_eq_false'] at h h2 h3
 have hlen:=ZM h2
 refine (Zjc (fun (i:Nat) st=>st.s 1=.t (.sc (.ptr (.loc 1 0) 0 0))∧st.o (.loc 1 0)=some (.box [.u (.str lo),.u (.str hi),.u (.sl 2 (l.map Pair.u)),.u (.sl 3 (k.map Session.u)),.u (.bool se),.u (.str cut)])∧st.s 3=DI i) (fun i=>l.length - i) (fun i=>ok1 (B (((l.drop i).all fun q=>ZFn ⟨lo,hi⟩ q.key)&&(decide (cut=[])||se&&ZHA ⟨lo,hi⟩ cut)))) ?_ 0 ⟨by simp only[↓xP,xT,rL,rB,rA,rS],by simp only[↓xP,xT,rL,rB,rA,rS],by simp only[↓xP,xT,rL,rB,rA,rS]; rfl⟩).trans ?_
 ·rintro i st ⟨h1,ho,h3'⟩ ih
  by_cases hi':i<l.length
  ·obtain ⟨⟨pk,pv⟩,hp⟩:∃ p,l[i]?=some p:=⟨_,List.getElem?_eq_getElem hi'⟩
   have hd:l.drop i=⟨pk,pv⟩::l.drop (i+1):=by rw [List.drop_eq_getElem_cons hi',(List.getElem?_eq_some_iff.1 hp).2]
   have hw:=w_succ (i:=i) (by omega)
   have hk:=(ZHT h2 hp).1
   simp only[↓xP,xT,rL,rB,rA,rS,h1,ho,h3',hi',hp,hw,Pair.u,ZFE]
   rw [hd]
   refine ZiE (fun h=>?_) (fun h=>?_)
   ·simp_all [ZFF]
   ·rw [ih (i+1) _ (by omega) ⟨by simp only[↓xP,xT,rL,rB,rA,rS,h1],by simp only[↓xP,xT,rL,rB,rA,rS,ho],by simp only[↓xP,xT,rL,rB,rA,rS]⟩]
    simp_all [ZFF]
  ·simp only[↓xP,xT,rL,rB,rA,rS,h1,ho,h3',hi',ZHe]
   rw [List.drop_of_length_le (by omega)]
   cases hc:ZHA ⟨lo,hi⟩ cut<;>simp only[↓xP,xT,rL,rB,rA,rS,ZG9,hc,h1,ho]
   all_goals repeat' (refine ZiE (fun h=>?_) (fun h=>?_))
   all_goals simp_all
 ·simp [ZD,h,h2,h3]
def ZFu (l:List Pair):Str:=if ZA l=true∧2≤l.length then (match l[l.length / 2]? with
 | some p=>p.key
 | none=>[]) else []
theorem half {n:Nat} (h:n≤48):IntKind.i64.wrap ((n:Int).tdiv 2)=((n / 2:Nat):Int):=by
 have:(n:Int).tdiv 2=((n / 2:Nat):Int):=by rw [Int.tdiv_eq_ediv_of_nonneg (by omega)]; rfl
 rw [this,w64 (by omega) (by omega)]
theorem ZIE (l:List Pair):EE F 156 [L 2 (l.map Pair.u)] []=ok1 (S (ZFu l)):=by
 rw [R156,b156]
 simp only[↓xP,xT,rL,rB,rA,rS,Z6]
 refine ZiE (fun h=>?_) (fun h=>?_)
 ·simp_all [ZFu]
 refine ZiE (fun h2=>?_) (fun h2=>?_)
 ·have h3:¬2≤l.length:=by simp at h2; omega
  simp [ZFu,h3]
 have h3:2≤l.length:=by simp at h2; omega
 simp only[Bool.not_eq_false'] at h
 have hw:=half (ZM h)
 have hi:l.length / 2<l.length:=by omega
 obtain ⟨⟨pk,pv⟩,hp⟩:∃ p,l[l.length / 2]?=some p:=⟨_,List.getElem?_eq_getElem hi⟩
 simp only[↓xP,xT,rL,rB,rA,rS,hw,hp,Pair.u,ZFu,h,h3,show ¬(2:Int)=0 by omega]
theorem ZID (l:List Pair):EE F 159 [L 2 (l.map Pair.u)] []=ok1 (S (ZFu l)):=by
 rw [R159,b159]
 simp only[↓xP,xT,rL,rB,rA,rS,ZFq]
 refine ZiE (fun h=>?_) (fun h=>?_)
 ·simp_all [ZFu]
 refine ZiE (fun h2=>?_) (fun h2=>?_)
 ·have h3:¬2≤l.length:=by simp at h2; omega
  simp [ZFu,h3]
 have h3:2≤l.length:=by simp at h2; omega
 simp only[Bool.not_eq_false'] at h
 have hw:=half (ZM h)
 have hi:l.length / 2<l.length:=by omega
 obtain ⟨⟨pk,pv⟩,hp⟩:∃ p,l[l.length / 2]?=some p:=⟨_,List.getElem?_eq_getElem hi⟩
 simp only[↓xP,xT,rL,rB,rA,rS,hw,hp,Pair.u,ZFu,h,h3,show ¬(2:Int)=0 by omega]
def ZFl (s:State):Str:=if ZD s=true∧s.sealed=false∧6≤s.pairs.length then ZFu s.pairs else []
theorem ZIM (lo hi:Str) (l:List Pair) (k:List Session) (se:Bool) (cut:Str) (hn:k.length≤4611686018427387904):EE F 91 [.ag [.u (.str lo),.u (.str hi),.u (.sl 2 (l.map Pair.u)),.u (.sl 3 (k.map Session.u)),.u (.bool se),.u (.str cut)]] []=ok1 (S (ZFl ⟨⟨lo,hi⟩,l,k,se,cut⟩)):=by
 rw [R91,b91]
 simp only[↓xP,xT,rL,rB,rA,rS,ZFt lo hi l k se cut hn,ZIE]
 repeat' (refine ZiE (fun h=>?_) (fun h=>?_))
 all_goals first|(simp_all [ZFl]; done)|(simp_all [ZFl]<;>(intros; omega))
theorem ZIL (lo hi:Str) (l:List Pair) (k:List Session) (se:Bool) (cut:Str) (hn:k.length≤4611686018427387904):EE F 93 [.ag [.u (.str lo),.u (.str hi),.u (.sl 2 (l.map Pair.u)),.u (.sl 3 (k.map Session.u)),.u (.bool se),.u (.str cut)]] []=ok1 (S (ZFl ⟨⟨lo,hi⟩,l,k,se,cut⟩)):=by
 rw [R93,b93]
 simp only[↓xP,xT,rL,rB,rA,rS,ZFs lo hi l k se cut hn,ZID]
 repeat' (refine ZiE (fun h=>?_) (fun h=>?_))
 all_goals first|(simp_all [ZFl]; done)|(simp_all [ZFl]<;>(intros; omega))
def ZR (a b:State):Bool:=ZD a&&ZD b&&!a.sealed&&!b.sealed&&ZGA a.span b.span&&decide (a.pairs.length+b.pairs.length≤3)
theorem ZGi (al ah:Str) (l:List Pair) (k:List Session) (se:Bool) (cut:Str) (hn:k.length≤4611686018427387904) (al' ah':Str) (l':List Pair) (k':List Session) (se':Bool) (cut':Str) (hn':k'.length≤4611686018427387904):EE F 92 [.ag [.u (.str al),.u (.str ah),.u (.sl 2 (l.map Pair.u)),.u (.sl 3 (k.map Session.u)),.u (.bool se),.u (.str cut)],.ag [.u (.str al'),.u (.str ah'),.u (.sl 2 (l'.map Pair.u)),.u (.sl 3 (k'.map Session.u)),.u (.bool se'),.u (.str cut')]] []=ok1 (B (ZR ⟨⟨al,ah⟩,l,k,se,cut⟩ ⟨⟨al',ah'⟩,l',k',se',cut'⟩)):=by
 rw [R92,b92]
 cases hc:ZGA ⟨al,ah⟩ ⟨al',ah'⟩<;>simp only[↓xP,xT,rL,rB,rA,rS,ZFt al ah l k se cut hn,ZFt al' ah' l' k' se' cut' hn',ZG2,ZG3,hc]
 all_goals repeat' (refine ZiE (fun h=>?_) (fun h=>?_))
 all_goals try (simp_all [ZR]; done)
 all_goals
  have hl:=ZM (l:=l) (by simp_all [ZD])
  have hl':=ZM (l:=l') (by simp_all [ZD])
  rw [w64 (by omega) (by omega)]
  simp_all [ZR]
  omega
theorem ZGh (al ah:Str) (l:List Pair) (k:List Session) (se:Bool) (cut:Str) (hn:k.length≤4611686018427387904) (al' ah':Str) (l':List Pair) (k':List Session) (se':Bool) (cut':Str) (hn':k'.length≤4611686018427387904):EE F 94 [.ag [.u (.str al),.u (.str ah),.u (.sl 2 (l.map Pair.u)),.u (.sl 3 (k.map Session.u)),.u (.bool se),.u (.str cut)],.ag [.u (.str al'),.u (.str ah'),.u (.sl 2 (l'.map Pair.u)),.u (.sl 3 (k'.map Session.u)),.u (.bool se'),.u (.str cut')]] []=ok1 (B (ZR ⟨⟨al,ah⟩,l,k,se,cut⟩ ⟨⟨al',ah'⟩,l',k',se',cut'⟩)):=by
 rw [R94,b94]
 cases hc:ZGA ⟨al,ah⟩ ⟨al',ah'⟩<;>simp only[↓xP,xT,rL,rB,rA,rS,ZFs al ah l k se cut hn,ZFs al' ah' l' k' se' cut' hn',ZG1,ZG3,hc]
 all_goals repeat' (refine ZiE (fun h=>?_) (fun h=>?_))
 all_goals try (simp_all [ZR]; done)
 all_goals
  have hl:=ZM (l:=l) (by simp_all [ZD])
  have hl':=ZM (l:=l') (by simp_all [ZD])
  rw [w64 (by omega) (by omega)]
  simp_all [ZR]
  omega
def cmpS (a b:Str):Int:=if ZaZ a b=true then -1 else if ZaZ b a=true then 1 else 0
theorem ZMZ (s:Str):EE F 210 [S s] []=ok1 (B false):=by
 rw [R210,b210]
 simp only[↓xP,xT,rL,rB,rA,rS,ne_eq,not_true_eq_false,decide_false]
theorem ZJ3 (a b:Str):EE F 147 [S a,S b] []=ok1 (I (cmpS a b)):=by
 rw [R147,b147]
 simp only[↓xP,xT,rL,rB,rA,rS,ZMZ,ZIB]
 repeat' (refine ZiE (fun h=>?_) (fun h=>?_))
 all_goals simp_all [cmpS]
theorem ZKr (p:Str) (v:Int) (key:Str):EE F 280 [.ag [.u (.str p),.u (.int .i64 v)],S key] []=ok1 (I (cmpS p key)):=by
 rw [R280,b280]
 simp only[↓xP,xT,rL,rB,rA,rS,ZJ3]
def place (key:Str):List Pair→Nat
 | []=>0
 | p::l=>if ZaZ p.key key=true then place key l+1 else 0
theorem ZGQ (key:Str):∀ l,place key l≤l.length
 | []=>Nat.le_refl _
 | p::l=>by simp only[place]; split; simpa using ZGQ key l; simp
theorem ZIl (key:Str):∀ (l:List Pair) (i:Nat),i≤l.length→(∀ t p,t<i→l[t]?=some p→ZaZ p.key key=true)→(∀ p,l[i]?=some p→ZaZ p.key key=false)→place key l=i
 | [],i,hi,_,_=>by simp at hi; simp [place,hi]
 | p::l,0,_,_,h2=>by simp [place,h2 p rfl]
 | p::l,i+1,hi,h1,h2=>by
  have:=h1 0 p (by omega) rfl
  simp only[place,this,if_true]
  rw [ZIl key l i (by simpa using hi) (fun t q ht hq=>h1 (t+1) q (by omega) hq) (fun q hq=>h2 q hq)]
/-- The keys ascend. -/
def Asc (l:List Pair):Prop:=∀ (s t:Nat) p q,s<t→l[s]?=some p→l[t]?=some q→ZaZ p.key q.key=true
theorem ZH0 {l:List Pair} (h:ZA l=true):Asc l:=by
 have hc:∀ (t:Nat) p q,l[t]?=some p→l[t+1]?=some q→ZaZ p.key q.key=true:=by
  intro t p q hp hq
  simp only[ZA,Bool.and_eq_true,decide_eq_true_eq] at h
  have:=(ZFC _ 0 rfl).1 h.2 (t+1) (by omega) (List.getElem?_eq_some_iff.1 hq).1
  simp only[ZFp,hq,Nat.add_sub_cancel,hp] at this
  simp_all
 intro s t p q hst hp hq
 induction t generalizing q with
 | zero=>omega
 | succ t ih=>
  obtain ⟨r,hr⟩:∃ r,l[t]?=some r:=⟨_,List.getElem?_eq_getElem (by have:=(List.getElem?_eq_some_iff.1 hq).1; omega)⟩
  by_cases e:s=t
  ·subst e; exact hc _ _ _ hp hq
  ·exact lt_trans (ih r (by omega) hr) (hc _ _ _ hr hq)
theorem ZM7 {i j:Nat} (h:i+j<9223372036854775808):IntKind.i64.wrap ((IntKind.u64.wrap (IntKind.i64.wrap ((i:Int) + (j:Int)))).fdiv (2 ^ min (Int.toNat 1) IntKind.u64.bits))=(((i+j) / 2:Nat):Int):=by
 rw [show (2:Int) ^ min (Int.toNat 1) IntKind.u64.bits=2 from rfl]
 rw [show IntKind.i64.wrap ((i:Int) + (j:Int))=(i:Int)+j from w64 (by omega) (by omega)]
 have:IntKind.u64.wrap ((i:Int)+j)=(i:Int)+j:=by rw [IntKind.wrap_u64]; omega
 rw [this,Int.fdiv_eq_ediv_of_nonneg _ (by omega),w64 (by omega) (by omega)]
 omega
def ZJi (key:Str) (l:List Pair):Bool:=match l[place key l]? with
 | some p=>decide (p.key=key)
 | none=>false
theorem ZMp (l:List Pair) (key:Str) (ha:Asc l) (hn:l.length≤1048576):EE F 279 [L 2 (l.map Pair.u),S key,.sc (.u (.fn 280 []))] []=some ⟨[I (place key l),B (ZJi key l)],[],[]⟩:=by
 rw [R279,b279]
 simp only[↓xP,xT,rL,rB,rA,rS]
 refine (Zjc (fun (a:Nat×Nat) st=>a.1≤a.2∧a.2≤l.length∧(∀ t p,t<a.1→l[t]?=some p→ZaZ p.key key=true)∧(∀ t p,a.2≤t→l[t]?=some p→ZaZ p.key key=false)∧
  st.s 0=DU (.sl 2 (l.map Pair.u))∧st.s 1=DS key∧st.s 2=.t (.sc (.u (.fn 280 [])))∧st.s 8=DI l.length∧st.s 9=DI a.1∧st.s 10=DI a.2) (fun a=>a.2 - a.1) (fun a=>some ⟨[I (place key l),B (ZJi key l)],[],[]⟩) ?_ (0,l.length) ⟨by omega,by dsimp only; omega,by omega,?_,by simp only[↓xP,xT,rL,rB,rA,rS],by simp only[↓xP,xT,rL,rB,rA,rS],by simp only[↓xP,xT,rL,rB,rA,rS],by simp only[↓xP,xT,rL,rB,rA,rS],by simp only[↓xP,xT,rL,rB,rA,rS]; rfl,by simp only[↓xP,xT,rL,rB,rA,rS]⟩).trans rfl
 ·rintro ⟨i,j⟩ st ⟨hij,hj,hlo,hhi,h0,h1,h2,h8,h9,h10⟩ ih
  dsimp only at hij hj hlo hhi h9 h10 ih
  by_cases h:i<j
  ·obtain ⟨⟨pk,pv⟩,hp⟩:∃ p,l[(i+j) / 2]?=some p:=⟨_,List.getElem?_eq_getElem (by omega)⟩
   have hm:=ZM7 (i:=i) (j:=j) (by omega)
   have hw:=w_succ (i:=(i+j) / 2) (by omega)
   have hb:¬(1:Int)<0:=by omega
   by_cases hc:ZaZ pk key=true
   ·have hs:cmpS pk key = -1:=by simp [cmpS,hc]
    have hn1:(-1:Int)<0:=by omega
    simp only[↓xP,xT,rL,rB,rA,rS,h0,h1,h2,h8,h9,h10,h,hb,hm,hp,hw,Pair.u,ZKr,hs,hn1]
    refine ih ((i+j) / 2+1,j) _ (by dsimp only; omega) ⟨by dsimp only; omega,hj,fun t q ht hq=>?_,hhi,by simp only[↓xP,xT,rL,rB,rA,rS,h0],by simp only[↓xP,xT,rL,rB,rA,rS,h1],by simp only[↓xP,xT,rL,rB,rA,rS,h2],by simp only[↓xP,xT,rL,rB,rA,rS,h8],by simp only[↓xP,xT,rL,rB,rA,rS],by simp only[↓xP,xT,rL,rB,rA,rS,h10]⟩
    dsimp only at ht
    by_cases e:t=(i+j) / 2
    ·subst e; rw [hp] at hq; cases hq; exact hc
    ·exact lt_trans (ha t _ _ _ (by omega) hq hp) hc
   ·have hs:¬cmpS pk key<0:=by unfold cmpS; rw [if_neg hc]; split<;>omega
    simp only[↓xP,xT,rL,rB,rA,rS,h0,h1,h2,h8,h9,h10,h,hb,hm,hp,hw,Pair.u,ZKr,hs]
    refine ih (i,(i+j) / 2) _ (by dsimp only; omega) ⟨by dsimp only; omega,by dsimp only; omega,hlo,fun t q ht hq=>?_,by simp only[↓xP,xT,rL,rB,rA,rS,h0],by simp only[↓xP,xT,rL,rB,rA,rS,h1],by simp only[↓xP,xT,rL,rB,rA,rS,h2],by simp only[↓xP,xT,rL,rB,rA,rS,h8],by simp only[↓xP,xT,rL,rB,rA,rS,h9],by simp only[↓xP,xT,rL,rB,rA,rS]⟩
    dsimp only at ht
    rw [Bool.eq_false_iff]
    intro h3
    by_cases e:t=(i+j) / 2
    ·subst e; rw [hp] at hq; cases hq; exact hc h3
    ·exact hc (lt_trans (ha _ t _ _ (by omega) hp hq) h3)
  ·have hpl:place key l=i:=ZIl key l i (by omega) hlo (fun p hp=>hhi i p (by omega) hp)
   by_cases hi:i<l.length
   ·obtain ⟨⟨pk,pv⟩,hp⟩:∃ p,l[i]?=some p:=⟨_,List.getElem?_eq_getElem hi⟩
    have h3:=hhi i _ (by omega) hp
    simp only[↓xP,xT,rL,rB,rA,rS,h0,h1,h2,h8,h9,h10,h,hi,hp,Pair.u,ZKr,ZJi,hpl]
    have:decide (cmpS pk key=0)=decide (pk=key):=by
     simp only at h3
     rcases ZIi pk key with h4|h4|h4
     ·rw [h3] at h4; cases h4
     ·subst h4; simp [cmpS,ZGG]
     ·have:pk≠key:=fun e=>by subst e; simp [ZGG] at h4
      simp [cmpS,h3,h4,this]
    rw [this]
   ·have hp:l[i]?=none:=List.getElem?_eq_none (by omega)
    simp only[↓xP,xT,rL,rB,rA,rS,h0,h1,h2,h8,h9,h10,h,hi,ZJi,hpl,hp]
 ·intro t p ht hp
  have:=(List.getElem?_eq_some_iff.1 hp).1
  dsimp only at ht
  omega
theorem ZHr (l:List Pair) (key:Str) (ha:Asc l) (hn:l.length≤1048576):EE F 241 [L 2 (l.map Pair.u),S key] []=some ⟨[I (place key l),B (ZJi key l)],[],[]⟩:=by
 rw [R241,b241]
 simp only[↓xP,xT,rL,rB,rA,rS,ZMp l key ha hn]
theorem ZK8 {key:Str}:∀ {l:List Pair} {t:Nat} {p:Pair},t<place key l→l[t]?=some p→ZaZ p.key key=true
 | [],t,p,ht,hp=>by simp at hp
 | q :: l,t,p,ht,hp=>by
  simp only[place] at ht
  split at ht
  ·rename_i hq
   cases t with
   | zero=>cases hp; exact hq
   | succ t=>exact ZK8 (l:=l) (t:=t) (by omega) hp
  ·omega
theorem ZJt {key:Str}:∀ {l:List Pair} {p:Pair},l[place key l]?=some p→ZaZ p.key key=false
 | [],p,hp=>by simp at hp
 | q::l,p,hp=>by
  simp only[place] at hp
  split at hp
  ·exact ZJt (l:=l) hp
  ·rename_i hq; cases hp; simpa using hq
theorem ZMM {key:Str} {l:List Pair} (ha:Asc l) {t:Nat} {p:Pair} (ht:place key l≤t) (hp:l[t]?=some p):ZaZ p.key key=false:=by
 obtain ⟨q,hq⟩:∃ q,l[place key l]?=some q:=⟨_,List.getElem?_eq_getElem (by have:=(List.getElem?_eq_some_iff.1 hp).1; omega)⟩
 have h1:=ZJt hq
 by_cases e:place key l=t
 ·subst e; rw [hq] at hp; cases hp; exact h1
 ·rw [Bool.eq_false_iff]
  intro h2
  rw [lt_trans (ha _ t _ _ (by omega) hq hp) h2] at h1
  cases h1
theorem ZG0 (l:List Pair) (hn:l.length≤1048576):EE F 242 [L 2 (l.map Pair.u)] []=some ⟨[.sc (.own (.par 0) l.length)],[.row 2 (l.map Pair.u)],[]⟩:=by
 rw [R242,b242]
 have h1:l.length≤maxLen:=by simp [maxLen]; omega
 have h2:l.length*24≤140737488355328:=by omega
 simp only[↓xP,xT,rL,rB,rA,rS,h1,h2]
/-- The place of the first such number, or -1. -/
def idxI (l:List Int) (x:Int):Int:=if x∈l then (l.idxOf x:Int) else -1
theorem ZMV {x:Int} {l:List Int}:idxI (x::l) x=0:=by simp [idxI]
theorem ZMX {x y:Int} {l:List Int} (h:y≠x):idxI (y::l) x=if x∈l then idxI l x+1 else -1:=by
 have h':x≠y:=fun e=>h e.symm
 simp only[idxI,List.mem_cons,h',false_or]
 by_cases hm:x∈l
 ·simp only[hm,if_true]
  have:(y==x)=false:=by simpa using h
  simp [List.idxOf_cons,this]
 ·simp [hm]
theorem ZMF {l:List Int} {x:Int}:idxI l x<0↔x∉l:=by
 unfold idxI
 split<;>simp_all
theorem ZMW {l:List Int} {x:Int}:0≤idxI l x↔x∈l:=by
 have:=ZMF (l:=l) (x:=x)
 constructor
 ·intro h; by_cases hm:x∈l
  ·exact hm
  ·have:=this.2 hm; omega
 ·intro h
  by_cases hq:idxI l x<0
  ·exact absurd h (this.1 hq)
  ·omega
/-- From a place on. -/
def idxF (l:List Int) (x:Int) (i:Nat):Int:=if x∈l.drop i then (i:Int)+idxI (l.drop i) x else -1
theorem ZM9 (l:List Int) (x:Int):idxF l x 0=idxI l x:=by
 simp only[idxF,List.drop_zero,idxI]
 split<;>simp
theorem ZMD (l:List Int) (x:Int) {i:Nat} (h:¬i<l.length):idxF l x i = -1:=by
 simp [idxF,List.drop_of_length_le (show l.length≤i by omega)]
theorem ZME {l:List Int} {x:Int} {i:Nat} (h:l[i]?=some x):idxF l x i=i:=by
 obtain ⟨hi,hx⟩:=List.getElem?_eq_some_iff.1 h
 simp [idxF,List.drop_eq_getElem_cons hi,hx,ZMV]
theorem ZMj {l:List Int} {x y:Int} {i:Nat} (h:l[i]?=some y) (hn:y≠x):idxF l x i=idxF l x (i+1):=by
 obtain ⟨hi,hx⟩:=List.getElem?_eq_some_iff.1 h
 have hn':x≠y:=fun e=>hn e.symm
 simp only[idxF,List.drop_eq_getElem_cons hi,hx,List.mem_cons,hn',false_or,ZMX hn]
 by_cases hm:x∈l.drop (i+1)
 ·simp only[hm,if_true]; omega
 ·simp [hm]
theorem ZMk (l:List Int) (x:Int) (hn:l.length≤4611686018427387904):EE F 268 [L 1 (l.map iU),I x] []=ok1 (I (idxI l x)):=by
 rw [R268,b268]
 simp only[↓xP,xT,rL,rB,rA,rS]
 refine (Zjc (fun (i:Nat) st=>i≤l.length∧st.s 0=DU (.sl 1 (l.map iU))∧st.s 1=DI x∧st.s 7=DI l.length∧st.s 8=DI i) (fun i=>l.length - i) (fun i=>ok1 (I (idxF l x i))) ?_ 0 (by and_intros<;>first|omega|rfl|(simp only[↓xP,xT,rL,rB,rA,rS]<;>first|done|rfl|omega))).trans (by rw [ZM9])
 rintro i st ⟨hle,h0,h1,h7,h8⟩ ih
 by_cases hi:i<l.length
 ·obtain ⟨y,hy⟩:∃ y,l[i]?=some y:=⟨_,List.getElem?_eq_getElem hi⟩
  have hw:=w_succ (i:=i) (by omega)
  simp only[↓xP,xT,rL,rB,rA,rS,h0,h1,h7,h8,hi,hy,hw,iU]
  refine ZiE (fun h=>?_) (fun h=>?_)
  ·simp only[decide_eq_true_eq] at h
   rw [ZME (by rw [hy,h])]
  ·simp only[decide_eq_false_iff_not] at h
   rw [ZMj hy (fun e=>h e.symm)]
   exact ih (i+1) _ (by omega) (by and_intros<;>first|omega|rfl|(simp only[↓xP,xT,rL,rB,rA,rS,h0,h1,h7]<;>first|done|rfl|omega))
 ·simp only[↓xP,xT,rL,rB,rA,rS,h0,h1,h7,h8,hi]
  rw [ZMD l x hi]
theorem ZKg (l:List Int) (x:Int) (hn:l.length≤4611686018427387904):EE F 211 [L 1 (l.map iU),I x] []=ok1 (B (decide (x∈l))):=by
 rw [R211,b211]
 simp only[↓xP,xT,rL,rB,rA,rS,ZMk l x hn,ge_iff_le,ZMW]
def okAt (l:List Int) (k:Nat):Bool:=match l[k]? with
 | some x=>inR x 0 4&&!decide (x∈l.take k)
 | none=>true
def ZV (c:Config):Bool:=decide (1≤c.epoch)&&decide (c.epoch≤60)&&decide (1≤c.members.length)&&decide (c.members.length≤4)&&!(c.fresh&&decide (c.members.length<2))&&allF c.members.length (okAt c.members) 0
theorem ZJ9 {l:List Int} {k:Nat} {x:Int} (h:l[k]?=some x):okAt l k=(inR x 0 4&&!decide (x∈l.take k)):=by simp [okAt,h]
theorem ZH2 {n:Nat} {i:Nat} (h:i≤n):vcut n none (some (DI (i:Int)))=some (0,i):=by
 simp [vcut,D.int?]
 omega
theorem ZGc (e:Int) (l:List Int) (f:Bool) (hn:l.length≤4611686018427387904):EE F 148 [.ag [.u (.int .i64 e),.u (.sl 1 (l.map iU)),.u (.bool f)]] []=ok1 (B (ZV ⟨e,l,f⟩)):=by
 rw [R148,b148]
 simp only[↓xP,xT,rL,rB,rA,rS]
 by_cases hg:(decide (1≤e)&&decide (e≤60)&&decide (1≤l.length)&&decide (l.length≤4)&&!(f&&decide (l.length<2)))=true
 ·have e1:ZV ⟨e,l,f⟩=allF l.length (okAt l) 0:=by simp only[ZV,hg,Bool.true_and]
  rw [e1]
  simp only[Bool.and_eq_true,decide_eq_true_eq,Bool.not_eq_true',Bool.and_eq_false_iff,decide_eq_false_iff_not] at hg
  obtain ⟨⟨⟨⟨h1,h2⟩,h3⟩,h4⟩,h5⟩:=hg
  have g1:¬e<1:=by omega
  have g2:¬60<e:=by omega
  have g3:¬(l.length:Int)<1:=by omega
  have g4:¬(4:Int)<(l.length:Int):=by omega
  simp only[g1,g2,g3,g4,gt_iff_lt,decide_false,↓xP,xT,rL,rB,rA,rS]
  repeat' (refine ZiE (fun h=>?_) (fun h=>?_))
  all_goals (try (exfalso; simp only[decide_eq_true_eq] at *; simp_all; omega))
  all_goals
   refine (Zjc (fun (i:Nat) st=>i≤l.length∧st.s 1=.t (.sc (.ptr (.loc 1 0) 0 0))∧st.o (.loc 1 0)=some (.box [.u (.int .i64 e),.u (.sl 1 (l.map iU)),.u (.bool f)])∧st.s 34=DU (.sl 1 (l.map iU))∧st.s 35=DI l.length∧st.s 36=DI i) (fun i=>l.length - i) (fun i=>ok1 (B (allF l.length (okAt l) i))) ?_ 0 (by and_intros<;>first|omega|rfl|(simp only[↓xP,xT,rL,rB,rA,rS]<;>first|done|rfl|omega))).trans rfl
   rintro i st ⟨hle,hb,ho,h34,h35,h36⟩ ih
   by_cases hi:i<l.length
   ·obtain ⟨y,hy⟩:∃ y,l[i]?=some y:=⟨_,List.getElem?_eq_getElem hi⟩
    have hw:=w_succ (i:=i) (by omega)
    have hct:=ZH2 (n:=l.length) hle
    have hlt:(l.take i).length≤4611686018427387904:=by simp; omega
    have hct2:=ZKg (l.take i) y hlt
    simp only[↓xP,xT,rL,rB,rA,rS,hb,ho,h34,h35,h36,hi,hy,hw,iU,ZHq,List.length_map,hct,List.drop_zero,←List.map_take,hct2]
    rw [ZFW hi,ZJ9 hy]
    repeat' (refine ZiE (fun h=>?_) (fun h=>?_))
    all_goals first
     | (simp_all; done)
     | (rw [ih (i+1) _ (by omega) (by and_intros<;>first|omega|rfl|(simp only[↓xP,xT,rL,rB,rA,rS,hb,ho,h34,h35]<;>first|done|rfl|omega))]; simp_all)
   ·simp only[↓xP,xT,rL,rB,rA,rS,hb,ho,h34,h35,h36,hi]
    rw [ZFV hi]
 ·have hg2:=hg
  rw [Bool.not_eq_true] at hg2
  have e1:ZV ⟨e,l,f⟩=false:=by simp only[ZV,hg2,Bool.false_and]
  clear hg2
  rw [e1]
  repeat' (refine ZiE (fun h=>?_) (fun h=>?_))
  all_goals first
   | rfl
   | (exfalso; apply hg; simp only[decide_eq_true_eq,decide_eq_false_iff_not] at *; simp_all; omega)
theorem ZGd (e:Int) (l:List Int) (f:Bool) (hn:l.length≤4611686018427387904):EE F 144 [.ag [.u (.int .i64 e),.u (.sl 1 (l.map iU)),.u (.bool f)]] []=ok1 (B (ZV ⟨e,l,f⟩)):=by
 rw [R144,b144]
 simp only[↓xP,xT,rL,rB,rA,rS,ZY]
 by_cases hg:(decide (1≤e)&&decide (e≤60)&&decide (1≤l.length)&&decide (l.length≤4)&&!(f&&decide (l.length<2)))=true
 ·have e1 : ZV ⟨e,l,f⟩=allF l.length (okAt l) 0:=by simp only[ZV,hg,Bool.true_and]
  rw [e1]
  simp only[Bool.and_eq_true,decide_eq_true_eq,Bool.not_eq_true',Bool.and_eq_false_iff,decide_eq_false_iff_not] at hg
  obtain ⟨⟨⟨⟨h1,h2⟩,h3⟩,h4⟩,h5⟩:=hg
  have g1:inR e 1 60=true:=by simp [inR,h1,h2]
  have g2:inR (l.length:Int) 1 4=true:=by simp [inR]; omega
  simp only[g1,g2,↓xP,xT,rL,rB,rA,rS]
  repeat' (refine ZiE (fun h=>?_) (fun h=>?_))
  all_goals (try (exfalso; simp only[decide_eq_true_eq] at *; simp_all; omega))
  all_goals
   refine (Zjc (fun (i:Nat) st=>i≤l.length∧st.s 1=.t (.sc (.ptr (.loc 1 0) 0 0))∧st.o (.loc 1 0)=some (.box [.u (.int .i64 e),.u (.sl 1 (l.map iU)),.u (.bool f)])∧st.s 3=DI i) (fun i=>l.length - i) (fun i=>ok1 (B (allF l.length (okAt l) i))) ?_ 0 (by and_intros<;>first|omega|rfl|(simp only[↓xP,xT,rL,rB,rA,rS]<;>first|done|rfl|omega))).trans rfl
   rintro i st ⟨hle,hb,ho,h3⟩ ih
   by_cases hi:i<l.length
   ·obtain ⟨y,hy⟩:∃ y,l[i]?=some y:=⟨_,List.getElem?_eq_getElem hi⟩
    have hw:=w_succ (i:=i) (by omega)
    simp only[↓xP,xT,rL,rB,rA,rS,hb,ho,h3,hi,hy,iU,ZY]
    rw [ZFW hi,ZJ9 hy]
    refine ZiE (fun h=>?_) (fun h=>?_)
    ·simp_all
    refine (Zjc (fun (j:Nat) st=>j≤i∧st.s 1=.t (.sc (.ptr (.loc 1 0) 0 0))∧st.o (.loc 1 0)=some (.box [.u (.int .i64 e),.u (.sl 1 (l.map iU)),.u (.bool f)])∧st.s 3=DI i∧st.s 4=DI j) (fun j=>i - j) (fun j=>ok1 (B (!decide (y∈(l.take i).drop j)&&allF l.length (okAt l) (i+1)))) ?_ 0 (by and_intros<;>first|omega|rfl|(simp only[↓xP,xT,rL,rB,rA,rS,hb,ho,h3]<;>first|done|rfl|omega))).trans (by simp_all)
    rintro j st ⟨hlj,hb,ho,h3,h4⟩ ihj
    by_cases hj:j<i
    ·obtain ⟨z,hz⟩:∃ z,l[j]?=some z:=⟨_,List.getElem?_eq_getElem (by omega)⟩
     have hwj:=w_succ (i:=j) (by omega)
     have hd:(l.take i).drop j=z::(l.take i).drop (j+1):=by
      rw [List.drop_eq_getElem_cons (by simp; omega)]
      simp [(List.getElem?_eq_some_iff.1 hz).2]
     simp only[↓xP,xT,rL,rB,rA,rS,hb,ho,h3,h4,hj,hz,hy,iU,hwj]
     rw [hd]
     refine ZiE (fun h=>?_) (fun h=>?_)
     ·simp_all
     ·rw [ihj (j+1) _ (by omega) (by and_intros<;>first|omega|rfl|(simp only[↓xP,xT,rL,rB,rA,rS,hb,ho,h3]<;>first|done|rfl|omega))]
      simp only[decide_eq_false_iff_not] at h
      have h':¬y=z:=fun e=>h e.symm
      simp [h']
    ·simp only[↓xP,xT,rL,rB,rA,rS,hb,ho,h3,h4,hj,hw]
     rw [List.drop_of_length_le (by simp; omega)]
     rw [ih (i+1) _ (by omega) (by and_intros<;>first|omega|rfl|(simp only[↓xP,xT,rL,rB,rA,rS,hb,ho]<;>first|done|rfl|omega))]
     simp
   ·simp only[↓xP,xT,rL,rB,rA,rS,hb,ho,h3,hi]
    rw [ZFV hi]
 ·have hg2:=hg
  rw [Bool.not_eq_true] at hg2
  have e1:ZV ⟨e,l,f⟩=false:=by simp only[ZV,hg2,Bool.false_and]
  clear hg2
  rw [e1]
  repeat' (refine ZiE (fun h=>?_) (fun h=>?_))
  all_goals first
   | rfl
   | (exfalso; apply hg; simp only[decide_eq_true_eq,decide_eq_false_iff_not,inR] at *; simp_all; omega)
theorem ZP {n k:Nat} (h:n≤1048576) (hk:k≤100000000):n≤maxLen∧n*k≤140737488355328:=by
 refine ⟨by simp [maxLen]; omega,?_⟩
 have:=Nat.mul_le_mul h hk
 omega
def rep {α:Type} (l:List α) (a m:Nat) (b:List α):List α:=l.take a++b++l.drop (a+m)
theorem ZIm {α:Type} {l:List α} {a m:Nat} {b:List α} (h:a+m≤l.length):(rep l a m b).length=l.length - m+b.length:=by
 simp [rep]; omega
def zero_Pair:List U:=[.str [],.int .i64 0]
def zero_Session:List U:=[.int .i64 0,.int .i64 0,.int .i64 0]
theorem ZML (st:St) (d c:Nat) (zero:List U) (bytes:Nat) (h:c*bytes≤140737488355328):stMk st d (DI 0) (DI (c:Int)) zero bytes=some (((st.cool (.loc d 0)).obj (.loc d 0) (some (.row zero.length []))).put d (.t (.sc (.own (.loc d 0) 0)))):=by
 have h0:(0:Int)≤(c:Int):=by omega
 simp [stMk,D.int?,h,h0]
theorem ZHB {n i:Nat} (h:i≤n):vcut n (some (DI (i:Int))) none=some (i,n):=by
 simp [vcut,D.int?]
 omega
theorem ZL {α β:Type} (f:α→β) (l:List α):List.take l.length (List.map f l)=List.map f l:=List.take_of_length_le (by simp)
theorem ZHb (l b:List Pair) (a m:Nat) (h:a+m≤l.length) (hn:l.length+b.length≤1048576):EE F 278 [L 2 (l.map Pair.u),I a,I m,L 2 (b.map Pair.u)] []=some ⟨[.sc (.own (.par 0) (rep l a m b).length)],[.row 2 ((rep l a m b).map Pair.u)],[]⟩:=by
 rw [R278,b278]
 have w1:IntKind.i64.wrap ((l.length:Int) - (m:Int))=((l.length - m:Nat):Int):=by rw [w64 (by omega) (by omega)]; omega
 have w2:IntKind.i64.wrap (((l.length - m:Nat):Int) + (b.length:Int))=((l.length - m+b.length:Nat):Int):=by rw [w64 (by omega) (by omega)]; omega
 have w3:IntKind.i64.wrap ((a:Int) + (m:Int))=((a+m:Nat):Int):=by rw [w64 (by omega) (by omega)]; omega
 have c1:=ZH2 (n:=l.length) (i:=a) (by omega)
 have c2:=ZHB (n:=l.length) (i:=a+m) h
 have k0:=fun st d=>ZML st d (l.length - m+b.length) (Go.Proofs.YtmfjkbbmhaofbaaGreatV.zero_Pair) 24 (by omega)
 have ha:min a l.length=a:=by omega
 have q1:a≤maxLen∧a*24≤140737488355328:=ZP (by omega) (by omega)
 have q2:a+b.length≤maxLen∧(a+b.length)*24≤140737488355328:=ZP (by omega) (by omega)
 have q3:a+b.length + (l.length - (a+m))≤maxLen∧(a+b.length + (l.length - (a+m)))*24≤140737488355328:=ZP (by omega) (by omega)
 simp only[zero_Pair] at k0
 simp only[↓xP,xT,rL,rB,rA,rS,w1,w2,w3,k0,c1,c2,List.drop_zero,List.length_map,List.length_take,List.length_drop,List.length_append,List.length_nil,Nat.zero_add,List.nil_append,ha,q1.1,q1.2,q2.1,q2.2,q3.1,q3.2,ZL,rep,List.map_append,List.map_take,List.map_drop]
theorem ZHg (l b:List Session) (a m:Nat) (h:a+m≤l.length) (hn:l.length+b.length≤1048576):EE F 300 [L 3 (l.map Session.u),I a,I m,L 3 (b.map Session.u)] []=some ⟨[.sc (.own (.par 0) (rep l a m b).length)],[.row 3 ((rep l a m b).map Session.u)],[]⟩:=by
 rw [R300,b300]
 have w1:IntKind.i64.wrap ((l.length:Int) - (m:Int))=((l.length - m:Nat):Int):=by rw [w64 (by omega) (by omega)]; omega
 have w2:IntKind.i64.wrap (((l.length - m:Nat):Int) + (b.length:Int))=((l.length - m+b.length:Nat):Int):=by rw [w64 (by omega) (by omega)]; omega
 have w3:IntKind.i64.wrap ((a:Int) + (m:Int))=((a+m:Nat):Int):=by rw [w64 (by omega) (by omega)]; omega
 have c1:=ZH2 (n:=l.length) (i:=a) (by omega)
 have c2:=ZHB (n:=l.length) (i:=a+m) h
 have k0:=fun st d=>ZML st d (l.length - m+b.length) (Go.Proofs.YtmfjkbbmhaofbaaGreatV.zero_Session) 24 (by omega)
 have ha:min a l.length=a:=by omega
 have q1:a≤maxLen∧a*24≤140737488355328:=ZP (by omega) (by omega)
 have q2:a+b.length≤maxLen∧(a+b.length)*24≤140737488355328:=ZP (by omega) (by omega)
 have q3:a+b.length + (l.length - (a+m))≤maxLen∧(a+b.length + (l.length - (a+m)))*24≤140737488355328:=ZP (by omega) (by omega)
 simp only[zero_Session] at k0
 simp only[↓xP,xT,rL,rB,rA,rS,w1,w2,w3,k0,c1,c2,List.drop_zero,List.length_map,List.length_take,List.length_drop,List.length_append,List.length_nil,Nat.zero_add,List.nil_append,ha,q1.1,q1.2,q2.1,q2.2,q3.1,q3.2,ZL,rep,List.map_append,List.map_take,List.map_drop]
def hit (key:Str) (l:List Pair):Option Pair:=match l[place key l]? with
 | some p=>if p.key=key then some p else none
 | none=>none
def ZFj (l:List Pair) (key:Str):Int:=if ZA l=true then (match hit key l with
 | some p=>p.value
 | none=>-1) else -1
def Z3 (l:List Pair) (key:Str) (v:Int):List Pair×Bool:=
 if ZA l=true∧Z2 key=true∧inR v 0 999=true then
  (if (hit key l).isSome=true then (rep l (place key l) 1 [⟨key,v⟩],true) else if 48≤l.length then (l,false) else (rep l (place key l) 0 [⟨key,v⟩],true))
 else ([],false)
def ZFd (l:List Pair) (key:Str):List Pair×Bool:=
 if ZA l=true then (if (hit key l).isSome=true then (rep l (place key l) 1 [],true) else (l,false)) else ([],false)
def ZZ (u:Pair→List U) (sz:Nat) (r:List Pair×Bool):Option Ret:=some ⟨[.sc (.own (.par 0) r.1.length),B r.2],[.row sz (r.1.map u)],[]⟩
theorem ZIA {key:Str} {l:List Pair}:ZJi key l=(hit key l).isSome:=by
 unfold ZJi hit
 cases l[place key l]? with
 | none=>rfl
 | some p=>by_cases h:p.key=key<;>simp [h]
theorem ZGa {key:Str} {l:List Pair} {p:Pair} (h:hit key l=some p):l[place key l]?=some p∧p.key=key:=by
 unfold hit at h
 split at h
 ·rename_i q hq
  split at h
  ·rename_i hk; cases h; exact ⟨hq,hk⟩
  ·cases h
 ·cases h
theorem ZIf {key:Str} {l:List Pair} (h:hit key l=none):∀ p,l[place key l]?=some p→p.key≠key:=by
 intro p hp
 unfold hit at h
 rw [hp] at h
 simp only at h
 split at h
 ·cases h
 ·assumption
theorem ZGf (l:List Pair) (key:Str) (hn:l.length≤4611686018427387904):EE F 232 [L 2 (l.map Pair.u),S key] []=ok1 (I (place key l)):=by
 rw [R232,b232]
 simp only[↓xP,xT,rL,rB,rA,rS]
 refine (Zjc (fun (i:Nat) st=>i≤l.length∧(∀ t p,t<i→l[t]?=some p→ZaZ p.key key=true)∧st.s 0=DU (.sl 2 (l.map Pair.u))∧st.s 1=DS key∧st.s 5=DI i) (fun i=>l.length - i) (fun i=>ok1 (I (place key l))) ?_ 0 ⟨by omega,fun t p ht=>by omega,(by and_intros<;>first|omega|rfl|(simp only[↓xP,xT,rL,rB,rA,rS]<;>first|done|rfl|omega))⟩).trans rfl
 rintro i st ⟨hle,hlo,h0,h1,h5⟩ ih
 by_cases hi:i<l.length
 ·obtain ⟨⟨pk,pv⟩,hp⟩:∃ p,l[i]?=some p:=⟨_,List.getElem?_eq_getElem hi⟩
  have hw:=w_succ (i:=i) (by omega)
  simp only[↓xP,xT,rL,rB,rA,rS,h0,h1,h5,hi,hp,Pair.u]
  refine ZiE (fun h=>?_) (fun h=>?_)
  ·simp only[↓xP,xT,rL,rB,rA,rS,h0,h1,h5,hw]
   exact ih (i+1) _ (by omega) ⟨by omega,fun t p ht hq=>by
    by_cases e:t=i
    ·subst e; rw [hp] at hq; cases hq; exact h
    ·exact hlo t p (by omega) hq,(by and_intros<;>first|omega|rfl|(simp only[↓xP,xT,rL,rB,rA,rS,h0,h1]<;>first|done|rfl|omega))⟩
  ·have:place key l=i:=ZIl key l i (by omega) hlo (fun p hq=>by rw [hp] at hq; cases hq; exact h)
   simp only[↓xP,xT,rL,rB,rA,rS,h0,h1,h5,this]
 ·have:place key l=i:=ZIl key l i (by omega) hlo (fun p hq=>by have:=(List.getElem?_eq_some_iff.1 hq).1; omega)
  simp only[↓xP,xT,rL,rB,rA,rS,h0,h1,h5,hi,this]
theorem ZKs (l:List Pair) (key:Str):EE F 235 [L 2 (l.map Pair.u),S key] []=ok1 (I (ZFj l key)):=by
 rw [R235,b235]
 simp only[↓xP,xT,rL,rB,rA,rS,ZFq]
 refine ZiE (fun h=>?_) (fun h=>?_)
 ·simp_all [ZFj]
 simp only[Bool.not_eq_false'] at h
 have hl:=ZM h
 simp only[↓xP,xT,rL,rB,rA,rS,ZHr l key (ZH0 h) (by omega),ZIA]
 cases hh:hit key l with
 | none=>simp [ZFj,h,hh,↓xP,xQ,xR,xS,ZK0,rL,rB,rA,rS]
 | some p=>
  obtain ⟨pk,pv⟩:=p
  obtain ⟨h1,h2⟩:=ZGa hh
  simp only[↓xP,xT,rL,rB,rA,rS,Option.isSome_some,h1,Pair.u,ZFj,h,hh]
  try simp
theorem ZKt (l:List Pair) (key:Str) (hn:l.length≤4611686018427387904):EE F 171 [L 2 (l.map Pair.u),S key] []=ok1 (I (ZFj l key)):=by
 rw [R171,b171]
 have hpl:=ZGQ key l
 cases h:ZA l
 ·simp only[↓xP,xT,rL,rB,rA,rS,ZGf l key hn,Z6,h,ZFj]
  try simp
 cases hh:hit key l with
 | none=>
  have hno:=ZIf hh
  by_cases hi:place key l=l.length
  ·have hi':((place key l:Nat):Int)=(l.length:Int):=by omega
   simp only[↓xP,xT,rL,rB,rA,rS,ZGf l key hn,Z6,h,hi',ZFj,hh]
   try simp
  ·obtain ⟨⟨pk,pv⟩,hp⟩:∃ p,l[place key l]?=some p:=⟨_,List.getElem?_eq_getElem (by omega)⟩
   have hi':¬((place key l:Nat):Int)=(l.length:Int):=by omega
   have hne:¬pk=key:=hno _ hp
   simp only[↓xP,xT,rL,rB,rA,rS,ZGf l key hn,Z6,h,hi',ZFj,hh,hp,Pair.u,hne]
   simp [sel,hne]
 | some p=>
  obtain ⟨pk,pv⟩:=p
  obtain ⟨h1,h2⟩:=ZGa hh
  have hlt:=(List.getElem?_eq_some_iff.1 h1).1
  have hi':¬((place key l:Nat):Int)=(l.length:Int):=by omega
  dsimp only at h2
  simp only[↓xP,xT,rL,rB,rA,rS,ZGf l key hn,Z6,h,hi',ZFj,hh,h1,Pair.u,h2]
  simp [sel]
def yU (n:Int):List U:=[.int .u8 n]
/-- A reader: its bytes, and how many numbers it drew. -/
def rd (bs:List Int) (p:Nat):Obj:=.box [.u (.sl 1 (bs.map yU)),.u (.int .i64 p)]
/-- What a function that draws comes to: results of a kind; the reader went on by at most so many. -/
def Gd (bs:List Int) (p c:Nat) (R:List T→List Obj→Prop) (x:Option Ret):Prop:=∃ r n q,x=some ⟨r,n,[rd bs q]⟩∧p≤q∧q≤p+c∧R r n
theorem ZMn {fin:St→Option Ret} {is:List Za} {c:IC} {α:Type} {G:Option Ret→Prop} (Inv:α→St→Prop) (μ:α→Nat)
  (h:∀ a st,Inv a st→(∀ a' st',μ a'<μ a→Inv a' st'→G (KK F fin (.inLoop c::is) st'))→G (KK F fin (.code c::.inLoop c::is) st)) {st:St} (a:α) (hI:Inv a st):G (KK F fin (.code (.loop c)::is) st):=by
 rw [ZgK]
 have all:∀ n a st,μ a<n→Inv a st→G (KK F fin (.inLoop c::is) st):=by
  intro n
  induction n with
  | zero=>intro a st h0; omega
  | succ n ih=>
   intro a st hn hI
   rw [ZfN]
   exact h a st hI (fun a' st' hm hI'=>ih a' st' (by omega) hI')
 exact all (μ a+1) a st (by omega) hI
theorem rdx:(∀ bs p,(rd bs p).data=true)∧(∀ bs p q,ZaJ (some (rd bs p)) (rd bs q)=true)∧(∀ id bs p,Obj.mapC (C.kill id) (rd bs p)=rd bs p)∧(∀ st id bs p,Obj.mapC (St.coolC st id) (rd bs p)=rd bs p):=by
 refine ⟨fun _ _=>rfl,fun _ _ _=>rfl,fun _ _ _=>rfl,fun st id bs p=>?_⟩
 have h:∀ u,st.coolC id (.u u)=.u u:=by
  intro u
  unfold St.coolC
  cases st.o id with
  | none=>rfl
  | some ob=>cases ob<;>rfl
 simp [rd,Obj.mapC,h]
theorem Gd.run {f:Nat} {a:List T} {bs:List Int} {p c:Nat} {R:List T→List Obj→Prop} {fn:IFn} (hF:Go.Proofs.YtmfjkbbmhaofbaaGreatV.F f=some fn) (hn:a.length=fn.np) (h:Gd bs p c R (KK F (FF fn.res 1) [.code fn.body] (ZdN 0 a (ZcQ 0 [rd bs p] S0)))):Gd bs p c R (EE F f a [rd bs p]):=by
 rw [EE_run hF hn]; exact h
theorem ZJC {i:Nat} (h:i≤1048576):IntKind.i64.wrap (((i+1:Nat):Int) - 1)=(i:Int):=by rw [w64 (by omega) (by omega)]; omega
theorem rdx2:(∀ bs p,Obj.flat (rd bs p)=(bs.map yU).isEmpty)∧(∀ bs p,Obj.data (rd bs p)=true)∧(∀ (x:Bool) (a:List Id),sel x a a=a):=by
 refine ⟨fun bs p=>?_,fun bs p=>rfl,fun x a=>by cases x<;>rfl⟩
 simp [rd,Obj.flat,C.isSl,U.flat]
def Code (code:List Int):Prop:=code.length≤9223372036854775807∧∀ b,b∈code→0≤b∧b≤255
/-- A property of a call's end. -/
def Ok (R:Ret→Prop) (x:Option Ret):Prop:=∃ r,x=some r∧R r
theorem Ok.run {f:Nat} {a:List T} {R:Ret→Prop} {fn:IFn} (hF:Go.Proofs.YtmfjkbbmhaofbaaGreatV.F f=some fn) (hn:a.length=fn.np) (h:Ok R (KK F (FF fn.res 0) [.code fn.body] (ZdN 0 a (ZcQ 0 [] S0)))):Ok R (EE F f a []):=by
 rw [EE_run hF hn]; exact h
theorem ZNf (us:List U) (hl:us.length=1) (ht:∀ (j:Nat) ty u,[Ty.i .u8][j]?=some ty→us[j]?=some u→UT ty u):∃ x,us=yU x∧(0≤x∧x≤255):=by
 match us,hl with
 | [a],_=>obtain ⟨n,rfl,h⟩:=(ht 0 _ a rfl rfl).u8_of; exact ⟨n,rfl,h⟩
theorem Code.of {u:U} (hu:UT (.sl [.i .u8]) u):∃ code:List Int,u=.sl 1 (code.map yU)∧Code code:=by
 obtain ⟨code,rfl,hl,hb⟩:=hu.sl_of ZNf
 exact ⟨code,rfl,hl,hb⟩
theorem ZM1 {l:List Pair} {i:Nat} {p q:Pair} (h:l[i]?=some p):(l.map Pair.u).set i (Pair.u q)=(rep l i 1 [q]).map Pair.u:=by
 obtain ⟨hi,_⟩:=List.getElem?_eq_some_iff.1 h
 rw [←List.map_set]
 congr 1
 rw [List.set_eq_take_append_cons_drop,if_pos hi]
 simp [rep]
theorem ZMO {l:List Pair} {i:Nat} {p q:Pair} (h:l[i]?=some p):(rep l i 1 [q]).length=l.length:=by
 obtain ⟨hi,_⟩:=List.getElem?_eq_some_iff.1 h
 rw [ZIm (by omega)]
 simp; omega
theorem ZKv (l:List Pair) (key:Str) (v:Int) (hn:l.length≤1048576):EE F 231 [L 2 (l.map Pair.u),S key,I v] []=ZZ Pair.u 2 (Z3 l key v):=by
 rw [R231,b231]
 have hpl:=ZGQ key l
 have hv:=Z6 l
 cases h:ZA l
 ·rw [h] at hv
  simp only[↓xP,xT,rL,rB,rA,rS,hv,Z3,h,Bool.false_eq_true,false_and,if_false,ZZ,List.map_nil,List.length_nil]
 rw [h] at hv
 have hl48:=ZM h
 have hkv:=ZFk key
 cases hk:Z2 key
 ·rw [hk] at hkv
  simp only[↓xP,xT,rL,rB,rA,rS,hv,hkv,Z3,hk,Bool.false_eq_true,false_and,and_false,if_false,ZZ,List.map_nil,List.length_nil]
 rw [hk] at hkv
 cases hr:inR v 0 999
 ·simp only[↓xP,xT,rL,rB,rA,rS,hv,hkv,ZY,hr,Z3,Bool.false_eq_true,false_and,and_false,if_false,ZZ,List.map_nil,List.length_nil]
 have q0:l.length≤maxLen∧l.length*24≤140737488355328:=ZP hn (by omega)
 have hpl4:=ZGf l key (by omega)
 cases hh:hit key l with
 | some p=>
  obtain ⟨pk,pv⟩:=p
  obtain ⟨h1,h2⟩:=ZGa hh
  dsimp only at h2
  subst h2
  have hlt:=(List.getElem?_eq_some_iff.1 h1).1
  have hli:((place pk l:Nat):Int)<(l.length:Int):=by omega
  have hset:=ZM1 (q:=⟨pk,v⟩) h1
  have hrl:=ZMO (q:=⟨pk,v⟩) h1
  simp only[Pair.u] at hset
  have hpp:Z3 l pk v=(rep l (place pk l) 1 [⟨pk,v⟩],true):=by simp only[Z3,h,hk,hr,hh,Option.isSome_some,and_self,if_true]
  rw [hpp]
  simp only[↓xP,xT,rL,rB,rA,rS,hv,hkv,ZY,hr,hpl4,List.length_map,Nat.zero_add,List.nil_append,hli,h1,Pair.u,q0.1,q0.2,hset,hlt]
  simp [sel,hrl,ZZ]
 | none=>
  have hno:=ZIf hh
  have hmin:min (place key l) l.length=place key l:=by omega
  have hct:=ZH2 (n:=l.length) (i:=place key l) (by omega)
  have hcf:=ZHB (n:=l.length) (i:=place key l) (by omega)
  have q1:place key l≤maxLen∧place key l*24≤140737488355328:=ZP (by omega) (by omega)
  have q2:place key l+1≤maxLen∧(place key l+1)*24≤140737488355328:=ZP (by omega) (by omega)
  have q3:place key l+1 + (l.length - place key l)≤maxLen∧(place key l+1 + (l.length - place key l))*24≤140737488355328:=ZP (by omega) (by omega)
  have hlen:(rep l (place key l) 0 [⟨key,v⟩]).length=place key l+1 + (l.length - place key l):=by rw [ZIm (by omega)]; simp; omega
  have her:List.take (place key l) (l.map Pair.u)++[[U.str key,U.int .i64 v]]++List.drop (place key l) (l.map Pair.u)=(rep l (place key l) 0 [⟨key,v⟩]).map Pair.u:=by simp [rep,List.map_take,List.map_drop,Pair.u]
  by_cases hge:(48:Int)≤(l.length:Int)
  ·have hge':48≤l.length:=by omega
   have hpp:Z3 l key v=(l,false):=by simp only[Z3,h,hk,hr,hh,Option.isSome_none,Bool.false_eq_true,if_false,hge',and_self,if_true]
   rw [hpp]
   by_cases hlt:place key l<l.length
   ·obtain ⟨⟨pk,pv⟩,hp⟩:∃ p,l[place key l]?=some p:=⟨_,List.getElem?_eq_getElem (by omega)⟩
    have hli:((place key l:Nat):Int)<(l.length:Int):=by omega
    have hne:¬pk=key:=hno _ hp
    simp only[↓xP,xT,rL,rB,rA,rS,hv,hkv,ZY,hr,hpl4,List.length_map,Nat.zero_add,List.nil_append,hli,hp,Pair.u,hne,q0.1,q0.2,ge_iff_le,hge,ZZ,ZL]
   ·have hli:¬((place key l:Nat):Int)<(l.length:Int):=by omega
    simp only[↓xP,xT,rL,rB,rA,rS,hv,hkv,ZY,hr,hpl4,List.length_map,Nat.zero_add,List.nil_append,hli,Pair.u,q0.1,q0.2,ge_iff_le,hge,ZZ,ZL]
  ·have hge':¬48≤l.length:=by omega
   have hpp:Z3 l key v=(rep l (place key l) 0 [⟨key,v⟩],true):=by simp only[Z3,h,hk,hr,hh,Option.isSome_none,Bool.false_eq_true,if_false,hge',and_self,if_true]
   rw [hpp]
   by_cases hlt:place key l<l.length
   ·obtain ⟨⟨pk,pv⟩,hp⟩:∃ p,l[place key l]?=some p:=⟨_,List.getElem?_eq_getElem (by omega)⟩
    have hli:((place key l:Nat):Int)<(l.length:Int):=by omega
    have hne:¬pk=key:=hno _ hp
    simp only[↓xP,xT,rL,rB,rA,rS,hv,hkv,ZY,hr,hpl4,List.length_map,List.length_take,List.length_drop,Nat.zero_add,List.nil_append,hli,hp,Pair.u,hne,q1.1,q1.2,q2.1,q2.2,q3.1,q3.2,ge_iff_le,hge,ZZ,ZL,hct,hcf,hmin,hlen,her,List.drop_zero,List.length_append,List.length_cons,List.length_nil]
   ·have hli:¬((place key l:Nat):Int)<(l.length:Int):=by omega
    simp only[↓xP,xT,rL,rB,rA,rS,hv,hkv,ZY,hr,hpl4,List.length_map,List.length_take,List.length_drop,Nat.zero_add,List.nil_append,hli,Pair.u,q1.1,q1.2,q2.1,q2.2,q3.1,q3.2,ge_iff_le,hge,ZZ,ZL,hct,hcf,hmin,hlen,her,List.drop_zero,List.length_append,List.length_cons,List.length_nil]
def ZMS (p:Pair):Prop:=Z2 p.key=true∧inR p.value 0 999=true
def Up (a b:Pair):Prop:=ZaZ a.key b.key=true
theorem ZFU (l:List Pair):ZA l=true↔l.length≤48∧(∀ p,p∈l→ZMS p)∧l.Pairwise Up:=by
 constructor
 ·intro h
  refine ⟨ZM h,fun p hp=>?_,?_⟩
  ·obtain ⟨i,hi⟩:=List.mem_iff_getElem?.1 hp
   exact ZHT h hi
  ·rw [List.pairwise_iff_getElem]
   intro i j hi hj hij
   exact ZH0 h i j _ _ hij (List.getElem?_eq_getElem hi) (List.getElem?_eq_getElem hj)
 ·rintro ⟨h1,h2,h3⟩
  simp only[ZA,Bool.and_eq_true,decide_eq_true_eq]
  refine ⟨h1,(ZFC _ 0 rfl).2 fun j _ hj=>?_⟩
  obtain ⟨p,hp⟩:∃ p,l[j]?=some p:=⟨_,List.getElem?_eq_getElem hj⟩
  have hf:=h2 p (List.mem_of_getElem? hp)
  simp only[ZFp,hp,hf.1,hf.2,Bool.and_true,Bool.true_and,Bool.or_eq_true,decide_eq_true_eq]
  by_cases h0:j=0
  ·exact .inl h0
  ·right
   obtain ⟨q,hq⟩:∃ q,l[j - 1]?=some q:=⟨_,List.getElem?_eq_getElem (by omega)⟩
   rw [hq]
   have:=List.pairwise_iff_getElem.1 h3 (j - 1) j (by omega) hj (by omega)
   rw [(List.getElem?_eq_some_iff.1 hq).2,(List.getElem?_eq_some_iff.1 hp).2] at this
   exact this
theorem ZJN (l:List Pair) (key:Str) (hn:l.length≤1048576):EE F 230 [L 2 (l.map Pair.u),S key] []=ZZ Pair.u 2 (ZFd l key):=by
 rw [R230,b230]
 have hpl:=ZGQ key l
 have hv:=Z6 l
 cases h:ZA l
 ·rw [h] at hv
  simp only[↓xP,xT,rL,rB,rA,rS,hv,ZFd,h,Bool.false_eq_true,false_and,if_false,ZZ,List.map_nil,List.length_nil]
 rw [h] at hv
 have q0:l.length≤maxLen∧l.length*24≤140737488355328:=ZP hn (by omega)
 have hpl4:=ZGf l key (by omega)
 cases hh:hit key l with
 | none=>
  have hno:=ZIf hh
  have hpp:ZFd l key=(l,false):=by simp only[ZFd,h,hh,Option.isSome_none,Bool.false_eq_true,if_false,if_true]
  rw [hpp]
  by_cases hi:place key l=l.length
  ·have hi':((place key l:Nat):Int)=(l.length:Int):=by omega
   simp only[↓xP,xT,rL,rB,rA,rS,hv,hpl4,List.length_map,hi',Nat.zero_add,List.nil_append,q0.1,q0.2,ZZ,ZL]
  ·obtain ⟨⟨pk,pv⟩,hp⟩:∃ p,l[place key l]?=some p:=⟨_,List.getElem?_eq_getElem (by omega)⟩
   have hi':¬((place key l:Nat):Int)=(l.length:Int):=by omega
   have hne:¬pk=key:=hno _ hp
   simp only[↓xP,xT,rL,rB,rA,rS,hv,hpl4,List.length_map,hi',hp,Pair.u,hne,Nat.zero_add,List.nil_append,q0.1,q0.2,ZZ,ZL,ne_eq,not_false_eq_true]
 | some p=>
  obtain ⟨pk,pv⟩:=p
  obtain ⟨h1,h2⟩:=ZGa hh
  dsimp only at h2
  subst h2
  have hlt:=(List.getElem?_eq_some_iff.1 h1).1
  have hi':¬((place pk l:Nat):Int)=(l.length:Int):=by omega
  have hmin:min (place pk l) l.length=place pk l:=by omega
  have hw:=w_succ (i:=place pk l) (by omega)
  have hct:=ZH2 (n:=l.length) (i:=place pk l) (by omega)
  have hcf:=ZHB (n:=l.length) (i:=place pk l+1) (by omega)
  have q1:place pk l≤maxLen∧place pk l*24≤140737488355328:=ZP (by omega) (by omega)
  have q3:place pk l + (l.length - (place pk l+1))≤maxLen∧(place pk l + (l.length - (place pk l+1)))*24≤140737488355328:=ZP (by omega) (by omega)
  have hlen:(rep l (place pk l) 1 []).length=place pk l + (l.length - (place pk l+1)):=by rw [ZIm (by omega)]; simp; omega
  have her:List.take (place pk l) (l.map Pair.u)++List.drop (place pk l+1) (l.map Pair.u)=(rep l (place pk l) 1 []).map Pair.u:=by simp [rep,List.map_take,List.map_drop]
  have hpp:ZFd l pk=(rep l (place pk l) 1 [],true):=by simp only[ZFd,h,hh,Option.isSome_some,if_true]
  rw [hpp]
  simp only[↓xP,xT,rL,rB,rA,rS,hv,hpl4,List.length_map,List.length_take,List.length_drop,hi',h1,Pair.u,Nat.zero_add,List.nil_append,hw,hct,hcf,hmin,q1.1,q1.2,q3.1,q3.2,ZZ,ZL,hlen,her,List.drop_zero,ne_eq,not_true_eq_false]
def ZFa (l:List Pair) (c:Command):List Pair×Int:=
  if ZA l=true∧Z5 c=true∧¬c.kind=5 then
    (if c.kind=1∨(c.kind=4∧¬c.old=ZFj l c.key) then (l,ZFj l c.key)
     else if c.kind=3 then ((ZFd l c.key).1,ZFj l c.key)
     else if ZFj l c.key<0∧8≤l.length then (l,-2)
     else ((Z3 l c.key c.value).1,ZFj l c.key))
  else ([],-3)
def ZS (r:List Pair×Int):Option Ret:=some ⟨[.sc (.own (.par 0) r.1.length),I r.2],[.row 2 (r.1.map Pair.u)],[]⟩
theorem ZIa (l:List Pair) (k:Int) (key:Str) (v o:Int) (hn:l.length≤1048576):EE F 271 [L 2 (l.map Pair.u),.ag [.u (.int .i64 k),.u (.str key),.u (.int .i64 v),.u (.int .i64 o)]] []=ZS (ZFa l ⟨k,key,v,o⟩):=by
  rw [R271,b271]
  have hv:=Z6 l
  have hcv:=ZF7 k key v o
  cases h:ZA l
  · rw [h] at hv
    simp only[↓xP,xT,rL,rB,rA,rS,hv,ZFa,h,Bool.false_eq_true,false_and,if_false,ZS,List.map_nil,List.length_nil]
  rw [h] at hv
  cases h2:Z5 ⟨k,key,v,o⟩
  · rw [h2] at hcv
    simp only[↓xP,xT,rL,rB,rA,rS,hv,hcv,ZFa,h,h2,Bool.false_eq_true,false_and,and_false,if_false,ZS,List.map_nil,List.length_nil]
  rw [h2] at hcv
  by_cases h5:k=5
  · subst h5
    simp only[↓xP,xT,rL,rB,rA,rS,hv,hcv,ZFa,not_true_eq_false,and_false,if_false,ZS,List.map_nil,List.length_nil]
  have q0:l.length≤maxLen∧l.length*24≤140737488355328:=ZP hn (by omega)
  have hpg:=ZKt l key (by omega)
  have hpd:=ZJN l key hn
  have hpp:=ZKv l key v hn
  generalize hgo:ZFj l key=old at hpg
  generalize hdo:ZFd l key=dr at hpd
  generalize hpo:Z3 l key v=pu at hpp
  obtain ⟨dl,db⟩:=dr
  obtain ⟨pl,pb⟩:=pu
  simp only[ZZ] at hpd hpp
  by_cases h1:k=1
  · subst h1
    simp only[↓xP,xT,rL,rB,rA,rS,hv,hcv,h5,hpg,List.length_map,Nat.zero_add,List.nil_append,q0.1,q0.2,ZFa,h,h2,hgo,hdo,hpo,and_self,true_or,false_or,not_false_eq_true,if_true,ZS,ZL]
  by_cases h4:k=4
  · subst h4
    by_cases ho:o=old
    · subst ho
      have h43:¬(4:Int)=3:=by omega
      by_cases hlt:o<0
      · by_cases h8:(8:Int)≤(l.length:Int)
        · have h8':8≤l.length:=by omega
          simp only[↓xP,xT,rL,rB,rA,rS,hv,hcv,h5,h1,h43,hlt,h8,h8',hpg,List.length_map,Nat.zero_add,List.nil_append,q0.1,q0.2,ZFa,h,h2,hgo,hdo,hpo,and_self,true_or,false_or,or_self,and_false,true_and,not_true_eq_false,not_false_eq_true,if_true,if_false,ZS,ZL,ge_iff_le,ne_eq]
        · have h8':¬8≤l.length:=by omega
          simp only[↓xP,xT,rL,rB,rA,rS,hv,hcv,h5,h1,h43,hlt,h8,h8',hpg,hpp,List.length_map,Nat.zero_add,List.nil_append,q0.1,q0.2,ZFa,h,h2,hgo,hdo,hpo,and_self,true_or,false_or,or_self,and_false,true_and,not_true_eq_false,not_false_eq_true,if_true,if_false,ZS,ZL,ge_iff_le,ne_eq]
      · simp only[↓xP,xT,rL,rB,rA,rS,hv,hcv,h5,h1,h43,hlt,hpg,hpp,List.length_map,Nat.zero_add,List.nil_append,q0.1,q0.2,ZFa,h,h2,hgo,hdo,hpo,and_self,true_or,false_or,or_self,and_false,false_and,true_and,not_true_eq_false,not_false_eq_true,if_true,if_false,ZS,ZL,ge_iff_le,ne_eq]
    · simp only[↓xP,xT,rL,rB,rA,rS,hv,hcv,h5,h1,ho,hpg,List.length_map,Nat.zero_add,List.nil_append,q0.1,q0.2,ZFa,h,h2,hgo,hdo,hpo,and_self,true_or,or_true,false_or,not_false_eq_true,if_true,ZS,ZL,ne_eq]
  by_cases h3:k=3
  · subst h3
    simp only[↓xP,xT,rL,rB,rA,rS,hv,hcv,h5,h1,h4,hpg,hpd,List.length_map,Nat.zero_add,List.nil_append,q0.1,q0.2,ZFa,h,h2,hgo,hdo,hpo,and_self,true_or,false_or,or_self,false_and,not_false_eq_true,if_true,if_false,ZS,ZL]
  · by_cases hlt:old<0
    · by_cases h8:(8:Int)≤(l.length:Int)
      · have h8':8≤l.length:=by omega
        simp only[↓xP,xT,rL,rB,rA,rS,hv,hcv,h5,h1,h4,h3,hlt,h8,h8',hpg,List.length_map,Nat.zero_add,List.nil_append,q0.1,q0.2,ZFa,h,h2,hgo,hdo,hpo,and_self,true_or,false_or,or_self,and_false,false_and,true_and,not_true_eq_false,not_false_eq_true,if_true,if_false,ZS,ZL,ge_iff_le,ne_eq]
      · have h8':¬8≤l.length:=by omega
        simp only[↓xP,xT,rL,rB,rA,rS,hv,hcv,h5,h1,h4,h3,hlt,h8,h8',hpg,hpp,List.length_map,Nat.zero_add,List.nil_append,q0.1,q0.2,ZFa,h,h2,hgo,hdo,hpo,and_self,true_or,false_or,or_self,and_false,false_and,true_and,not_true_eq_false,not_false_eq_true,if_true,if_false,ZS,ZL,ge_iff_le,ne_eq]
    · simp only[↓xP,xT,rL,rB,rA,rS,hv,hcv,h5,h1,h4,h3,hlt,hpg,hpp,List.length_map,Nat.zero_add,List.nil_append,q0.1,q0.2,ZFa,h,h2,hgo,hdo,hpo,and_self,true_or,false_or,or_self,and_false,false_and,true_and,not_true_eq_false,not_false_eq_true,if_true,if_false,ZS,ZL,ge_iff_le,ne_eq]
theorem ZHz (l:List Session) (hn:l.length≤1048576):EE F 273 [L 3 (l.map Session.u)] []=some ⟨[.sc (.own (.par 0) l.length)],[.row 3 (l.map Session.u)],[]⟩:=by
 rw [R273,b273]
 have h1:l.length≤maxLen:=by simp [maxLen]; omega
 have h2:l.length*24≤140737488355328:=by omega
 have h3:∀ n:Nat,¬(n:Int)<0:=fun n=>by omega
 simp only[↓xP,xT,rL,rB,rA,rS,h1,h2]
def pc (id:Id) (b:Bool) (l:List Pair):C:=match b with
 | false=>.u (.sl 2 (l.map Pair.u))
 | true=>.own id l.length
theorem ofR:(∀ (st:St) d res x y z,St.ofRet st d ⟨res,[x,y,z],[]⟩=(((st.obj (.loc d 0) (some x)).obj (.loc d 1) (some y)).obj (.loc d 2) (some z)).put d (retD (res.map (T.mapC (C.ren (Zah d))))))∧
 (∀ (st:St) d res x y z w,St.ofRet st d ⟨res,[x,y,z,w],[]⟩=((((st.obj (.loc d 0) (some x)).obj (.loc d 1) (some y)).obj (.loc d 2) (some z)).obj (.loc d 3) (some w)).put d (retD (res.map (T.mapC (C.ren (Zah d))))))∧List.range 3=[0,1,2]∧List.range 4=[0,1,2,3]:=
 ⟨fun st d res x y z=>rfl,fun st d res x y z w=>rfl,rfl,rfl⟩
def cmpI (a b:Int):Int:=if a<b then -1 else if b<a then 1 else 0
theorem ZMY (x:Int):EE F 310 [I x] []=ok1 (B false):=by
 rw [R310,b310]
 simp only[↓xP,xT,rL,rB,rA,rS,ne_eq,not_true_eq_false]
theorem ZMd (a b:Int):EE F 299 [I a,I b] []=ok1 (I (cmpI a b)):=by
 rw [R299,b299]
 simp only[↓xP,xT,rL,rB,rA,rS,ZMY]
 unfold cmpI
 by_cases h1:a<b
 ·simp only[h1,if_true,decide_true,sel]
 ·by_cases h2:b<a
  ·simp only[h1,h2,if_true,if_false,decide_true,decide_false,sel,gt_iff_lt,Bool.false_eq_true]
  ·simp only[h1,h2,if_true,if_false,decide_true,decide_false,sel,gt_iff_lt,Bool.false_eq_true]
theorem ZH6 (a b c:Int) (x:Int):EE F 298 [.ag [.u (.int .i64 a),.u (.int .i64 b),.u (.int .i64 c)],I x] []=ok1 (I (cmpI a x)):=by
 rw [R298,b298]
 simp only[↓xP,xT,rL,rB,rA,rS,ZMd]
theorem ZKu (l:List Pair) (key:Str) (v:Int) (hn:l.length≤1048576):EE F 237 [L 2 (l.map Pair.u),S key,I v] []=ZZ Pair.u 2 (Z3 l key v):=by
 rw [R237,b237]
 have hv:=ZFq l
 cases h:ZA l
 ·rw [h] at hv
  simp only[↓xP,xT,rL,rB,rA,rS,hv,Z3,h,Bool.false_eq_true,false_and,if_false,ZZ,List.map_nil,List.length_nil]
 rw [h] at hv
 have hl48:=ZM h
 have hkv:=ZFx key
 cases hk:Z2 key
 ·rw [hk] at hkv
  simp only[↓xP,xT,rL,rB,rA,rS,hv,hkv,Z3,hk,Bool.false_eq_true,false_and,and_false,if_false,ZZ,List.map_nil,List.length_nil]
 rw [hk] at hkv
 cases hr:inR v 0 999
 ·simp only[↓xP,xT,rL,rB,rA,rS,hv,hkv,ZFy,hr,Z3,Bool.false_eq_true,false_and,and_false,if_false,ZZ,List.map_nil,List.length_nil]
 have hpl:=ZHr l key (ZH0 h) (by omega)
 have hple:=ZGQ key l
 rw [ZIA] at hpl
 have e0:((0:Nat):Int)=0:=rfl
 have e1:((1:Nat):Int)=1:=rfl
 have hmap : [[U.str key,U.int .i64 v]]=List.map Pair.u [⟨key,v⟩]:=rfl
 cases hh:hit key l with
 | some p=>
  have h1:=(ZGa hh).1
  have hlt:=(List.getElem?_eq_some_iff.1 h1).1
  have hre:=ZHb l [⟨key,v⟩] (place key l) 1 (by omega) (by simp only[List.length_cons,List.length_nil]; omega)
  rw [e1,←hmap] at hre
  have hpp:Z3 l key v=(rep l (place key l) 1 [⟨key,v⟩],true):=by simp only[Z3,h,hk,hr,hh,Option.isSome_some,and_self,if_true]
  rw [hh,Option.isSome_some] at hpl
  simp only[↓xP,xT,rL,rB,rA,rS,hv,hkv,ZFy,hr,hpl,hre,hpp,ZZ]
 | none=>
  rw [hh,Option.isSome_none] at hpl
  by_cases h48:48≤l.length
  ·have h48':(48:Int)≤(l.length:Int):=by omega
   have hc:=ZG0 l (by omega)
   have hpp:Z3 l key v=(l,false):=by simp only[Z3,h,hk,hr,hh,Option.isSome_none,Bool.false_eq_true,if_false,h48,and_self,if_true]
   simp only[↓xP,xT,rL,rB,rA,rS,hv,hkv,ZFy,hr,hpl,List.length_map,ge_iff_le,h48',hc,hpp,ZZ]
  ·have h48':¬(48:Int)≤(l.length:Int):=by omega
   have hre:=ZHb l [⟨key,v⟩] (place key l) 0 (by omega) (by simp only[List.length_cons,List.length_nil]; omega)
   rw [e0,←hmap] at hre
   have hpp:Z3 l key v=(rep l (place key l) 0 [⟨key,v⟩],true):=by simp only[Z3,h,hk,hr,hh,Option.isSome_none,Bool.false_eq_true,if_false,h48,and_self,if_true]
   simp only[↓xP,xT,rL,rB,rA,rS,hv,hkv,ZFy,hr,hpl,List.length_map,ge_iff_le,h48',hre,hpp,ZZ]
theorem ZJM (l:List Pair) (key:Str) (hn:l.length≤1048576):EE F 236 [L 2 (l.map Pair.u),S key] []=ZZ Pair.u 2 (ZFd l key):=by
 rw [R236,b236]
 have hv:=ZFq l
 cases h:ZA l
 ·rw [h] at hv
  simp only[↓xP,xT,rL,rB,rA,rS,hv,ZFd,h,Bool.false_eq_true,false_and,if_false,ZZ,List.map_nil,List.length_nil]
 rw [h] at hv
 have hl48:=ZM h
 have hpl:=ZHr l key (ZH0 h) (by omega)
 have hple:=ZGQ key l
 rw [ZIA] at hpl
 have e1:((1:Nat):Int)=1:=rfl
 cases hh:hit key l with
 | some p=>
  have h1:=(ZGa hh).1
  have hlt:=(List.getElem?_eq_some_iff.1 h1).1
  have hre:=ZHb l [] (place key l) 1 (by omega) (by simp only[List.length_nil]; omega)
  rw [e1,List.map_nil] at hre
  have hpp:ZFd l key=(rep l (place key l) 1 [],true):=by simp only[ZFd,h,hh,Option.isSome_some,if_true]
  rw [hh,Option.isSome_some] at hpl
  simp only[↓xP,xT,rL,rB,rA,rS,hv,hpl,hre,hpp,ZZ]
 | none=>
  rw [hh,Option.isSome_none] at hpl
  have hc:=ZG0 l (by omega)
  have hpp:ZFd l key=(l,false):=by simp only[ZFd,h,hh,Option.isSome_none,Bool.false_eq_true,if_false,if_true]
  simp only[↓xP,xT,rL,rB,rA,rS,hv,hpl,hc,hpp,ZZ]
/-- Literals of slices in drawn regions. -/
def fxl1 (d n k:Nat) (ok:Bool) (ids:List Id) (r:Option (List (List U))):Option Fx:=if ok=true∧ids=[] then r.map fun r=>⟨some d,.t (.sc (.own (.loc d 0) n)),[(.loc d 0,.row k r)],[]⟩ else none
theorem ZNd:(∀ (E:Zb) (st:St) d n zero ps,fx E st (.lit d n zero ps)=fxl1 d n zero.length (st.dead d 1) (st.partIds ps) (st.fillRows zero.length (List.replicate n zero) ps))∧
 (∀ d n k r,fxl1 d n k true [] (some r)=some ⟨some d,.t (.sc (.own (.loc d 0) n)),[(.loc d 0,.row k r)],[]⟩):=by
 refine ⟨fun E st d n zero ps=>?_,fun d n k r=>rfl⟩
 simp only[fx,fxl1]
theorem ZE {α:Type} {l:List α} {i:Nat} {x:α} (h:l[i]?=some x):l.drop i=x::l.drop (i+1):=by
 have hi:=(List.getElem?_eq_some_iff.1 h).1
 rw [List.drop_eq_getElem_cons hi,(List.getElem?_eq_some_iff.1 h).2]
def ZH5 (c:Config):Bool:=decide (c.epoch=0)&&decide (c.members.length=0)&&!c.fresh
theorem ZIU (e:Int) (l:List Int) (f:Bool):EE F 260 [.ag [.u (.int .i64 e),.u (.sl 1 (l.map iU)),.u (.bool f)]] []=ok1 (B (ZH5 ⟨e,l,f⟩)):=by
 rw [R260,b260]
 simp only[↓xP,xT,rL,rB,rA,rS]
 repeat' (refine ZiE (fun h=>?_) (fun h=>?_))
 all_goals simp_all [ZH5]
theorem ZIV (e:Int) (l:List Int) (f:Bool):EE F 251 [.ag [.u (.int .i64 e),.u (.sl 1 (l.map iU)),.u (.bool f)]] []=ok1 (B (ZH5 ⟨e,l,f⟩)):=by
 rw [R251,b251]
 simp only[↓xP,xT,rL,rB,rA,rS]
 repeat' (refine ZiE (fun h=>?_) (fun h=>?_))
 all_goals simp_all [ZH5]
def ZN (l:List Entry):Bool:=decide (l.length≤24)&&l.all ZT
theorem ZF8 (l:List Entry) (hn:l.length≤4611686018427387904):EE F 225 [L 6 (l.map Entry.u)] []=ok1 (B (ZN l)):=by
 rw [R225,b225]
 simp only[↓xP,xT,rL,rB,rA,rS]
 refine ZiE (fun h=>?_) (fun h=>?_)
 ·have:¬l.length≤24:=by simp at h; omega
  simp [ZN,this]
 have hl:l.length≤24:=by simp at h; omega
 refine (Zjc (fun (i:Nat) st=>st.s 8=DU (.sl 6 (l.map Entry.u))∧st.s 9=DI l.length∧st.s 10=DI i) (fun i=>l.length - i) (fun i=>ok1 (B ((l.drop i).all ZT))) ?_ 0 (by and_intros<;>first|omega|rfl|(simp only[↓xP,xT,rL,rB,rA,rS]<;>first|done|rfl|omega))).trans (by simp [ZN,hl])
 rintro i st ⟨h8,h9,h10⟩ ih
 by_cases hi:i<l.length
 ·obtain ⟨⟨c,s,k,key,v,o⟩,hx⟩:∃ x,l[i]?=some x:=⟨_,List.getElem?_eq_getElem hi⟩
  have hw:=w_succ (i:=i) (by omega)
  simp only[↓xP,xT,rL,rB,rA,rS,h8,h9,h10,hi,hx,hw,Entry.u,ZGz]
  rw [ZE hx]
  refine ZiE (fun h=>?_) (fun h=>?_)
  ·simp_all
  ·rw [ih (i+1) _ (by omega) (by and_intros<;>first|omega|rfl|(simp only[↓xP,xT,rL,rB,rA,rS,h8,h9]<;>first|done|rfl|omega))]; simp_all
 ·simp only[↓xP,xT,rL,rB,rA,rS,h8,h9,h10,hi]
  rw [List.drop_of_length_le (by omega)]; rfl
theorem ZF9 (l:List Entry) (hn:l.length≤4611686018427387904):EE F 222 [L 6 (l.map Entry.u)] []=ok1 (B (ZN l)):=by
 rw [R222,b222]
 simp only[↓xP,xT,rL,rB,rA,rS]
 refine (Zjc (fun (i:Nat) st=>i≤24∧i≤l.length∧st.s 0=DU (.sl 6 (l.map Entry.u))∧st.s 3=DI i) (fun i=>l.length - i) (fun i=>ok1 (B (decide (l.length≤24)&&(l.drop i).all ZT))) ?_ 0 (by and_intros<;>first|omega|rfl|(simp only[↓xP,xT,rL,rB,rA,rS]<;>first|done|rfl|omega))).trans (by simp [ZN])
 rintro i st ⟨h24,hle,h0,h3⟩ ih
 by_cases hi:i<l.length
 ·obtain ⟨⟨c,s,k,key,v,o⟩,hx⟩:∃ x,l[i]?=some x:=⟨_,List.getElem?_eq_getElem hi⟩
  have hw:=w_succ (i:=i) (by omega)
  by_cases hc:i=24
  ·have hc2:((24:Int)≤(i:Int))=True:=by simp; omega
   simp only[↓xP,xT,rL,rB,rA,rS,h0,h3,hi,hx,hw,hc2,Entry.u,ZF0]
   have:¬l.length≤24:=by omega
   simp [this]
  ·have hc2:((24:Int)≤(i:Int))=False:=by simp; omega
   simp only[↓xP,xT,rL,rB,rA,rS,h0,h3,hi,hx,hw,hc2,Entry.u,ZF0]
   rw [ZE hx]
   refine ZiE (fun h=>?_) (fun h=>?_)
   ·simp_all
   ·rw [ih (i+1) _ (by omega) (by and_intros<;>first|omega|rfl|(simp only[↓xP,xT,rL,rB,rA,rS,h0]<;>first|done|rfl|omega))]; simp_all
 ·simp only[↓xP,xT,rL,rB,rA,rS,h0,h3,hi]
  rw [List.drop_of_length_le (by omega)]
  have:l.length≤24:=by omega
  simp [this]
def ZFf (r:Replica):Bool:=if ZH5 r.conf=true then !r.ready&&decide (r.log.length=0) else ZV r.conf&&ZN r.log&&(r.ready||decide (r.log.length=0))
theorem ZIn (e:Int) (ms:List Int) (f rd:Bool) (lg:List Entry) (h1:ms.length≤4611686018427387904) (h2:lg.length≤4611686018427387904):EE F 195 [.ag [.u (.int .i64 e),.u (.sl 1 (ms.map iU)),.u (.bool f),.u (.bool rd),.u (.sl 6 (lg.map Entry.u))]] []=ok1 (B (ZFf ⟨⟨e,ms,f⟩,rd,lg⟩)):=by
 rw [R195,b195]
 have a:=ZGc e ms f h1
 have b:=ZF8 lg h2
 simp only[↓xP,xT,rL,rB,rA,rS,ZIU,a,b]
 repeat' (refine ZiE (fun h=>?_) (fun h=>?_))
 all_goals simp_all [ZFf]
theorem ZIo (e:Int) (ms:List Int) (f rd:Bool) (lg:List Entry) (h1:ms.length≤4611686018427387904) (h2:lg.length≤4611686018427387904):EE F 188 [.ag [.u (.int .i64 e),.u (.sl 1 (ms.map iU)),.u (.bool f),.u (.bool rd),.u (.sl 6 (lg.map Entry.u))]] []=ok1 (B (ZFf ⟨⟨e,ms,f⟩,rd,lg⟩)):=by
 rw [R188,b188]
 have a:=ZGd e ms f h1
 have b:=ZF9 lg h2
 simp only[↓xP,xT,rL,rB,rA,rS,ZIV,a,b]
 repeat' (refine ZiE (fun h=>?_) (fun h=>?_))
 all_goals simp_all [ZFf]
def Z0 (m:Message):Bool:=decide (1≤m.epoch)&&decide (m.epoch≤60)&&(if m.kind=1 then inR m.to_ 0 4&&ZV m.conf&&decide (m.conf.epoch=m.epoch)&&decide (m.log.length=0) else if m.kind=2 then inR m.to_ 0 4&&ZH5 m.conf&&ZN m.log else if m.kind=3 then decide (m.to_ = -1)&&ZH5 m.conf&&decide (m.log.length=0) else false)
theorem ZIj (k t ep e:Int) (ms:List Int) (f:Bool) (lg:List Entry) (h1:ms.length≤4611686018427387904) (h2:lg.length≤4611686018427387904):EE F 259 [.ag [.u (.int .i64 k),.u (.int .i64 t),.u (.int .i64 ep),.u (.int .i64 e),.u (.sl 1 (ms.map iU)),.u (.bool f),.u (.sl 6 (lg.map Entry.u))]] []=ok1 (B (Z0 ⟨k,t,ep,⟨e,ms,f⟩,lg⟩)):=by
 rw [R259,b259]
 have a:=ZGc e ms f h1
 have b:=ZF8 lg h2
 simp only[↓xP,xT,rL,rB,rA,rS,ZIU,a,b,ZHq]
 repeat' (refine ZiE (fun h=>?_) (fun h=>?_))
 all_goals first|(simp_all [Z0,inR]; done)|(simp_all [Z0,inR]; grind)|(simp_all [Z0,inR,ZV]; done)|(simp_all [Z0,inR,ZV]; grind)|skip
theorem ZIk (k t ep e:Int) (ms:List Int) (f:Bool) (lg:List Entry) (h1:ms.length≤4611686018427387904) (h2:lg.length≤4611686018427387904):EE F 250 [.ag [.u (.int .i64 k),.u (.int .i64 t),.u (.int .i64 ep),.u (.int .i64 e),.u (.sl 1 (ms.map iU)),.u (.bool f),.u (.sl 6 (lg.map Entry.u))]] []=ok1 (B (Z0 ⟨k,t,ep,⟨e,ms,f⟩,lg⟩)):=by
 rw [R250,b250]
 have a:=ZGd e ms f h1
 have b:=ZF9 lg h2
 simp only[↓xP,xT,rL,rB,rA,rS,ZIV,a,b,ZY]
 repeat' (refine ZiE (fun h=>?_) (fun h=>?_))
 all_goals first|(simp_all [Z0,inR]; done)|(simp_all [Z0,inR]; grind)|(simp_all [Z0,inR,ZV]; done)|(simp_all [Z0,inR,ZV]; grind)|skip
def ZHd (l:List Message):Bool:=decide (l.length≤10)&&l.all Z0
theorem ZJD (l:List Message) (hs:ZFN l):EE F 194 [L 7 (l.map Message.u)] []=ok1 (B (ZHd l)):=by
 have hn:=hs.1
 rw [R194,b194]
 simp only[↓xP,xT,rL,rB,rA,rS]
 refine ZiE (fun h=>?_) (fun h=>?_)
 ·have:¬l.length≤10:=by simp at h; omega
  simp [ZHd,this]
 have hl:l.length≤10:=by simp at h; omega
 refine (Zjc (fun (i:Nat) st=>st.s 8=DU (.sl 7 (l.map Message.u))∧st.s 9=DI l.length∧st.s 10=DI i) (fun i=>l.length - i) (fun i=>ok1 (B ((l.drop i).all Z0))) ?_ 0 (by and_intros<;>first|omega|rfl|(simp only[↓xP,xT,rL,rB,rA,rS]<;>first|done|rfl|omega))).trans (by simp [ZHd,hl])
 rintro i st ⟨h8,h9,h10⟩ ih
 by_cases hi:i<l.length
 ·obtain ⟨⟨k,t,ep,⟨e,ms,f⟩,lg⟩,hx⟩:∃ x,l[i]?=some x:=⟨_,List.getElem?_eq_getElem hi⟩
  have hw:=w_succ (i:=i) (by omega)
  have hsx:=hs.2 _ (List.mem_of_getElem? hx)
  have hm:=ZIj k t ep e ms f lg (by have:=hsx.1.1.1; simp only at this; omega) (by have:=hsx.2.1.1; simp only at this; omega)
  simp only[↓xP,xT,rL,rB,rA,rS,h8,h9,h10,hi,hx,hw,Message.u,hm]
  rw [ZE hx]
  refine ZiE (fun h=>?_) (fun h=>?_)
  ·simp_all
  ·rw [ih (i+1) _ (by omega) (by and_intros<;>first|omega|rfl|(simp only[↓xP,xT,rL,rB,rA,rS,h8,h9]<;>first|done|rfl|omega))]; simp_all
 ·simp only[↓xP,xT,rL,rB,rA,rS,h8,h9,h10,hi]
  rw [List.drop_of_length_le (by omega)]; rfl
theorem ZJE (l:List Message) (hs:ZFN l):EE F 187 [L 7 (l.map Message.u)] []=ok1 (B (ZHd l)):=by
 have hn:=hs.1
 rw [R187,b187]
 simp only[↓xP,xT,rL,rB,rA,rS]
 refine (Zjc (fun (i:Nat) st=>i≤10∧i≤l.length∧st.s 0=DU (.sl 7 (l.map Message.u))∧st.s 3=DI i) (fun i=>l.length - i) (fun i=>ok1 (B (decide (l.length≤10)&&(l.drop i).all Z0))) ?_ 0 (by and_intros<;>first|omega|rfl|(simp only[↓xP,xT,rL,rB,rA,rS]<;>first|done|rfl|omega))).trans (by simp [ZHd])
 rintro i st ⟨h24,hle,h0,h3⟩ ih
 by_cases hi:i<l.length
 ·obtain ⟨⟨k,t,ep,⟨e,ms,f⟩,lg⟩,hx⟩:∃ x,l[i]?=some x:=⟨_,List.getElem?_eq_getElem hi⟩
  have hw:=w_succ (i:=i) (by omega)
  have hsx:=hs.2 _ (List.mem_of_getElem? hx)
  have hm:=ZIk k t ep e ms f lg (by have:=hsx.1.1.1; simp only at this; omega) (by have:=hsx.2.1.1; simp only at this; omega)
  by_cases hc:i=10
  ·have hc2:((10:Int)≤(i:Int))=True:=by simp; omega
   simp only[↓xP,xT,rL,rB,rA,rS,h0,h3,hi,hx,hw,hc2,Message.u,hm]
   have:¬l.length≤10:=by omega
   simp [this]
  ·have hc2:((10:Int)≤(i:Int))=False:=by simp; omega
   simp only[↓xP,xT,rL,rB,rA,rS,h0,h3,hi,hx,hw,hc2,Message.u,hm]
   rw [ZE hx]
   refine ZiE (fun h=>?_) (fun h=>?_)
   ·simp_all
   ·rw [ih (i+1) _ (by omega) (by and_intros<;>first|omega|rfl|(simp only[↓xP,xT,rL,rB,rA,rS,h0]<;>first|done|rfl|omega))]; simp_all
 ·simp only[↓xP,xT,rL,rB,rA,rS,h0,h3,hi]
  rw [List.drop_of_length_le (by omega)]
  have:l.length≤10:=by omega
  simp [this]
def ZFg (a:Answer):Bool:=ZT a.asked&&inR a.reply (-4) 999
def ZX (l:List Answer):Bool:=decide (l.length≤24)&&l.all ZFg
theorem ZI1 (l:List Answer) (hn:l.length≤4611686018427387904):EE F 196 [L 7 (l.map Answer.u)] []=ok1 (B (ZX l)):=by
 rw [R196,b196]
 simp only[↓xP,xT,rL,rB,rA,rS]
 refine ZiE (fun h=>?_) (fun h=>?_)
 ·have:¬l.length≤24:=by simp at h; omega
  simp [ZX,this]
 have hl:l.length≤24:=by simp at h; omega
 refine (Zjc (fun (i:Nat) st=>st.s 8=DU (.sl 7 (l.map Answer.u))∧st.s 9=DI l.length∧st.s 10=DI i) (fun i=>l.length - i) (fun i=>ok1 (B ((l.drop i).all ZFg))) ?_ 0 (by and_intros<;>first|omega|rfl|(simp only[↓xP,xT,rL,rB,rA,rS]<;>first|done|rfl|omega))).trans (by simp [ZX,hl])
 rintro i st ⟨h8,h9,h10⟩ ih
 by_cases hi:i<l.length
 ·obtain ⟨⟨⟨c,s,k,key,v,o⟩,r⟩,hx⟩:∃ x,l[i]?=some x:=⟨_,List.getElem?_eq_getElem hi⟩
  have hw:=w_succ (i:=i) (by omega)
  simp only[↓xP,xT,rL,rB,rA,rS,h8,h9,h10,hi,hx,hw,Answer.u,ZGz]
  rw [ZE hx]
  repeat' (refine ZiE (fun h=>?_) (fun h=>?_))
  all_goals first|(rw [ih (i+1) _ (by omega) (by and_intros<;>first|omega|rfl|(simp only[↓xP,xT,rL,rB,rA,rS,h8,h9]<;>first|done|rfl|omega))]; simp_all [ZFg,inR]; done)|(simp_all [ZFg,inR]; done)|(simp_all [ZFg,inR]; grind)|skip
 ·simp only[↓xP,xT,rL,rB,rA,rS,h8,h9,h10,hi]
  rw [List.drop_of_length_le (by omega)]; rfl
def ZF (c:Chain):Bool:=ZD c.base&&ZV c.conf&&decide (c.nodes.length=5)&&decide (c.up.length=5)&&ZHd c.bag&&(c.nodes.all fun r=>ZFf r&&decide (r.conf.epoch≤c.conf.epoch))&&(c.bag.all fun m=>decide (m.epoch≤c.conf.epoch))&&ZX c.answers
theorem ZHw (c0 c1:Str) (c2:List Pair) (c3:List Session) (c4:Bool) (c5:Str) (c6:Int) (c7:List Int) (c8:Bool) (c9:List Replica) (c10:List Bool) (c11:List Message) (c12:List Answer) (hs:Chain.Small ⟨⟨⟨c0,c1⟩,c2,c3,c4,c5⟩,⟨c6,c7,c8⟩,c9,c10,c11,c12⟩):EE F 124 [.ag [.u (.str c0),.u (.str c1),.u (.sl 2 (c2.map Pair.u)),.u (.sl 3 (c3.map Session.u)),.u (.bool c4),.u (.str c5),.u (.int .i64 c6),.u (.sl 1 (c7.map iU)),.u (.bool c8),.u (.sl 5 (c9.map Replica.u)),.u (.sl 1 (c10.map bU)),.u (.sl 7 (c11.map Message.u)),.u (.sl 7 (c12.map Answer.u))]] []=ok1 (B (ZF ⟨⟨⟨c0,c1⟩,c2,c3,c4,c5⟩,⟨c6,c7,c8⟩,c9,c10,c11,c12⟩)):=by
 rw [R124,b124]
 obtain ⟨hb,hcf,hnd,hup,hbag,hans,_⟩:=hs
 have a1:=ZFs c0 c1 c2 c3 c4 c5 (by have:=hb.2.2.1.1; simp only at this; omega)
 have a2:=ZGc c6 c7 c8 (by have:=hcf.1.1; simp only at this; omega)
 have a3:=ZJD c11 hbag
 have a4:=ZI1 c12 (by have:=hans.1; simp only at this; omega)
 have hnl:c9.length≤1048576:=hnd.1
 have hbl:c11.length≤1048576:=hbag.1
 simp only[↓xP,xT,rL,rB,rA,rS,a1,a2,a3,List.length_map,ne_eq]
 refine ZiE (fun h=>?_) (fun g1=>?_)
 ·rw [Bool.not_eq_true'] at h; simp [ZF,h]
 refine ZiE (fun h=>?_) (fun g2=>?_)
 ·rw [Bool.not_eq_true'] at h; simp [ZF,h]
 refine ZiE (fun h=>?_) (fun g3=>?_)
 ·have:¬c9.length=5:=by simp at h; omega
  simp [ZF,this]
 refine ZiE (fun h=>?_) (fun g4=>?_)
 ·have:¬c10.length=5:=by simp at h; omega
  simp [ZF,this]
 refine ZiE (fun h=>?_) (fun g5=>?_)
 ·rw [Bool.not_eq_true'] at h; simp [ZF,h]
 rw [Bool.not_eq_false'] at g1 g2 g5
 have g3':c9.length=5:=by simp at g3; omega
 have g4':c10.length=5:=by simp at g4; omega
 have hcv:ZF ⟨⟨⟨c0,c1⟩,c2,c3,c4,c5⟩,⟨c6,c7,c8⟩,c9,c10,c11,c12⟩=((c9.all fun r=>ZFf r&&decide (r.conf.epoch≤c6))&&((c11.all fun m=>decide (m.epoch≤c6))&&ZX c12)):=by
  simp only[ZF,g1,g2,g3',g4',g5,decide_true,Bool.and_true,Bool.true_and,Bool.and_assoc]
 rw [hcv]
 refine Zjc (fun (i:Nat) st=>st.s 1=.t (.sc (.ptr (.loc 1 0) 0 0))∧st.o (.loc 1 0)=some (.box [.u (.str c0),.u (.str c1),.u (.sl 2 (c2.map Pair.u)),.u (.sl 3 (c3.map Session.u)),.u (.bool c4),.u (.str c5),.u (.int .i64 c6),.u (.sl 1 (c7.map iU)),.u (.bool c8),.u (.sl 5 (c9.map Replica.u)),.u (.sl 1 (c10.map bU)),.u (.sl 7 (c11.map Message.u)),.u (.sl 7 (c12.map Answer.u))])∧st.s 36=DU (.sl 5 (c9.map Replica.u))∧st.s 37=DI c9.length∧st.s 38=DI i) (fun i=>c9.length - i) (fun i=>ok1 (B (((c9.drop i).all fun r=>ZFf r&&decide (r.conf.epoch≤c6))&&((c11.all fun m=>decide (m.epoch≤c6))&&ZX c12)))) ?_ 0 (by and_intros<;>first|omega|rfl|(simp only[↓xP,xT,rL,rB,rA,rS]<;>first|done|rfl|omega))
 rintro i st ⟨h1,ho,h36,h37,h38⟩ ih
 by_cases hi:i<c9.length
 ·obtain ⟨⟨⟨e,ms,f⟩,rd,lg⟩,hx⟩:∃ x,c9[i]?=some x:=⟨_,List.getElem?_eq_getElem hi⟩
  have hw:=w_succ (i:=i) (by omega)
  have hsx:=hnd.2 _ (List.mem_of_getElem? hx)
  have hr:=ZIn e ms f rd lg (by have:=hsx.1.1.1; simp only at this; omega) (by have:=hsx.2.1.1; simp only at this; omega)
  simp only[↓xP,xT,rL,rB,rA,rS,h1,ho,h36,h37,h38,hi,hx,hw,Replica.u,hr]
  rw [ZE hx,List.all_cons]
  refine ZiE (fun h=>?_) (fun q1=>?_)
  ·rw [Bool.not_eq_true'] at h; simp [h]
  refine ZiE (fun h=>?_) (fun q2=>?_)
  ·have:¬e≤c6:=by simp at h; omega
   simp [this]
  rw [Bool.not_eq_false'] at q1
  have q2':e≤c6:=by simp at q2; omega
  rw [ih (i+1) _ (by omega) (by and_intros<;>first|omega|rfl|(simp only[↓xP,xT,rL,rB,rA,rS,h1,ho,h36,h37]<;>first|done|rfl|omega))]
  simp [q1,q2']
 simp only[↓xP,xT,rL,rB,rA,rS,h1,ho,h36,h37,h38,hi]
 rw [List.drop_of_length_le (by omega),List.all_nil,Bool.true_and]
 refine Zjc (fun (i:Nat) st=>st.s 1=.t (.sc (.ptr (.loc 1 0) 0 0))∧st.o (.loc 1 0)=some (.box [.u (.str c0),.u (.str c1),.u (.sl 2 (c2.map Pair.u)),.u (.sl 3 (c3.map Session.u)),.u (.bool c4),.u (.str c5),.u (.int .i64 c6),.u (.sl 1 (c7.map iU)),.u (.bool c8),.u (.sl 5 (c9.map Replica.u)),.u (.sl 1 (c10.map bU)),.u (.sl 7 (c11.map Message.u)),.u (.sl 7 (c12.map Answer.u))])∧st.s 56=DU (.sl 7 (c11.map Message.u))∧st.s 57=DI c11.length∧st.s 58=DI i) (fun i=>c11.length - i) (fun i=>ok1 (B (((c11.drop i).all fun m=>decide (m.epoch≤c6))&&ZX c12))) ?_ 0 (by and_intros<;>first|omega|rfl|(simp only[↓xP,xT,rL,rB,rA,rS,h1,ho]<;>first|done|rfl|omega))
 clear h1 ho h36 h37 h38 hi ih
 rintro i st ⟨h1,ho,h36,h37,h38⟩ ih
 by_cases hi:i<c11.length
 ·obtain ⟨⟨k,t,ep,⟨e,ms,f⟩,lg⟩,hx⟩:∃ x,c11[i]?=some x:=⟨_,List.getElem?_eq_getElem hi⟩
  have hw:=w_succ (i:=i) (by omega)
  simp only[↓xP,xT,rL,rB,rA,rS,h1,ho,h36,h37,h38,hi,hx,hw,Message.u]
  rw [ZE hx,List.all_cons]
  refine ZiE (fun h=>?_) (fun q2=>?_)
  ·have:¬ep≤c6:=by simp at h; omega
   simp [this]
  have q2':ep≤c6:=by simp at q2; omega
  rw [ih (i+1) _ (by omega) (by and_intros<;>first|omega|rfl|(simp only[↓xP,xT,rL,rB,rA,rS,h1,ho,h36,h37]<;>first|done|rfl|omega))]
  simp [q2']
 simp only[↓xP,xT,rL,rB,rA,rS,h1,ho,h36,h37,h38,hi,a4]
 rw [List.drop_of_length_le (by omega),List.all_nil,Bool.true_and]
theorem ZGx (c0 c1:Str) (c2:List Pair) (c3:List Session) (c4:Bool) (c5:Str) (c6:Int) (c7:List Int) (c8:Bool) (c9:List Replica) (c10:List Bool) (c11:List Message) (c12:List Answer) (hs:Chain.Small ⟨⟨⟨c0,c1⟩,c2,c3,c4,c5⟩,⟨c6,c7,c8⟩,c9,c10,c11,c12⟩):EE F 117 [.ag [.u (.str c0),.u (.str c1),.u (.sl 2 (c2.map Pair.u)),.u (.sl 3 (c3.map Session.u)),.u (.bool c4),.u (.str c5),.u (.int .i64 c6),.u (.sl 1 (c7.map iU)),.u (.bool c8),.u (.sl 5 (c9.map Replica.u)),.u (.sl 1 (c10.map bU)),.u (.sl 7 (c11.map Message.u)),.u (.sl 7 (c12.map Answer.u))]] []=ok1 (B (ZF ⟨⟨⟨c0,c1⟩,c2,c3,c4,c5⟩,⟨c6,c7,c8⟩,c9,c10,c11,c12⟩)):=by
  rw [R117,b117]
  obtain ⟨hb,hcf,hnd,hup,hbag,hans,_⟩:=hs
  have a1:=ZFt c0 c1 c2 c3 c4 c5 (by have:=hb.2.2.1.1; simp only at this; omega)
  have a2:=ZGd c6 c7 c8 (by have:=hcf.1.1; simp only at this; omega)
  have a3:=ZJE c11 hbag
  have hnl:c9.length≤1048576:=hnd.1
  have hbl:c11.length≤1048576:=hbag.1
  have hal:c12.length≤1048576:=hans.1
  simp only[↓xP,xT,rL,rB,rA,rS,a1,a2,a3,List.length_map,ne_eq]
  refine ZiE (fun h=>?_) (fun g1=>?_)
  · rw [Bool.not_eq_true'] at h; simp [ZF,h]
  refine ZiE (fun h=>?_) (fun g2=>?_)
  · rw [Bool.not_eq_true'] at h; simp [ZF,h]
  refine ZiE (fun h=>?_) (fun g3=>?_)
  · have:¬c9.length=5:=by simp at h; omega
    simp [ZF,this]
  refine ZiE (fun h=>?_) (fun g4=>?_)
  · have:¬c10.length=5:=by simp at h; omega
    simp [ZF,this]
  refine ZiE (fun h=>?_) (fun g5=>?_)
  · rw [Bool.not_eq_true'] at h; simp [ZF,h]
  refine ZiE (fun h=>?_) (fun g6=>?_)
  · have:¬c12.length≤24:=by simp at h; omega
    simp [ZF,ZX,this]
  rw [Bool.not_eq_false'] at g1 g2 g5
  have g3':c9.length=5:=by simp at g3; omega
  have g4':c10.length=5:=by simp at g4; omega
  have g6':c12.length≤24:=by simp at g6; omega
  have hcv:ZF ⟨⟨⟨c0,c1⟩,c2,c3,c4,c5⟩,⟨c6,c7,c8⟩,c9,c10,c11,c12⟩=((c9.all fun r=>ZFf r&&decide (r.conf.epoch≤c6))&&((c11.all fun m=>decide (m.epoch≤c6))&&ZX c12)):=by
    simp only[ZF,g1,g2,g3',g4',g5,decide_true,Bool.and_true,Bool.true_and,Bool.and_assoc]
  rw [hcv]
  refine Zjc (fun (i:Nat) st=>i≤5∧st.s 1=.t (.sc (.ptr (.loc 1 0) 0 0))∧st.o (.loc 1 0)=some (.box [.u (.str c0),.u (.str c1),.u (.sl 2 (c2.map Pair.u)),.u (.sl 3 (c3.map Session.u)),.u (.bool c4),.u (.str c5),.u (.int .i64 c6),.u (.sl 1 (c7.map iU)),.u (.bool c8),.u (.sl 5 (c9.map Replica.u)),.u (.sl 1 (c10.map bU)),.u (.sl 7 (c11.map Message.u)),.u (.sl 7 (c12.map Answer.u))])∧st.s 3=DI i) (fun i=>5 - i) (fun i=>ok1 (B (((c9.drop i).all fun r=>ZFf r&&decide (r.conf.epoch≤c6))&&((c11.all fun m=>decide (m.epoch≤c6))&&ZX c12)))) ?_ 0 (by and_intros<;>first|omega|rfl|(simp only[↓xP,xT,rL,rB,rA,rS]<;>first|done|rfl|omega))
  rintro i st ⟨hi5,h1,ho,h3⟩ ih
  by_cases hi:i<5
  · obtain ⟨⟨⟨e,ms,f⟩,rd,lg⟩,hx⟩:∃ x,c9[i]?=some x:=⟨_,List.getElem?_eq_getElem (by omega)⟩
    have hw:=w_succ (i:=i) (by omega)
    have hlt:((i:Int)<5)=True:=by simp; omega
    have hsx:=hnd.2 _ (List.mem_of_getElem? hx)
    have hr:=ZIo e ms f rd lg (by have:=hsx.1.1.1; simp only at this; omega) (by have:=hsx.2.1.1; simp only at this; omega)
    rw [ZE hx,List.all_cons]
    cases q1:ZFf ⟨⟨e,ms,f⟩,rd,lg⟩
    · simp only[↓xP,xT,rL,rB,rA,rS,rdx2,h1,ho,h3,hlt,hx,hw,Replica.u,hr,q1]
      try simp
    · by_cases q2:e≤c6
      · have q2':(c6<e)=False:=by simp; omega
        simp only[↓xP,xT,rL,rB,rA,rS,rdx2,h1,ho,h3,hlt,hx,hw,Replica.u,hr,q1,q2']
        rw [ih (i+1) _ (by omega) ⟨by omega,(by and_intros<;>first|omega|rfl|(simp only[↓xP,xT,rL,rB,rA,rS,h1,ho,hw]<;>first|done|rfl|omega))⟩]
        simp [q2]
      · have q2':(c6<e)=True:=by simp; omega
        simp only[↓xP,xT,rL,rB,rA,rS,rdx2,h1,ho,h3,hlt,hx,hw,Replica.u,hr,q1,q2']
        try simp [q2]
  have hlt:((i:Int)<5)=False:=by simp; omega
  simp only[↓xP,xT,rL,rB,rA,rS,h1,ho,h3,hlt]
  rw [List.drop_of_length_le (by omega),List.all_nil,Bool.true_and]
  refine Zjc (fun (i:Nat) st=>st.s 1=.t (.sc (.ptr (.loc 1 0) 0 0))∧st.o (.loc 1 0)=some (.box [.u (.str c0),.u (.str c1),.u (.sl 2 (c2.map Pair.u)),.u (.sl 3 (c3.map Session.u)),.u (.bool c4),.u (.str c5),.u (.int .i64 c6),.u (.sl 1 (c7.map iU)),.u (.bool c8),.u (.sl 5 (c9.map Replica.u)),.u (.sl 1 (c10.map bU)),.u (.sl 7 (c11.map Message.u)),.u (.sl 7 (c12.map Answer.u))])∧st.s 4=DI i) (fun i=>c11.length - i) (fun i=>ok1 (B (((c11.drop i).all fun m=>decide (m.epoch≤c6))&&ZX c12))) ?_ 0 (by and_intros<;>first|omega|rfl|(simp only[↓xP,xT,rL,rB,rA,rS,h1,ho]<;>first|done|rfl|omega))
  clear h1 ho h3 hi ih hlt
  rintro i st ⟨h1,ho,h3⟩ ih
  by_cases hi:i<c11.length
  · obtain ⟨⟨k,t,ep,⟨e,ms,f⟩,lg⟩,hx⟩:∃ x,c11[i]?=some x:=⟨_,List.getElem?_eq_getElem hi⟩
    have hw:=w_succ (i:=i) (by omega)
    rw [ZE hx,List.all_cons]
    by_cases q2:ep≤c6
    · have q2':(c6<ep)=False:=by simp; omega
      simp only[↓xP,xT,rL,rB,rA,rS,rdx2,h1,ho,h3,hi,hx,hw,Message.u,q2']
      rw [ih (i+1) _ (by omega) (by and_intros<;>first|omega|rfl|(simp only[↓xP,xT,rL,rB,rA,rS,h1,ho,hw]<;>first|done|rfl|omega))]
      try simp [q2]
    · have q2':(c6<ep)=True:=by simp; omega
      simp only[↓xP,xT,rL,rB,rA,rS,rdx2,h1,ho,h3,hi,hx,hw,Message.u,q2']
      try simp [q2]
  simp only[↓xP,xT,rL,rB,rA,rS,h1,ho,h3,hi]
  rw [List.drop_of_length_le (by omega),List.all_nil,Bool.true_and]
  have han:ZX c12=(c12.drop 0).all ZFg:=by simp [ZX,g6']
  rw [han]
  refine Zjc (fun (i:Nat) st=>st.s 1=.t (.sc (.ptr (.loc 1 0) 0 0))∧st.o (.loc 1 0)=some (.box [.u (.str c0),.u (.str c1),.u (.sl 2 (c2.map Pair.u)),.u (.sl 3 (c3.map Session.u)),.u (.bool c4),.u (.str c5),.u (.int .i64 c6),.u (.sl 1 (c7.map iU)),.u (.bool c8),.u (.sl 5 (c9.map Replica.u)),.u (.sl 1 (c10.map bU)),.u (.sl 7 (c11.map Message.u)),.u (.sl 7 (c12.map Answer.u))])∧st.s 5=DI i) (fun i=>c12.length - i) (fun i=>ok1 (B ((c12.drop i).all ZFg))) ?_ 0 (by and_intros<;>first|omega|rfl|(simp only[↓xP,xT,rL,rB,rA,rS,h1,ho]<;>first|done|rfl|omega))
  clear h1 ho h3 hi ih
  rintro i st ⟨h1,ho,h3⟩ ih
  by_cases hi:i<c12.length
  · obtain ⟨⟨⟨c,s,k,key,v,o⟩,r⟩,hx⟩:∃ x,c12[i]?=some x:=⟨_,List.getElem?_eq_getElem hi⟩
    have hw:=w_succ (i:=i) (by omega)
    simp only[↓xP,xT,rL,rB,rA,rS,h1,ho,h3,hi,hx,hw,Answer.u,ZF0,ZY]
    rw [ZE hx,List.all_cons]
    refine ZiE (fun h=>?_) (fun q1=>?_)
    · rw [Bool.not_eq_true'] at h; simp [ZFg,h]
    refine ZiE (fun h=>?_) (fun q2=>?_)
    · rw [Bool.not_eq_true'] at h; simp [ZFg,h]
    rw [Bool.not_eq_false'] at q1 q2
    rw [ih (i+1) _ (by omega) (by and_intros<;>first|omega|rfl|(simp only[↓xP,xT,rL,rB,rA,rS,h1,ho]<;>first|done|rfl|omega))]
    simp [ZFg,q1,q2]
  simp only[↓xP,xT,rL,rB,rA,rS,h1,ho,h3,hi]
  rw [List.drop_of_length_le (by omega),List.all_nil]
def ZHo (l:List Interval) (j:Nat):Bool:=match l[j - 1]?,l[j]? with
 | some a,some b=>ZGA a b
 | _,_=>true
def ZGP (l:List Interval) (j:Nat):Bool:=(match l[j]? with
 | some a=>ZG a
 | none=>true)&&(decide (j=0)||ZHo l j)
def ZU (l:List Interval):Bool:=match l[0]?,l[l.length - 1]? with
 | some a,some b=>decide (l.length≤6)&&ZG a&&decide (a.low=[])&&decide (b.high=[])&&allF l.length (ZHo l) 1
 | _,_=>false
theorem ZLC {l:List Interval} {a:Interval} (ha:l[0]?=some a):allF l.length (ZGP l) 0=(ZG a&&allF l.length (ZHo l) 1):=by
 have h0:0<l.length:=(List.getElem?_eq_some_iff.1 ha).1
 rw [Bool.eq_iff_iff,Bool.and_eq_true,ZFC _ 0 rfl,ZFC _ 1 rfl]
 constructor
 ·intro h
  refine ⟨?_,fun j h1 h2=>?_⟩
  ·have:=h 0 (by omega) h0
   simpa [ZGP,ha] using this
  ·have:=h j (by omega) h2
   simp only[ZGP,Bool.and_eq_true,Bool.or_eq_true,decide_eq_true_eq] at this
   rcases this.2 with e|e
   ·omega
   ·exact e
 ·rintro ⟨h1,h2⟩ j _ hj
  by_cases e:j=0
  ·subst e; simp [ZGP,ha,h1]
  ·have hjn:=h2 j (by omega) hj
   obtain ⟨x,hx⟩:∃ x,l[j - 1]?=some x:=⟨_,List.getElem?_eq_getElem (by omega)⟩
   obtain ⟨y,hy⟩:∃ x,l[j]?=some x:=⟨_,List.getElem?_eq_getElem hj⟩
   have hjn2:=hjn
   simp only[ZHo,hx,hy,ZGA,Bool.and_eq_true] at hjn2
   simp [ZGP,hy,hjn,hjn2.1.1.2]
theorem ZHQ (l:List Interval) (hn:l.length≤1048576):EE F 163 [L 2 (l.map Interval.u)] []=ok1 (B (ZU l)):=by
 rw [R163,b163]
 by_cases hl:l=[]
 ·subst hl
  simp only[↓xP,xT,rL,rB,rA,rS,List.map_nil]
  rfl
 have h1:1≤l.length:=List.length_pos_iff.2 hl
 obtain ⟨⟨alo,ahi⟩,ha⟩:∃ a,l[0]?=some a:=⟨_,List.getElem?_eq_getElem (by omega)⟩
 obtain ⟨⟨blo,bhi⟩,hb⟩:∃ a,l[l.length - 1]?=some a:=⟨_,List.getElem?_eq_getElem (by omega)⟩
 have hw1:IntKind.i64.wrap ((l.length:Int) - 1)=((l.length - 1:Nat):Int):=by rw [w64 (by omega) (by omega)]; omega
 have hpv:ZU l=(decide (l.length≤6)&&decide (alo=[])&&decide (bhi=[])&&allF l.length (ZGP l) 0):=by
  rw [ZLC ha]
  simp only[ZU,ha,hb]
  cases decide (l.length≤6)<;>cases decide (alo=[])<;>cases decide (bhi=[])<;>cases ZG ⟨alo,ahi⟩<;>simp
 simp only[↓xP,xT,rL,rB,rA,rS,List.length_map,ha,hb,Interval.u,hw1,ne_eq]
 refine ZiE (fun h=>?_) (fun g1=>?_)
 ·simp at h; omega
 refine ZiE (fun h=>?_) (fun g2=>?_)
 ·have:¬l.length≤6:=by simp at h; omega
  rw [hpv]; simp [this]
 refine ZiE (fun h=>?_) (fun g3=>?_)
 ·have:¬alo=[]:=by simpa using h
  rw [hpv]; simp [this]
 refine ZiE (fun h=>?_) (fun g4=>?_)
 ·have:¬bhi=[]:=by simpa using h
  rw [hpv]; simp [this]
 have hg:(decide (l.length≤6)&&decide (alo=[])&&decide (bhi=[]))=true:=by
  have a1:l.length≤6:=by simp at g2; omega
  have a2:alo=[]:=by simpa using g3
  have a3:bhi=[]:=by simpa using g4
  simp [a1,a2,a3]
 rw [hpv,hg,Bool.true_and]
 refine Zjc (fun (i:Nat) st=>i≤l.length∧st.s 0=DU (.sl 2 (l.map Interval.u))∧st.s 32=DU (.sl 2 (l.map Interval.u))∧st.s 33=DI l.length∧st.s 34=DI i) (fun i=>l.length - i) (fun i=>ok1 (B (allF l.length (ZGP l) i))) ?_ 0 (by and_intros<;>first|omega|rfl|(simp only[↓xP,xT,rL,rB,rA,rS]<;>first|done|rfl|omega))
 rintro i st ⟨hle,h0,h32,h33,h34⟩ ih
 by_cases hi:i<l.length
 ·obtain ⟨⟨lo,hi'⟩,hx⟩:∃ x,l[i]?=some x:=⟨_,List.getElem?_eq_getElem hi⟩
  have hw:=w_succ (i:=i) (by omega)
  rw [ZFW hi]
  by_cases e:i=0
  ·subst e
   have hgt:decide (((0:Nat):Int) > 0)=false:=by decide
   simp only[↓xP,xT,rL,rB,rA,rS,h0,h32,h33,h34,hi,hx,hw,Interval.u,ZW,hgt]
   refine ZiE (fun h=>?_) (fun h=>?_)
   ·simp_all [ZGP]
   ·rw [ih 1 _ (by omega) (by and_intros<;>first|omega|rfl|(simp only[↓xP,xT,rL,rB,rA,rS,h0,h32,h33]<;>first|done|rfl|omega))]; simp_all [ZGP]
  ·obtain ⟨k,rfl⟩:∃ k,i=k+1:=⟨i - 1,by omega⟩
   obtain ⟨⟨clo,chi⟩,hc⟩:∃ a,l[k]?=some a:=⟨_,List.getElem?_eq_getElem (by omega)⟩
   have hp:=ZJC (i:=k) (by omega)
   have hgt:decide (((k+1:Nat):Int) > 0)=true:=by simp
   have hjo:=ZG1 clo chi lo hi'
   have hpa:ZGP l (k+1)=(ZG ⟨lo,hi'⟩&&ZGA ⟨clo,chi⟩ ⟨lo,hi'⟩):=by simp [ZGP,ZHo,hx,hc]
   rw [hpa]
   cases hj:ZGA ⟨clo,chi⟩ ⟨lo,hi'⟩<;>simp only[ZG3,hj,↓xP,xT,rL,rB,rA,rS] at hjo
   all_goals simp only[↓xP,xT,rL,rB,rA,rS,rdx2,h0,h32,h33,h34,hi,hx,hc,hw,hp,hgt,Interval.u,ZW,hjo]
   all_goals refine ZiE (fun h=>?_) (fun h=>?_)
   ·simp_all
   ·simp_all
   ·simp_all
   ·rw [ih (k+1+1) _ (by omega) (by and_intros<;>first|omega|rfl|(simp only[↓xP,xT,rL,rB,rA,rS,h0,h32,h33,hw]<;>first|done|rfl|omega))]; simp_all
 ·simp only[↓xP,xT,rL,rB,rA,rS,h0,h32,h33,h34,hi]
  rw [ZFV hi]
theorem ZHR (l:List Interval) (hn:l.length≤1048576):EE F 161 [L 2 (l.map Interval.u)] []=ok1 (B (ZU l)):=by
 rw [R161,b161]
 by_cases hl:l=[]
 ·subst hl
  have:inR (0:Int) 1 6=false:=by decide
  simp only[↓xP,xT,rL,rB,rA,rS,List.map_nil,ZY,List.length_nil,List.length_map]
  refine ZiE (fun h=>?_) (fun h=>?_)
  ·rfl
  ·exact absurd h (by decide)
 have h1:1≤l.length:=List.length_pos_iff.2 hl
 obtain ⟨⟨alo,ahi⟩,ha⟩:∃ a,l[0]?=some a:=⟨_,List.getElem?_eq_getElem (by omega)⟩
 obtain ⟨⟨blo,bhi⟩,hb⟩:∃ a,l[l.length - 1]?=some a:=⟨_,List.getElem?_eq_getElem (by omega)⟩
 have hw1:IntKind.i64.wrap ((l.length:Int) - 1)=((l.length - 1:Nat):Int):=by rw [w64 (by omega) (by omega)]; omega
 have hin:inR (l.length:Int) 1 6=decide (l.length≤6):=by
  rw [Bool.eq_iff_iff]; simp only[inR,Bool.and_eq_true,decide_eq_true_eq]; omega
 have hpv:ZU l=(decide (l.length≤6)&&ZG ⟨alo,ahi⟩&&decide (alo=[])&&decide (bhi=[])&&allF l.length (ZHo l) 1):=by simp only[ZU,ha,hb]
 rw [hpv]
 simp only[↓xP,xT,rL,rB,rA,rS,List.length_map,ZY,hin,ha,hb,ZFe,Interval.u,hw1,ne_eq]
 refine ZiE (fun h=>?_) (fun g1=>?_)
 ·rw [Bool.not_eq_true'] at h; simp [h]
 refine ZiE (fun h=>?_) (fun g2=>?_)
 ·rw [Bool.not_eq_true'] at h; simp [h]
 refine ZiE (fun h=>?_) (fun g3=>?_)
 ·have:¬alo=[]:=by simpa using h
  simp [this]
 refine ZiE (fun h=>?_) (fun g4=>?_)
 ·have:¬bhi=[]:=by simpa using h
  simp [this]
 have hg:(decide (l.length≤6)&&ZG ⟨alo,ahi⟩&&decide (alo=[])&&decide (bhi=[]))=true:=by
  have a2:alo=[]:=by simpa using g3
  have a3:bhi=[]:=by simpa using g4
  rw [Bool.not_eq_false'] at g1 g2
  rw [g1,g2]; simp [a2,a3]
 rw [hg,Bool.true_and]
 refine Zjc (fun (i:Nat) st=>1≤i∧i≤l.length∧st.s 0=DU (.sl 2 (l.map Interval.u))∧st.s 3=DI i) (fun i=>l.length - i) (fun i=>ok1 (B (allF l.length (ZHo l) i))) ?_ 1 ⟨by omega,h1,(by and_intros<;>first|omega|rfl|(simp only[↓xP,xT,rL,rB,rA,rS]<;>first|done|rfl|omega))⟩
 rintro i st ⟨hi1,hle,hs0,hs3⟩ ih
 by_cases hi:i<l.length
 ·obtain ⟨i,rfl⟩:∃ k,i=k+1:=⟨i - 1,by omega⟩
  obtain ⟨⟨clo,chi⟩,hc⟩:∃ a,l[i]?=some a:=⟨_,List.getElem?_eq_getElem (by omega)⟩
  obtain ⟨⟨dlo,dhi⟩,hd⟩:∃ a,l[i+1]?=some a:=⟨_,List.getElem?_eq_getElem (by omega)⟩
  have hw:=w_succ (i:=i+1) (by omega)
  have hp:=ZJC (i:=i) (by omega)
  have hjo:=ZG2 clo chi dlo dhi
  have hja:ZHo l (i+1)=ZGA ⟨clo,chi⟩ ⟨dlo,dhi⟩:=by simp [ZHo,hc,hd]
  rw [ZFW hi,hja]
  cases hj:ZGA ⟨clo,chi⟩ ⟨dlo,dhi⟩<;>simp only[ZG3,hj,↓xP,xT,rL,rB,rA,rS] at hjo
  ·simp only[↓xP,xT,rL,rB,rA,rS,rdx2,hs0,hs3,List.length_map,hi,hp,hc,hd,Interval.u,hjo,hw]
   try simp
  ·simp only[↓xP,xT,rL,rB,rA,rS,rdx2,hs0,hs3,List.length_map,hi,hp,hc,hd,Interval.u,hjo,hw]
   rw [ih (i+1+1) _ (by omega) ⟨by omega,by omega,(by and_intros<;>first|omega|rfl|(simp only[↓xP,xT,rL,rB,rA,rS,hs0,hs3,hw]<;>first|done|rfl|omega))⟩]
   try simp
 ·simp only[↓xP,xT,rL,rB,rA,rS,hs0,hs3,List.length_map,hi]
  rw [ZFV hi]
def ZGk (n:Int):List Route→Nat→Int
 | [],_=>-1
 | r::l,i=>if r.number=n then (i:Int) else ZGk n l (i+1)
def ZFS (l:List Route) (n:Int):Bool:=l.any (fun q=>decide (q.number=n))
theorem ZKa (n:Int):∀ (l:List Route) (i:Nat),decide (0≤ZGk n l i)=ZFS l n
 | [],i=>by simp [ZGk,ZFS]
 | r :: l,i=>by
  have h:=ZKa n l (i+1)
  simp only[ZFS,List.any_cons] at h ⊢
  by_cases e:r.number=n
  ·have hp:ZGk n (r::l) i=(i:Int):=by simp only[ZGk,if_pos e]
   rw [hp]; simp [e]
  ·have hp:ZGk n (r::l) i=ZGk n l (i+1):=by simp only[ZGk,if_neg e]
   rw [hp,h]; simp [e]
theorem ZJP (l:List Route) (n:Int) (hn:l.length≤1048576):EE F 261 [L 3 (l.map Route.u),I n] []=ok1 (I (ZGk n l 0)):=by
 rw [R261,b261]
 simp only[↓xP,xT,rL,rB,rA,rS]
 refine (Zjc (fun (i:Nat) st=>st.s 7=DU (.sl 3 (l.map Route.u))∧st.s 8=DI l.length∧st.s 9=DI i∧st.s 1=DI n) (fun i=>l.length - i) (fun i=>ok1 (I (ZGk n (l.drop i) i))) ?_ 0 (by and_intros<;>first|omega|rfl|(simp only[↓xP,xT,rL,rB,rA,rS]<;>first|done|rfl|omega))).trans (by simp)
 rintro i st ⟨h7,h8,h9,h1⟩ ih
 by_cases hi:i<l.length
 ·obtain ⟨⟨m,⟨lo,up⟩⟩,hx⟩:∃ x,l[i]?=some x:=⟨_,List.getElem?_eq_getElem hi⟩
  have hw:=w_succ (i:=i) (by omega)
  simp only[↓xP,xT,rL,rB,rA,rS,h7,h8,h9,h1,hi,hx,hw,Route.u]
  rw [ZE hx,ZGk]
  refine ZiE (fun h=>?_) (fun h=>?_)
  ·have:m=n:=by simpa using h
   simp [this]
  ·have:¬m=n:=by simpa using h
   rw [ih (i+1) _ (by omega) (by and_intros<;>first|omega|rfl|(simp only[↓xP,xT,rL,rB,rA,rS,h7,h8,h1]<;>first|done|rfl|omega)),if_neg this]
 ·simp only[↓xP,xT,rL,rB,rA,rS,h7,h8,h9,hi]
  rw [List.drop_of_length_le (by omega)]; rfl
def ZF4 (l:List Route) (i:Nat):Bool:=match l[i]? with
 | some r=>inR r.number 0 7&&!ZFS (l.take i) r.number
 | none=>true
def ZFb (l:List Route):Bool:=allF l.length (ZF4 l) 0
theorem ZHf (l:List Route) (hn:l.length≤1048576):EE F 205 [L 3 (l.map Route.u)] []=ok1 (B (ZFb l)):=by
 rw [R205,b205]
 simp only[↓xP,xT,rL,rB,rA,rS]
 refine Zjc (fun (i:Nat) st=>st.s 0=DU (.sl 3 (l.map Route.u))∧st.s 5=DU (.sl 3 (l.map Route.u))∧st.s 6=DI l.length∧st.s 7=DI i) (fun i=>l.length - i) (fun i=>ok1 (B (allF l.length (ZF4 l) i))) ?_ 0 (by and_intros<;>first|omega|rfl|(simp only[↓xP,xT,rL,rB,rA,rS]<;>first|done|rfl|omega))
 rintro i st ⟨h0,h5,h6,h7⟩ ih
 by_cases hi:i<l.length
 ·obtain ⟨⟨m,⟨lo,up⟩⟩,hx⟩:∃ x,l[i]?=some x:=⟨_,List.getElem?_eq_getElem hi⟩
  have hw:=w_succ (i:=i) (by omega)
  have hrp:=ZJP (l.take i) m (by rw [List.length_take]; omega)
  have hge:=ZKa m (l.take i) 0
  rw [ZFW hi]
  have hct:vcut l.length none (some (DI (i:Int)))=some (0,i):=ZH2 (by omega)
  have hna:ZF4 l i=(inR m 0 7&&!ZFS (l.take i) m):=by simp [ZF4,hx]
  rw [hna]
  cases q1:inR m 0 7
  ·simp only[↓xP,xT,rL,rB,rA,rS,rdx2,h0,h5,h6,h7,hi,hx,hw,Route.u,ZGb,q1]
   try simp
  ·cases q2:ZFS (l.take i) m<;>rw [q2] at hge
   ·have hge2:(0≤ZGk m (l.take i) 0)=False:=by simpa using hge
    simp only[↓xP,xT,rL,rB,rA,rS,rdx2,h0,h5,h6,h7,hi,hx,hw,Route.u,ZGb,q1,hrp,ge_iff_le,hge2,hct,List.length_map,List.drop_zero,←List.map_take]
    rw [ih (i+1) _ (by omega) (by and_intros<;>first|omega|rfl|(simp only[↓xP,xT,rL,rB,rA,rS,h0,h5,h6,hw]<;>first|done|rfl|omega))]
    try simp
   ·have hge2:(0≤ZGk m (l.take i) 0)=True:=by simpa using hge
    simp only[↓xP,xT,rL,rB,rA,rS,rdx2,h0,h5,h6,h7,hi,hx,hw,Route.u,ZGb,q1,hrp,ge_iff_le,hge2,hct,List.length_map,List.drop_zero,←List.map_take]
    try simp
 ·simp only[↓xP,xT,rL,rB,rA,rS,h0,h5,h6,h7,hi]
  rw [ZFV hi]
def ZFz (l:List Route):List Interval:=l.map Route.span
def ZIr (l:List Route):Option Ret:=some ⟨[.sc (.own (.par 0) l.length)],[.row 2 ((ZFz l).map Interval.u)],[]⟩
theorem ZJy {l:List Route} {i:Nat} {m:Int} {lo up:Str} (hx:l[i]?=some ⟨m,⟨lo,up⟩⟩):(ZFz (l.take (i+1))).map Interval.u=(ZFz (l.take i)).map Interval.u++[[.str lo,.str up]]:=by
 rw [List.take_add_one,hx]; simp [Interval.u,ZFz]
theorem ZFY (l:List Route):(ZFz l).length=l.length:=by simp [ZFz]
theorem ZLG (l:List Route) (hn:l.length≤1048576):EE F 204 [L 3 (l.map Route.u)] []=ZIr l:=by
 rw [R204,b204]
 simp only[↓xP,xT,rL,rB,rA,rS]
 refine Zjc (fun (i:Nat) st=>i≤l.length∧st.s 3=.t (.sc (.own (.loc 3 0) i))∧st.o (.loc 3 0)=some (.row 2 ((ZFz (l.take i)).map Interval.u))∧st.s 6=DU (.sl 3 (l.map Route.u))∧st.s 7=DI l.length∧st.s 8=DI i) (fun a=>l.length - a) (fun _=>ZIr l) ?_ 0 (by and_intros<;>first|omega|rfl|(simp only[↓xP,xT,rL,rB,rA,rS]<;>first|done|rfl|omega))
 rintro i st ⟨hle,h3,ho,h6,h7,h8⟩ ih
 by_cases hi:i<l.length
 ·obtain ⟨⟨m,⟨lo,up⟩⟩,hx⟩:∃ x,l[i]?=some x:=⟨_,List.getElem?_eq_getElem hi⟩
  have hw:=w_succ (i:=i) (by omega)
  obtain ⟨q1,q2⟩:=ZP (n:=i+1) (k:=32) (by omega) (by omega)
  have hst:=ZJy hx
  have hlt:(List.map Interval.u (ZFz (List.take i l))).length=i:=by rw [List.length_map,ZFY,List.length_take]; omega
  have hta:List.take i (List.map Interval.u (ZFz (List.take i l)))=List.map Interval.u (ZFz (List.take i l)):=List.take_of_length_le (by omega)
  simp only[↓xP,xT,rL,rB,rA,rS,h3,ho,h6,h7,h8,hi,hx,hw,Route.u,q1,q2,hlt,hta]
  rw [ih (i+1) _ (by omega) (by and_intros<;>first|omega|rfl|(simp only[↓xP,xT,rL,rB,rA,rS,h3,ho,h6,h7,hst]<;>first|done|rfl|omega))]
 ·simp only[↓xP,xT,rL,rB,rA,rS,h3,ho,h6,h7,h8,hi]
  obtain rfl:i=l.length:=by omega
  rw [List.take_length,ZFY]; simp [ZIr,sel]
theorem ZIH (l:List Route) (hn:l.length≤1048576):EE F 129 [L 3 (l.map Route.u)] []=ok1 (B (decide (l.length≤6)&&ZU (ZFz l)&&ZFb l)):=by
 rw [R129,b129]
 have hs:=ZLG l hn
 have hp:=ZHQ (ZFz l) (by rw [ZFY]; omega)
 simp only[ZIr] at hs
 have hta:List.take l.length (List.map Interval.u (ZFz l))=List.map Interval.u (ZFz l):=List.take_of_length_le (by rw [List.length_map,ZFY]; omega)
 simp only[↓xP,xT,rL,rB,rA,rS,hs,hp,ZHf l hn,ZFY,hta,Nat.le_refl]
 refine ZiE (fun g1=>?_) (fun h=>?_)
 ·have g1':l.length≤6:=by simp at g1; omega
  refine ZiE (fun g2=>?_) (fun h=>?_)
  ·simp [g1',g2]
  ·simp [h]
 ·have:¬l.length≤6:=by simp at h; omega
  simp [this]
def ZHI (a b:Str):Bool:=!ZaZ a b&&!decide (a=b)
def ZFQ (l:List Route) (i:Nat):Bool:=match l[i]? with
 | some r=>ZG r.span&&!(match l[i - 1]? with
  | some q=>decide (0<i)&&(decide (q.span.high=[])||ZHI q.span.high r.span.low)
  | none=>false)
 | none=>true
def ZFR (l:List Route):Bool:=ZFb l&&allF l.length (ZFQ l) 0
/-- Numbers that differ and lie in 0..7 are at most eight. -/
theorem ZKZ:∀ (n:Nat) (l:List Int),l.Pairwise (·≠·)→(∀ x,x∈l→0≤x∧x<(n:Int))→l.length≤n
 | 0,l,_,h=>by
  cases l with
  | nil=>simp
  | cons a l=>have:=h a (by simp); omega
 | n + 1,l,hd,h=>by
  have hk:∀ (m:List Int),m.Pairwise (·≠·)→m.length≤(m.filter (fun x=>decide (x≠(n:Int)))).length+1:=by
   intro m
   induction m with
   | nil=>intro _; simp
   | cons a m ih=>
    intro hp
    rw [List.pairwise_cons] at hp
    by_cases e:a=(n:Int)
    ·have:m.filter (fun x=>decide (x≠(n:Int)))=m:=List.filter_eq_self.2 (fun x hx=>by have:=hp.1 x hx; simp; omega)
     rw [List.filter_cons_of_neg (by simp [e]),this]; simp
    ·rw [List.filter_cons_of_pos (by simp [e])]
     have:=ih hp.2
     simp only[List.length_cons]; omega
  have h1:=hk l hd
  have h2:=ZKZ n (l.filter (fun x=>decide (x≠(n:Int)))) (hd.filter _) (by
   intro x hx
   rw [List.mem_filter] at hx
   have:=h x hx.1
   have h3:x≠(n:Int):=by simpa using hx.2
   omega)
  omega
theorem ZIQ {l:List Route} (h:ZFb l=true):(l.map Route.number).Pairwise (·≠·)∧∀ x,x∈l.map Route.number→0≤x∧x<8:=by
 have ha:=(ZFC _ 0 rfl).1 h
 refine ⟨?_,?_⟩
 ·rw [List.pairwise_iff_getElem]
  intro i j hi hj hij
  simp only[List.length_map] at hi hj
  have:=ha j (by omega) hj
  simp only[ZF4,List.getElem?_eq_getElem hj,Bool.and_eq_true,Bool.not_eq_true',ZFS] at this
  have h2:=List.any_eq_false.1 this.2 l[i] (by rw [List.mem_take_iff_getElem]; exact ⟨i,by omega,rfl⟩)
  simpa using h2
 ·intro x hx
  obtain ⟨r,hr,rfl⟩:=List.mem_map.1 hx
  obtain ⟨i,hi,rfl⟩:=List.mem_iff_getElem.1 hr
  have:=ha i (by omega) hi
  simp only[ZF4,List.getElem?_eq_getElem hi,Bool.and_eq_true,inR,decide_eq_true_eq] at this
  omega
theorem ZLs {l:List Route} (h:ZFb l=true):l.length≤8:=by
 have:=ZKZ 8 (l.map Route.number) (ZIQ h).1 (fun x hx=>by have:=(ZIQ h).2 x hx; omega)
 simpa using this
end Go.Proofs.YtmfjkbbmhaofbaaGreatV
