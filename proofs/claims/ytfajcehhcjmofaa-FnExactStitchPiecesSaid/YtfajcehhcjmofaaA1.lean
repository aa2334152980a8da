/- Lemmas of functions that the law FnExactStitchPieces reaches, and that it returns true for all data of its types. No conditions but those that the lemmas state. -/
import Derived.Test.YtfajcehhcjmofaaJ
import Derived.Test.YtfajcehhcjmofaaS7
import Derived.Test.YtfajcehhcjmofaaS8
import Derived.Test.YtfajcehhcjmofaaV28
namespace Go.Proofs.YtfajcehhcjmofaaV
open Go Go.RowKit
open Nat renaming reduceLT → rL, reduceAdd → rA, reduceSub → rS, reduceBEq → rB
open IOp (dst isF args)
set_option linter.unusedVariables false
set_option linter.unusedSimpArgs false
set_option maxRecDepth 4000
abbrev Str:=List UInt8
abbrev B (b:Bool):T:=.sc (.u (.bool b))
abbrev S (b:Str):T:=.sc (.u (.str b))
abbrev I (n:Int):T:=.sc (.u (.int .i64 n))
abbrev L (z:Nat) (r:List (List U)):T:=.sc (.u (.sl z r))
abbrev ok1 (t:T):Option Ret:=some ⟨[t],[],[]⟩
def iU (n:Int):List U:=[.int .i64 n]
def bU (b:Bool):List U:=[.bool b]
/-- Whole numbers of 64 bits. -/
def ZG (x:Int):Prop:=-9223372036854775808≤x∧x≤9223372036854775807
theorem UT.int_of {u:U} (h:UT (.i .i64) u):∃ n,u=.int .i64 n∧ZG n:=by
 cases h with
 | i k n h=>exact ⟨n,rfl,bounds_i64 h⟩
theorem UT.u8_of {u:U} (h:UT (.i .u8) u):∃ n,u=.int .u8 n∧0≤n∧n≤255:=by
 cases h with
 | i k n h=>exact ⟨n,rfl,bounds_u8 h⟩
theorem UT.bool_of {u:U} (h:UT .b u):∃ b,u=.bool b:=by
 cases h with
 | b x=>exact ⟨x,rfl⟩
theorem UT.str_of {u:U} (h:UT .s u):∃ s,u=.str s∧s.length≤9223372036854775807:=by
 cases h with
 | s x h=>exact ⟨x,rfl,h⟩
theorem ZGP {α:Type} {f:α→List U} {p:α→Prop}:∀ {rows:List (List U)},(∀ row,row∈rows→∃ x,row=f x∧p x)→∃ l:List α,rows=l.map f∧∀ y,y∈l→p y
 | [],_=>⟨[],rfl,fun y h=>by cases h⟩
 | r::rs,h=>by
  obtain ⟨x,hx,px⟩:=h r (List.mem_cons_self ..)
  obtain ⟨l,hl,pl⟩:=ZGP (rows:=rs) (fun row hr=>h row (List.mem_cons_of_mem _ hr))
  refine ⟨x::l,by rw [hx,hl]; rfl,fun y hy=>?_⟩
  rcases List.mem_cons.1 hy with rfl|hy
  ·exact px
  ·exact pl y hy
/-- A slice of elements that are read. -/
theorem UT.sl_of {fs:List Ty} {u:U} (h:UT (.sl fs) u) {α:Type} {f:α→List U} {p:α→Prop} (he:∀ us:List U,us.length=fs.length→(∀ (j:Nat) ty u,fs[j]?=some ty→us[j]?=some u→UT ty u)→∃ x,us=f x∧p x) :
  ∃ l:List α,u=.sl fs.length (l.map f)∧l.length≤9223372036854775807∧∀ y,y∈l→p y:=by
 cases h with
 | sl _ rows hl hr hc=>
  obtain ⟨l,rfl,hp⟩:=ZGP (f:=f) (p:=p) (rows:=rows) (fun row hrow=>he row (hr row hrow) (fun j ty u hj hu=>by
   obtain ⟨i,hi⟩:=List.mem_iff_getElem?.1 hrow
   exact hc i j row ty u hi hj hu))
  have hm:maxLen=9223372036854775807:=by decide
  rw [hm,List.length_map] at hl
  exact ⟨l,rfl,hl,hp⟩
theorem ZGm (us:List U) (hl:us.length=1) (ht:∀ (j:Nat) ty u,[Ty.i .i64][j]?=some ty→us[j]?=some u→UT ty u):∃ x,us=iU x∧ZG x:=by
 match us,hl with
 | [a],_=>obtain ⟨n,rfl,h⟩:=(ht 0 _ a rfl rfl).int_of; exact ⟨n,rfl,h⟩
theorem ZHo (us:List U) (hl:us.length=1) (ht:∀ (j:Nat) ty u,[Ty.b][j]?=some ty→us[j]?=some u→UT ty u):∃ x,us=bU x∧True:=by
 match us,hl with
 | [a],_=>obtain ⟨n,rfl⟩:=(ht 0 _ a rfl rfl).bool_of; exact ⟨n,rfl,trivial⟩
structure Interval where
 low:Str
 high:Str
def Interval.u (x:Interval):List U:=[.str x.low,.str x.high]
def Interval.Fit (x:Interval):Prop:=x.low.length≤9223372036854775807∧x.high.length≤9223372036854775807
theorem Interval.of (us:List U) (hl:us.length=2) (ht:∀ (j:Nat) ty u,[Ty.s,.s][j]?=some ty→us[j]?=some u→UT ty u):∃ x,us=Interval.u x∧Interval.Fit x:=by
 match us,hl with
 | [c0,c1],_=>
  obtain ⟨x0,rfl,f0⟩:=(ht 0 _ c0 rfl rfl).str_of
  obtain ⟨x1,rfl,f1⟩:=(ht 1 _ c1 rfl rfl).str_of
  exact ⟨⟨x0,x1⟩,rfl,⟨f0,f1⟩⟩
structure Pair where
 key:Str
 value:Int
def Pair.u (x:Pair):List U:=[.str x.key,.int .i64 x.value]
def Pair.Fit (x:Pair):Prop:=x.key.length≤9223372036854775807∧ZG x.value
theorem Pair.of (us:List U) (hl:us.length=2) (ht:∀ (j:Nat) ty u,[Ty.s,.i .i64][j]?=some ty→us[j]?=some u→UT ty u):∃ x,us=Pair.u x∧Pair.Fit x:=by
 match us,hl with
 | [c0,c1],_=>
  obtain ⟨x0,rfl,f0⟩:=(ht 0 _ c0 rfl rfl).str_of
  obtain ⟨x1,rfl,f1⟩:=(ht 1 _ c1 rfl rfl).int_of
  exact ⟨⟨x0,x1⟩,rfl,⟨f0,f1⟩⟩
structure Command where
 kind:Int
 key:Str
 value:Int
 old:Int
def Command.u (x:Command):List U:=[.int .i64 x.kind,.str x.key,.int .i64 x.value,.int .i64 x.old]
def Command.Fit (x:Command):Prop:=ZG x.kind∧x.key.length≤9223372036854775807∧ZG x.value∧ZG x.old
theorem Command.of (us:List U) (hl:us.length=4) (ht:∀ (j:Nat) ty u,[Ty.i .i64,.s,.i .i64,.i .i64][j]?=some ty→us[j]?=some u→UT ty u):∃ x,us=Command.u x∧Command.Fit x:=by
 match us,hl with
 | [c0,c1,c2,c3],_=>
  obtain ⟨x0,rfl,f0⟩:=(ht 0 _ c0 rfl rfl).int_of
  obtain ⟨x1,rfl,f1⟩:=(ht 1 _ c1 rfl rfl).str_of
  obtain ⟨x2,rfl,f2⟩:=(ht 2 _ c2 rfl rfl).int_of
  obtain ⟨x3,rfl,f3⟩:=(ht 3 _ c3 rfl rfl).int_of
  exact ⟨⟨x0,x1,x2,x3⟩,rfl,⟨f0,f1,f2,f3⟩⟩
structure Session where
 client:Int
 seq:Int
 reply:Int
def Session.u (x:Session):List U:=[.int .i64 x.client,.int .i64 x.seq,.int .i64 x.reply]
def Session.Fit (x:Session):Prop:=ZG x.client∧ZG x.seq∧ZG x.reply
theorem Session.of (us:List U) (hl:us.length=3) (ht:∀ (j:Nat) ty u,[Ty.i .i64,.i .i64,.i .i64][j]?=some ty→us[j]?=some u→UT ty u):∃ x,us=Session.u x∧Session.Fit x:=by
 match us,hl with
 | [c0,c1,c2],_=>
  obtain ⟨x0,rfl,f0⟩:=(ht 0 _ c0 rfl rfl).int_of
  obtain ⟨x1,rfl,f1⟩:=(ht 1 _ c1 rfl rfl).int_of
  obtain ⟨x2,rfl,f2⟩:=(ht 2 _ c2 rfl rfl).int_of
  exact ⟨⟨x0,x1,x2⟩,rfl,⟨f0,f1,f2⟩⟩
structure Entry where
 client:Int
 seq:Int
 cmd:Command
def Entry.u (x:Entry):List U:=[.int .i64 x.client,.int .i64 x.seq,.int .i64 x.cmd.kind,.str x.cmd.key,.int .i64 x.cmd.value,.int .i64 x.cmd.old]
def Entry.Fit (x:Entry):Prop:=ZG x.client∧ZG x.seq∧Command.Fit x.cmd
theorem Entry.of (us:List U) (hl:us.length=6) (ht:∀ (j:Nat) ty u,[Ty.i .i64,.i .i64,.i .i64,.s,.i .i64,.i .i64][j]?=some ty→us[j]?=some u→UT ty u):∃ x,us=Entry.u x∧Entry.Fit x:=by
 match us,hl with
 | [c0,c1,c2,c3,c4,c5],_=>
  obtain ⟨x0,rfl,f0⟩:=(ht 0 _ c0 rfl rfl).int_of
  obtain ⟨x1,rfl,f1⟩:=(ht 1 _ c1 rfl rfl).int_of
  obtain ⟨x2,rfl,f2⟩:=(ht 2 _ c2 rfl rfl).int_of
  obtain ⟨x3,rfl,f3⟩:=(ht 3 _ c3 rfl rfl).str_of
  obtain ⟨x4,rfl,f4⟩:=(ht 4 _ c4 rfl rfl).int_of
  obtain ⟨x5,rfl,f5⟩:=(ht 5 _ c5 rfl rfl).int_of
  exact ⟨⟨x0,x1,⟨x2,x3,x4,x5⟩⟩,rfl,⟨f0,f1,⟨f2,f3,f4,f5⟩⟩⟩
structure Answer where
 asked:Entry
 reply:Int
def Answer.u (x:Answer):List U:=[.int .i64 x.asked.client,.int .i64 x.asked.seq,.int .i64 x.asked.cmd.kind,.str x.asked.cmd.key,.int .i64 x.asked.cmd.value,.int .i64 x.asked.cmd.old,.int .i64 x.reply]
def Answer.Fit (x:Answer):Prop:=Entry.Fit x.asked∧ZG x.reply
theorem Answer.of (us:List U) (hl:us.length=7) (ht:∀ (j:Nat) ty u,[Ty.i .i64,.i .i64,.i .i64,.s,.i .i64,.i .i64,.i .i64][j]?=some ty→us[j]?=some u→UT ty u):∃ x,us=Answer.u x∧Answer.Fit x:=by
 match us,hl with
 | [c0,c1,c2,c3,c4,c5,c6],_=>
  obtain ⟨x0,rfl,f0⟩:=(ht 0 _ c0 rfl rfl).int_of
  obtain ⟨x1,rfl,f1⟩:=(ht 1 _ c1 rfl rfl).int_of
  obtain ⟨x2,rfl,f2⟩:=(ht 2 _ c2 rfl rfl).int_of
  obtain ⟨x3,rfl,f3⟩:=(ht 3 _ c3 rfl rfl).str_of
  obtain ⟨x4,rfl,f4⟩:=(ht 4 _ c4 rfl rfl).int_of
  obtain ⟨x5,rfl,f5⟩:=(ht 5 _ c5 rfl rfl).int_of
  obtain ⟨x6,rfl,f6⟩:=(ht 6 _ c6 rfl rfl).int_of
  exact ⟨⟨⟨x0,x1,⟨x2,x3,x4,x5⟩⟩,x6⟩,rfl,⟨⟨f0,f1,⟨f2,f3,f4,f5⟩⟩,f6⟩⟩
structure State where
 span:Interval
 pairs:(List Pair)
 known:(List Session)
 sealed:Bool
 cut:Str
def State.u (x:State):List U:=[.str x.span.low,.str x.span.high,.sl 2 (x.pairs.map Pair.u),.sl 3 (x.known.map Session.u),.bool x.sealed,.str x.cut]
def State.Fit (x:State):Prop:=Interval.Fit x.span∧(x.pairs.length≤9223372036854775807∧∀ y,y∈x.pairs→Pair.Fit y)∧(x.known.length≤9223372036854775807∧∀ y,y∈x.known→Session.Fit y)∧True∧x.cut.length≤9223372036854775807
theorem State.of (us:List U) (hl:us.length=6) (ht:∀ (j:Nat) ty u,[Ty.s,.s,.sl [.s,.i .i64],.sl [.i .i64,.i .i64,.i .i64],.b,.s][j]?=some ty→us[j]?=some u→UT ty u):∃ x,us=State.u x∧State.Fit x:=by
 match us,hl with
 | [c0,c1,c2,c3,c4,c5],_=>
  obtain ⟨x0,rfl,f0⟩:=(ht 0 _ c0 rfl rfl).str_of
  obtain ⟨x1,rfl,f1⟩:=(ht 1 _ c1 rfl rfl).str_of
  obtain ⟨x2,rfl,f2⟩:=(ht 2 _ c2 rfl rfl).sl_of Pair.of
  obtain ⟨x3,rfl,f3⟩:=(ht 3 _ c3 rfl rfl).sl_of Session.of
  obtain ⟨x4,rfl⟩:=(ht 4 _ c4 rfl rfl).bool_of
  obtain ⟨x5,rfl,f5⟩:=(ht 5 _ c5 rfl rfl).str_of
  exact ⟨⟨⟨x0,x1⟩,x2,x3,x4,x5⟩,rfl,⟨⟨f0,f1⟩,f2,f3,trivial,f5⟩⟩
structure Piece where
 span:Interval
 pairs:(List Pair)
def Piece.u (x:Piece):List U:=[.str x.span.low,.str x.span.high,.sl 2 (x.pairs.map Pair.u)]
def Piece.Fit (x:Piece):Prop:=Interval.Fit x.span∧(x.pairs.length≤9223372036854775807∧∀ y,y∈x.pairs→Pair.Fit y)
theorem Piece.of (us:List U) (hl:us.length=3) (ht:∀ (j:Nat) ty u,[Ty.s,.s,.sl [.s,.i .i64]][j]?=some ty→us[j]?=some u→UT ty u):∃ x,us=Piece.u x∧Piece.Fit x:=by
 match us,hl with
 | [c0,c1,c2],_=>
  obtain ⟨x0,rfl,f0⟩:=(ht 0 _ c0 rfl rfl).str_of
  obtain ⟨x1,rfl,f1⟩:=(ht 1 _ c1 rfl rfl).str_of
  obtain ⟨x2,rfl,f2⟩:=(ht 2 _ c2 rfl rfl).sl_of Pair.of
  exact ⟨⟨⟨x0,x1⟩,x2⟩,rfl,⟨⟨f0,f1⟩,f2⟩⟩
structure Config where
 epoch:Int
 members:(List Int)
 fresh:Bool
def Config.u (x:Config):List U:=[.int .i64 x.epoch,.sl 1 (x.members.map iU),.bool x.fresh]
def Config.Fit (x:Config):Prop:=ZG x.epoch∧(x.members.length≤9223372036854775807∧∀ y,y∈x.members→ZG y)∧True
theorem Config.of (us:List U) (hl:us.length=3) (ht:∀ (j:Nat) ty u,[Ty.i .i64,.sl [.i .i64],.b][j]?=some ty→us[j]?=some u→UT ty u):∃ x,us=Config.u x∧Config.Fit x:=by
 match us,hl with
 | [c0,c1,c2],_=>
  obtain ⟨x0,rfl,f0⟩:=(ht 0 _ c0 rfl rfl).int_of
  obtain ⟨x1,rfl,f1⟩:=(ht 1 _ c1 rfl rfl).sl_of ZGm
  obtain ⟨x2,rfl⟩:=(ht 2 _ c2 rfl rfl).bool_of
  exact ⟨⟨x0,x1,x2⟩,rfl,⟨f0,f1,trivial⟩⟩
structure Event where
 kind:Int
 node:Int
 place:Int
 sent:Entry
def Event.u (x:Event):List U:=[.int .i64 x.kind,.int .i64 x.node,.int .i64 x.place,.int .i64 x.sent.client,.int .i64 x.sent.seq,.int .i64 x.sent.cmd.kind,.str x.sent.cmd.key,.int .i64 x.sent.cmd.value,.int .i64 x.sent.cmd.old]
def Event.Fit (x:Event):Prop:=ZG x.kind∧ZG x.node∧ZG x.place∧Entry.Fit x.sent
theorem Event.of (us:List U) (hl:us.length=9) (ht:∀ (j:Nat) ty u,[Ty.i .i64,.i .i64,.i .i64,.i .i64,.i .i64,.i .i64,.s,.i .i64,.i .i64][j]?=some ty→us[j]?=some u→UT ty u):∃ x,us=Event.u x∧Event.Fit x:=by
 match us,hl with
 | [c0,c1,c2,c3,c4,c5,c6,c7,c8],_=>
  obtain ⟨x0,rfl,f0⟩:=(ht 0 _ c0 rfl rfl).int_of
  obtain ⟨x1,rfl,f1⟩:=(ht 1 _ c1 rfl rfl).int_of
  obtain ⟨x2,rfl,f2⟩:=(ht 2 _ c2 rfl rfl).int_of
  obtain ⟨x3,rfl,f3⟩:=(ht 3 _ c3 rfl rfl).int_of
  obtain ⟨x4,rfl,f4⟩:=(ht 4 _ c4 rfl rfl).int_of
  obtain ⟨x5,rfl,f5⟩:=(ht 5 _ c5 rfl rfl).int_of
  obtain ⟨x6,rfl,f6⟩:=(ht 6 _ c6 rfl rfl).str_of
  obtain ⟨x7,rfl,f7⟩:=(ht 7 _ c7 rfl rfl).int_of
  obtain ⟨x8,rfl,f8⟩:=(ht 8 _ c8 rfl rfl).int_of
  exact ⟨⟨x0,x1,x2,⟨x3,x4,⟨x5,x6,x7,x8⟩⟩⟩,rfl,⟨f0,f1,f2,⟨f3,f4,⟨f5,f6,f7,f8⟩⟩⟩⟩
structure Plan where
 kind:Int
 first:Int
 second:Int
 key:Str
 from_:Int
 to_:Int
 step:Int
def Plan.u (x:Plan):List U:=[.int .i64 x.kind,.int .i64 x.first,.int .i64 x.second,.str x.key,.int .i64 x.from_,.int .i64 x.to_,.int .i64 x.step]
def Plan.Fit (x:Plan):Prop:=ZG x.kind∧ZG x.first∧ZG x.second∧x.key.length≤9223372036854775807∧ZG x.from_∧ZG x.to_∧ZG x.step
theorem Plan.of (us:List U) (hl:us.length=7) (ht:∀ (j:Nat) ty u,[Ty.i .i64,.i .i64,.i .i64,.s,.i .i64,.i .i64,.i .i64][j]?=some ty→us[j]?=some u→UT ty u):∃ x,us=Plan.u x∧Plan.Fit x:=by
 match us,hl with
 | [c0,c1,c2,c3,c4,c5,c6],_=>
  obtain ⟨x0,rfl,f0⟩:=(ht 0 _ c0 rfl rfl).int_of
  obtain ⟨x1,rfl,f1⟩:=(ht 1 _ c1 rfl rfl).int_of
  obtain ⟨x2,rfl,f2⟩:=(ht 2 _ c2 rfl rfl).int_of
  obtain ⟨x3,rfl,f3⟩:=(ht 3 _ c3 rfl rfl).str_of
  obtain ⟨x4,rfl,f4⟩:=(ht 4 _ c4 rfl rfl).int_of
  obtain ⟨x5,rfl,f5⟩:=(ht 5 _ c5 rfl rfl).int_of
  obtain ⟨x6,rfl,f6⟩:=(ht 6 _ c6 rfl rfl).int_of
  exact ⟨⟨x0,x1,x2,x3,x4,x5,x6⟩,rfl,⟨f0,f1,f2,f3,f4,f5,f6⟩⟩
structure Deed where
 kind:Int
 who:Int
 node:Int
 number:Int
 wish:Command
 inner:Event
 work:Plan
def Deed.u (x:Deed):List U:=[.int .i64 x.kind,.int .i64 x.who,.int .i64 x.node,.int .i64 x.number,.int .i64 x.wish.kind,.str x.wish.key,.int .i64 x.wish.value,.int .i64 x.wish.old,.int .i64 x.inner.kind,.int .i64 x.inner.node,.int .i64 x.inner.place,.int .i64 x.inner.sent.client,.int .i64 x.inner.sent.seq,.int .i64 x.inner.sent.cmd.kind,.str x.inner.sent.cmd.key,.int .i64 x.inner.sent.cmd.value,.int .i64 x.inner.sent.cmd.old,.int .i64 x.work.kind,.int .i64 x.work.first,.int .i64 x.work.second,.str x.work.key,.int .i64 x.work.from_,.int .i64 x.work.to_,.int .i64 x.work.step]
def Deed.Fit (x:Deed):Prop:=ZG x.kind∧ZG x.who∧ZG x.node∧ZG x.number∧Command.Fit x.wish∧Event.Fit x.inner∧Plan.Fit x.work
theorem Deed.of (us:List U) (hl:us.length=24) (ht:∀ (j:Nat) ty u,[Ty.i .i64,.i .i64,.i .i64,.i .i64,.i .i64,.s,.i .i64,.i .i64,.i .i64,.i .i64,.i .i64,.i .i64,.i .i64,.i .i64,.s,.i .i64,.i .i64,.i .i64,.i .i64,.i .i64,.s,.i .i64,.i .i64,.i .i64][j]?=some ty→us[j]?=some u→UT ty u):∃ x,us=Deed.u x∧Deed.Fit x:=by
 match us,hl with
 | [c0,c1,c2,c3,c4,c5,c6,c7,c8,c9,c10,c11,c12,c13,c14,c15,c16,c17,c18,c19,c20,c21,c22,c23],_=>
  obtain ⟨x0,rfl,f0⟩:=(ht 0 _ c0 rfl rfl).int_of
  obtain ⟨x1,rfl,f1⟩:=(ht 1 _ c1 rfl rfl).int_of
  obtain ⟨x2,rfl,f2⟩:=(ht 2 _ c2 rfl rfl).int_of
  obtain ⟨x3,rfl,f3⟩:=(ht 3 _ c3 rfl rfl).int_of
  obtain ⟨x4,rfl,f4⟩:=(ht 4 _ c4 rfl rfl).int_of
  obtain ⟨x5,rfl,f5⟩:=(ht 5 _ c5 rfl rfl).str_of
  obtain ⟨x6,rfl,f6⟩:=(ht 6 _ c6 rfl rfl).int_of
  obtain ⟨x7,rfl,f7⟩:=(ht 7 _ c7 rfl rfl).int_of
  obtain ⟨x8,rfl,f8⟩:=(ht 8 _ c8 rfl rfl).int_of
  obtain ⟨x9,rfl,f9⟩:=(ht 9 _ c9 rfl rfl).int_of
  obtain ⟨x10,rfl,f10⟩:=(ht 10 _ c10 rfl rfl).int_of
  obtain ⟨x11,rfl,f11⟩:=(ht 11 _ c11 rfl rfl).int_of
  obtain ⟨x12,rfl,f12⟩:=(ht 12 _ c12 rfl rfl).int_of
  obtain ⟨x13,rfl,f13⟩:=(ht 13 _ c13 rfl rfl).int_of
  obtain ⟨x14,rfl,f14⟩:=(ht 14 _ c14 rfl rfl).str_of
  obtain ⟨x15,rfl,f15⟩:=(ht 15 _ c15 rfl rfl).int_of
  obtain ⟨x16,rfl,f16⟩:=(ht 16 _ c16 rfl rfl).int_of
  obtain ⟨x17,rfl,f17⟩:=(ht 17 _ c17 rfl rfl).int_of
  obtain ⟨x18,rfl,f18⟩:=(ht 18 _ c18 rfl rfl).int_of
  obtain ⟨x19,rfl,f19⟩:=(ht 19 _ c19 rfl rfl).int_of
  obtain ⟨x20,rfl,f20⟩:=(ht 20 _ c20 rfl rfl).str_of
  obtain ⟨x21,rfl,f21⟩:=(ht 21 _ c21 rfl rfl).int_of
  obtain ⟨x22,rfl,f22⟩:=(ht 22 _ c22 rfl rfl).int_of
  obtain ⟨x23,rfl,f23⟩:=(ht 23 _ c23 rfl rfl).int_of
  exact ⟨⟨x0,x1,x2,x3,⟨x4,x5,x6,x7⟩,⟨x8,x9,x10,⟨x11,x12,⟨x13,x14,x15,x16⟩⟩⟩,⟨x17,x18,x19,x20,x21,x22,x23⟩⟩,rfl,⟨f0,f1,f2,f3,⟨f4,f5,f6,f7⟩,⟨f8,f9,f10,⟨f11,f12,⟨f13,f14,f15,f16⟩⟩⟩,⟨f17,f18,f19,f20,f21,f22,f23⟩⟩⟩
structure Replica where
 conf:Config
 ready:Bool
 log:(List Entry)
def Replica.u (x:Replica):List U:=[.int .i64 x.conf.epoch,.sl 1 (x.conf.members.map iU),.bool x.conf.fresh,.bool x.ready,.sl 6 (x.log.map Entry.u)]
def Replica.Fit (x:Replica):Prop:=Config.Fit x.conf∧True∧(x.log.length≤9223372036854775807∧∀ y,y∈x.log→Entry.Fit y)
theorem Replica.of (us:List U) (hl:us.length=5) (ht:∀ (j:Nat) ty u,[Ty.i .i64,.sl [.i .i64],.b,.b,.sl [.i .i64,.i .i64,.i .i64,.s,.i .i64,.i .i64]][j]?=some ty→us[j]?=some u→UT ty u):∃ x,us=Replica.u x∧Replica.Fit x:=by
 match us,hl with
 | [c0,c1,c2,c3,c4],_=>
  obtain ⟨x0,rfl,f0⟩:=(ht 0 _ c0 rfl rfl).int_of
  obtain ⟨x1,rfl,f1⟩:=(ht 1 _ c1 rfl rfl).sl_of ZGm
  obtain ⟨x2,rfl⟩:=(ht 2 _ c2 rfl rfl).bool_of
  obtain ⟨x3,rfl⟩:=(ht 3 _ c3 rfl rfl).bool_of
  obtain ⟨x4,rfl,f4⟩:=(ht 4 _ c4 rfl rfl).sl_of Entry.of
  exact ⟨⟨⟨x0,x1,x2⟩,x3,x4⟩,rfl,⟨⟨f0,f1,trivial⟩,trivial,f4⟩⟩
structure Message where
 kind:Int
 to_:Int
 epoch:Int
 conf:Config
 log:(List Entry)
def Message.u (x:Message):List U:=[.int .i64 x.kind,.int .i64 x.to_,.int .i64 x.epoch,.int .i64 x.conf.epoch,.sl 1 (x.conf.members.map iU),.bool x.conf.fresh,.sl 6 (x.log.map Entry.u)]
def Message.Fit (x:Message):Prop:=ZG x.kind∧ZG x.to_∧ZG x.epoch∧Config.Fit x.conf∧(x.log.length≤9223372036854775807∧∀ y,y∈x.log→Entry.Fit y)
theorem Message.of (us:List U) (hl:us.length=7) (ht:∀ (j:Nat) ty u,[Ty.i .i64,.i .i64,.i .i64,.i .i64,.sl [.i .i64],.b,.sl [.i .i64,.i .i64,.i .i64,.s,.i .i64,.i .i64]][j]?=some ty→us[j]?=some u→UT ty u):∃ x,us=Message.u x∧Message.Fit x:=by
 match us,hl with
 | [c0,c1,c2,c3,c4,c5,c6],_=>
  obtain ⟨x0,rfl,f0⟩:=(ht 0 _ c0 rfl rfl).int_of
  obtain ⟨x1,rfl,f1⟩:=(ht 1 _ c1 rfl rfl).int_of
  obtain ⟨x2,rfl,f2⟩:=(ht 2 _ c2 rfl rfl).int_of
  obtain ⟨x3,rfl,f3⟩:=(ht 3 _ c3 rfl rfl).int_of
  obtain ⟨x4,rfl,f4⟩:=(ht 4 _ c4 rfl rfl).sl_of ZGm
  obtain ⟨x5,rfl⟩:=(ht 5 _ c5 rfl rfl).bool_of
  obtain ⟨x6,rfl,f6⟩:=(ht 6 _ c6 rfl rfl).sl_of Entry.of
  exact ⟨⟨x0,x1,x2,⟨x3,x4,x5⟩,x6⟩,rfl,⟨f0,f1,f2,⟨f3,f4,trivial⟩,f6⟩⟩
structure Chain where
 base:State
 conf:Config
 nodes:(List Replica)
 up:(List Bool)
 bag:(List Message)
 answers:(List Answer)
def Chain.u (x:Chain):List U:=[.str x.base.span.low,.str x.base.span.high,.sl 2 (x.base.pairs.map Pair.u),.sl 3 (x.base.known.map Session.u),.bool x.base.sealed,.str x.base.cut,.int .i64 x.conf.epoch,.sl 1 (x.conf.members.map iU),.bool x.conf.fresh,.sl 5 (x.nodes.map Replica.u),.sl 1 (x.up.map bU),.sl 7 (x.bag.map Message.u),.sl 7 (x.answers.map Answer.u)]
def Chain.Fit (x:Chain):Prop:=State.Fit x.base∧Config.Fit x.conf∧(x.nodes.length≤9223372036854775807∧∀ y,y∈x.nodes→Replica.Fit y)∧(x.up.length≤9223372036854775807∧∀ y,y∈x.up→True)∧(x.bag.length≤9223372036854775807∧∀ y,y∈x.bag→Message.Fit y)∧(x.answers.length≤9223372036854775807∧∀ y,y∈x.answers→Answer.Fit y)
theorem Chain.of (us:List U) (hl:us.length=13) (ht:∀ (j:Nat) ty u,[Ty.s,.s,.sl [.s,.i .i64],.sl [.i .i64,.i .i64,.i .i64],.b,.s,.i .i64,.sl [.i .i64],.b,.sl [.i .i64,.sl [.i .i64],.b,.b,.sl [.i .i64,.i .i64,.i .i64,.s,.i .i64,.i .i64]],.sl [.b],.sl [.i .i64,.i .i64,.i .i64,.i .i64,.sl [.i .i64],.b,.sl [.i .i64,.i .i64,.i .i64,.s,.i .i64,.i .i64]],.sl [.i .i64,.i .i64,.i .i64,.s,.i .i64,.i .i64,.i .i64]][j]?=some ty→us[j]?=some u→UT ty u):∃ x,us=Chain.u x∧Chain.Fit x:=by
 match us,hl with
 | [c0,c1,c2,c3,c4,c5,c6,c7,c8,c9,c10,c11,c12],_=>
  obtain ⟨x0,rfl,f0⟩:=(ht 0 _ c0 rfl rfl).str_of
  obtain ⟨x1,rfl,f1⟩:=(ht 1 _ c1 rfl rfl).str_of
  obtain ⟨x2,rfl,f2⟩:=(ht 2 _ c2 rfl rfl).sl_of Pair.of
  obtain ⟨x3,rfl,f3⟩:=(ht 3 _ c3 rfl rfl).sl_of Session.of
  obtain ⟨x4,rfl⟩:=(ht 4 _ c4 rfl rfl).bool_of
  obtain ⟨x5,rfl,f5⟩:=(ht 5 _ c5 rfl rfl).str_of
  obtain ⟨x6,rfl,f6⟩:=(ht 6 _ c6 rfl rfl).int_of
  obtain ⟨x7,rfl,f7⟩:=(ht 7 _ c7 rfl rfl).sl_of ZGm
  obtain ⟨x8,rfl⟩:=(ht 8 _ c8 rfl rfl).bool_of
  obtain ⟨x9,rfl,f9⟩:=(ht 9 _ c9 rfl rfl).sl_of Replica.of
  obtain ⟨x10,rfl,f10⟩:=(ht 10 _ c10 rfl rfl).sl_of ZHo
  obtain ⟨x11,rfl,f11⟩:=(ht 11 _ c11 rfl rfl).sl_of Message.of
  obtain ⟨x12,rfl,f12⟩:=(ht 12 _ c12 rfl rfl).sl_of Answer.of
  exact ⟨⟨⟨⟨x0,x1⟩,x2,x3,x4,x5⟩,⟨x6,x7,x8⟩,x9,x10,x11,x12⟩,rfl,⟨⟨⟨f0,f1⟩,f2,f3,trivial,f5⟩,⟨f6,f7,trivial⟩,f9,f10,f11,f12⟩⟩
structure Route where
 number:Int
 span:Interval
def Route.u (x:Route):List U:=[.int .i64 x.number,.str x.span.low,.str x.span.high]
def Route.Fit (x:Route):Prop:=ZG x.number∧Interval.Fit x.span
theorem Route.of (us:List U) (hl:us.length=3) (ht:∀ (j:Nat) ty u,[Ty.i .i64,.s,.s][j]?=some ty→us[j]?=some u→UT ty u):∃ x,us=Route.u x∧Route.Fit x:=by
 match us,hl with
 | [c0,c1,c2],_=>
  obtain ⟨x0,rfl,f0⟩:=(ht 0 _ c0 rfl rfl).int_of
  obtain ⟨x1,rfl,f1⟩:=(ht 1 _ c1 rfl rfl).str_of
  obtain ⟨x2,rfl,f2⟩:=(ht 2 _ c2 rfl rfl).str_of
  exact ⟨⟨x0,⟨x1,x2⟩⟩,rfl,⟨f0,⟨f1,f2⟩⟩⟩
structure Caller where
 cache:(List Route)
 seq:Int
 busy:Bool
 wish:Command
 called:Int
def Caller.u (x:Caller):List U:=[.sl 3 (x.cache.map Route.u),.int .i64 x.seq,.bool x.busy,.int .i64 x.wish.kind,.str x.wish.key,.int .i64 x.wish.value,.int .i64 x.wish.old,.int .i64 x.called]
def Caller.Fit (x:Caller):Prop:=(x.cache.length≤9223372036854775807∧∀ y,y∈x.cache→Route.Fit y)∧ZG x.seq∧True∧Command.Fit x.wish∧ZG x.called
theorem Caller.of (us:List U) (hl:us.length=8) (ht:∀ (j:Nat) ty u,[Ty.sl [.i .i64,.s,.s],.i .i64,.b,.i .i64,.s,.i .i64,.i .i64,.i .i64][j]?=some ty→us[j]?=some u→UT ty u):∃ x,us=Caller.u x∧Caller.Fit x:=by
 match us,hl with
 | [c0,c1,c2,c3,c4,c5,c6,c7],_=>
  obtain ⟨x0,rfl,f0⟩:=(ht 0 _ c0 rfl rfl).sl_of Route.of
  obtain ⟨x1,rfl,f1⟩:=(ht 1 _ c1 rfl rfl).int_of
  obtain ⟨x2,rfl⟩:=(ht 2 _ c2 rfl rfl).bool_of
  obtain ⟨x3,rfl,f3⟩:=(ht 3 _ c3 rfl rfl).int_of
  obtain ⟨x4,rfl,f4⟩:=(ht 4 _ c4 rfl rfl).str_of
  obtain ⟨x5,rfl,f5⟩:=(ht 5 _ c5 rfl rfl).int_of
  obtain ⟨x6,rfl,f6⟩:=(ht 6 _ c6 rfl rfl).int_of
  obtain ⟨x7,rfl,f7⟩:=(ht 7 _ c7 rfl rfl).int_of
  exact ⟨⟨x0,x1,x2,⟨x3,x4,x5,x6⟩,x7⟩,rfl,⟨f0,f1,trivial,⟨f3,f4,f5,f6⟩,f7⟩⟩
structure Result where
 client:Int
 seq:Int
 wish:Command
 reply:Int
 called:Int
 returned:Int
def Result.u (x:Result):List U:=[.int .i64 x.client,.int .i64 x.seq,.int .i64 x.wish.kind,.str x.wish.key,.int .i64 x.wish.value,.int .i64 x.wish.old,.int .i64 x.reply,.int .i64 x.called,.int .i64 x.returned]
def Result.Fit (x:Result):Prop:=ZG x.client∧ZG x.seq∧Command.Fit x.wish∧ZG x.reply∧ZG x.called∧ZG x.returned
theorem Result.of (us:List U) (hl:us.length=9) (ht:∀ (j:Nat) ty u,[Ty.i .i64,.i .i64,.i .i64,.s,.i .i64,.i .i64,.i .i64,.i .i64,.i .i64][j]?=some ty→us[j]?=some u→UT ty u):∃ x,us=Result.u x∧Result.Fit x:=by
 match us,hl with
 | [c0,c1,c2,c3,c4,c5,c6,c7,c8],_=>
  obtain ⟨x0,rfl,f0⟩:=(ht 0 _ c0 rfl rfl).int_of
  obtain ⟨x1,rfl,f1⟩:=(ht 1 _ c1 rfl rfl).int_of
  obtain ⟨x2,rfl,f2⟩:=(ht 2 _ c2 rfl rfl).int_of
  obtain ⟨x3,rfl,f3⟩:=(ht 3 _ c3 rfl rfl).str_of
  obtain ⟨x4,rfl,f4⟩:=(ht 4 _ c4 rfl rfl).int_of
  obtain ⟨x5,rfl,f5⟩:=(ht 5 _ c5 rfl rfl).int_of
  obtain ⟨x6,rfl,f6⟩:=(ht 6 _ c6 rfl rfl).int_of
  obtain ⟨x7,rfl,f7⟩:=(ht 7 _ c7 rfl rfl).int_of
  obtain ⟨x8,rfl,f8⟩:=(ht 8 _ c8 rfl rfl).int_of
  exact ⟨⟨x0,x1,⟨x2,x3,x4,x5⟩,x6,x7,x8⟩,rfl,⟨f0,f1,⟨f2,f3,f4,f5⟩,f6,f7,f8⟩⟩
structure Shard where
 live:Bool
 group:Chain
def Shard.u (x:Shard):List U:=[.bool x.live,.str x.group.base.span.low,.str x.group.base.span.high,.sl 2 (x.group.base.pairs.map Pair.u),.sl 3 (x.group.base.known.map Session.u),.bool x.group.base.sealed,.str x.group.base.cut,.int .i64 x.group.conf.epoch,.sl 1 (x.group.conf.members.map iU),.bool x.group.conf.fresh,.sl 5 (x.group.nodes.map Replica.u),.sl 1 (x.group.up.map bU),.sl 7 (x.group.bag.map Message.u),.sl 7 (x.group.answers.map Answer.u)]
def Shard.Fit (x:Shard):Prop:=True∧Chain.Fit x.group
theorem Shard.of (us:List U) (hl:us.length=14) (ht:∀ (j:Nat) ty u,[Ty.b,.s,.s,.sl [.s,.i .i64],.sl [.i .i64,.i .i64,.i .i64],.b,.s,.i .i64,.sl [.i .i64],.b,.sl [.i .i64,.sl [.i .i64],.b,.b,.sl [.i .i64,.i .i64,.i .i64,.s,.i .i64,.i .i64]],.sl [.b],.sl [.i .i64,.i .i64,.i .i64,.i .i64,.sl [.i .i64],.b,.sl [.i .i64,.i .i64,.i .i64,.s,.i .i64,.i .i64]],.sl [.i .i64,.i .i64,.i .i64,.s,.i .i64,.i .i64,.i .i64]][j]?=some ty→us[j]?=some u→UT ty u):∃ x,us=Shard.u x∧Shard.Fit x:=by
 match us,hl with
 | [c0,c1,c2,c3,c4,c5,c6,c7,c8,c9,c10,c11,c12,c13],_=>
  obtain ⟨x0,rfl⟩:=(ht 0 _ c0 rfl rfl).bool_of
  obtain ⟨x1,rfl,f1⟩:=(ht 1 _ c1 rfl rfl).str_of
  obtain ⟨x2,rfl,f2⟩:=(ht 2 _ c2 rfl rfl).str_of
  obtain ⟨x3,rfl,f3⟩:=(ht 3 _ c3 rfl rfl).sl_of Pair.of
  obtain ⟨x4,rfl,f4⟩:=(ht 4 _ c4 rfl rfl).sl_of Session.of
  obtain ⟨x5,rfl⟩:=(ht 5 _ c5 rfl rfl).bool_of
  obtain ⟨x6,rfl,f6⟩:=(ht 6 _ c6 rfl rfl).str_of
  obtain ⟨x7,rfl,f7⟩:=(ht 7 _ c7 rfl rfl).int_of
  obtain ⟨x8,rfl,f8⟩:=(ht 8 _ c8 rfl rfl).sl_of ZGm
  obtain ⟨x9,rfl⟩:=(ht 9 _ c9 rfl rfl).bool_of
  obtain ⟨x10,rfl,f10⟩:=(ht 10 _ c10 rfl rfl).sl_of Replica.of
  obtain ⟨x11,rfl,f11⟩:=(ht 11 _ c11 rfl rfl).sl_of ZHo
  obtain ⟨x12,rfl,f12⟩:=(ht 12 _ c12 rfl rfl).sl_of Message.of
  obtain ⟨x13,rfl,f13⟩:=(ht 13 _ c13 rfl rfl).sl_of Answer.of
  exact ⟨⟨x0,⟨⟨⟨x1,x2⟩,x3,x4,x5,x6⟩,⟨x7,x8,x9⟩,x10,x11,x12,x13⟩⟩,rfl,⟨trivial,⟨⟨⟨f1,f2⟩,f3,f4,trivial,f6⟩,⟨f7,f8,trivial⟩,f10,f11,f12,f13⟩⟩⟩
structure Cluster where
 shards:(List Shard)
 clients:(List Caller)
 results:(List Result)
 work:Plan
 turn:Int
 clock:Int
def Cluster.u (x:Cluster):List U:=[.sl 14 (x.shards.map Shard.u),.sl 8 (x.clients.map Caller.u),.sl 9 (x.results.map Result.u),.int .i64 x.work.kind,.int .i64 x.work.first,.int .i64 x.work.second,.str x.work.key,.int .i64 x.work.from_,.int .i64 x.work.to_,.int .i64 x.work.step,.int .i64 x.turn,.int .i64 x.clock]
def Cluster.Fit (x:Cluster):Prop:=(x.shards.length≤9223372036854775807∧∀ y,y∈x.shards→Shard.Fit y)∧(x.clients.length≤9223372036854775807∧∀ y,y∈x.clients→Caller.Fit y)∧(x.results.length≤9223372036854775807∧∀ y,y∈x.results→Result.Fit y)∧Plan.Fit x.work∧ZG x.turn∧ZG x.clock
theorem Cluster.of (us:List U) (hl:us.length=12) (ht:∀ (j:Nat) ty u,[Ty.sl [.b,.s,.s,.sl [.s,.i .i64],.sl [.i .i64,.i .i64,.i .i64],.b,.s,.i .i64,.sl [.i .i64],.b,.sl [.i .i64,.sl [.i .i64],.b,.b,.sl [.i .i64,.i .i64,.i .i64,.s,.i .i64,.i .i64]],.sl [.b],.sl [.i .i64,.i .i64,.i .i64,.i .i64,.sl [.i .i64],.b,.sl [.i .i64,.i .i64,.i .i64,.s,.i .i64,.i .i64]],.sl [.i .i64,.i .i64,.i .i64,.s,.i .i64,.i .i64,.i .i64]],.sl [.sl [.i .i64,.s,.s],.i .i64,.b,.i .i64,.s,.i .i64,.i .i64,.i .i64],.sl [.i .i64,.i .i64,.i .i64,.s,.i .i64,.i .i64,.i .i64,.i .i64,.i .i64],.i .i64,.i .i64,.i .i64,.s,.i .i64,.i .i64,.i .i64,.i .i64,.i .i64][j]?=some ty→us[j]?=some u→UT ty u):∃ x,us=Cluster.u x∧Cluster.Fit x:=by
 match us,hl with
 | [c0,c1,c2,c3,c4,c5,c6,c7,c8,c9,c10,c11],_=>
  obtain ⟨x0,rfl,f0⟩:=(ht 0 _ c0 rfl rfl).sl_of Shard.of
  obtain ⟨x1,rfl,f1⟩:=(ht 1 _ c1 rfl rfl).sl_of Caller.of
  obtain ⟨x2,rfl,f2⟩:=(ht 2 _ c2 rfl rfl).sl_of Result.of
  obtain ⟨x3,rfl,f3⟩:=(ht 3 _ c3 rfl rfl).int_of
  obtain ⟨x4,rfl,f4⟩:=(ht 4 _ c4 rfl rfl).int_of
  obtain ⟨x5,rfl,f5⟩:=(ht 5 _ c5 rfl rfl).int_of
  obtain ⟨x6,rfl,f6⟩:=(ht 6 _ c6 rfl rfl).str_of
  obtain ⟨x7,rfl,f7⟩:=(ht 7 _ c7 rfl rfl).int_of
  obtain ⟨x8,rfl,f8⟩:=(ht 8 _ c8 rfl rfl).int_of
  obtain ⟨x9,rfl,f9⟩:=(ht 9 _ c9 rfl rfl).int_of
  obtain ⟨x10,rfl,f10⟩:=(ht 10 _ c10 rfl rfl).int_of
  obtain ⟨x11,rfl,f11⟩:=(ht 11 _ c11 rfl rfl).int_of
  exact ⟨⟨x0,x1,x2,⟨x3,x4,x5,x6,x7,x8,x9⟩,x10,x11⟩,rfl,⟨f0,f1,f2,⟨f3,f4,f5,f6,f7,f8,f9⟩,f10,f11⟩⟩
theorem ZGN:(∀ l:List Pair,ZcM (l.map Pair.u)=true)∧(∀ l:List Session,ZcM (l.map Session.u)=true)∧(∀ l:List Int,ZcM (l.map iU)=true)∧(∀ l:List Answer,ZcM (l.map Answer.u)=true)∧(∀ l:List Entry,ZcM (l.map Entry.u)=true)∧(∀ l:List Bool,ZcM (l.map bU)=true)∧(∀ l:List Route,ZcM (l.map Route.u)=true)∧(∀ l:List Result,ZcM (l.map Result.u)=true)∧(∀ l:List Interval,ZcM (l.map Interval.u)=true)∧(∀ (b:Bool) (x:List Id),sel b x x=x)∧
  (∀ (st:St) d res x0 x1 x2 x3 x4 x5 x6,St.ofRet st d ⟨res,[x0,x1,x2,x3,x4,x5,x6],[]⟩=(((((((st.obj (.loc d 0) (some x0)).obj (.loc d 1) (some x1)).obj (.loc d 2) (some x2)).obj (.loc d 3) (some x3)).obj (.loc d 4) (some x4)).obj (.loc d 5) (some x5)).obj (.loc d 6) (some x6)).put d (retD (res.map (T.mapC (C.ren (Zah d))))))∧List.range 7=[0,1,2,3,4,5,6]∧
  (∀ l:List Pair,Zbm (l.map Pair.u)=true)∧(∀ l:List Session,Zbm (l.map Session.u)=true)∧(∀ l:List Int,Zbm (l.map iU)=true)∧(∀ l:List Answer,Zbm (l.map Answer.u)=true)∧(∀ l:List Entry,Zbm (l.map Entry.u)=true)∧(∀ l:List Bool,Zbm (l.map bU)=true)∧(∀ l:List Route,Zbm (l.map Route.u)=true)∧(∀ l:List Result,Zbm (l.map Result.u)=true)∧(∀ l:List Interval,Zbm (l.map Interval.u)=true):=
 ⟨Zja fun _=>rfl,Zja fun _=>rfl,Zja fun _=>rfl,Zja fun _=>rfl,Zja fun _=>rfl,Zja fun _=>rfl,Zja fun _=>rfl,Zja fun _=>rfl,Zja fun _=>rfl,fun b x=>by cases b<;>rfl,fun st d res x0 x1 x2 x3 x4 x5 x6=>rfl,rfl,Zjj fun _=>rfl,Zjj fun _=>rfl,Zjj fun _=>rfl,Zjj fun _=>rfl,Zjj fun _=>rfl,Zjj fun _=>rfl,Zjj fun _=>rfl,Zjj fun _=>rfl,Zjj fun _=>rfl⟩
theorem xT:(type_of% xQ)∧(type_of% xR)∧(type_of% xS)∧(type_of% ZGN):=⟨xQ,xR,xS,ZGN⟩
theorem xU:(type_of% xQ)∧(type_of% xR)∧(type_of% xD)∧(type_of% ZGN):=⟨xQ,xR,xD,ZGN⟩
/-- A part is taken off, unless that is too much. -/
def offZ (left:Int) (n:Nat) (k:Int→Int):Int:=if IntKind.i64.wrap (left - n)<0 then -1 else k (IntKind.i64.wrap (left - n))
def chkZ (a:Int) (k:Int→Int):Int:=if a<0 then -1 else k a
def allZ {α:Type} (g:α→Int→Int):List α→Int→Int
 | [],a=>a
 | x::xs,a=>chkZ (g x a) (allZ g xs)
theorem ZGM {α:Type} {g:α→Int→Int} {l:List α} {i:Nat} {x:α} (h:l[i]?=some x) (a:Int):allZ g (l.drop i) a=chkZ (g x a) (allZ g (l.drop (i+1))):=by
 have hi:=(List.getElem?_eq_some_iff.1 h).1
 have he:=(List.getElem?_eq_some_iff.1 h).2
 rw [List.drop_eq_getElem_cons hi,he]; rfl
/-- No more is left than was there; what was counted is small. -/
def LeZ (g:Int→Int) (P:Prop):Prop:=∀ a,0≤a→a≤1048576→g a≤a∧(0≤g a→P)
theorem LeZ.id:LeZ (fun a=>a) True:=fun a _ _=>⟨Int.le_refl _,fun _=>trivial⟩
theorem LeZ.off {n:Nat} {k:Int→Int} {P:Prop} (hn:n≤9223372036854775807) (hk:LeZ k P):LeZ (fun a=>offZ a n k) (n≤1048576∧P):=by
 intro a h0 h1
 simp only[offZ]
 rw [w64 (by omega) (by omega)]
 split
 ·exact ⟨by omega,fun h=>by omega⟩
 ·obtain ⟨h2,h3⟩:=hk (a - n) (by omega) (by omega)
  exact ⟨by omega,fun h=>⟨by omega,h3 h⟩⟩
theorem LeZ.chk {g k:Int→Int} {P Q:Prop} (hg:LeZ g P) (hk:LeZ k Q):LeZ (fun a=>chkZ (g a) k) (P∧Q):=by
 intro a h0 h1
 obtain ⟨h2,h3⟩:=hg a h0 h1
 simp only[chkZ]
 split
 ·exact ⟨by omega,fun h=>by omega⟩
 ·obtain ⟨h4,h5⟩:=hk (g a) (by omega) (by omega)
  exact ⟨by omega,fun h=>⟨h3 (by omega),h5 h⟩⟩
theorem LeZ.all {α:Type} {g:α→Int→Int} {P:α→Prop}:∀ {l:List α},(∀ x,x∈l→LeZ (g x) (P x))→LeZ (allZ g l) (∀ x,x∈l→P x)
 | [],_=>fun a _ _=>⟨Int.le_refl _,fun _ x h=>by cases h⟩
 | x::xs,h=>by
  have h1:=(h x (List.mem_cons_self ..)).chk (LeZ.all (l:=xs) (fun y hy=>h y (List.mem_cons_of_mem _ hy)))
  intro a h0 h2
  obtain ⟨h3,h4⟩:=h1 a h0 h2
  refine ⟨h3,fun h y hy=>?_⟩
  rcases List.mem_cons.1 hy with rfl|hy
  ·exact (h4 h).1
  ·exact (h4 h).2 y hy
theorem ZGl {α:Type} {f:α→List U} {z:List U} {l:List α} {i:Nat} {x:α} (h:l[i]?=some x):((l.take i).map f++List.replicate (l.length - i) z).set i (f x)=(l.take (i+1)).map f++List.replicate (l.length - (i+1)) z:=by
 have hi:=(List.getElem?_eq_some_iff.1 h).1
 have he:=(List.getElem?_eq_some_iff.1 h).2
 have h1:((l.take i).map f).length=i:=by simp; omega
 rw [List.set_append_right _ _ (by omega),h1,Nat.sub_self,show l.length - i=(l.length - (i+1))+1 by omega,List.replicate_succ,List.set_cons_zero,List.take_succ_eq_append_getElem hi,List.map_append,List.append_assoc,he]
 rfl
theorem ZGk {α:Type} {f:α→List U} {z:List U} {l:List α} {i:Nat} (hi:i<l.length):((l.take i).map f++List.replicate (l.length - i) z)[i]?=some z:=by
 have h1:((l.take i).map f).length=i:=by simp; omega
 rw [List.getElem?_append_right (by omega),h1,Nat.sub_self,show l.length - i=(l.length - (i+1))+1 by omega,List.replicate_succ]
 rfl
theorem ZGj {α:Type} {f:α→List U} {z:List U} {l:List α}:(l.take l.length).map f++List.replicate (l.length - l.length) z=l.map f:=by simp
theorem ZHJ (st:St) (d n:Nat) (zero:List U) (bytes:Nat) (h:n*bytes≤140737488355328):stMk st d (DI (n:Int)) (DI (n:Int)) zero bytes=some (((st.cool (.loc d 0)).obj (.loc d 0) (some (.row zero.length (List.replicate n zero)))).put d (.t (.sc (.own (.loc d 0) n)))):=by
 simp [stMk,D.int?,h]
theorem ZHA (st:St) (d n:Nat) (zero:List U) (bytes:Nat) (h:n*bytes≤140737488355328) (hz:zero.all U.zed=true):Zhl st d (DI (n:Int)) (DI (n:Int)) zero bytes=some (((st.cool (.loc d 0)).obj (.loc d 0) (some (.deep zero.length (List.replicate n zero)))).put d (.t (.sc (.down (.loc d 0) n)))):=by
 simp only[List.all_eq_true] at hz
 simp only[Zhl,D.int?,Option.bind_some,List.all_eq_true]
 rw [if_pos ⟨by omega,by omega,by simpa using h,hz⟩]
 simp
def ZGR (l:(List Int)):Prop:=l.length≤1048576∧True
def ZGw (l:(List Bool)):Prop:=l.length≤1048576∧True
def Interval.Small (x:Interval):Prop:=x.low.length≤1048576∧x.high.length≤1048576∧True
def Z0 (x:Interval) (a:Int):Int:=offZ a x.low.length fun a=>offZ a x.high.length fun a=>a
theorem ZFp (c0:Str) (c1:Str) (left:Int):EE F 8 [.ag [.u (.str c0),.u (.str c1)],I left] []=ok1 (I (Z0 ⟨c0,c1⟩ left)):=by
 rw [R8,b8]
 simp only[↓xP,xU,rB,rA,rS]
 repeat' (refine ZiJ (fun h=>?_) (fun h=>?_))
 all_goals (simp only[decide_eq_true_eq,decide_eq_false_iff_not] at *; simp [Z0,offZ,chkZ, *])
theorem ZF2 (x:Interval) (hf:Interval.Fit x):LeZ (Z0 x) (Interval.Small x):=LeZ.off hf.1 (LeZ.off hf.2 LeZ.id)
theorem Z4 (c0:Str) (c1:Str):EE F 11 [.ag [.u (.str c0),.u (.str c1)]] []=ok1 (.ag [.u (.str c0),.u (.str c1)]):=by
 rw [R11,b11]
 simp only[↓xP,xU,rB,rA,rS]
theorem ZF0 (c0:Str) (c1:Str):EE F 79 [.ag [.u (.str c0),.u (.str c1)],.ag [.u (.str c0),.u (.str c1)]] []=ok1 (B true):=by
 rw [R79,b79]
 simp only[↓xP,xU,rB,rA,rS,ne_eq,not_true_eq_false]
def Pair.Small (x:Pair):Prop:=x.key.length≤1048576∧True
def ZFl (x:Pair) (a:Int):Int:=offZ a x.key.length fun a=>a
theorem ZG5 (c0:Str) (c1:Int) (left:Int):EE F 112 [.ag [.u (.str c0),.u (.int .i64 c1)],I left] []=ok1 (I (ZFl ⟨c0,c1⟩ left)):=by
 rw [R112,b112]
 simp only[↓xP,xU,rB,rA,rS]
 repeat' (refine ZiJ (fun h=>?_) (fun h=>?_))
 all_goals (simp only[decide_eq_true_eq,decide_eq_false_iff_not] at *; simp [ZFl,offZ,chkZ, *])
theorem ZG4 (x:Pair) (hf:Pair.Fit x):LeZ (ZFl x) (Pair.Small x):=LeZ.off hf.1 LeZ.id
theorem ZG6 (c0:Str) (c1:Int):EE F 113 [.ag [.u (.str c0),.u (.int .i64 c1)]] []=ok1 (.ag [.u (.str c0),.u (.int .i64 c1)]):=by
 rw [R113,b113]
 simp only[↓xP,xU,rB,rA,rS]
theorem ZGT (c0:Str) (c1:Int):EE F 43 [.ag [.u (.str c0),.u (.int .i64 c1)],.ag [.u (.str c0),.u (.int .i64 c1)]] []=ok1 (B true):=by
 rw [R43,b43]
 simp only[↓xP,xU,rB,rA,rS,ne_eq,not_true_eq_false]
def ZS (l:(List Pair)):Prop:=l.length≤1048576∧∀ y,y∈l→Pair.Small y
def ZFg (l:(List Pair)) (left:Int):Int:=offZ left l.length fun a=>allZ ZFl l a
theorem ZGG (l:(List Pair)) (hf:(l.length≤9223372036854775807∧∀ y,y∈l→Pair.Fit y)) (left:Int):EE F 73 [L 2 (l.map Pair.u),I left] []=ok1 (I (ZFg l left)):=by
 have hl:=hf.1
 rw [R73,b73]
 simp only[↓xP,xU,rB,rA,rS]
 refine ZiJ (fun h=>?_) (fun h=>?_)
 ·simp only[decide_eq_true_eq] at h
  simp [ZFg,offZ,h]
 ·refine (Zji (fun (a:Nat×Int) st=>st.s 0=DU (.sl 2 (l.map Pair.u))∧st.s 5=DI a.1∧st.s 1=DI a.2) (fun a=>l.length - a.1) (fun a=>ok1 (I (allZ ZFl (l.drop a.1) a.2))) ?_ (0,IntKind.i64.wrap (left - l.length)) ⟨by simp only[↓xP,xU,rB,rA,rS],by simp only[↓xP,xU,rB,rA,rS]; rfl,by simp only[↓xP,xU,rB,rA,rS]⟩).trans ?_
  ·rintro ⟨i,a⟩ st ⟨h0,h5,h1⟩ ih
   dsimp only at h0 h5 h1 ih ⊢
   by_cases hi:i<l.length
   ·obtain ⟨⟨c0,c1⟩,hx⟩:∃ x,l[i]?=some x:=⟨_,List.getElem?_eq_getElem hi⟩
    have hw:=w_succ (i:=i) (by omega)
    have hfx:=hf.2 _ (List.mem_of_getElem? hx)
    simp only[↓xP,xU,rB,rA,rS,h0,h5,h1,hi,hx,hw,Pair.u,ZG5]
    rw [ZGM hx,chkZ]
    refine ZiJ (fun h=>?_) (fun h=>?_)
    ·simp only[decide_eq_true_eq] at h
     simp [h]
    ·rw [ih (i+1,ZFl ⟨c0,c1⟩ a) _ (by dsimp only; omega) ⟨by simp only[↓xP,xU,rB,rA,rS,h0],by simp only[↓xP,xU,rB,rA,rS],by simp only[↓xP,xU,rB,rA,rS]⟩]
     simp only[decide_eq_false_iff_not] at h
     simp [h]
   ·simp only[↓xP,xU,rB,rA,rS,h0,h5,h1,hi]
    rw [List.drop_of_length_le (by omega)]; rfl
  ·simp only[decide_eq_false_iff_not] at h
   simp [ZFg,offZ,h]
theorem ZGF (l:(List Pair)) (hf:(l.length≤9223372036854775807∧∀ y,y∈l→Pair.Fit y)):LeZ (ZFg l) (ZS l):=LeZ.off hf.1 (LeZ.all fun x hx=>ZG4 x (hf.2 x hx))
theorem ZGJ (l:(List Pair)) (hs:ZS l):EE F 76 [L 2 (l.map Pair.u)] []=some ⟨[.sc (.own (.par 0) l.length)],[.row 2 (l.map Pair.u)],[]⟩:=by
 have hl:=hs.1
 rw [R76,b76]
 simp only[↓xP,xU,rB,rA,rS,ZHJ _ 7 l.length [.str [],.int .i64 0] 24 (by omega)]
 refine (Zji (fun (i:Nat) st=>i≤l.length∧st.s 0=DU (.sl 2 (l.map Pair.u))∧st.s 4=DI i∧st.s 3=.t (.sc (.own (.loc 7 0) l.length))∧st.o (.loc 7 0)=some (.row 2 ((l.take i).map Pair.u++List.replicate (l.length - i) [.str [],.int .i64 0]))) (fun i=>l.length - i) (fun i=>some ⟨[.sc (.own (.par 0) l.length)],[.row 2 (l.map Pair.u)],[]⟩) ?_ 0 ⟨by omega,by simp only[↓xP,xU,rB,rA,rS],by simp only[↓xP,xU,rB,rA,rS]; rfl,by simp only[↓xP,xU,rB,rA,rS],by simp only[↓xP,xU,rB,rA,rS,Nat.sub_zero]⟩)
 rintro i st ⟨hle,h0,h4,h3,ho⟩ ih
 by_cases hi:i<l.length
 ·obtain ⟨⟨c0,c1⟩,hx⟩:∃ x,l[i]?=some x:=⟨_,List.getElem?_eq_getElem hi⟩
  have hw:=w_succ (i:=i) (by omega)
  have hg:=ZGk (f:=Pair.u) (z:=[.str [],.int .i64 0]) hi
  have hf:=ZGl (f:=Pair.u) (z:=[.str [],.int .i64 0]) hx
  simp only[Pair.u] at hf
  simp only[↓xP,xU,rB,rA,rS,h0,h4,h3,ho,hi,hx,hw,hg,hf,Pair.u,ZG6]
  exact ih (i+1) _ (by omega) ⟨by omega,by simp only[↓xP,xU,rB,rA,rS,h0],by simp only[↓xP,xU,rB,rA,rS],by simp only[↓xP,xU,rB,rA,rS,h3],by simp only[↓xP,xU,rB,rA,rS,Pair.u]⟩
 ·have:i=l.length:=by omega
  subst this
  rw [ZGj] at ho
  simp only[↓xP,xU,rB,rA,rS,h0,h4,h3,ho,hi]
theorem ZFs (l:(List Pair)) (hs:ZS l):EE F 13 [L 2 (l.map Pair.u),L 2 (l.map Pair.u)] []=ok1 (B true):=by
 have hl:=hs.1
 rw [R13,b13]
 simp only[↓xP,xU,rB,rA,rS,ne_eq,not_true_eq_false]
 refine (Zji (fun (i:Nat) st=>st.s 0=DU (.sl 2 (l.map Pair.u))∧st.s 1=DU (.sl 2 (l.map Pair.u))∧st.s 5=DI i) (fun i=>l.length - i) (fun i=>ok1 (B true)) ?_ 0 ⟨by simp only[↓xP,xU,rB,rA,rS],by simp only[↓xP,xU,rB,rA,rS],by simp only[↓xP,xU,rB,rA,rS]; rfl⟩)
 rintro i st ⟨h0,h1,h5⟩ ih
 by_cases hi:i<l.length
 ·obtain ⟨⟨c0,c1⟩,hx⟩:∃ x,l[i]?=some x:=⟨_,List.getElem?_eq_getElem hi⟩
  have hw:=w_succ (i:=i) (by omega)
  simp only[↓xP,xU,rB,rA,rS,h0,h1,h5,hi,hx,hw,Pair.u,ZGT,ne_eq,not_true_eq_false]
  exact ih (i+1) _ (by omega) ⟨by simp only[↓xP,xU,rB,rA,rS,h0],by simp only[↓xP,xU,rB,rA,rS,h1],by simp only[↓xP,xU,rB,rA,rS]⟩
 ·simp only[↓xP,xU,rB,rA,rS,h0,h1,h5,hi]
def Command.Small (x:Command):Prop:=x.key.length≤1048576∧True
def ZFZ (l:(List Session)):Prop:=l.length≤1048576∧True
def Entry.Small (x:Entry):Prop:=Command.Small x.cmd∧True
def ZFJ (l:(List Entry)):Prop:=l.length≤1048576∧∀ y,y∈l→Entry.Small y
def Answer.Small (x:Answer):Prop:=Entry.Small x.asked∧True
def ZF7 (l:(List Answer)):Prop:=l.length≤1048576∧∀ y,y∈l→Answer.Small y
def State.Small (x:State):Prop:=Interval.Small x.span∧ZS x.pairs∧ZFZ x.known∧x.cut.length≤1048576∧True
def Piece.Small (x:Piece):Prop:=Interval.Small x.span∧ZS x.pairs∧True
def Z7 (x:Piece) (a:Int):Int:=chkZ (Z0 x.span a) fun a=>chkZ (ZFg x.pairs a) fun a=>a
theorem ZGI (c0:Str) (c1:Str) (c2:(List Pair)) (hf:Piece.Fit ⟨⟨c0,c1⟩,c2⟩) (left:Int):EE F 32 [.ag [.u (.str c0),.u (.str c1),.u (.sl 2 (c2.map Pair.u))],I left] []=ok1 (I (Z7 ⟨⟨c0,c1⟩,c2⟩ left)):=by
 rw [R32,b32]
 simp only[↓xP,xU,rB,rA,rS,ZFp,ZGG c2 hf.2]
 repeat' (refine ZiJ (fun h=>?_) (fun h=>?_))
 all_goals (simp only[decide_eq_true_eq,decide_eq_false_iff_not] at *; simp [Z7,offZ,chkZ, *])
theorem ZGH (x:Piece) (hf:Piece.Fit x):LeZ (Z7 x) (Piece.Small x):=LeZ.chk (ZF2 _ hf.1) (LeZ.chk (ZGF _ hf.2) LeZ.id)
theorem ZGK (c0:Str) (c1:Str) (c2:(List Pair)) (hs:Piece.Small ⟨⟨c0,c1⟩,c2⟩):EE F 39 [.ag [.u (.str c0),.u (.str c1),.u (.sl 2 (c2.map Pair.u))]] []=some ⟨[.ag [.u (.str c0),.u (.str c1),.own (.par 0) c2.length]],[.row 2 (c2.map Pair.u)],[]⟩:=by
 rw [R39,b39]
 simp only[↓xP,xU,rB,rA,rS,Z4,ZGJ c2 hs.2.1]
theorem ZGz (c0:Str) (c1:Str) (c2:(List Pair)) (hs:Piece.Small ⟨⟨c0,c1⟩,c2⟩):EE F 44 [.ag [.u (.str c0),.u (.str c1),.u (.sl 2 (c2.map Pair.u))],.ag [.u (.str c0),.u (.str c1),.u (.sl 2 (c2.map Pair.u))]] []=ok1 (B true):=by
 rw [R44,b44]
 simp only[↓xP,xU,rB,rA,rS,ZF0,ZFs c2 hs.2.1,ne_eq,not_true_eq_false]
def ZFa (l:(List Piece)):Prop:=l.length≤1048576∧∀ y,y∈l→Piece.Small y
def ZFm (l:(List Piece)) (left:Int):Int:=offZ left l.length fun a=>allZ Z7 l a
theorem ZGu (l:(List Piece)) (hf:(l.length≤9223372036854775807∧∀ y,y∈l→Piece.Fit y)) (left:Int):EE F 7 [L 3 (l.map Piece.u),I left] []=ok1 (I (ZFm l left)):=by
 have hl:=hf.1
 rw [R7,b7]
 simp only[↓xP,xU,rB,rA,rS]
 refine ZiJ (fun h=>?_) (fun h=>?_)
 ·simp only[decide_eq_true_eq] at h
  simp [ZFm,offZ,h]
 ·refine (Zji (fun (a:Nat×Int) st=>st.s 0=DU (.sl 3 (l.map Piece.u))∧st.s 5=DI a.1∧st.s 1=DI a.2) (fun a=>l.length - a.1) (fun a=>ok1 (I (allZ Z7 (l.drop a.1) a.2))) ?_ (0,IntKind.i64.wrap (left - l.length)) ⟨by simp only[↓xP,xU,rB,rA,rS],by simp only[↓xP,xU,rB,rA,rS]; rfl,by simp only[↓xP,xU,rB,rA,rS]⟩).trans ?_
  ·rintro ⟨i,a⟩ st ⟨h0,h5,h1⟩ ih
   dsimp only at h0 h5 h1 ih ⊢
   by_cases hi:i<l.length
   ·obtain ⟨⟨⟨c0,c1⟩,c2⟩,hx⟩:∃ x,l[i]?=some x:=⟨_,List.getElem?_eq_getElem hi⟩
    have hw:=w_succ (i:=i) (by omega)
    have hfx:=hf.2 _ (List.mem_of_getElem? hx)
    simp only[↓xP,xU,rB,rA,rS,h0,h5,h1,hi,hx,hw,Piece.u,ZGI c0 c1 c2 hfx]
    rw [ZGM hx,chkZ]
    refine ZiJ (fun h=>?_) (fun h=>?_)
    ·simp only[decide_eq_true_eq] at h
     simp [h]
    ·rw [ih (i+1,Z7 ⟨⟨c0,c1⟩,c2⟩ a) _ (by dsimp only; omega) ⟨by simp only[↓xP,xU,rB,rA,rS,h0],by simp only[↓xP,xU,rB,rA,rS],by simp only[↓xP,xU,rB,rA,rS]⟩]
     simp only[decide_eq_false_iff_not] at h
     simp [h]
   ·simp only[↓xP,xU,rB,rA,rS,h0,h5,h1,hi]
    rw [List.drop_of_length_le (by omega)]; rfl
  ·simp only[decide_eq_false_iff_not] at h
   simp [ZFm,offZ,h]
theorem ZGt (l:(List Piece)) (hf:(l.length≤9223372036854775807∧∀ y,y∈l→Piece.Fit y)):LeZ (ZFm l) (ZFa l):=LeZ.off hf.1 (LeZ.all fun x hx=>ZGH x (hf.2 x hx))
theorem ZGv (l:(List Piece)) (hs:ZFa l):EE F 10 [L 3 (l.map Piece.u)] []=some ⟨[.sc (.down (.par 0) l.length)],[.deep 3 (l.map Piece.u)],[]⟩:=by
 have hl:=hs.1
 rw [R10,b10]
 simp only[↓xP,xU,rB,rA,rS,ZHA _ 7 l.length [.str [],.str [],.sl 2 []] 56 (by omega) rfl]
 refine (Zji (fun (i:Nat) st=>i≤l.length∧st.s 0=DU (.sl 3 (l.map Piece.u))∧st.s 4=DI i∧st.s 3=.t (.sc (.down (.loc 7 0) l.length))∧st.o (.loc 7 0)=some (.deep 3 ((l.take i).map Piece.u++List.replicate (l.length - i) [.str [],.str [],.sl 2 []]))) (fun i=>l.length - i) (fun i=>some ⟨[.sc (.down (.par 0) l.length)],[.deep 3 (l.map Piece.u)],[]⟩) ?_ 0 ⟨by omega,by simp only[↓xP,xU,rB,rA,rS],by simp only[↓xP,xU,rB,rA,rS]; rfl,by simp only[↓xP,xU,rB,rA,rS],by simp only[↓xP,xU,rB,rA,rS,Nat.sub_zero]⟩)
 rintro i st ⟨hle,h0,h4,h3,ho⟩ ih
 by_cases hi:i<l.length
 ·obtain ⟨⟨⟨c0,c1⟩,c2⟩,hx⟩:∃ x,l[i]?=some x:=⟨_,List.getElem?_eq_getElem hi⟩
  have hw:=w_succ (i:=i) (by omega)
  have hg:=ZGk (f:=Piece.u) (z:=[.str [],.str [],.sl 2 []]) hi
  have hf:=ZGl (f:=Piece.u) (z:=[.str [],.str [],.sl 2 []]) hx
  simp only[Piece.u] at hf
  have hsx:=hs.2 _ (List.mem_of_getElem? hx)
  simp only[↓xP,xU,rB,rA,rS,h0,h4,h3,ho,hi,hx,hw,hg,hf,Piece.u,ZGK c0 c1 c2 hsx]
  exact ih (i+1) _ (by omega) ⟨by omega,by simp only[↓xP,xU,rB,rA,rS,h0],by simp only[↓xP,xU,rB,rA,rS],by simp only[↓xP,xU,rB,rA,rS,h3],by simp only[↓xP,xU,rB,rA,rS,Piece.u]⟩
 ·have:i=l.length:=by omega
  subst this
  rw [ZGj] at ho
  simp only[↓xP,xU,rB,rA,rS,h0,h4,h3,ho,hi]
theorem ZGi (l:(List Piece)) (hs:ZFa l):EE F 14 [L 3 (l.map Piece.u),L 3 (l.map Piece.u)] []=ok1 (B true):=by
 have hl:=hs.1
 rw [R14,b14]
 simp only[↓xP,xU,rB,rA,rS,ne_eq,not_true_eq_false]
 refine (Zji (fun (i:Nat) st=>st.s 0=DU (.sl 3 (l.map Piece.u))∧st.s 1=DU (.sl 3 (l.map Piece.u))∧st.s 5=DI i) (fun i=>l.length - i) (fun i=>ok1 (B true)) ?_ 0 ⟨by simp only[↓xP,xU,rB,rA,rS],by simp only[↓xP,xU,rB,rA,rS],by simp only[↓xP,xU,rB,rA,rS]; rfl⟩)
 rintro i st ⟨h0,h1,h5⟩ ih
 by_cases hi:i<l.length
 ·obtain ⟨⟨⟨c0,c1⟩,c2⟩,hx⟩:∃ x,l[i]?=some x:=⟨_,List.getElem?_eq_getElem hi⟩
  have hw:=w_succ (i:=i) (by omega)
  have hsx:=hs.2 _ (List.mem_of_getElem? hx)
  simp only[↓xP,xU,rB,rA,rS,h0,h1,h5,hi,hx,hw,Piece.u,ZGz c0 c1 c2 hsx,ne_eq,not_true_eq_false]
  exact ih (i+1) _ (by omega) ⟨by simp only[↓xP,xU,rB,rA,rS,h0],by simp only[↓xP,xU,rB,rA,rS,h1],by simp only[↓xP,xU,rB,rA,rS]⟩
 ·simp only[↓xP,xU,rB,rA,rS,h0,h1,h5,hi]
def Config.Small (x:Config):Prop:=ZGR x.members∧True
def Event.Small (x:Event):Prop:=Entry.Small x.sent∧True
def Plan.Small (x:Plan):Prop:=x.key.length≤1048576∧True
def Deed.Small (x:Deed):Prop:=Command.Small x.wish∧Event.Small x.inner∧Plan.Small x.work∧True
def Replica.Small (x:Replica):Prop:=Config.Small x.conf∧ZFJ x.log∧True
def ZFY (l:(List Replica)):Prop:=l.length≤1048576∧∀ y,y∈l→Replica.Small y
def Message.Small (x:Message):Prop:=Config.Small x.conf∧ZFJ x.log∧True
def ZFX (l:(List Message)):Prop:=l.length≤1048576∧∀ y,y∈l→Message.Small y
def Chain.Small (x:Chain):Prop:=State.Small x.base∧Config.Small x.conf∧ZFY x.nodes∧ZGw x.up∧ZFX x.bag∧ZF7 x.answers∧True
def Route.Small (x:Route):Prop:=Interval.Small x.span∧True
def ZGg (l:(List Route)):Prop:=l.length≤1048576∧∀ y,y∈l→Route.Small y
def Caller.Small (x:Caller):Prop:=ZGg x.cache∧Command.Small x.wish∧True
def ZF8 (l:(List Caller)):Prop:=l.length≤1048576∧∀ y,y∈l→Caller.Small y
def Result.Small (x:Result):Prop:=Command.Small x.wish∧True
def ZF9 (l:(List Result)):Prop:=l.length≤1048576∧∀ y,y∈l→Result.Small y
def Shard.Small (x:Shard):Prop:=Chain.Small x.group∧True
def ZGh (l:(List Shard)):Prop:=l.length≤1048576∧∀ y,y∈l→Shard.Small y
def Cluster.Small (x:Cluster):Prop:=ZGh x.shards∧ZF8 x.clients∧ZF9 x.results∧Plan.Small x.work∧True
/-- All from a number on. -/
def allF (n:Nat) (p:Nat→Bool) (i:Nat):Bool:=if i<n then p i&&allF n p (i+1) else true
termination_by n - i
theorem ZGa {n:Nat} {p:Nat→Bool} {i:Nat} (h:i<n):allF n p i=(p i&&allF n p (i+1)):=by rw [allF,if_pos h]
theorem ZFS {n:Nat} {p:Nat→Bool} {i:Nat} (h:¬i<n):allF n p i=true:=by rw [allF,if_neg h]
theorem ZFt {n:Nat} {p:Nat→Bool}:∀ (k i:Nat),n - i=k→(allF n p i=true↔∀ j,i≤j→j<n→p j=true)
 | 0,i,h=>by
  rw [ZFS (by omega)]
  exact ⟨fun _ j h1 h2=>by omega,fun _=>rfl⟩
 | k+1,i,h=>by
  rw [ZGa (by omega),Bool.and_eq_true,ZFt k (i+1) (by omega)]
  refine ⟨fun ⟨h1,h2⟩ j hj hn=>?_,fun h1=>⟨h1 i (Nat.le_refl _) (by omega),fun j hj hn=>h1 j (by omega) hn⟩⟩
  by_cases e:j=i
  ·subst e; exact h1
  ·exact h2 j (by omega) hn
def inR (n a b:Int):Bool:=decide (a≤n)&&decide (n≤b)
theorem ZW (n a b:Int):EE F 34 [I n,I a,I b] []=ok1 (B (inR n a b)):=by
 rw [R34,b34]
 simp only[↓xP,xT,rL,rB,rA,rS]
 repeat' (refine ZiJ (fun h=>?_) (fun h=>?_))
 all_goals (simp_all [inR]<;>(intros; omega))
theorem ZFq (n:Int):EE F 58 [I n] []=ok1 (B (inR n 0 999)):=by
 rw [R58,b58]
 simp only[↓xP,xT,rL,rB,rA,rS]
 repeat' (refine ZiJ (fun h=>?_) (fun h=>?_))
 all_goals (simp_all [inR]<;>(intros; omega))
def ZFb (c:UInt8):Bool:=decide (97≤(c.toNat:Int))&&decide ((c.toNat:Int)≤122)
def ZH (s:Str):Bool:=decide (1≤s.length)&&decide (s.length≤4)&&s.all ZFb
theorem cut1 (n:Nat):vcut (n+1) (some (DI 1)) none=some (1,n+1):=by
 have:(1:Int)≤(n:Int)+1:=by omega
 simp [vcut,D.int?,this]
theorem ZFc:∀ s:Str,EE F 99 [S s] []=ok1 (B (s.all ZFb))
 | []=>by
  rw [R99,b99]
  simp only[↓xP,xT,rL,rB,rA,rS]
 | c::s=>by
  have h2:(List.take (s.length+1) (c::s)).drop 1=s:=by simp
  rw [R99,b99]
  simp only[↓xP,xT,rL,rB,rA,rS,cut1,ZFc s,reduceCtorEq,ZFb,List.take_of_length_le]
  repeat' (refine ZiJ (fun h=>?_) (fun h=>?_))
  all_goals (simp_all<;>(intros; omega))
theorem Z1 (s:Str):EE F 57 [S s] []=ok1 (B (ZH s)):=by
 rw [R57,b57]
 simp only[↓xP,xT,rL,rB,rA,rS,ZFc]
 repeat' (refine ZiJ (fun h=>?_) (fun h=>?_))
 all_goals (simp_all [ZH]<;>(intros; omega))
theorem ZT (s:Str):EE F 74 [S s] []=ok1 (B (ZH s)):=by
 rw [R74,b74]
 simp only[↓xP,xT,rL,rB,rA,rS,ZW]
 refine ZiJ (fun h=>?_) (fun h=>?_)
 ·simp_all [ZH,inR]
  omega
 ·simp only[Bool.not_eq_false',inR,Bool.and_eq_true,decide_eq_true_eq] at h
  refine (Zji (fun (i:Nat) st=>i≤s.length∧st.s 0=DU (.str s)∧st.s 3=DI i) (fun i=>s.length - i) (fun i=>ok1 (B ((s.drop i).all ZFb))) ?_ 0 ⟨by omega,by simp only[↓xP,xQ,rB],by simp only[↓xP,xQ,rB]; rfl⟩).trans ?_
  ·rintro i st ⟨hle,h0,h3⟩ ih
   by_cases hi:i<s.length
   ·have hc:s[i]?=some s[i]:=List.getElem?_eq_getElem hi
    have hd:s.drop i=s[i]::s.drop (i+1):=List.drop_eq_getElem_cons hi
    have hw:=w_succ (i:=i) (by omega)
    simp only[↓xP,xT,rL,rB,rA,rS,h0,h3,hi,hc,hw]
    rw [hd]
    generalize s[i]=c
    repeat' (refine ZiJ (fun h=>?_) (fun h=>?_))
    ·simp_all [ZFb]
     omega
    ·simp_all [ZFb]
     omega
    ·rw [ih (i+1) _ (by omega) ⟨by omega,by simp only[↓xP,xQ,rB,h0],by simp only[↓xP,xQ,rB]⟩]
     simp_all [ZFb]
   ·simp only[↓xP,xT,rL,rB,rA,rS,h0,h3,hi]
    rw [List.drop_of_length_le (by omega)]; rfl
  ·simp [ZH]
   omega
theorem ZFH (s:Str):Za2 [] s=decide (s≠[]):=by cases s<;>simp [Za2,Op.bytesLess]
theorem ZGf (s:Str):Za2 s []=false:=by cases s<;>simp [Za2,Op.bytesLess]
theorem ZFz (a b:UInt8) (s t:Str):Za2 (a::s) (b::t)=(decide (a<b)||(a==b&&Za2 s t)):=rfl
theorem ZFj:∀ s:Str,Za2 s s=false
 | []=>rfl
 | a::s=>by rw [ZFz,ZFj s]; simp
theorem lt_trans:∀ {s t u:Str},Za2 s t=true→Za2 t u=true→Za2 s u=true
 | _,[],_,h,_=>by rw [ZGf] at h; cases h
 | _,b::t,[],_,h=>by rw [ZGf] at h; cases h
 | [],b::t,c::u,_,_=>by rw [ZFH]; simp
 | a :: s,b::t,c::u,h1,h2=>by
  rw [ZFz] at h1 h2 ⊢
  simp only[Bool.or_eq_true,Bool.and_eq_true,decide_eq_true_eq,beq_iff_eq] at h1 h2 ⊢
  rcases h1 with h1|⟨rfl,h1⟩
  ·rcases h2 with h2|⟨rfl,h2⟩
   ·exact .inl (UInt8.lt_trans h1 h2)
   ·exact .inl h1
  ·rcases h2 with h2|⟨rfl,h2⟩
   ·exact .inl h2
   ·exact .inr ⟨rfl,lt_trans h1 h2⟩
theorem ZGn {s t:Str} (h:Za2 s t=true):Za2 t s=false:=by
 cases hq:Za2 t s with
 | false=>rfl
 | true=>have:=lt_trans h hq; rw [ZFj] at this; cases this
theorem ZFA:∀ (s t:Str),Za2 s t=true∨s=t∨Za2 t s=true
 | [],[]=>.inr (.inl rfl)
 | [],b::t=>.inl (by rw [ZFH]; simp)
 | a::s,[]=>.inr (.inr (by rw [ZFH]; simp))
 | a :: s,b::t=>by
  rw [ZFz,ZFz]
  simp only[Bool.or_eq_true,Bool.and_eq_true,decide_eq_true_eq,beq_iff_eq,List.cons.injEq]
  rcases Nat.lt_trichotomy a.toNat b.toNat with h|h|h
  ·exact .inl (.inl (UInt8.lt_iff_toNat_lt.2 h))
  rotate_left
  ·exact .inr (.inr (.inl (UInt8.lt_iff_toNat_lt.2 h)))
  ·have h:=UInt8.toNat_inj.1 h
   subst h
   rcases ZFA s t with h|h|h
   ·exact .inl (.inr ⟨rfl,h⟩)
   ·exact .inr (.inl ⟨rfl,h⟩)
   ·exact .inr (.inr (.inr ⟨rfl,h⟩))
/-- For other strings 'at most' is 'not greater'. -/
theorem ZHa (s t:Str):(Za2 s t||decide (s=t))=!Za2 t s:=by
 rcases ZFA s t with h|h|h
 ·simp [h,ZGn h]
 ·subst h; simp [ZFj]
 ·have h1:=ZGn h
  have h2:¬s=t:=fun e=>by subst e; rw [ZFj] at h; cases h
  simp [h,h1,h2]
def ZA (v:Interval):Bool:=(decide (v.low=[])||ZH v.low)&&(decide (v.high=[])||ZH v.high)&&(decide (v.high=[])||Za2 (if v.low=[] then [97] else v.low) v.high)
theorem ZGe (lo hi:Str):EE F 77 [.ag [.u (.str lo),.u (.str hi)]] []=ok1 (S (if lo=[] then [97] else lo)):=by
 rw [R77,b77]
 simp only[↓xP,xT,rL,rB,rA,rS]
 repeat' (refine ZiJ (fun h=>?_) (fun h=>?_))
 all_goals simp_all
theorem ZO (lo hi:Str):EE F 40 [.ag [.u (.str lo),.u (.str hi)]] []=ok1 (B (ZA ⟨lo,hi⟩)):=by
 rw [R40,b40]
 simp only[↓xP,xT,rL,rB,rA,rS,Z1,ZGe]
 repeat' (refine ZiJ (fun h=>?_) (fun h=>?_))
 all_goals simp_all [ZA]
/-- A valid key after "a". -/
theorem lt_a {s:Str} (h:ZH s=true):Za2 [97] s=decide (s≠[97]):=by
 match s,h with
 | [],h=>simp [ZH] at h
 | c :: t,h=>
  simp only[ZH,ZFb,List.all_cons,Bool.and_eq_true,decide_eq_true_eq] at h
  have hc:97≤c.toNat:=by omega
  rw [ZFz,ZFH]
  by_cases e:c=97
  ·subst e; simp
  ·have h1:(97:UInt8)<c:=by
    rw [UInt8.lt_iff_toNat_lt]
    have:c.toNat≠97:=fun q=>e (UInt8.toNat_inj.1 q)
    show 97<c.toNat
    omega
   simp [h1,e]
theorem ZK (lo hi:Str):EE F 33 [.ag [.u (.str lo),.u (.str hi)]] []=ok1 (B (ZA ⟨lo,hi⟩)):=by
 rw [R33,b33]
 simp only[↓xP,xT,rL,rB,rA,rS,ZT]
 repeat' (refine ZiJ (fun h=>?_) (fun h=>?_))
 all_goals simp_all [ZA,ZFH,lt_a]
/-- A key is between the bounds. -/
def ZM (v:Interval) (key:Str):Bool:=!Za2 key v.low&&(decide (v.high=[])||Za2 key v.high)
theorem ZGU (lo hi key:Str):EE F 78 [.ag [.u (.str lo),.u (.str hi)],S key] []=ok1 (B (ZM ⟨lo,hi⟩ key)):=by
 rw [R78,b78]
 simp only[↓xP,xT,rL,rB,rA,rS,ZHa]
 repeat' (refine ZiJ (fun h=>?_) (fun h=>?_))
 all_goals simp_all [ZM]
def ZQ (v:Interval) (key:Str):Bool:=ZA v&&ZH key&&ZM v key
theorem Z5 (lo hi key:Str):EE F 75 [.ag [.u (.str lo),.u (.str hi)],S key] []=ok1 (B (ZQ ⟨lo,hi⟩ key)):=by
 rw [R75,b75]
 simp only[↓xP,xT,rL,rB,rA,rS,ZK,ZT]
 repeat' (refine ZiJ (fun h=>?_) (fun h=>?_))
 all_goals simp_all [ZQ,ZM]
def ZL (l:List Pair) (i:Nat):Bool:=match l[i]? with
 | some p=>ZH p.key&&inR p.value 0 999&&(decide (i=0)||(match l[i - 1]? with
  | some q=>Za2 q.key p.key
  | none=>true))
 | none=>true
def ZD (l:List Pair):Bool:=decide (l.length≤48)&&allF l.length (ZL l) 0
theorem ZFO (l:List Pair):EE F 27 [L 2 (l.map Pair.u)] []=ok1 (B (ZD l)):=by
 rw [R27,b27]
 simp only[↓xP,xT,rL,rB,rA,rS]
 refine ZiJ (fun h=>?_) (fun h=>?_)
 ·simp only[decide_eq_true_eq] at h
  simp [ZD,show ¬l.length≤48 by omega]
 ·simp only[decide_eq_false_iff_not] at h
  refine (Zji (fun (i:Nat) st=>st.s 0=DU (.sl 2 (l.map Pair.u))∧st.s 8=DU (.sl 2 (l.map Pair.u))∧st.s 9=DI l.length∧st.s 10=DI i) (fun i=>l.length - i) (fun i=>ok1 (B (allF l.length (ZL l) i))) ?_ 0 ⟨by simp only[↓xP,xT,rL,rB,rA,rS],by simp only[↓xP,xT,rL,rB,rA,rS],by simp only[↓xP,xT,rL,rB,rA,rS],by simp only[↓xP,xT,rL,rB,rA,rS]; rfl⟩).trans ?_
  ·rintro i st ⟨h0,h8,h9,h10⟩ ih
   by_cases hi:i<l.length
   ·obtain ⟨⟨pk,pv⟩,hp⟩:∃ p,l[i]?=some p:=⟨_,List.getElem?_eq_getElem hi⟩
    have hw:=w_succ (i:=i) (by omega)
    rw [ZGa hi]
    by_cases hz:i=0
    ·have h01:¬(0:Int)<(i:Int):=by omega
     simp only[↓xP,xT,rL,rB,rA,rS,h0,h8,h9,h10,hi,hp,hw,h01,Pair.u,Z1,ZFq]
     repeat' (refine ZiJ (fun h=>?_) (fun h=>?_))
     ·simp_all [ZL]
     ·simp_all [ZL]
     ·rw [ih (i+1) _ (by omega) ⟨by simp only[↓xP,xT,rL,rB,rA,rS,h0],by simp only[↓xP,xT,rL,rB,rA,rS,h8],by simp only[↓xP,xT,rL,rB,rA,rS,h9],by simp only[↓xP,xT,rL,rB,rA,rS]⟩]
      simp_all [ZL]
    ·obtain ⟨⟨qk,qv⟩,hq⟩:∃ q,l[i - 1]?=some q:=⟨_,List.getElem?_eq_getElem (by omega)⟩
     have hw2:IntKind.i64.wrap ((i:Int) - 1)=((i - 1:Nat):Int):=by rw [w64 (by omega) (by omega)]; omega
     have h01:(0:Int)<(i:Int):=by omega
     simp only[↓xP,xT,rL,rB,rA,rS,h0,h8,h9,h10,hi,hp,hw,hw2,hq,h01,Pair.u,Z1,ZFq]
     repeat' (refine ZiJ (fun h=>?_) (fun h=>?_))
     ·simp_all [ZL]
     ·simp_all [ZL]
     ·simp_all [ZL]
     ·rw [ih (i+1) _ (by omega) ⟨by simp only[↓xP,xT,rL,rB,rA,rS,h0],by simp only[↓xP,xT,rL,rB,rA,rS,h8],by simp only[↓xP,xT,rL,rB,rA,rS,h9],by simp only[↓xP,xT,rL,rB,rA,rS]⟩]
      simp_all [ZL]
   ·simp only[↓xP,xT,rL,rB,rA,rS,h0,h8,h9,h10,hi]
    rw [ZFS hi]
  ·simp [ZD,show l.length≤48 by omega]
theorem ZV (l:List Pair):EE F 37 [L 2 (l.map Pair.u)] []=ok1 (B (ZD l)):=by
  rw [R37,b37]
  simp only[↓xP,xT,rL,rB,rA,rS]
  refine ZiJ (fun h=>?_) (fun h=>?_)
  · simp only[decide_eq_true_eq] at h
    simp [ZD,show ¬l.length≤48 by omega]
  · simp only[decide_eq_false_iff_not] at h
    refine (Zji (fun (i:Nat) st=>st.s 0=DU (.sl 2 (l.map Pair.u))∧st.s 3=DI i) (fun i=>l.length - i) (fun i=>ok1 (B (allF l.length (ZL l) i))) ?_ 0 ⟨by simp only[↓xP,xT,rL,rB,rA,rS],by simp only[↓xP,xT,rL,rB,rA,rS]; rfl⟩).trans ?_
    · rintro i st ⟨h0,h3⟩ ih
      by_cases hi:i<l.length
      · obtain ⟨⟨pk,pv⟩,hp⟩:∃ p,l[i]?=some p:=⟨_,List.getElem?_eq_getElem hi⟩
        have hw:=w_succ (i:=i) (by omega)
        rw [ZGa hi]
        by_cases hz:i=0
        · have h01:¬(0:Int)<(i:Int):=by omega
          simp only[↓xP,xT,rL,rB,rA,rS,h0,h3,hi,hp,hw,h01,Pair.u,ZT,ZW]
          repeat' (refine ZiJ (fun h=>?_) (fun h=>?_))
          · simp_all [ZL]
          · simp_all [ZL]
          · rw [ih (i+1) _ (by omega) ⟨by simp only[↓xP,xT,rL,rB,rA,rS,h0],by simp only[↓xP,xT,rL,rB,rA,rS]⟩]
            simp_all [ZL]
        · obtain ⟨⟨qk,qv⟩,hq⟩:∃ q,l[i - 1]?=some q:=⟨_,List.getElem?_eq_getElem (by omega)⟩
          have hw2:IntKind.i64.wrap ((i:Int) - 1)=((i - 1:Nat):Int):=by rw [w64 (by omega) (by omega)]; omega
          have h01:(0:Int)<(i:Int):=by omega
          simp only[↓xP,xT,rL,rB,rA,rS,h0,h3,hi,hp,hw,hw2,hq,h01,Pair.u,ZT,ZW,ZHa]
          repeat' (refine ZiJ (fun h=>?_) (fun h=>?_))
          · simp_all [ZL]
          · simp_all [ZL]
          · simp_all [ZL]
          · rw [ih (i+1) _ (by omega) ⟨by simp only[↓xP,xT,rL,rB,rA,rS,h0],by simp only[↓xP,xT,rL,rB,rA,rS]⟩]
            simp_all [ZL]
      · simp only[↓xP,xT,rL,rB,rA,rS,h0,h3,hi]
        rw [ZFS hi]
    · simp [ZD,show l.length≤48 by omega]
theorem Z2 {l:List Pair} (h:ZD l=true) {i:Nat} {p:Pair} (hp:l[i]?=some p):ZH p.key=true∧inR p.value 0 999=true:=by
 simp only[ZD,Bool.and_eq_true,decide_eq_true_eq] at h
 have:=(ZFt _ 0 rfl).1 h.2 i (by omega) (List.getElem?_eq_some_iff.1 hp).1
 simp only[ZL,hp,Bool.and_eq_true] at this
 exact this.1
def ZF (p:Piece):Bool:=ZA p.span&&ZD p.pairs&&p.pairs.all fun q=>ZM p.span q.key
theorem ZFP (lo hi:Str) (l:List Pair):EE F 41 [.ag [.u (.str lo),.u (.str hi),.u (.sl 2 (l.map Pair.u))]] []=ok1 (B (ZF ⟨⟨lo,hi⟩,l⟩)):=by
 rw [R41,b41]
 simp only[↓xP,xT,rL,rB,rA,rS,ZO,ZFO]
 refine ZiJ (fun h=>?_) (fun h=>?_)
 ·simp_all [ZF]
 refine ZiJ (fun h2=>?_) (fun h2=>?_)
 ·simp_all [ZF]
 simp only[Bool.not_eq_false'] at h h2
 have hlen:l.length≤48:=by simp only[ZD,Bool.and_eq_true,decide_eq_true_eq] at h2; exact h2.1
 refine (Zji (fun (i:Nat) st=>st.s 1=.t (.sc (.ptr (.loc 1 0) 0 0))∧st.o (.loc 1 0)=some (.box [.u (.str lo),.u (.str hi),.u (.sl 2 (l.map Pair.u))])∧st.s 16=DU (.sl 2 (l.map Pair.u))∧st.s 17=DI l.length∧st.s 18=DI i) (fun i=>l.length - i) (fun i=>ok1 (B ((l.drop i).all fun q=>ZM ⟨lo,hi⟩ q.key))) ?_ 0 ⟨by simp only[↓xP,xT,rL,rB,rA,rS],by simp only[↓xP,xT,rL,rB,rA,rS],by simp only[↓xP,xT,rL,rB,rA,rS],by simp only[↓xP,xT,rL,rB,rA,rS],by simp only[↓xP,xT,rL,rB,rA,rS]; rfl⟩).trans ?_
 ·rintro i st ⟨h1,ho,h16,h17,h18⟩ ih
  by_cases hi':i<l.length
  ·obtain ⟨⟨pk,pv⟩,hp⟩:∃ p,l[i]?=some p:=⟨_,List.getElem?_eq_getElem hi'⟩
   have hd:l.drop i=⟨pk,pv⟩::l.drop (i+1):=by rw [List.drop_eq_getElem_cons hi',(List.getElem?_eq_some_iff.1 hp).2]
   have hw:=w_succ (i:=i) (by omega)
   simp only[↓xP,xT,rL,rB,rA,rS,h1,ho,h16,h17,h18,hi',hp,hw,Pair.u,ZGU]
   rw [hd]
   refine ZiJ (fun h=>?_) (fun h=>?_)
   ·simp_all
   ·rw [ih (i+1) _ (by omega) ⟨by simp only[↓xP,xT,rL,rB,rA,rS,h1],by simp only[↓xP,xT,rL,rB,rA,rS,ho],by simp only[↓xP,xT,rL,rB,rA,rS,h16],by simp only[↓xP,xT,rL,rB,rA,rS,h17],by simp only[↓xP,xT,rL,rB,rA,rS]⟩]
    simp_all
  ·simp only[↓xP,xT,rL,rB,rA,rS,h1,ho,h16,h17,h18,hi']
   rw [List.drop_of_length_le (by omega)]; rfl
 ·simp [ZF,h,h2]
theorem ZFQ (lo hi:Str) (l:List Pair):EE F 35 [.ag [.u (.str lo),.u (.str hi),.u (.sl 2 (l.map Pair.u))]] []=ok1 (B (ZF ⟨⟨lo,hi⟩,l⟩)):=by
 rw [R35,b35]
 simp only[↓xP,xT,rL,rB,rA,rS,ZK,ZV]
 refine ZiJ (fun h=>?_) (fun h=>?_)
 ·simp_all [ZF]
 refine ZiJ (fun h2=>?_) (fun h2=>?_)
 ·simp_all [ZF]
 simp only[Bool.not_eq_false'] at h h2
 have hlen:l.length≤48:=by simp only[ZD,Bool.and_eq_true,decide_eq_true_eq] at h2; exact h2.1
 refine (Zji (fun (i:Nat) st=>st.s 1=.t (.sc (.ptr (.loc 1 0) 0 0))∧st.o (.loc 1 0)=some (.box [.u (.str lo),.u (.str hi),.u (.sl 2 (l.map Pair.u))])∧st.s 3=DI i) (fun i=>l.length - i) (fun i=>ok1 (B ((l.drop i).all fun q=>ZM ⟨lo,hi⟩ q.key))) ?_ 0 ⟨by simp only[↓xP,xT,rL,rB,rA,rS],by simp only[↓xP,xT,rL,rB,rA,rS],by simp only[↓xP,xT,rL,rB,rA,rS]; rfl⟩).trans ?_
 ·rintro i st ⟨h1,ho,h3⟩ ih
  by_cases hi':i<l.length
  ·obtain ⟨⟨pk,pv⟩,hp⟩:∃ p,l[i]?=some p:=⟨_,List.getElem?_eq_getElem hi'⟩
   have hd:l.drop i=⟨pk,pv⟩::l.drop (i+1):=by rw [List.drop_eq_getElem_cons hi',(List.getElem?_eq_some_iff.1 hp).2]
   have hw:=w_succ (i:=i) (by omega)
   have hk:=(Z2 h2 hp).1
   simp only[↓xP,xT,rL,rB,rA,rS,h1,ho,h3,hi',hp,hw,Pair.u,Z5]
   rw [hd]
   refine ZiJ (fun h=>?_) (fun h=>?_)
   ·simp_all [ZQ]
   ·rw [ih (i+1) _ (by omega) ⟨by simp only[↓xP,xT,rL,rB,rA,rS,h1],by simp only[↓xP,xT,rL,rB,rA,rS,ho],by simp only[↓xP,xT,rL,rB,rA,rS]⟩]
    simp_all [ZQ]
  ·simp only[↓xP,xT,rL,rB,rA,rS,h1,ho,h3,hi']
   rw [List.drop_of_length_le (by omega)]; rfl
 ·simp [ZF,h,h2]
def ZFu (c:Command):Bool:=(ZH c.key||decide (c.kind=5)&&decide (c.key=[])) &&
 ((decide (c.kind=1)||decide (c.kind=3)||decide (c.kind=5))&&decide (c.value=0)&&decide (c.old=0)||decide (c.kind=2)&&inR c.value 0 999&&decide (c.old=0)||decide (c.kind=4)&&inR c.value 0 999&&inR c.old (-1) 999)
def ZF6 (c:Command):Bool:=ZFu c&&!decide (c.kind=5)
def ZFT (e:Entry):Bool:=inR e.client 0 3&&inR e.seq 1 999&&ZFu e.cmd
def ZGZ (p:Plan):Bool:=inR p.first 0 7&&(decide (p.kind=1)&&ZH p.key&&decide (p.second=0)&&decide (p.from_=0)&&decide (p.to_=0)&&decide (p.step=0) ||
 decide (p.kind=2)&&inR p.second 0 7&&!decide (p.second=p.first)&&decide (p.key=[])&&decide (p.from_=0)&&decide (p.to_=0)&&decide (p.step=0) ||
 decide (p.kind=3)&&inR p.from_ 0 4&&inR p.to_ 0 4&&!decide (p.from_=p.to_)&&inR p.step 0 1&&decide (p.second=0)&&decide (p.key=[]))
def ZHF (v:Interval) (key:Str):Bool:=ZA v&&ZH key&&ZA ⟨v.low,key⟩&&ZA ⟨key,v.high⟩
def ZU (a b:Interval):Bool:=ZA a&&ZA b&&!decide (a.high=[])&&decide (a.high=b.low)
def ZFi (a b:Interval):Option Ret:=sel (ZU a b) (some ⟨[.ag [.u (.str a.low),.u (.str b.high)],B true],[],[]⟩) (some ⟨[.ag [.u (.str []),.u (.str [])],B false],[],[]⟩)
theorem ZFy (al ah bl bh:Str):EE F 36 [.ag [.u (.str al),.u (.str ah)],.ag [.u (.str bl),.u (.str bh)]] []=ZFi ⟨al,ah⟩ ⟨bl,bh⟩:=by
 rw [R36,b36]
 simp only[↓xP,xT,rL,rB,rA,rS,ZK]
 repeat' (refine ZiJ (fun h=>?_) (fun h=>?_))
 all_goals simp_all [ZU,ZFi,sel]
theorem ZFx (al ah bl bh:Str):EE F 42 [.ag [.u (.str al),.u (.str ah)],.ag [.u (.str bl),.u (.str bh)]] []=ZFi ⟨al,ah⟩ ⟨bl,bh⟩:=by
 rw [R42,b42]
 simp only[↓xP,xT,rL,rB,rA,rS,ZO]
 repeat' (refine ZiJ (fun h=>?_) (fun h=>?_))
 all_goals simp_all [ZU,ZFi,sel]
def ZG0 (l:List Session) (i:Nat):Bool:=match l[i]? with
 | none=>true
 | some s=>inR s.client 0 3&&inR s.seq 1 999&&inR s.reply (-2) 999&&(decide (i=0)||(match l[i - 1]? with
  | some r=>decide (r.client<s.client)
  | none=>true))
def ZFo (l:List Session):Bool:=allF l.length (ZG0 l) 0
def ZJ (s:State):Bool:=ZA s.span&&ZD s.pairs&&ZFo s.known&&(s.pairs.all fun q=>ZM s.span q.key)&&(decide (s.cut=[])||s.sealed&&ZHF s.span s.cut)
theorem ZN {l:List Pair} (h:ZD l=true):l.length≤48:=by
 simp only[ZD,Bool.and_eq_true,decide_eq_true_eq] at h; exact h.1
def digs (k:Nat) (o:Str):Str:=if h:k=0 then o else digs (k / 10) (UInt8.ofNat (IntKind.u8.wrap (IntKind.i64.wrap (48 + (k:Int).tmod 10))).toNat::o)
termination_by k
decreasing_by omega
def ZGp (K:Int):Str:=109::digs K.toNat []
theorem ZZ (K:Int) (h0:1≤K) (h1:K≤4611686018427387904):EE F 45 [I K] []=ok1 (S (ZGp K)):=by
 rw [R45,b45]
 have hk:¬K≤0:=by omega
 obtain ⟨k,rfl⟩:∃ k:Nat,K=k:=⟨K.toNat,by omega⟩
 simp only[↓xP,xT,rL,rB,rA,rS,hk]
 refine (Zji (fun (a:Nat×Str) st=>a.2.length+a.1≤4611686018427387904∧st.s 0=DI (a.1:Int)∧st.s 3=DS a.2) (fun a=>a.1) (fun a=>ok1 (S (109::digs a.1 a.2))) ?_ (k,[]) ⟨by simp; omega,by simp only[↓xP,xT,rL,rB,rA,rS],by simp only[↓xP,xT,rL,rB,rA,rS]⟩).trans ?_
 ·rintro ⟨k,o⟩ st ⟨hl,h0,h3⟩ ih
  dsimp only at hl h0 h3 ih ⊢
  rw [digs]
  by_cases hz:k=0
  ·subst hz
   have hlen:1+o.length≤9223372036854775807:=by omega
   rw [dif_pos rfl]
   have hno:¬(0:Int)<((0:Nat):Int):=by omega
   simp only[↓xP,xT,rL,rB,rA,rS,h0,h3,hno,hlen]
  ·have hyes:(0:Int)<(k:Int):=by omega
   have hq:IntKind.i64.wrap ((k:Int).tdiv 10)=((k / 10:Nat):Int):=by
    have:(k:Int).tdiv 10=((k / 10:Nat):Int):=by rw [Int.tdiv_eq_ediv_of_nonneg (by omega)]; rfl
    rw [this,w64 (by omega) (by omega)]
   have hle:1+o.length≤9223372036854775807:=by omega
   have h10:¬(10:Int)=0:=by omega
   simp only[↓xP,xT,rL,rB,rA,rS,h0,h3,hyes,hq,hle,h10]
   rw [dif_neg hz]
   refine ih (k / 10,_) _ (by dsimp only; omega) ⟨?_,?_,?_⟩
   ·simp only[List.length_cons]; omega
   ·simp only[↓xP,xT,rL,rB,rA,rS]
   ·simp only[↓xP,xT,rL,rB,rA,rS]
 ·simp [ZGp]
def mkL {α:Type} (f:Int→α) (w:Int) (K:Int) (n:Nat):List α:=(List.range n).map fun (i:Nat)=>f (K+w * (i:Int))
theorem ZR {α:Type} (f:Int→α) (w K:Int) (n:Nat):(mkL f w K n).length=n:=by simp [mkL]
theorem ZGo {α:Type} (u:α→List U) (f:Int→α) (w K:Int) (n:Nat):List.take n (List.map u (mkL f w K n))=List.map u (mkL f w K n):=List.take_of_length_le (by simp [ZR])
theorem ZHl {α:Type} (f:Int→α) (w K:Int) {n i:Nat} (h:i<n):(mkL f w K n)[i]?=some (f (K+w*i)):=by simp [mkL,List.getElem?_map,List.getElem?_range h]
theorem ZHy {α β:Type} {u:α→β} {f:Int→α} {w K:Int} {l:List α} {i:Nat} {x:α} (h:l[i]?=some x):((mkL f w K i++l.drop i).map u)[i]?=some (u x):=by
 rw [List.getElem?_map,List.getElem?_append_right (by simp [ZR]),ZR,List.getElem?_drop]
 simp [h]
theorem ZHz {α β:Type} {u:α→β} {f:Int→α} {w K:Int} {l:List α} {i:Nat} {x:α} (h:l[i]?=some x):((mkL f w K i++l.drop i).map u).set i (u (f (K+w*i)))=(mkL f w K (i+1)++l.drop (i+1)).map u:=by
 have hi:=(List.getElem?_eq_some_iff.1 h).1
 have e:mkL f w K (i+1)=mkL f w K i++[f (K+w*i)]:=by simp [mkL,List.range_succ]
 rw [←List.map_set,List.set_append_right _ _ (by simp [ZR]),ZR,Nat.sub_self,List.drop_eq_getElem_cons hi,List.set_cons_zero,e,List.append_assoc]
 rfl
theorem ZGd {α:Type} (r:List α) (i:Nat) (h:i<r.length) (c:α):(r.set i c)[i]?=some c:=by simp [h]
theorem ZF3 {a b:Int} (h:a=b):DI a=DI b:=by rw [h]

def ZP (K:Int):Pair:=⟨(ZGp (K)),(K+1)⟩
theorem Z8 (l:List Pair) (K:Int) (h1:1≤K) (h2:K+2*l.length≤4611686018427387904):EE F 16 [.sc (.own (.par 0) l.length),I K] [.row 2 (l.map Pair.u)]=some ⟨[I (K+2*l.length)],[],[.row 2 ((mkL ZP 2 K l.length).map Pair.u)]⟩:=by
 refine (EE_run (fn:=i16) (by kernel_rfl) rfl).trans ?_
 simp only[i16,b16,Zdi,Zcu,List.length_cons,List.length_nil]
 simp only[↓xP,xT,rL,rB,rA,rS]
 refine (Zji (fun (i:Nat) st=>i≤l.length∧st.s 0=.t (.sc (.own (.par 0) l.length))∧st.s 5=DI i∧st.s 1=DI (K+2*i)∧st.o (.par 0)=some (.row 2 ((mkL ZP 2 K i++l.drop i).map Pair.u))) (fun i=>l.length - i) (fun i=>some ⟨[I (K+2*l.length)],[],[.row 2 ((mkL ZP 2 K l.length).map Pair.u)]⟩) ?_ 0 ⟨by omega,by simp only[↓xP,xT,rL,rB,rA,rS],by simp only[↓xP,xT,rL,rB,rA,rS]; rfl,by simp only[↓xP,xT,rL,rB,rA,rS]; exact ZF3 (by omega),by simp only[↓xP,xT,rL,rB,rA,rS]; simp [mkL]⟩).trans rfl
 rintro i st ⟨hle,h0,h5,h1',ho⟩ ih
 by_cases hi:i<l.length
 ·obtain ⟨x,hx⟩:∃ x,l[i]?=some x:=⟨_,List.getElem?_eq_getElem hi⟩
  have hw:=w_succ (i:=i) (by omega)
  have hg:=ZHy (u:=Pair.u) (f:=ZP) (w:=2) (K:=K) hx
  have hf:=ZHz (u:=Pair.u) (f:=ZP) (w:=2) (K:=K) hx
  have hlen:i<((mkL ZP 2 K i++l.drop i).map Pair.u).length:=by simp [ZR]; omega
  have hk1:1≤K+2 * (i:Int):=by omega
  have hk2:K+2 * (i:Int)+2≤4611686018427387904:=by omega
  have hn:K+2 * ((i+1:Nat):Int)=K+2 * (i:Int)+2:=by omega
  generalize (mkL ZP 2 K i++l.drop i).map Pair.u=r at hg hf hlen ho
  obtain ⟨K',hK⟩:∃ K',K'=K+2 * (i:Int):=⟨_,rfl⟩
  rw [←hK] at h1' hf hn hk1 hk2
  obtain ⟨c1,c2⟩:=x
  simp only[Pair.u,ZP] at hg hf
  have hgs:=ZGd r i hlen
  have hw0:IntKind.i64.wrap (K'+1)=K'+1:=by rw [w64 (by omega) (by omega)]
  have hw1:IntKind.i64.wrap (K'+1+1)=K'+1+1:=by rw [w64 (by omega) (by omega)]
  have mt0:=ZZ (K') (by omega) (by omega)
  simp only[↓xP,xT,rL,rB,rA,rS,h0,h5,h1',ho,hi,hg,hgs,List.set_set,hw,hf,hw0,hw1,mt0]
  exact ih (i+1) _ (by omega) ⟨by omega,by simp only[↓xP,xT,rL,rB,rA,rS,h0],by simp only[↓xP,xT,rL,rB,rA,rS],by simp only[↓xP,xT,rL,rB,rA,rS]; exact ZF3 (by omega),by simp only[↓xP,xT,rL,rB,rA,rS]⟩
 ·have:i=l.length:=by omega
  subst this
  simp only[↓xP,xT,rL,rB,rA,rS,h0,h5,h1',ho,hi,List.drop_length,List.append_nil,List.length_map,ZR]
def place (key:Str):List Pair→Nat
 | []=>0
 | p::l=>if Za2 p.key key=true then place key l+1 else 0
/-- The keys ascend. -/
def Asc (l:List Pair):Prop:=∀ (s t:Nat) p q,s<t→l[s]?=some p→l[t]?=some q→Za2 p.key q.key=true
theorem ZHs {l:List Pair} (h:ZD l=true):Asc l:=by
 have hc:∀ (t:Nat) p q,l[t]?=some p→l[t+1]?=some q→Za2 p.key q.key=true:=by
  intro t p q hp hq
  simp only[ZD,Bool.and_eq_true,decide_eq_true_eq] at h
  have:=(ZFt _ 0 rfl).1 h.2 (t+1) (by omega) (List.getElem?_eq_some_iff.1 hq).1
  simp only[ZL,hq,Nat.add_sub_cancel,hp] at this
  simp_all
 intro s t p q hst hp hq
 induction t generalizing q with
 | zero=>omega
 | succ t ih=>
  obtain ⟨r,hr⟩:∃ r,l[t]?=some r:=⟨_,List.getElem?_eq_getElem (by have:=(List.getElem?_eq_some_iff.1 hq).1; omega)⟩
  by_cases e:s=t
  ·subst e; exact hc _ _ _ hp hq
  ·exact lt_trans (ih r (by omega) hr) (hc _ _ _ hr hq)
theorem ZFw (n:Nat) (K:Int) (h1:1≤K) (h2:K+2*n≤4611686018427387904):EE F 17 [L 2 ((mkL ZP 2 K n).map Pair.u),I K] []=ok1 (I (K+2*n)):=by
 rw [R17,b17]
 simp only[↓xP,xT,rL,rB,rA,rS]
 refine (Zji (fun (i:Nat) st=>i≤n∧st.s 0=DU (.sl 2 ((mkL ZP 2 K n).map Pair.u))∧st.s 5=DI i∧st.s 1=DI (K+2*i)) (fun i=>n - i) (fun i=>ok1 (I (K+2*n))) ?_ 0 ⟨by omega,by simp only[↓xP,xT,rL,rB,rA,rS],by simp only[↓xP,xT,rL,rB,rA,rS]; rfl,by simp only[↓xP,xT,rL,rB,rA,rS]; exact ZF3 (by omega)⟩).trans rfl
 rintro i st ⟨hle,h0,h5,h1'⟩ ih
 have hlen:=ZR ZP 2 K n
 by_cases hi:i<n
 ·have hx:=ZHl ZP 2 K hi
  have hw:=w_succ (i:=i) (by omega)
  have hk1:1≤K+2 * (i:Int):=by omega
  have hk2:K+2 * (i:Int)+2≤4611686018427387904:=by omega
  have hn:K+2 * ((i+1:Nat):Int)=K+2 * (i:Int)+2:=by omega
  obtain ⟨K',hK⟩:∃ K',K'=K+2 * (i:Int):=⟨_,rfl⟩
  rw [←hK] at h1' hx hn hk1 hk2
  have hw0:IntKind.i64.wrap (K'+1)=K'+1:=by rw [w64 (by omega) (by omega)]
  have hw1:IntKind.i64.wrap (K'+1+1)=K'+1+1:=by rw [w64 (by omega) (by omega)]
  have mt0:=ZZ K' (by omega) (by omega)
  simp only[↓xP,xT,rL,rB,rA,rS,h0,h5,h1',hlen,hi,hx,hw,Pair.u,ZP,hw0,hw1,mt0,ne_eq,not_true_eq_false,decide_false]
  exact ih (i+1) _ (by omega) ⟨by omega,by simp only[↓xP,xT,rL,rB,rA,rS,h0],by simp only[↓xP,xT,rL,rB,rA,rS],by simp only[↓xP,xT,rL,rB,rA,rS]; exact ZF3 (by omega)⟩
 ·have:i=n:=by omega
  subst this
  simp only[↓xP,xT,rL,rB,rA,rS,h0,h5,h1',hlen,hi]
def okAt (l:List Int) (k:Nat):Bool:=match l[k]? with
 | some x=>inR x 0 4&&!decide (x∈l.take k)
 | none=>true
def ZX (c:Config):Bool:=decide (1≤c.epoch)&&decide (c.epoch≤60)&&decide (1≤c.members.length)&&decide (c.members.length≤4)&&!(c.fresh&&decide (c.members.length<2))&&allF c.members.length (okAt c.members) 0
theorem ZFI {n k:Nat} (h:n≤1048576) (hk:k≤100000000):n≤maxLen∧n*k≤140737488355328:=by
 refine ⟨by simp [maxLen]; omega,?_⟩
 have:=Nat.mul_le_mul h hk
 omega
theorem ZFk {α β:Type} (f:α→β) (l:List α):List.take l.length (List.map f l)=List.map f l:=List.take_of_length_le (by simp)
def yU (n:Int):List U:=[.int .u8 n]
/-- A reader: its bytes, and how many numbers it drew. -/
def rd (bs:List Int) (p:Nat):Obj:=.box [.u (.sl 1 (bs.map yU)),.u (.int .i64 p)]
/-- What a function that draws comes to: results of a kind; the reader went on by at most so many. -/
def Gd (bs:List Int) (p c:Nat) (R:List T→List Obj→Prop) (x:Option Ret):Prop:=∃ r n q,x=some ⟨r,n,[rd bs q]⟩∧p≤q∧q≤p+c∧R r n
theorem rdx:(∀ bs p,(rd bs p).data=true)∧(∀ bs p q,ZaL (some (rd bs p)) (rd bs q)=true)∧(∀ id bs p,Obj.mapC (C.kill id) (rd bs p)=rd bs p)∧(∀ st id bs p,Obj.mapC (St.coolC st id) (rd bs p)=rd bs p):=by
 refine ⟨fun _ _=>rfl,fun _ _ _=>rfl,fun _ _ _=>rfl,fun st id bs p=>?_⟩
 have h:∀ u,st.coolC id (.u u)=.u u:=by
  intro u
  unfold St.coolC
  cases st.o id with
  | none=>rfl
  | some ob=>cases ob<;>rfl
 simp [rd,Obj.mapC,h]
theorem rdx2:(∀ bs p,Obj.flat (rd bs p)=(bs.map yU).isEmpty)∧(∀ bs p,Obj.data (rd bs p)=true)∧(∀ (x:Bool) (a:List Id),sel x a a=a):=by
 refine ⟨fun bs p=>?_,fun bs p=>rfl,fun x a=>by cases x<;>rfl⟩
 simp [rd,Obj.flat,C.isSl,U.flat]
def Code (code:List Int):Prop:=code.length≤9223372036854775807∧∀ b,b∈code→0≤b∧b≤255
theorem ZHR (us:List U) (hl:us.length=1) (ht:∀ (j:Nat) ty u,[Ty.i .u8][j]?=some ty→us[j]?=some u→UT ty u):∃ x,us=yU x∧(0≤x∧x≤255):=by
 match us,hl with
 | [a],_=>obtain ⟨n,rfl,h⟩:=(ht 0 _ a rfl rfl).u8_of; exact ⟨n,rfl,h⟩
theorem Code.of {u:U} (hu:UT (.sl [.i .u8]) u):∃ code:List Int,u=.sl 1 (code.map yU)∧Code code:=by
 obtain ⟨code,rfl,hl,hb⟩:=hu.sl_of ZHR
 exact ⟨code,rfl,hl,hb⟩
def ZFR (p:Pair):Prop:=ZH p.key=true∧inR p.value 0 999=true
def Up (a b:Pair):Prop:=Za2 a.key b.key=true
theorem ZFd (l:List Pair):ZD l=true↔l.length≤48∧(∀ p,p∈l→ZFR p)∧l.Pairwise Up:=by
 constructor
 ·intro h
  refine ⟨ZN h,fun p hp=>?_,?_⟩
  ·obtain ⟨i,hi⟩:=List.mem_iff_getElem?.1 hp
   exact Z2 h hi
  ·rw [List.pairwise_iff_getElem]
   intro i j hi hj hij
   exact ZHs h i j _ _ hij (List.getElem?_eq_getElem hi) (List.getElem?_eq_getElem hj)
 ·rintro ⟨h1,h2,h3⟩
  simp only[ZD,Bool.and_eq_true,decide_eq_true_eq]
  refine ⟨h1,(ZFt _ 0 rfl).2 fun j _ hj=>?_⟩
  obtain ⟨p,hp⟩:∃ p,l[j]?=some p:=⟨_,List.getElem?_eq_getElem hj⟩
  have hf:=h2 p (List.mem_of_getElem? hp)
  simp only[ZL,hp,hf.1,hf.2,Bool.and_true,Bool.true_and,Bool.or_eq_true,decide_eq_true_eq]
  by_cases h0:j=0
  ·exact .inl h0
  ·right
   obtain ⟨q,hq⟩:∃ q,l[j - 1]?=some q:=⟨_,List.getElem?_eq_getElem (by omega)⟩
   rw [hq]
   have:=List.pairwise_iff_getElem.1 h3 (j - 1) j (by omega) hj (by omega)
   rw [(List.getElem?_eq_some_iff.1 hq).2,(List.getElem?_eq_some_iff.1 hp).2] at this
   exact this
theorem ofR:(∀ (st:St) d res x y z,St.ofRet st d ⟨res,[x,y,z],[]⟩=(((st.obj (.loc d 0) (some x)).obj (.loc d 1) (some y)).obj (.loc d 2) (some z)).put d (retD (res.map (T.mapC (C.ren (Zah d))))))∧
 (∀ (st:St) d res x y z w,St.ofRet st d ⟨res,[x,y,z,w],[]⟩=((((st.obj (.loc d 0) (some x)).obj (.loc d 1) (some y)).obj (.loc d 2) (some z)).obj (.loc d 3) (some w)).put d (retD (res.map (T.mapC (C.ren (Zah d))))))∧List.range 3=[0,1,2]∧List.range 4=[0,1,2,3]:=
 ⟨fun st d res x y z=>rfl,fun st d res x y z w=>rfl,rfl,rfl⟩
theorem ZHI {a b c:Str} (h1:Za2 b a=false) (h2:Za2 b c=true):Za2 a c=true:=by
 rcases ZFA a b with h|h|h
 ·exact lt_trans h h2
 ·subst h; exact h2
 ·rw [h] at h1; cases h1
theorem ZHj {α:Type} {l:List α} {i:Nat} {x:α} (h:l[i]?=some x):l.drop i=x::l.drop (i+1):=by
 have hi:=(List.getElem?_eq_some_iff.1 h).1
 rw [List.drop_eq_getElem_cons hi,(List.getElem?_eq_some_iff.1 h).2]
def ZGD (c:Config):Bool:=decide (c.epoch=0)&&decide (c.members.length=0)&&!c.fresh
def ZFv (l:List Entry):Bool:=decide (l.length≤24)&&l.all ZFT
def ZFE (r:Replica):Bool:=if ZGD r.conf=true then !r.ready&&decide (r.log.length=0) else ZX r.conf&&ZFv r.log&&(r.ready||decide (r.log.length=0))
def ZFB (m:Message):Bool:=decide (1≤m.epoch)&&decide (m.epoch≤60)&&(if m.kind=1 then inR m.to_ 0 4&&ZX m.conf&&decide (m.conf.epoch=m.epoch)&&decide (m.log.length=0) else if m.kind=2 then inR m.to_ 0 4&&ZGD m.conf&&ZFv m.log else if m.kind=3 then decide (m.to_ = -1)&&ZGD m.conf&&decide (m.log.length=0) else false)
def ZG9 (l:List Message):Bool:=decide (l.length≤10)&&l.all ZFB
def ZFK (a:Answer):Bool:=ZFT a.asked&&inR a.reply (-4) 999
def ZGb (l:List Answer):Bool:=decide (l.length≤24)&&l.all ZFK
def ZGy (c:Chain):Bool:=ZJ c.base&&ZX c.conf&&decide (c.nodes.length=5)&&decide (c.up.length=5)&&ZG9 c.bag&&(c.nodes.all fun r=>ZFE r&&decide (r.conf.epoch≤c.conf.epoch))&&(c.bag.all fun m=>decide (m.epoch≤c.conf.epoch))&&ZGb c.answers
def ZHx (l:List Interval) (j:Nat):Bool:=match l[j - 1]?,l[j]? with
 | some a,some b=>ZU a b
 | _,_=>true
def ZFV (l:List Interval):Bool:=match l[0]?,l[l.length - 1]? with
 | some a,some b=>decide (l.length≤6)&&ZA a&&decide (a.low=[])&&decide (b.high=[])&&allF l.length (ZHx l) 1
 | _,_=>false
def ZHu (l:List Route) (n:Int):Bool:=l.any (fun q=>decide (q.number=n))
def ZHK (l:List Route) (i:Nat):Bool:=match l[i]? with
 | some r=>inR r.number 0 7&&!ZHu (l.take i) r.number
 | none=>true
def ZFn (l:List Route):Bool:=allF l.length (ZHK l) 0
def ZHO (l:List Route):List Interval:=l.map Route.span
def ZHP (a b:Str):Bool:=!Za2 a b&&!decide (a=b)
def ZHD (l:List Route) (i:Nat):Bool:=match l[i]? with
 | some r=>ZA r.span&&!(match l[i - 1]? with
  | some q=>decide (0<i)&&(decide (q.span.high=[])||ZHP q.span.high r.span.low)
  | none=>false)
 | none=>true
def ZGx (l:List Route):Bool:=ZFn l&&allF l.length (ZHD l) 0
def ZFN (l:List Route):Bool:=decide (l.length≤6)&&ZFV (ZHO l)&&ZFn l
def ZGX (c:Command):Bool:=decide (c.kind=0)&&decide (c.key=[])&&decide (c.value=0)&&decide (c.old=0)
def ZFL (c:Caller):Bool:=ZGx c.cache&&inR c.seq 0 999&&(if c.busy=true then decide (1≤c.seq)&&ZF6 c.wish&&inR c.called 0 200 else ZGX c.wish&&decide (c.called=0))
def ZFM (r:Result):Bool:=inR r.client 1 3&&inR r.seq 1 999&&ZF6 r.wish&&inR r.reply (-4) 999&&inR r.returned 0 200&&decide (0≤r.called)&&decide (r.called≤r.returned)
def rle (a b:Route):Bool:=!Za2 b.span.low a.span.low
def insL (l:List Route) (x:Route):List Route:=l.takeWhile (fun q=>rle q x)++x::l.dropWhile (fun q=>rle q x)
def ZHN (l:List Route):List Route:=l.foldl insL []
def ZHb:List Shard→Nat→List Route
 | [],_=>[]
 | s::l,i=>if s.live=true then ⟨(i:Int),s.group.base.span⟩::ZHb l (i+1) else ZHb l (i+1)
def ZGr (l:List Shard):List Route:=ZHN (ZHb l 0)
def ZHB (p:Plan):Bool:=decide (p.kind=0)&&decide (p.first=0)&&decide (p.second=0)&&decide (p.key=[])&&decide (p.from_=0)&&decide (p.to_=0)&&decide (p.step=0)
def ZGL (p:Plan) (n:Nat):Bool:=ZHB p||(ZGZ p&&decide (p.first<n)&&decide (p.second<n))
def ZGA (c:Caller):Bool:=decide (c.cache.length=0)&&decide (c.seq=0)
def upOf (l:List Shard):List Bool:=match l with
 | []=>[]
 | s::_=>s.group.up
def ZF4 (l:List Caller):Bool:=match l with
 | []=>false
 | c::_=>ZGA c
def ZHm (u:List Bool) (s:Shard):Bool:=ZGy s.group&&decide (s.group.up=u)
def ZHn (x:Cluster):Bool:=decide (1≤x.shards.length)&&decide (x.shards.length≤8)&&decide (x.clients.length=4)&&decide (x.results.length≤40)
def ZHt (x:Cluster):Bool:=ZFN (ZGr x.shards)&&ZF4 x.clients&&inR x.turn 0 999&&inR x.clock 0 200
def ZGc (x:Cluster):Bool:=ZHn x&&x.shards.all (ZHm (upOf x.shards))&&x.clients.all ZFL&&x.results.all ZFM&&ZGL x.work x.shards.length&&ZHt x
def mGo {α:Type} (w:α→Nat) (f:Int→α→α):Int→List α→List α
 | _,[]=>[]
 | K,x::xs=>f K x::mGo w f (K+w x) xs
def sumW {α:Type} (w:α→Nat):List α→Nat
 | []=>0
 | x::xs=>w x+sumW w xs
theorem ZFf {α:Type} (w:α→Nat) (b:List α):∀ a:List α,sumW w (a++b)=sumW w a+sumW w b
 | []=>by simp [sumW]
 | x::xs=>by simp only[List.cons_append,sumW,ZFf w b xs]; omega
theorem ZFU {α:Type} (w:α→Nat) (f:Int→α→α) (b:List α):∀ (K:Int) (a:List α),mGo w f K (a++b)=mGo w f K a++mGo w f (K+sumW w a) b
 | K,[]=>by simp [mGo,sumW]
 | K,x::xs=>by
  simp only[List.cons_append,mGo,sumW,ZFU w f b (K+w x) xs]
  rw [show K + (w x:Int) + (sumW w xs:Int)=K + ((w x+sumW w xs:Nat):Int) by omega]
theorem ZY {α:Type} (w:α→Nat) (f:Int→α→α):∀ (K:Int) (l:List α),(mGo w f K l).length=l.length
 | _,[]=>rfl
 | K,x::xs=>by simp only[mGo,List.length_cons,ZY w f _ xs]
theorem ZG2 {α:Type} (w:α→Nat) {l:List α} {i:Nat} {x:α} (h:l[i]?=some x):sumW w (l.take (i+1))=sumW w (l.take i)+w x:=by
 rw [List.take_add_one,h,Option.toList_some,ZFf]; simp [sumW]
theorem ZG3 {α:Type} (w:α→Nat) (l:List α) (i:Nat):sumW w (l.take i)≤sumW w l:=by
 have:=ZFf w (l.drop i) (l.take i)
 rw [List.take_append_drop] at this; omega
theorem ZGs {α:Type} (c:Nat) (w:α→Nat):∀ l:List α,sumW (fun x=>c+w x) l=c*l.length+sumW w l
 | []=>by simp [sumW]
 | x::xs=>by simp only[sumW,List.length_cons,ZGs c w xs,Nat.mul_add]; omega
def mMid {α:Type} (w:α→Nat) (f:Int→α→α) (K:Int) (l:List α) (i:Nat):List α:=mGo w f K (l.take i)++l.drop i
theorem ZHf {α:Type} (w:α→Nat) (f:Int→α→α) (K:Int) (l:List α) (i:Nat):(mMid w f K l i).length=l.length:=by
 simp only[mMid,List.length_append,ZY,List.length_take,List.length_drop]; omega
theorem ZGW {α:Type} (w:α→Nat) (f:Int→α→α) (K:Int) (l:List α):mMid w f K l 0=l:=by simp [mMid,mGo]
theorem ZHd {α:Type} (w:α→Nat) (f:Int→α→α) (K:Int) (l:List α):mMid w f K l l.length=mGo w f K l:=by simp [mMid]
theorem ZHe {α:Type} (w:α→Nat) (f:Int→α→α) (K:Int) {l:List α} {i:Nat} {x:α} (h:l[i]?=some x):(mMid w f K l i)[i]?=some x:=by
 have hi:=(List.getElem?_eq_some_iff.1 h).1
 have e:(mGo w f K (l.take i)).length=i:=by rw [ZY,List.length_take]; omega
 rw [mMid,List.getElem?_append_right (by omega),e,List.getElem?_drop]
 simpa using h
theorem ZHg {α β:Type} {u:α→β} (w:α→Nat) (f:Int→α→α) (K:Int) {l:List α} {i:Nat} {x:α} (h:l[i]?=some x):((mMid w f K l i).map u)[i]?=some (u x):=by rw [List.getElem?_map,ZHe w f K h]; rfl
theorem ZHh {α β:Type} {u:α→β} (w:α→Nat) (f:Int→α→α) (K:Int) {l:List α} {i:Nat} {x:α} (h:l[i]?=some x):((mMid w f K l i).map u).set i (u (f (K+sumW w (l.take i)) x))=(mMid w f K l (i+1)).map u:=by
 have hi:=(List.getElem?_eq_some_iff.1 h).1
 have e:(mGo w f K (l.take i)).length=i:=by rw [ZY,List.length_take]; omega
 have e2:mGo w f K (l.take (i+1))=mGo w f K (l.take i)++[f (K+sumW w (l.take i)) x]:=by
  rw [List.take_add_one,h,Option.toList_some,ZFU]; simp [mGo]
 rw [mMid,mMid,←List.map_set,List.set_append_right _ _ (by omega),e,Nat.sub_self,ZHj h,List.set_cons_zero,e2,List.append_assoc]
 rfl
def Cost (g:Int→Int) (w:Nat):Prop:=∀ a,0≤a→a≤1048576→0≤g a→g a≤a∧9*g a+w≤9*a
theorem Cost.nil:Cost (fun a=>a) 0:=fun a _ _ _=>⟨Int.le_refl _,by show 9*a + ((0:Nat):Int)≤9*a; omega⟩
theorem Cost.off {n:Nat} {k:Int→Int} {w w':Nat} (hn:n≤1048576) (hw:w≤9*n+w') (hk:Cost k w'):Cost (fun a=>offZ a n k) w:=by
 intro a h0 h1 h2
 simp only[offZ] at h2 ⊢
 rw [w64 (by omega) (by omega)] at h2 ⊢
 split at h2
 ·omega
 ·rename_i hlt
  rw [if_neg hlt]
  obtain ⟨h3,h4⟩:=hk (a - n) (by omega) (by omega) h2
  omega
theorem Cost.chk {g k:Int→Int} {w w':Nat} (hg:Cost g w) (hk:Cost k w'):Cost (fun a=>chkZ (g a) k) (w+w'):=by
 intro a h0 h1 h2
 simp only[chkZ] at h2 ⊢
 split at h2
 ·omega
 ·rename_i hlt
  rw [if_neg hlt]
  obtain ⟨h3,h4⟩:=hg a h0 h1 (by omega)
  obtain ⟨h5,h6⟩:=hk (g a) (by omega) (by omega) h2
  omega
theorem Cost.all {α:Type} {g:α→Int→Int} {w:α→Nat}:∀ {l:List α},(∀ x,x∈l→Cost (g x) (w x))→Cost (allZ g l) (sumW w l)
 | [],_=>Cost.nil
 | x::xs,h=>(h x (List.mem_cons_self ..)).chk (Cost.all (l:=xs) fun y hy=>h y (List.mem_cons_of_mem _ hy))
theorem Cost.key {n:Nat} (h:n≤1048576):Cost (fun a=>offZ a n fun a=>a) 0:=Cost.off h (by omega) Cost.nil
theorem ZHM:(∀ l:List Int,Zbm (l.map iU)=true)∧(∀ l:List Bool,Zbm (l.map bU)=true)∧(∀ l:List Entry,Zbm (l.map Entry.u)=true)∧(∀ l:List Pair,Zbm (l.map Pair.u)=true)∧(∀ l:List Session,Zbm (l.map Session.u)=true)∧(∀ l:List Answer,Zbm (l.map Answer.u)=true)∧(∀ l:List Route,Zbm (l.map Route.u)=true):=
 ⟨Zjj fun _=>rfl,Zjj fun _=>rfl,Zjj fun _=>rfl,Zjj fun _=>rfl,Zjj fun _=>rfl,Zjj fun _=>rfl,Zjj fun _=>rfl⟩
theorem ZHr:(∀ i n,vlen (.t (.sc (.down i n)))=some (DI (n:Int)))∧(∀ i a b n,vlen (.t (.sc (.sub i a b n)))=some (DI (n:Int))):=⟨fun _ _=>rfl,fun _ _ _ _=>rfl⟩
theorem ZG1 {rows:List (List U)} {i c:Nat} {x:U} {row:List U} (h:i<rows.length):Zam (rows.set i row) i c x=rows.set i (row.set c x):=by
 rw [Zh3 (ZGd rows i h row),List.set_set]
theorem ZHq:∀ z r z' r',ZaL (some (.deep z r)) (.deep z' r')=decide (r.length≤r'.length):=fun _ _ _ _=>rfl
def ZHH (a:Answer) (c s:Int):Bool:=decide (a.asked.client=c)&&decide (a.asked.seq=s)
def ZHv (l:List Answer) (c s:Int):Bool:=l.any fun a=>ZHH a c s
def ZHQ (l:List Answer) (a:Answer):Bool:=!decide (a.asked.client=0)&&(decide (-2≤a.reply)&&!ZHv l a.asked.client a.asked.seq)
def ZHk (l:List Answer) (a:Answer):List Answer:=if ZHQ l a=true then l++[a] else l
def ZHw (l:List Answer) (m:List Answer):List Answer:=m.foldl ZHk l
def ZHG (l:List Shard):List Answer:=l.foldl (fun o s=>ZHw o s.group.answers) []
def ZHS (x:Cluster):List Answer:=if ZGc x=true then ZHG x.shards else []
theorem ZGV {s:Str} (h:ZH s=true):s.length≤1048576:=by
 simp only[ZH,Bool.and_eq_true,decide_eq_true_eq] at h
 omega
def ZI:List State→List Pair
 | []=>[]
 | s::l=>s.pairs++ZI l
def ZFh:List State→Prop
 | a::b::l=>ZU a.span b.span=true∧ZFh (b::l)
 | _=>True
theorem ZGC:∀ (l:List State) (a:State),ZFh (a::l)→(∀ s,s∈a::l→ZJ s=true)→∀ p,p∈ZI (a::l)→Za2 p.key a.span.low=false
 | [],a,_,hv,p,hp=>by
  have ha:=hv a (List.mem_cons_self ..)
  simp only[ZJ,Bool.and_eq_true] at ha
  simp only[ZI,List.append_nil] at hp
  have:=List.all_eq_true.1 ha.1.2 p hp
  simp only[ZM,Bool.and_eq_true,Bool.not_eq_true'] at this
  exact this.1
 | b :: l,a,hc,hv,p,hp=>by
  have ha:=hv a (List.mem_cons_self ..)
  simp only[ZJ,Bool.and_eq_true] at ha
  rcases List.mem_append.1 hp with hp|hp
  ·have:=List.all_eq_true.1 ha.1.2 p hp
   simp only[ZM,Bool.and_eq_true,Bool.not_eq_true'] at this
   exact this.1
  ·have ih:=ZGC l b hc.2 (fun s hs=>hv s (List.mem_cons_of_mem _ hs)) p hp
   have hj:=hc.1
   simp only[ZU,Bool.and_eq_true,Bool.not_eq_true',decide_eq_true_eq,decide_eq_false_iff_not] at hj
   obtain ⟨⟨_,hne⟩,heq⟩:=hj
   have hiv:=ha.1.1.1.1
   simp only[ZA,Bool.and_eq_true,Bool.or_eq_true,decide_eq_true_eq] at hiv
   have hlh:=hiv.2
   rw [Bool.eq_false_iff]
   intro hlt
   by_cases h0:a.span.low=[]
   ·rw [h0,ZGf] at hlt; cases hlt
   ·rw [if_neg h0] at hlh
    rcases hlh with h|h
    ·exact hne h
    ·rw [heq] at h
     rw [lt_trans hlt h] at ih
     cases ih
theorem ZGq:∀ l:List State,ZFh l→(∀ s,s∈l→ZJ s=true)→(∀ p,p∈ZI l→ZFR p)∧(ZI l).Pairwise Up
 | [],_,_=>⟨fun p hp=>(by cases hp),List.Pairwise.nil⟩
 | a :: l,hc,hv=>by
  have ha:=hv a (List.mem_cons_self ..)
  simp only[ZJ,Bool.and_eq_true] at ha
  obtain ⟨_,a2,a3⟩:=(ZFd _).1 ha.1.1.1.2
  have hct:ZFh l:=by
   cases l with
   | nil=>trivial
   | cons b l=>exact hc.2
  obtain ⟨t1,t2⟩:=ZGq l hct fun s hs=>hv s (List.mem_cons_of_mem _ hs)
  refine ⟨fun p hp=>?_,?_⟩
  ·rcases List.mem_append.1 hp with h|h
   ·exact a2 p h
   ·exact t1 p h
  ·simp only[ZI]
   rw [List.pairwise_append]
   refine ⟨a3,t2,fun x hx y hy=>?_⟩
   cases l with
   | nil=>cases hy
   | cons b l=>
    have hj:=hc.1
    simp only[ZU,Bool.and_eq_true,Bool.not_eq_true',decide_eq_true_eq,decide_eq_false_iff_not] at hj
    obtain ⟨⟨_,hne⟩,heq⟩:=hj
    have h1:=List.all_eq_true.1 ha.1.2 x hx
    simp only[ZM,Bool.and_eq_true,Bool.not_eq_true',Bool.or_eq_true,decide_eq_true_eq] at h1
    have h3:Za2 x.key b.span.low=true:=by
     rcases h1.2 with h|h
     ·exact absurd h hne
     ·rw [←heq]; exact h
    have h2:=ZGC l b hc.2 (fun s hs=>hv s (List.mem_cons_of_mem _ hs)) y hy
    unfold Up
    rcases ZFA b.span.low y.key with h|h|h
    ·exact lt_trans h3 h
    ·rw [←h]; exact h3
    ·rw [h2] at h; cases h
theorem Z9:∀ a b:List State,ZI (a++b)=ZI a++ZI b
 | [],b=>rfl
 | s::a,b=>by simp [ZI,Z9 a b]
def cPc (s:Piece):Nat:=2*s.pairs.length
def wPc (s:Piece):Nat:=2+cPc s
def mPc (K:Int):Piece→Piece
 | ⟨⟨lo,up⟩,prs⟩=>⟨⟨ZGp (K),ZGp (K+1)⟩,mkL ZP 2 (K+1+1) prs.length⟩
theorem ZF1 (l:List Piece) (K:Int) (h1:1≤K) (h2:K+sumW wPc l≤4611686018427387904):EE F 15 [.sc (.down (.par 0) l.length),I K] [.deep 3 (l.map Piece.u)]=some ⟨[I (K+sumW wPc l)],[],[.deep 3 ((mGo wPc mPc K l).map Piece.u)]⟩:=by
 have hln:2*l.length≤sumW wPc l:=by rw [show wPc=fun x=>2+cPc x from rfl,ZGs]; omega
 refine (EE_run (fn:=i15) (by kernel_rfl) rfl).trans ?_
 simp only[i15,b15,Zdi,Zcu,List.length_cons,List.length_nil]
 simp only[↓xP,xT,rL,rB,rA,rS]
 refine (Zji (fun (i:Nat) st=>i≤l.length∧st.s 0=.t (.sc (.down (.par 0) l.length))∧st.s 5=DI i∧st.s 1=DI (K+sumW wPc (l.take i))∧st.o (.par 0)=some (.deep 3 ((mMid wPc mPc K l i).map Piece.u))) (fun i=>l.length - i) (fun i=>some ⟨[I (K+sumW wPc l)],[],[.deep 3 ((mGo wPc mPc K l).map Piece.u)]⟩) ?_ 0 ⟨by omega,by simp only[↓xP,xT,rL,rB,rA,rS],by simp only[↓xP,xT,rL,rB,rA,rS]; rfl,by simp only[↓xP,xT,rL,rB,rA,rS,List.take_zero,sumW]; exact ZF3 (by omega),by simp only[↓xP,xT,rL,rB,rA,rS,ZGW]⟩).trans rfl
 rintro i st ⟨hle,h0,h5,h1',ho⟩ ih
 by_cases hi:i<l.length
 ·obtain ⟨⟨⟨lo,up⟩,prs⟩,hx⟩:∃ x,l[i]?=some x:=⟨_,List.getElem?_eq_getElem hi⟩
  have hw:=w_succ (i:=i) (by omega)
  have hg:=ZHg (u:=Piece.u) wPc mPc K hx
  have hf:=ZHh (u:=Piece.u) wPc mPc K hx
  have hlen:i<((mMid wPc mPc K l i).map Piece.u).length:=by rw [List.length_map,ZHf]; omega
  have hst:=ZG2 wPc hx
  have hsl:=ZG3 wPc l (i+1)
  simp only[wPc,cPc] at hst
  have hk0:1≤K+sumW wPc (l.take i):=by omega
  generalize (mMid wPc mPc K l i).map Piece.u=r at hg hf hlen ho
  obtain ⟨K',hK⟩:∃ K',K'=K+sumW wPc (l.take i):=⟨_,rfl⟩
  rw [←hK] at h1' hf
  have hK2:K+sumW wPc (l.take (i+1))=K'+1+1+2 * (prs.length:Int):=by omega
  have hK3:K'+1+1+2 * (prs.length:Int)≤4611686018427387904:=by omega
  simp only[Piece.u,mPc] at hg hf
  have hgs:=ZGd r i hlen
  have hw0:IntKind.i64.wrap (K'+1)=K'+1:=by rw [w64 (by omega) (by omega)]
  have mt0:=ZZ (K') (by omega) (by omega)
  have hw1:IntKind.i64.wrap (K'+1+1)=K'+1+1:=by rw [w64 (by omega) (by omega)]
  have mt1:=ZZ (K'+1) (by omega) (by omega)
  have mk2:=Z8 prs (K'+1+1) (by omega) (by omega)
  simp only[↓xP,xT,rL,rB,rA,rS,h0,h5,h1',ho,hi,hg,hgs,List.set_set,List.set_cons_succ,List.set_cons_zero,ZG1 hlen,ZHr,hw,hw0,mt0,hw1,mt1,mk2,ZHM,List.length_map,ZR,ZY,hf]
  exact ih (i+1) _ (by omega) ⟨by omega,by simp only[↓xP,xT,rL,rB,rA,rS,h0],by simp only[↓xP,xT,rL,rB,rA,rS],by simp only[↓xP,xT,rL,rB,rA,rS]; exact ZF3 (by omega),by simp only[↓xP,xT,rL,rB,rA,rS]⟩
 ·have:i=l.length:=by omega
  subst this
  rw [ZHd] at ho
  simp only[↓xP,xT,rL,rB,rA,rS,h0,h5,h1',ho,hi,ZHr,List.take_length,List.length_map,ZY]
structure ZHi (c:Chain):Prop where
 base:ZJ c.base=true
 conf:ZX c.conf=true
 nodes:c.nodes.length=5
 up:c.up.length=5
 bagn:c.bag.length≤10
 bagv:∀ m,m∈c.bag→ZFB m=true∧m.epoch≤c.conf.epoch
 node:∀ r,r∈c.nodes→ZFE r=true∧r.conf.epoch≤c.conf.epoch
 ansn:c.answers.length≤24
 ansv:∀ a,a∈c.answers→ZFK a=true
/-- One route lies wholly ahead of another. -/
def Ahead (a b:Route):Prop:=a.span.high≠[]∧Za2 b.span.low a.span.high=false
structure CacheOk (l:List Route):Prop where
 num:(l.map Route.number).Pairwise (·≠·)
 rng:∀ q,q∈l→inR q.number 0 7=true
 span:∀ q,q∈l→ZA q.span=true
 ord:l.Pairwise Ahead
theorem ZHc {v:Interval} (h:ZA v=true) (hh:v.high≠[]):Za2 v.low v.high=true∧(v.low=[]→Za2 [97] v.high=true):=by
 simp only[ZA,Bool.and_eq_true,Bool.or_eq_true,decide_eq_true_eq] at h
 obtain ⟨_,h⟩:=h
 have h:=h.resolve_left hh
 by_cases e:v.low=[]
 ·rw [if_pos e] at h
  refine ⟨?_,fun _=>h⟩
  rw [e,ZFH]; simp [hh]
 ·rw [if_neg e] at h
  exact ⟨h,fun e2=>absurd e2 e⟩
theorem Ahead.trans {a b c:Route} (hb:ZA b.span=true) (h1:Ahead a b) (h2:Ahead b c):Ahead a c:=by
 refine ⟨h1.1,?_⟩
 have h3:=(ZHc hb h2.1).1
 have h4:Za2 a.span.high b.span.high=true:=ZHI h1.2 h3
 cases h:Za2 c.span.low a.span.high with
 | false=>rfl
 | true=>
  have:=lt_trans h h4
  rw [h2.2] at this; cases this
theorem CacheOk.sub {l m:List Route} (h:CacheOk l) (hs:m.Sublist l):CacheOk m:=
 ⟨h.num.sublist (hs.map _),fun q hq=>h.rng q (hs.subset hq),fun q hq=>h.span q (hs.subset hq),h.ord.sublist hs⟩
def ZHL (x:Cluster) (w:Plan):Cluster:=⟨x.shards,x.clients,x.results,w,x.turn,x.clock⟩
structure XOk (x:Cluster):Prop where
 s1:1≤x.shards.length
 s8:x.shards.length≤8
 cn:x.clients.length=4
 rn:x.results.length≤40
 sh:∀ s,s∈x.shards→ZHi s.group∧s.group.up=upOf x.shards
 cl:∀ c,c∈x.clients→ZFL c=true
 rs:∀ r,r∈x.results→ZFM r=true
 wk:ZGL x.work x.shards.length=true
 rt:ZFN (ZGr x.shards)=true
 fc:ZF4 x.clients=true
 tn:inR x.turn 0 999=true
 ck:inR x.clock 0 200=true
theorem XOk.work {x:Cluster} (h:XOk x) {w:Plan} (hw:ZGL w x.shards.length=true):XOk (ZHL x w):=⟨h.s1,h.s8,h.cn,h.rn,h.sh,h.cl,h.rs,hw,h.rt,h.fc,h.tn,h.ck⟩
/-- Some deeds, after at most so many draws. -/
def GdD (bs:List Int) (p c N:Nat) (x:Option Ret):Prop:=Gd bs p c (fun r m=>m=[]∧∃ l:List Deed,r=[L 24 (l.map Deed.u)]∧l.length≤N) x
theorem GdD.mk {bs:List Int} {p c N:Nat} (l:List Deed) (q:Nat) (h1:p≤q) (h2:q≤p+c) (h3:l.length≤N):GdD bs p c N (some ⟨[L 24 (l.map Deed.u)],[],[rd bs q]⟩):=⟨_,_,q,rfl,h1,h2,rfl,l,rfl,h3⟩
/-- Rows that are deeds. -/
def Deeds (n:Nat) (rows:List (List U)):Prop:=∃ l:List Deed,rows=l.map Deed.u∧l.length≤n
theorem Deeds.nil:Deeds 0 []:=⟨[],rfl,Nat.zero_le _⟩
theorem Deeds.map {n:Nat} {l:List Deed} (h:l.length≤n):Deeds n (l.map Deed.u):=⟨l,rfl,h⟩
theorem Deeds.cons {n:Nat} {rows:List (List U)} {a0 a1 a2 a3 a4 a6 a7 a8 a9 a10 a11 a12 a13 a15 a16 a17 a18 a19 a21 a22 a23:Int} {a5 a14 a20:Str} (h:Deeds n rows) :
  Deeds (n+1) ([.int .i64 a0,.int .i64 a1,.int .i64 a2,.int .i64 a3,.int .i64 a4,.str a5,.int .i64 a6,.int .i64 a7,.int .i64 a8,.int .i64 a9,.int .i64 a10,.int .i64 a11,.int .i64 a12,.int .i64 a13,.str a14,.int .i64 a15,.int .i64 a16,.int .i64 a17,.int .i64 a18,.int .i64 a19,.str a20,.int .i64 a21,.int .i64 a22,.int .i64 a23]::rows):=by
 obtain ⟨l,rfl,h⟩:=h
 exact ⟨⟨a0,a1,a2,a3,⟨a4,a5,a6,a7⟩,⟨a8,a9,a10,⟨a11,a12,⟨a13,a14,a15,a16⟩⟩⟩,⟨a17,a18,a19,a20,a21,a22,a23⟩⟩::l,rfl,by simp; omega⟩
theorem Deeds.app {m n:Nat} {a b:List (List U)} (h:Deeds m a) (k:Deeds n b):Deeds (m+n) (a++b):=by
 obtain ⟨l,rfl,h⟩:=h
 obtain ⟨l',rfl,k⟩:=k
 exact ⟨l++l',by simp,by simp; omega⟩
theorem GdD.of {bs:List Int} {p c N n:Nat} {rows:List (List U)} (q:Nat) (h1:p≤q) (h2:q≤p+c) (h3:Deeds n rows) (h4:n≤N):GdD bs p c N (some ⟨[L 24 rows],[],[rd bs q]⟩):=by
 obtain ⟨l,rfl,h⟩:=h3
 exact GdD.mk l q h1 h2 (by omega)
/-- What the history makes, as its own list. -/
def ZE (x:Option (List Pair)):Option Ret:=match x with
 | some p=>some ⟨[.sc (.own (.par 0) p.length),B true],[.row 2 (p.map Pair.u)],[]⟩
 | none=>some ⟨[.sc (.own (.par 0) 0),B false],[.row 2 []],[]⟩
def stOf (p:Piece):State:=⟨p.span,p.pairs,[],false,[]⟩
theorem ZFW {p:Piece} (h:ZF p=true):ZJ (stOf p)=true:=by
 simp only[ZF,Bool.and_eq_true] at h
 simp [ZJ,stOf,h.1.1,h.1.2,ZFo,ZFS]
 simpa using h.2
def ZB (l:List Piece):List Pair:=ZI (l.map stOf)
theorem ZFC {l:List Piece} {i:Nat} {p:Piece} (h:l[i]?=some p):ZB (l.take (i+1))=ZB (l.take i)++p.pairs:=by
 rw [ZB,List.take_add_one,h]
 simp [Z9,ZI,stOf,ZB]
def AtP (l:List Piece) (j:Nat):Prop:=∃ p,l[j]?=some p∧ZF p=true∧(0<j→∃ q,l[j - 1]?=some q∧ZU q.span p.span=true)
theorem ZFr:∀ l:List Piece,(∀ j,j<l.length→AtP l j)→ZFh (l.map stOf)
 | [],_=>trivial
 | [_],_=>trivial
 | a :: b::l,h=>by
  refine ⟨?_,ZFr (b::l) fun j hj=>?_⟩
  ·obtain ⟨p,h1,_,h3⟩:=h 1 (by simp)
   obtain ⟨q,h4,h5⟩:=h3 (by omega)
   simp at h1 h4
   subst h1; subst h4
   exact h5
  ·obtain ⟨p,h1,h2,h3⟩:=h (j+1) (by simp only[List.length_cons] at hj ⊢; omega)
   refine ⟨p,by simpa using h1,h2,fun hj0=>?_⟩
   obtain ⟨q,h4,h5⟩:=h3 (by omega)
   obtain ⟨k,rfl⟩:∃ k,j=k+1:=⟨j - 1,by omega⟩
   exact ⟨q,by simpa using h4,h5⟩
theorem ZGO:∀ (l:List State) (a z:State),ZFh (a::l)→(∀ s,s∈a::l→ZJ s=true)→(a::l).getLast?=some z→
  (∀ k:Str,(a.span.high=[]∨Za2 k a.span.high=true)→(z.span.high=[]∨Za2 k z.span.high=true))∧∀ p,p∈ZI (a::l)→z.span.high=[]∨Za2 p.key z.span.high=true
 | [],a,z,hc,hv,hz=>by
  simp at hz
  subst hz
  have ha:=hv a (List.mem_cons_self ..)
  simp only[ZJ,Bool.and_eq_true] at ha
  refine ⟨fun k h=>h,fun p hp=>?_⟩
  simp only[ZI,List.append_nil] at hp
  have:=List.all_eq_true.1 ha.1.2 p hp
  simp only[ZM,Bool.and_eq_true,Bool.or_eq_true,decide_eq_true_eq] at this
  exact this.2
 | b :: l,a,z,hc,hv,hz=>by
  have ha:=hv a (List.mem_cons_self ..)
  have hb:=hv b (by simp)
  simp only[ZJ,Bool.and_eq_true] at ha hb
  have hz':(b::l).getLast?=some z:=by simpa [List.getLast?_cons_cons] using hz
  obtain ⟨i1,i2⟩:=ZGO l b z hc.2 (fun s hs=>hv s (List.mem_cons_of_mem _ hs)) hz'
  have hj:=hc.1
  simp only[ZU,Bool.and_eq_true,Bool.not_eq_true',decide_eq_true_eq,decide_eq_false_iff_not] at hj
  obtain ⟨⟨_,hne⟩,heq⟩:=hj
  have hiv:=hb.1.1.1.1
  simp only[ZA,Bool.and_eq_true,Bool.or_eq_true,decide_eq_true_eq] at hiv
  have hlh:=hiv.2
  rw [if_neg (by rw [←heq]; exact hne)] at hlh
  have one:∀ k:Str,(a.span.high=[]∨Za2 k a.span.high=true)→(z.span.high=[]∨Za2 k z.span.high=true):=by
   intro k hk
   refine i1 k ?_
   rcases hk with hk|hk
   ·exact absurd hk hne
   ·rcases hlh with h|h
    ·exact .inl h
    ·rw [←heq] at h; exact .inr (lt_trans hk h)
  refine ⟨one,fun p hp=>?_⟩
  rcases List.mem_append.1 hp with hp|hp
  ·have:=List.all_eq_true.1 ha.1.2 p hp
   simp only[ZM,Bool.and_eq_true,Bool.or_eq_true,decide_eq_true_eq] at this
   exact one _ this.2
  ·exact i2 p hp
def Z6 (l:List Piece) (v:Interval) (n:Int):Prop:=ZA v=true∧1≤l.length∧l.length≤8∧0≤n∧n≤48∧(∀ p,l[0]?=some p→p.span.low=v.low)∧(∀ p,l[l.length - 1]?=some p→p.span.high=v.high)∧(∀ j,j<l.length→AtP l j)∧(ZB l).length≤48
open Classical in
noncomputable def Z3 (l:List Piece) (v:Interval) (n:Int):Option (List Pair):=if Z6 l v n then some ((ZB l).take n.toNat) else none
theorem ZF5 {l:List Piece} (h:∀ j,j<l.length→AtP l j):(∀ p,p∈ZB l→ZFR p)∧(ZB l).Pairwise Up:=by
 refine ZGq _ (ZFr l h) fun s hs=>?_
 obtain ⟨p,hp,rfl⟩:=List.mem_map.1 hs
 obtain ⟨j,hj⟩:=List.mem_iff_getElem?.1 hp
 obtain ⟨q,h1,h2,_⟩:=h j (List.getElem?_eq_some_iff.1 hj).1
 rw [hj] at h1
 cases h1
 exact ZFW h2
theorem ZFD {l:List Piece} (h:∀ j,j<l.length→AtP l j):ZD (ZB l)=decide ((ZB l).length≤48):=by
 obtain ⟨p1,p2⟩:=ZF5 h
 rw [Bool.eq_iff_iff,decide_eq_true_eq]
 exact ⟨fun h=>ZN h,fun h=>(ZFd _).2 ⟨h,p1,p2⟩⟩
theorem ZGY {l:List Piece} {v:Interval} (h:∀ j,j<l.length→AtP l j) (h1:∀ p,l[0]?=some p→p.span.low=v.low) (h2:∀ p,l[l.length - 1]?=some p→p.span.high=v.high):∀ p,p∈ZB l→ZM v p.key=true:=by
 intro p hp
 have hv:∀ s,s∈l.map stOf→ZJ s=true:=by
  intro s hs
  obtain ⟨p,hp,rfl⟩:=List.mem_map.1 hs
  obtain ⟨j,hj⟩:=List.mem_iff_getElem?.1 hp
  obtain ⟨q,h1,h2,_⟩:=h j (List.getElem?_eq_some_iff.1 hj).1
  rw [hj] at h1
  cases h1
  exact ZFW h2
 have hc:=ZFr l h
 cases l with
 | nil=>cases hp
 | cons a l=>
  have hz:(a::l).getLast?=some ((a::l)[(a::l).length - 1]'(by simp)):=by rw [List.getLast?_eq_getElem?]; exact List.getElem?_eq_getElem (by simp)
  have e1:=ZGC _ _ hc hv p hp
  have e2:=(ZGO (l.map stOf) (stOf a) (stOf ((a::l)[(a::l).length - 1]'(by simp))) hc hv (by rw [←List.map_cons,List.getLast?_map,hz]; rfl)).2 p hp
  have e3:=h1 a rfl
  have e4:=h2 _ (List.getElem?_eq_getElem (show (a::l).length - 1<(a::l).length by simp))
  simp only[ZM,Bool.and_eq_true,Bool.not_eq_true',Bool.or_eq_true,decide_eq_true_eq]
  rw [←e3,←e4]
  exact ⟨e1,e2⟩
set_option maxHeartbeats 1000000 in
theorem ZGE (l:List Pair) (lo hi:Str) (n:Nat) (hn:n≤48) (h:ZD l=true) (h2:ZA ⟨lo,hi⟩=true) (hall:∀ p,p∈l→ZM ⟨lo,hi⟩ p.key=true):EE F 38 [L 2 (l.map Pair.u),.ag [.u (.str lo),.u (.str hi)],I (n:Int)] []=some ⟨[.sc (.own (.par 0) (l.take n).length)],[.row 2 ((l.take n).map Pair.u)],[]⟩:=by
 rw [R38,b38]
 have h48:inR (n:Int) 0 48=true:=by simp [inR]; omega
 have hpv:=ZV l
 have hiv:=ZK lo hi
 rw [h] at hpv
 rw [h2] at hiv
 simp only[↓xP,xT,rL,rB,rA,rS,hpv,hiv,ZW,h48]
 have hl:=ZN h
 refine (Zji (fun (k:Nat) st=>k≤l.length∧k≤n∧st.s 0=DU (.sl 2 (l.map Pair.u))∧st.s 4=.t (.sc (.ptr (.loc 4 0) 0 0))∧st.o (.loc 4 0)=some (.box [.u (.str lo),.u (.str hi)])∧st.s 2=DI n∧st.s 8=DI k∧
  st.s 7=.t (.sc (.own (.loc 9 0) k))∧st.o (.loc 9 0)=some (.row 2 ((l.take k).map Pair.u))) (fun k=>l.length - k) (fun k=>some ⟨[.sc (.own (.par 0) (l.take n).length)],[.row 2 ((l.take n).map Pair.u)],[]⟩) ?_ 0 ⟨by omega,by omega,(by and_intros<;>first|omega|rfl|(simp only[↓xP,xT,rL,rB,rA,rS,List.take_zero,List.map_nil]<;>first|done|rfl|omega))⟩).trans rfl
 rintro k st ⟨hle,hkn,h0,h4,ho,h2',h8,h7,ho9⟩ ih
 by_cases hi':k<l.length
 ·obtain ⟨⟨pk,pv⟩,hp⟩:∃ p,l[k]?=some p:=⟨_,List.getElem?_eq_getElem hi'⟩
  by_cases hkn':k<n
  ·have hw:=w_succ (i:=k) (by omega)
   have hc:=hall _ (List.mem_of_getElem? hp)
   dsimp only at hc
   have hk:=(Z2 h hp).1
   have hin:ZQ ⟨lo,hi⟩ pk=ZM ⟨lo,hi⟩ pk:=by simp [ZQ,h2,hk]
   have q1:k+1≤maxLen∧(k+1)*24≤140737488355328:=ZFI (by omega) (by omega)
   have hlt:(l.take k).length=k:=by rw [List.length_take]; omega
   have hnx:(l.take (k+1)).map Pair.u=(l.take k).map Pair.u++[[.str pk,.int .i64 pv]]:=by rw [List.take_add_one,hp]; simp [Pair.u]
   simp only[↓xP,xT,rL,rB,rA,rS,h0,h4,ho,h2',h8,h7,ho9,hi',hkn',hp,hw,Pair.u,Z5,hin,hc,q1.1,q1.2,hlt,List.length_map]
   exact ih (k+1) _ (by omega) ⟨by omega,by omega,(by and_intros<;>first|omega|rfl|(simp only[↓xP,xT,rL,rB,rA,rS,h0,h4,ho,h2',h8,h7,ho9,hw,hnx]<;>first|done|rfl|omega))⟩
  ·have:k=n:=by omega
   subst this
   have hlt:(l.take k).length=k:=by rw [List.length_take]; omega
   simp only[↓xP,xT,rL,rB,rA,rS,h0,h4,ho,h2',h8,h7,ho9,hi',hkn',hlt,List.length_map,ZFk]
 ·have hkl:k=l.length:=by omega
  subst hkl
  have e:l.take n=l:=List.take_of_length_le (by omega)
  rw [List.take_length] at ho9
  simp only[↓xP,xT,rL,rB,rA,rS,h0,h4,ho,h2',h8,h7,ho9,hi',e,List.length_map,ZFk]
theorem ZC {l:List Piece} {v:Interval} {n:Int} (h:¬Z6 l v n):Z3 l v n=none:=by unfold Z3; rw [if_neg h]
theorem ZFe {l:List Piece} {v:Interval} {n:Int} (h:Z6 l v n):Z3 l v n=some ((ZB l).take n.toNat):=by unfold Z3; rw [if_pos h]
theorem ZG7 {l:List Piece} {i:Nat} {p:Piece} (h:l[i]?=some p) (hb:ZF p=false):¬AtP l i:=by
 rintro ⟨q,h1,h2,_⟩
 rw [h] at h1
 cases h1
 rw [h2] at hb
 cases hb
theorem ZG8 {l:List Piece} {i:Nat} {p q:Piece} (h:l[i]?=some p) (hi:0<i) (hq:l[i - 1]?=some q) (hb:ZU q.span p.span=false):¬AtP l i:=by
 rintro ⟨x,h1,h2,h3⟩
 rw [h] at h1
 cases h1
 obtain ⟨y,h4,h5⟩:=h3 hi
 rw [hq] at h4
 cases h4
 rw [h5] at hb
 cases hb
set_option maxHeartbeats 4000000 in
theorem ZFG (l:List Piece) (lo hi:Str) (n:Int) (hl:l.length≤1048576):EE F 9 [L 3 (l.map Piece.u),.ag [.u (.str lo),.u (.str hi)],I n] []=ZE (Z3 l ⟨lo,hi⟩ n):=by
 rw [R9,b9]
 have hiv:=ZK lo hi
 cases hv:ZA ⟨lo,hi⟩
 ·rw [hv] at hiv
  rw [ZC (fun h=>by rw [h.1] at hv; cases hv)]
  simp only[↓xP,xT,rL,rB,rA,rS,hiv,ZE]
 rw [hv] at hiv
 by_cases hin:1≤l.length∧l.length≤8
 case neg=>
  have e:inR (l.length:Int) 1 8=false:=by simp only[inR,Bool.and_eq_false_iff,decide_eq_false_iff_not]; omega
  rw [ZC (fun h=>hin ⟨h.2.1,h.2.2.1⟩)]
  simp only[↓xP,xT,rL,rB,rA,rS,hiv,List.length_map,ZW,e,ZE]
 have e1:inR (l.length:Int) 1 8=true:=by simp only[inR,Bool.and_eq_true,decide_eq_true_eq]; omega
 by_cases hnn:0≤n∧n≤48
 case neg=>
  have e:inR n 0 48=false:=by simp only[inR,Bool.and_eq_false_iff,decide_eq_false_iff_not]; omega
  rw [ZC (fun h=>hnn ⟨h.2.2.2.1,h.2.2.2.2.1⟩)]
  simp only[↓xP,xT,rL,rB,rA,rS,hiv,List.length_map,ZW,e1,e,ZE]
 have e2:inR n 0 48=true:=by simp only[inR,Bool.and_eq_true,decide_eq_true_eq]; omega
 obtain ⟨m,rfl⟩:=Int.eq_ofNat_of_zero_le hnn.1
 obtain ⟨⟨⟨l0,u0⟩,ps0⟩,hp0⟩:∃ p,l[0]?=some p:=⟨_,List.getElem?_eq_getElem (by omega)⟩
 obtain ⟨⟨⟨l1,u1⟩,ps1⟩,hp1⟩:∃ p,l[l.length - 1]?=some p:=⟨_,List.getElem?_eq_getElem (by omega)⟩
 have hl0:0<l.length:=by omega
 have hl1:l.length - 1<l.length:=by omega
 have hwl:IntKind.i64.wrap ((l.length:Int) - 1)=((l.length - 1:Nat):Int):=by rw [w64 (by omega) (by omega)]; omega
 by_cases hlo:l0=lo
 case neg=>
  rw [ZC (fun h=>hlo (h.2.2.2.2.2.1 _ hp0))]
  simp only[↓xP,xT,rL,rB,rA,rS,hiv,List.length_map,ZW,e1,e2,hl0,hl1,hp0,Piece.u,hlo,ne_eq,not_false_eq_true,ZE]
 subst hlo
 by_cases hhi:u1=hi
 case neg=>
  rw [ZC (fun h=>hhi (h.2.2.2.2.2.2.1 _ hp1))]
  simp only[↓xP,xT,rL,rB,rA,rS,hiv,List.length_map,ZW,e1,e2,hl0,hl1,hp0,hp1,Piece.u,hwl,hhi,ne_eq,not_false_eq_true,not_true_eq_false,ZE]
 subst hhi
 have base:(∀ j,j<l.length→AtP l j)→(ZB l).length≤48→Z6 l ⟨l0,u1⟩ (m:Int):=fun h1 h2=>⟨hv,hin.1,hin.2,hnn.1,hnn.2,fun p hp=>by rw [hp0] at hp; cases hp; rfl,fun p hp=>by rw [hp1] at hp; cases hp; rfl,h1,h2⟩
 simp only[↓xP,xT,rL,rB,rA,rS,hiv,List.length_map,ZW,e1,e2,hl0,hl1,hp0,hp1,Piece.u,hwl,ne_eq,not_true_eq_false]
 refine (Zji (fun (i:Nat) st=>i≤l.length∧(∀ j,j<i→AtP l j)∧(ZB (l.take i)).length≤48*i∧st.s 0=DU (.sl 3 (l.map Piece.u))∧st.s 2=DI m∧st.s 4=.t (.sc (.ptr (.loc 4 0) 0 0))∧st.o (.loc 4 0)=some (.box [.u (.str l0),.u (.str u1)])∧st.s 9=DI i∧
  st.s 8=.t (.sc (.own (.loc 50 0) (ZB (l.take i)).length))∧st.o (.loc 50 0)=some (.row 2 ((ZB (l.take i)).map Pair.u))) (fun i=>l.length - i) (fun _=>ZE (Z3 l ⟨l0,u1⟩ m)) ?_ 0 ⟨by omega,fun j hj=>by omega,by simp [ZB,ZI],(by and_intros<;>first|omega|rfl|(simp only[↓xP,xT,rL,rB,rA,rS,ZB,List.take_zero,List.map_nil,ZI,List.length_nil]<;>first|done|rfl|omega))⟩).trans rfl
 rintro i st ⟨hle,hat,hq,h0,h2,h4,o4,h9,h8,o8⟩ ih
 by_cases hi:i<l.length
 ·obtain ⟨⟨⟨pl,pu⟩,ps⟩,hp⟩:∃ p,l[i]?=some p:=⟨_,List.getElem?_eq_getElem hi⟩
  have hpv:=ZFQ pl pu ps
  cases hpb:ZF ⟨⟨pl,pu⟩,ps⟩
  ·rw [hpb] at hpv
   rw [ZC (fun h=>ZG7 hp hpb (h.2.2.2.2.2.2.2.1 i hi))]
   simp only[↓xP,xT,rL,rB,rA,rS,h0,h2,h4,o4,h9,h8,o8,hi,hp,Piece.u,hpv,List.length_map,ZE]
  rw [hpb] at hpv
  have hps:ps.length≤48:=by
   simp only[ZF,Bool.and_eq_true] at hpb
   exact ZN hpb.1.2
  have hw:=w_succ (i:=i) (by omega)
  have hnx:=ZFC hp
  dsimp only at hnx
  have q1:(ZB (l.take i)).length+ps.length≤maxLen∧((ZB (l.take i)).length+ps.length)*24≤140737488355328:=ZFI (by omega) (by omega)
  have step:AtP l i→∀ j,j<i+1→AtP l j:=fun h j hj=>by
   by_cases e:j=i
   ·subst e; exact h
   ·exact hat j (by omega)
  have hqn:(ZB (l.take (i+1))).length≤48 * (i+1):=by rw [hnx,List.length_append]; omega
  by_cases hi0:i=0
  ·have hz:¬(i:Int) > 0:=by omega
   simp only[↓xP,xT,rL,rB,rA,rS,h0,h2,h4,o4,h9,h8,o8,hi,hp,Piece.u,hpv,hz,hw,List.length_map,q1.1,q1.2]
   exact ih (i+1) _ (by omega) ⟨by omega,step ⟨_,hp,hpb,fun h=>absurd h (by omega)⟩,hqn,(by and_intros<;>first|omega|rfl|(simp only[↓xP,xT,rL,rB,rA,rS,h0,h2,h4,o4,h9,h8,o8,hw,hnx,List.length_append,List.map_append]<;>first|done|rfl|omega))⟩
  ·obtain ⟨⟨⟨ql,qu⟩,qs⟩,hqp⟩:∃ p,l[i - 1]?=some p:=⟨_,List.getElem?_eq_getElem (by omega)⟩
   have hz:(i:Int) > 0:=by omega
   have hwi:IntKind.i64.wrap ((i:Int) - 1)=((i - 1:Nat):Int):=by rw [w64 (by omega) (by omega)]; omega
   have hi1:i - 1<l.length:=by omega
   have hj:=ZFy ql qu pl pu
   unfold ZFi at hj
   cases hjb:ZU ⟨ql,qu⟩ ⟨pl,pu⟩
   ·rw [hjb] at hj
    rw [ZC (fun h=>ZG8 hp (by omega) hqp hjb (h.2.2.2.2.2.2.2.1 i hi))]
    simp only[↓xP,xT,rL,rB,rA,rS,h0,h2,h4,o4,h9,h8,o8,hi,hi1,hp,hqp,Piece.u,hpv,hz,hwi,hj,List.length_map,ZE]
   ·rw [hjb] at hj
    simp only[↓xP,xT,rL,rB,rA,rS,h0,h2,h4,o4,h9,h8,o8,hi,hi1,hp,hqp,Piece.u,hpv,hz,hwi,hj,hw,List.length_map,q1.1,q1.2]
    exact ih (i+1) _ (by omega) ⟨by omega,step ⟨_,hp,hpb,fun _=>⟨_,hqp,hjb⟩⟩,hqn,(by and_intros<;>first|omega|rfl|(simp only[↓xP,xT,rL,rB,rA,rS,h0,h2,h4,o4,h9,h8,o8,hw,hnx,List.length_append,List.map_append]<;>first|done|rfl|omega))⟩
 ·have hil:i=l.length:=by omega
  subst hil
  have hall:∀ j,j<l.length→AtP l j:=hat
  have hpv:=ZV (ZB l)
  rw [ZFD hall] at hpv
  rw [List.take_length] at h8 o8 hq
  by_cases h48:(ZB l).length≤48
  ·have hok:=base hall h48
   rw [ZFe hok]
   have hpv2:=ZFD hall
   rw [decide_eq_true h48] at hpv hpv2
   have hsc:=ZGE (ZB l) l0 u1 m (by omega) hpv2 hv (ZGY hall hok.2.2.2.2.2.1 hok.2.2.2.2.2.2.1)
   simp only[↓xP,xT,rL,rB,rA,rS,rdx2,h0,h2,h4,o4,h9,h8,o8,hi,hpv,hsc,List.length_map,ZFk,ZE,Int.toNat_natCast]
  ·rw [ZC (fun h=>h48 h.2.2.2.2.2.2.2.2)]
   rw [decide_eq_false h48] at hpv
   simp only[↓xP,xT,rL,rB,rA,rS,rdx2,h0,h2,h4,o4,h9,h8,o8,hi,hpv,List.length_map,ZFk,ZE]
theorem ZHC {st:St} {d sz n m:Nat} {id:Id} {r:List (List U)} (h:st.o id=some (.row sz r)) (hn:n≤r.length) (hm:m≤n):ZgG st d sz (.t (.sc (.own id n))) (DI (m:Int))=some (((st.mapC (C.kill id)).obj id (some (.row sz (r.take m)))).put d (.t (.sc (.own id m)))):=by
 have hv:vcut n none (some (DI (m:Int)))=some (0,m):=by
  have:(0:Int)≤m∧(m:Int)≤n:=by omega
  simp [vcut,DI,DU,D.int?,this]
 unfold ZgG
 simp [D.c?,h,hn,hv]
set_option maxHeartbeats 4000000 in
theorem ZFF (l:List Piece) (lo hi:Str) (n:Int) (hl:l.length≤1048576):EE F 12 [L 3 (l.map Piece.u),.ag [.u (.str lo),.u (.str hi)],I n] []=ZE (Z3 l ⟨lo,hi⟩ n):=by
 rw [R12,b12]
 have hiv:=ZO lo hi
 cases hv:ZA ⟨lo,hi⟩
 ·rw [hv] at hiv
  rw [ZC (fun h=>by rw [h.1] at hv; cases hv)]
  simp only[↓xP,xT,rL,rB,rA,rS,hiv,ZE]
 rw [hv] at hiv
 by_cases hn0:n<0
 ·rw [ZC (fun h=>by have:=h.2.2.2.1; omega)]
  simp only[↓xP,xT,rL,rB,rA,rS,hiv,hn0,List.length_map,ZE]
 by_cases hn48:n > 48
 ·rw [ZC (fun h=>by have:=h.2.2.2.2.1; omega)]
  simp only[↓xP,xT,rL,rB,rA,rS,hiv,hn0,hn48,List.length_map,ZE]
 by_cases hl1:(l.length:Int)<1
 ·rw [ZC (fun h=>by have:=h.2.1; omega)]
  simp only[↓xP,xT,rL,rB,rA,rS,hiv,hn0,hn48,hl1,List.length_map,ZE]
 by_cases hl8:(l.length:Int) > 8
 ·rw [ZC (fun h=>by have:=h.2.2.1; omega)]
  simp only[↓xP,xT,rL,rB,rA,rS,hiv,hn0,hn48,hl1,hl8,List.length_map,ZE]
 obtain ⟨m,rfl⟩:=Int.eq_ofNat_of_zero_le (show 0≤n by omega)
 obtain ⟨⟨⟨l0,u0⟩,ps0⟩,hp0⟩:∃ p,l[0]?=some p:=⟨_,List.getElem?_eq_getElem (by omega)⟩
 obtain ⟨⟨⟨l1,u1⟩,ps1⟩,hp1⟩:∃ p,l[l.length - 1]?=some p:=⟨_,List.getElem?_eq_getElem (by omega)⟩
 have hi0':0<l.length:=by omega
 have hi1':l.length - 1<l.length:=by omega
 have hwl:IntKind.i64.wrap ((l.length:Int) - 1)=((l.length - 1:Nat):Int):=by rw [w64 (by omega) (by omega)]; omega
 by_cases hlo:l0=lo
 case neg=>
  rw [ZC (fun h=>hlo (h.2.2.2.2.2.1 _ hp0))]
  simp only[↓xP,xT,rL,rB,rA,rS,hiv,hn0,hn48,hl1,hl8,List.length_map,hi0',hi1',hp0,Piece.u,hlo,ne_eq,not_false_eq_true,ZE]
 subst hlo
 by_cases hhi:u1=hi
 case neg=>
  rw [ZC (fun h=>hhi (h.2.2.2.2.2.2.1 _ hp1))]
  simp only[↓xP,xT,rL,rB,rA,rS,hiv,hn0,hn48,hl1,hl8,List.length_map,hi0',hi1',hp0,hp1,Piece.u,hwl,hhi,ne_eq,not_false_eq_true,not_true_eq_false,ZE]
 subst hhi
 have base:(∀ j,j<l.length→AtP l j)→(ZB l).length≤48→Z6 l ⟨l0,u1⟩ (m:Int):=fun h1 h2=>⟨hv,by omega,by omega,by omega,by omega,fun p hp=>by rw [hp0] at hp; cases hp; rfl,fun p hp=>by rw [hp1] at hp; cases hp; rfl,h1,h2⟩
 simp only[↓xP,xT,rL,rB,rA,rS,hiv,hn0,hn48,hl1,hl8,List.length_map,hi0',hi1',hp0,hp1,Piece.u,hwl,ne_eq,not_true_eq_false]
 refine (Zji (fun (i:Nat) st=>i≤l.length∧(∀ j,j<i→AtP l j)∧(ZB (l.take i)).length≤48*i∧st.s 0=DU (.sl 3 (l.map Piece.u))∧st.s 2=DI m∧st.s 55=DU (.sl 3 (l.map Piece.u))∧st.s 56=DI l.length∧st.s 57=DI i∧
  st.s 9=.t (.sc (.own (.loc 9 0) (ZB (l.take i)).length))∧st.o (.loc 9 0)=some (.row 2 ((ZB (l.take i)).map Pair.u))) (fun i=>l.length - i) (fun _=>ZE (Z3 l ⟨l0,u1⟩ m)) ?_ 0 ⟨by omega,fun j hj=>by omega,by simp [ZB,ZI],(by and_intros<;>first|omega|rfl|(simp only[↓xP,xT,rL,rB,rA,rS,ZB,List.take_zero,List.map_nil,ZI,List.length_nil,List.length_map]<;>first|done|rfl|omega))⟩).trans rfl
 rintro i st ⟨hle,hat,hq,h0,h2,h55,h56,h57,h9,o9⟩ ih
 by_cases hi:i<l.length
 ·obtain ⟨⟨⟨pl,pu⟩,ps⟩,hp⟩:∃ p,l[i]?=some p:=⟨_,List.getElem?_eq_getElem hi⟩
  have hpv:=ZFP pl pu ps
  cases hpb:ZF ⟨⟨pl,pu⟩,ps⟩
  ·rw [hpb] at hpv
   rw [ZC (fun h=>ZG7 hp hpb (h.2.2.2.2.2.2.2.1 i hi))]
   simp only[↓xP,xT,rL,rB,rA,rS,h0,h2,h55,h56,h57,h9,o9,hi,hp,Piece.u,hpv,List.length_map,ZE]
  rw [hpb] at hpv
  have hps:ps.length≤48:=by
   simp only[ZF,Bool.and_eq_true] at hpb
   exact ZN hpb.1.2
  have hw:=w_succ (i:=i) (by omega)
  have hnx:=ZFC hp
  dsimp only at hnx
  have q1:(ZB (l.take i)).length+ps.length≤maxLen∧((ZB (l.take i)).length+ps.length)*24≤140737488355328:=ZFI (by omega) (by omega)
  have step:AtP l i→∀ j,j<i+1→AtP l j:=fun h j hj=>by
   by_cases e:j=i
   ·subst e; exact h
   ·exact hat j (by omega)
  have hqn:(ZB (l.take (i+1))).length≤48 * (i+1):=by rw [hnx,List.length_append]; omega
  by_cases hi0:i=0
  ·have hz:¬(i:Int) > 0:=by omega
   simp only[↓xP,xT,rL,rB,rA,rS,h0,h2,h55,h56,h57,h9,o9,hi,hp,Piece.u,hpv,hz,hw,List.length_map,q1.1,q1.2]
   exact ih (i+1) _ (by omega) ⟨by omega,step ⟨_,hp,hpb,fun h=>absurd h (by omega)⟩,hqn,(by and_intros<;>first|omega|rfl|(simp only[↓xP,xT,rL,rB,rA,rS,h0,h2,h55,h56,h57,h9,o9,hw,hnx,List.length_append,List.map_append]<;>first|done|rfl|omega))⟩
  ·obtain ⟨⟨⟨ql,qu⟩,qs⟩,hqp⟩:∃ p,l[i - 1]?=some p:=⟨_,List.getElem?_eq_getElem (by omega)⟩
   have hz:(i:Int) > 0:=by omega
   have hwi:IntKind.i64.wrap ((i:Int) - 1)=((i - 1:Nat):Int):=by rw [w64 (by omega) (by omega)]; omega
   have hi1:i - 1<l.length:=by omega
   have hj:=ZFx ql qu pl pu
   unfold ZFi at hj
   cases hjb:ZU ⟨ql,qu⟩ ⟨pl,pu⟩
   ·rw [hjb] at hj
    rw [ZC (fun h=>ZG8 hp (by omega) hqp hjb (h.2.2.2.2.2.2.2.1 i hi))]
    simp only[↓xP,xT,rL,rB,rA,rS,h0,h2,h55,h56,h57,h9,o9,hi,hi1,hp,hqp,Piece.u,hpv,hz,hwi,hj,List.length_map,ZE]
   ·rw [hjb] at hj
    simp only[↓xP,xT,rL,rB,rA,rS,h0,h2,h55,h56,h57,h9,o9,hi,hi1,hp,hqp,Piece.u,hpv,hz,hwi,hj,hw,List.length_map,q1.1,q1.2]
    exact ih (i+1) _ (by omega) ⟨by omega,step ⟨_,hp,hpb,fun _=>⟨_,hqp,hjb⟩⟩,hqn,(by and_intros<;>first|omega|rfl|(simp only[↓xP,xT,rL,rB,rA,rS,h0,h2,h55,h56,h57,h9,o9,hw,hnx,List.length_append,List.map_append]<;>first|done|rfl|omega))⟩
 ·have hil:i=l.length:=by omega
  subst hil
  have hall:∀ j,j<l.length→AtP l j:=hat
  rw [List.take_length] at h9 o9 hq
  by_cases h48:((ZB l).length:Int) > 48
  ·rw [ZC (fun h=>by have:=h.2.2.2.2.2.2.2.2; omega)]
   simp only[↓xP,xT,rL,rB,rA,rS,h0,h2,h55,h56,h57,h9,o9,hi,h48,List.length_map,ZE]
  ·have hok:=base hall (by omega)
   rw [ZFe hok]
   have hsl:=fun (st:St) d (h:st.o (.loc 9 0)=some (.row 2 ((ZB l).map Pair.u)))=>ZHC (d:=d) (n:=(ZB l).length) (m:=min m (ZB l).length) h (by simp) (by omega)
   have hmn:(if (ZB l).length<m then ((ZB l).length:Int) else (m:Int))=((min m (ZB l).length:Nat):Int):=by split<;>omega
   simp only[↓xP,xT,rL,rB,rA,rS,h0,h2,h55,h56,h57,h9,o9,hi,h48,List.length_map,hmn,hsl,ZE]
   have e1:List.take (min m (ZB l).length) (List.map Pair.u (ZB l))=List.map Pair.u (List.take m (ZB l)):=by
    rw [←List.map_take]
    congr 1
    rcases Nat.le_total m (ZB l).length with h|h
    ·rw [Nat.min_eq_left h]
    ·rw [Nat.min_eq_right h,List.take_of_length_le (Nat.le_refl _),List.take_of_length_le h]
   rw [e1]
   simp [sel,List.length_take]
theorem ZGQ {α:Type} (w:α→Nat) (B:Nat):∀ l:List α,(∀ x,x∈l→w x≤B)→sumW w l≤B*l.length
 | [],_=>by simp [sumW]
 | x::l,h=>by
  have h1:=h x (List.mem_cons_self ..)
  have h2:=ZGQ w B l fun y hy=>h y (List.mem_cons_of_mem _ hy)
  simp only[sumW,List.length_cons,Nat.mul_add,Nat.mul_one]
  omega
theorem ZHp (st:St) (d:Nat):st.dead d 3=(isNo (st.o (.loc d 0))&&(isNo (st.o (.loc d 1))&&isNo (st.o (.loc d 2)))):=by simp [St.dead,isNo,List.range_succ,Bool.and_assoc]
theorem app3 (st:St) (d:Nat) (v:D) (a b c:Id) (x y z:Obj) (rd:List Id):Fx.app ⟨some d,v,[(a,x),(b,y),(c,z)],rd⟩ st=(((st.obj a (some x)).obj b (some y)).obj c (some z)).put d v:=rfl
set_option maxHeartbeats 4000000 in
theorem law_FnExactStitchPieces (u:U) (hu:UT (.sl [.s,.s,.sl [.s,.i .i64]]) u) (us':List U) (hl':us'.length=2) (ht':∀ (j:Nat) ty u,[Ty.s,.s][j]?=some ty→us'[j]?=some u→UT ty u) (u':U) (hu':UT (.i .i64) u'):EE F 3 [.sc (.u u),.ag (us'.map .u),.sc (.u u')] []=ok1 (B true):=by
 obtain ⟨l,rfl,hf⟩:=hu.sl_of Piece.of
 obtain ⟨⟨lo,hi⟩,rfl,hf'⟩:=Interval.of us' hl' ht'
 obtain ⟨n,rfl,_⟩:=hu'.int_of
 rw [R3,b3]
 simp only[↓xP,xT,rL,rB,rA,rS,List.length_cons,List.length_nil,Interval.u,List.map,ZGu l hf,ZFp]
 refine ZiJ (fun h=>?_) (fun h=>?_)
 ·rfl
 refine ZiJ (fun h2=>?_) (fun h2=>?_)
 ·rfl
 simp only[decide_eq_false_iff_not] at h h2
 have hs:=(ZGt l hf 1048576 (by omega) (by omega)).2 (by omega)
 have hl:=hs.1
 have hi':=ZFF l lo hi n hl
 have hsp:=ZFG l lo hi n hl
 have hsum:sumW wPc l≤2200000*l.length:=ZGQ _ _ _ fun x hx=>by
  have:=(hs.2 x hx).2.1.1
  simp only[wPc,cPc]; omega
 have hsum2:sumW wPc l≤2200000*1048576:=Nat.le_trans hsum (Nat.mul_le_mul_left _ hl)
 have hmp:=ZF1 l 1 (by omega) (by omega)
 have hg:¬(1:Int) + (sumW wPc l:Int)<0:=by omega
 have ep:=ZGi l hs
 have tp:=ZGv l hs
 have hm:∀ m,Z3 l ⟨lo,hi⟩ n=some m→m.length≤48∧∀ p,p∈m→ZFR p:=by
  intro m hm
  by_cases hok:Z6 l ⟨lo,hi⟩ n
  ·rw [ZFe hok] at hm
   cases hm
   have:=hok.2.2.2.2.2.2.2.2
   exact ⟨by rw [List.length_take]; omega,fun p hp=>(ZF5 hok.2.2.2.2.2.2.2.1).1 p (List.mem_of_mem_take hp)⟩
  ·rw [ZC hok] at hm; cases hm
 generalize Z3 l ⟨lo,hi⟩ n=x at hi' hsp hm
 cases x with
 | some m=>
  obtain ⟨hl48,hfit⟩:=hm m rfl
  have hR:ZS m:=⟨by omega,fun y hy=>⟨ZGV (hfit y hy).1,trivial⟩⟩
  have he:=ZFs m hR
  have hm3:=Z8 m 1 (by omega) (by omega)
  have hh:=ZFw m.length 1 (by omega) (by omega)
  have hg2:¬(1:Int)+2 * (m.length:Int)<0:=by omega
  simp only[ZE] at hsp hi'
  simp only[↓xP,xT,rL,rB,rA,rS,rdx,rdx2,ofR,ZHp,app3,ZHq,List.getElem?_nil,Z4,tp,hi',hsp,ep,he,hmp,hm3,hh,hg,hg2,ZR,ZGo,ZY,ZFk,List.length_map,Nat.le_refl,ne_eq,not_true_eq_false]
  done
 | none=>
  have he:=ZFs [] ⟨by simp,fun y hy=>(by cases hy)⟩
  have hm3:=Z8 [] 1 (by omega) (by simp)
  have hh:=ZFw 0 1 (by omega) (by omega)
  have em:mkL ZP 2 1 0=[]:=rfl
  simp only[em,List.map_nil,List.length_nil] at he hm3 hh
  have hg2:¬(1:Int)+2 * ((0:Nat):Int)<0:=by omega
  simp only[ZE] at hsp hi'
  simp only[↓xP,xT,rL,rB,rA,rS,rdx,rdx2,ofR,ZHp,app3,ZHq,List.getElem?_nil,Z4,tp,hi',hsp,ep,he,hmp,hm3,hh,hg,hg2,ZR,ZGo,ZY,ZFk,List.length_map,List.map_nil,List.length_nil,List.take_nil,Nat.le_refl,ne_eq,not_true_eq_false]
  done
end Go.Proofs.YtfajcehhcjmofaaV
