/- Lemmas of functions that the law FnExactClusterScan reaches. No conditions but those that the lemmas state. -/
import Derived.Test.YtfajcehhcjmofaaGreatJ
import Derived.Test.YtfajcehhcjmofaaGreatS7
import Derived.Test.YtfajcehhcjmofaaGreatS8
import Derived.Test.YtfajcehhcjmofaaGreatV28
namespace Go.Proofs.YtfajcehhcjmofaaGreatV
open Go Go.RowKit
open Nat renaming reduceLT → rL, reduceAdd → rA, reduceSub → rS, reduceBEq → rB
open IOp (dst isF args)
set_option linter.unusedVariables false
set_option linter.unusedSimpArgs false
set_option maxRecDepth 4000
abbrev Str:=List UInt8
abbrev B (b:Bool):T:=.sc (.u (.bool b))
abbrev S (b:Str):T:=.sc (.u (.str b))
abbrev I (n:Int):T:=.sc (.u (.int .i64 n))
abbrev L (z:Nat) (r:List (List U)):T:=.sc (.u (.sl z r))
abbrev ok1 (t:T):Option Ret:=some ⟨[t],[],[]⟩
def iU (n:Int):List U:=[.int .i64 n]
def bU (b:Bool):List U:=[.bool b]
def Z9 (x:Int):Prop:=-9223372036854775808≤x∧x≤9223372036854775807
theorem UT.int_of {u:U} (h:UT (.i .i64) u):∃ n,u=.int .i64 n∧Z9 n:=by
 cases h with
 | i k n h=>exact ⟨n,rfl,bounds_i64 h⟩
theorem UT.u8_of {u:U} (h:UT (.i .u8) u):∃ n,u=.int .u8 n∧0≤n∧n≤255:=by
 cases h with
 | i k n h=>exact ⟨n,rfl,bounds_u8 h⟩
theorem UT.bool_of {u:U} (h:UT .b u):∃ b,u=.bool b:=by
 cases h with
 | b x=>exact ⟨x,rfl⟩
theorem UT.str_of {u:U} (h:UT .s u):∃ s,u=.str s∧s.length≤9223372036854775807:=by
 cases h with
 | s x h=>exact ⟨x,rfl,h⟩
theorem ZNg {α:Type} {f:α→List U} {p:α→Prop}:∀ {rows:List (List U)},(∀ row,row∈rows→∃ x,row=f x∧p x)→∃ l:List α,rows=l.map f∧∀ y,y∈l→p y
 | [],_=>⟨[],rfl,fun y h=>by cases h⟩
 | r::rs,h=>by
  obtain ⟨x,hx,px⟩:=h r (List.mem_cons_self ..)
  obtain ⟨l,hl,pl⟩:=ZNg (rows:=rs) (fun row hr=>h row (List.mem_cons_of_mem _ hr))
  refine ⟨x::l,by rw [hx,hl]; rfl,fun y hy=>?_⟩
  rcases List.mem_cons.1 hy with rfl|hy
  ·exact px
  ·exact pl y hy
theorem UT.sl_of {fs:List Ty} {u:U} (h:UT (.sl fs) u) {α:Type} {f:α→List U} {p:α→Prop} (he:∀ us:List U,us.length=fs.length→(∀ (j:Nat) ty u,fs[j]?=some ty→us[j]?=some u→UT ty u)→∃ x,us=f x∧p x) :
  ∃ l:List α,u=.sl fs.length (l.map f)∧l.length≤9223372036854775807∧∀ y,y∈l→p y:=by
 cases h with
 | sl _ rows hl hr hc=>
  obtain ⟨l,rfl,hp⟩:=ZNg (f:=f) (p:=p) (rows:=rows) (fun row hrow=>he row (hr row hrow) (fun j ty u hj hu=>by
   obtain ⟨i,hi⟩:=List.mem_iff_getElem?.1 hrow
   exact hc i j row ty u hi hj hu))
  have hm:maxLen=9223372036854775807:=by decide
  rw [hm,List.length_map] at hl
  exact ⟨l,rfl,hl,hp⟩
theorem ZL8 (us:List U) (hl:us.length=1) (ht:∀ (j:Nat) ty u,[Ty.i .i64][j]?=some ty→us[j]?=some u→UT ty u):∃ x,us=iU x∧Z9 x:=by
 match us,hl with
 | [a],_=>obtain ⟨n,rfl,h⟩:=(ht 0 _ a rfl rfl).int_of; exact ⟨n,rfl,h⟩
theorem ZOC (us:List U) (hl:us.length=1) (ht:∀ (j:Nat) ty u,[Ty.b][j]?=some ty→us[j]?=some u→UT ty u):∃ x,us=bU x∧True:=by
 match us,hl with
 | [a],_=>obtain ⟨n,rfl⟩:=(ht 0 _ a rfl rfl).bool_of; exact ⟨n,rfl,trivial⟩
structure Yj where
 low:Str
 high:Str
def Yj.u (x:Yj):List U:=[.str x.low,.str x.high]
def Yj.Fit (x:Yj):Prop:=x.low.length≤9223372036854775807∧x.high.length≤9223372036854775807
theorem Yj.of (us:List U) (hl:us.length=2) (ht:∀ (j:Nat) ty u,[Ty.s,.s][j]?=some ty→us[j]?=some u→UT ty u):∃ x,us=Yj.u x∧Yj.Fit x:=by
 match us,hl with
 | [c0,c1],_=>
  obtain ⟨x0,rfl,f0⟩:=(ht 0 _ c0 rfl rfl).str_of
  obtain ⟨x1,rfl,f1⟩:=(ht 1 _ c1 rfl rfl).str_of
  exact ⟨⟨x0,x1⟩,rfl,⟨f0,f1⟩⟩
structure Yl where
 key:Str
 value:Int
def Yl.u (x:Yl):List U:=[.str x.key,.int .i64 x.value]
def Yl.Fit (x:Yl):Prop:=x.key.length≤9223372036854775807∧Z9 x.value
theorem Yl.of (us:List U) (hl:us.length=2) (ht:∀ (j:Nat) ty u,[Ty.s,.i .i64][j]?=some ty→us[j]?=some u→UT ty u):∃ x,us=Yl.u x∧Yl.Fit x:=by
 match us,hl with
 | [c0,c1],_=>
  obtain ⟨x0,rfl,f0⟩:=(ht 0 _ c0 rfl rfl).str_of
  obtain ⟨x1,rfl,f1⟩:=(ht 1 _ c1 rfl rfl).int_of
  exact ⟨⟨x0,x1⟩,rfl,⟨f0,f1⟩⟩
structure Ye where
 kind:Int
 key:Str
 value:Int
 old:Int
def Ye.u (x:Ye):List U:=[.int .i64 x.kind,.str x.key,.int .i64 x.value,.int .i64 x.old]
def Ye.Fit (x:Ye):Prop:=Z9 x.kind∧x.key.length≤9223372036854775807∧Z9 x.value∧Z9 x.old
theorem Ye.of (us:List U) (hl:us.length=4) (ht:∀ (j:Nat) ty u,[Ty.i .i64,.s,.i .i64,.i .i64][j]?=some ty→us[j]?=some u→UT ty u):∃ x,us=Ye.u x∧Ye.Fit x:=by
 match us,hl with
 | [c0,c1,c2,c3],_=>
  obtain ⟨x0,rfl,f0⟩:=(ht 0 _ c0 rfl rfl).int_of
  obtain ⟨x1,rfl,f1⟩:=(ht 1 _ c1 rfl rfl).str_of
  obtain ⟨x2,rfl,f2⟩:=(ht 2 _ c2 rfl rfl).int_of
  obtain ⟨x3,rfl,f3⟩:=(ht 3 _ c3 rfl rfl).int_of
  exact ⟨⟨x0,x1,x2,x3⟩,rfl,⟨f0,f1,f2,f3⟩⟩
structure Yr where
 client:Int
 seq:Int
 reply:Int
def Yr.u (x:Yr):List U:=[.int .i64 x.client,.int .i64 x.seq,.int .i64 x.reply]
def Yr.Fit (x:Yr):Prop:=Z9 x.client∧Z9 x.seq∧Z9 x.reply
theorem Yr.of (us:List U) (hl:us.length=3) (ht:∀ (j:Nat) ty u,[Ty.i .i64,.i .i64,.i .i64][j]?=some ty→us[j]?=some u→UT ty u):∃ x,us=Yr.u x∧Yr.Fit x:=by
 match us,hl with
 | [c0,c1,c2],_=>
  obtain ⟨x0,rfl,f0⟩:=(ht 0 _ c0 rfl rfl).int_of
  obtain ⟨x1,rfl,f1⟩:=(ht 1 _ c1 rfl rfl).int_of
  obtain ⟨x2,rfl,f2⟩:=(ht 2 _ c2 rfl rfl).int_of
  exact ⟨⟨x0,x1,x2⟩,rfl,⟨f0,f1,f2⟩⟩
structure Yh where
 client:Int
 seq:Int
 cmd:Ye
def Yh.u (x:Yh):List U:=[.int .i64 x.client,.int .i64 x.seq,.int .i64 x.cmd.kind,.str x.cmd.key,.int .i64 x.cmd.value,.int .i64 x.cmd.old]
def Yh.Fit (x:Yh):Prop:=Z9 x.client∧Z9 x.seq∧Ye.Fit x.cmd
theorem Yh.of (us:List U) (hl:us.length=6) (ht:∀ (j:Nat) ty u,[Ty.i .i64,.i .i64,.i .i64,.s,.i .i64,.i .i64][j]?=some ty→us[j]?=some u→UT ty u):∃ x,us=Yh.u x∧Yh.Fit x:=by
 match us,hl with
 | [c0,c1,c2,c3,c4,c5],_=>
  obtain ⟨x0,rfl,f0⟩:=(ht 0 _ c0 rfl rfl).int_of
  obtain ⟨x1,rfl,f1⟩:=(ht 1 _ c1 rfl rfl).int_of
  obtain ⟨x2,rfl,f2⟩:=(ht 2 _ c2 rfl rfl).int_of
  obtain ⟨x3,rfl,f3⟩:=(ht 3 _ c3 rfl rfl).str_of
  obtain ⟨x4,rfl,f4⟩:=(ht 4 _ c4 rfl rfl).int_of
  obtain ⟨x5,rfl,f5⟩:=(ht 5 _ c5 rfl rfl).int_of
  exact ⟨⟨x0,x1,⟨x2,x3,x4,x5⟩⟩,rfl,⟨f0,f1,⟨f2,f3,f4,f5⟩⟩⟩
structure Ya where
 asked:Yh
 reply:Int
def Ya.u (x:Ya):List U:=[.int .i64 x.asked.client,.int .i64 x.asked.seq,.int .i64 x.asked.cmd.kind,.str x.asked.cmd.key,.int .i64 x.asked.cmd.value,.int .i64 x.asked.cmd.old,.int .i64 x.reply]
def Ya.Fit (x:Ya):Prop:=Yh.Fit x.asked∧Z9 x.reply
theorem Ya.of (us:List U) (hl:us.length=7) (ht:∀ (j:Nat) ty u,[Ty.i .i64,.i .i64,.i .i64,.s,.i .i64,.i .i64,.i .i64][j]?=some ty→us[j]?=some u→UT ty u):∃ x,us=Ya.u x∧Ya.Fit x:=by
 match us,hl with
 | [c0,c1,c2,c3,c4,c5,c6],_=>
  obtain ⟨x0,rfl,f0⟩:=(ht 0 _ c0 rfl rfl).int_of
  obtain ⟨x1,rfl,f1⟩:=(ht 1 _ c1 rfl rfl).int_of
  obtain ⟨x2,rfl,f2⟩:=(ht 2 _ c2 rfl rfl).int_of
  obtain ⟨x3,rfl,f3⟩:=(ht 3 _ c3 rfl rfl).str_of
  obtain ⟨x4,rfl,f4⟩:=(ht 4 _ c4 rfl rfl).int_of
  obtain ⟨x5,rfl,f5⟩:=(ht 5 _ c5 rfl rfl).int_of
  obtain ⟨x6,rfl,f6⟩:=(ht 6 _ c6 rfl rfl).int_of
  exact ⟨⟨⟨x0,x1,⟨x2,x3,x4,x5⟩⟩,x6⟩,rfl,⟨⟨f0,f1,⟨f2,f3,f4,f5⟩⟩,f6⟩⟩
structure Yt where
 span:Yj
 pairs:(List Yl)
 known:(List Yr)
 sealed:Bool
 cut:Str
def Yt.u (x:Yt):List U:=[.str x.span.low,.str x.span.high,.sl 2 (x.pairs.map Yl.u),.sl 3 (x.known.map Yr.u),.bool x.sealed,.str x.cut]
def Yt.Fit (x:Yt):Prop:=Yj.Fit x.span∧(x.pairs.length≤9223372036854775807∧∀ y,y∈x.pairs→Yl.Fit y)∧(x.known.length≤9223372036854775807∧∀ y,y∈x.known→Yr.Fit y)∧True∧x.cut.length≤9223372036854775807
theorem Yt.of (us:List U) (hl:us.length=6) (ht:∀ (j:Nat) ty u,[Ty.s,.s,.sl [.s,.i .i64],.sl [.i .i64,.i .i64,.i .i64],.b,.s][j]?=some ty→us[j]?=some u→UT ty u):∃ x,us=Yt.u x∧Yt.Fit x:=by
 match us,hl with
 | [c0,c1,c2,c3,c4,c5],_=>
  obtain ⟨x0,rfl,f0⟩:=(ht 0 _ c0 rfl rfl).str_of
  obtain ⟨x1,rfl,f1⟩:=(ht 1 _ c1 rfl rfl).str_of
  obtain ⟨x2,rfl,f2⟩:=(ht 2 _ c2 rfl rfl).sl_of Yl.of
  obtain ⟨x3,rfl,f3⟩:=(ht 3 _ c3 rfl rfl).sl_of Yr.of
  obtain ⟨x4,rfl⟩:=(ht 4 _ c4 rfl rfl).bool_of
  obtain ⟨x5,rfl,f5⟩:=(ht 5 _ c5 rfl rfl).str_of
  exact ⟨⟨⟨x0,x1⟩,x2,x3,x4,x5⟩,rfl,⟨⟨f0,f1⟩,f2,f3,trivial,f5⟩⟩
structure Ym where
 span:Yj
 pairs:(List Yl)
def Ym.u (x:Ym):List U:=[.str x.span.low,.str x.span.high,.sl 2 (x.pairs.map Yl.u)]
def Ym.Fit (x:Ym):Prop:=Yj.Fit x.span∧(x.pairs.length≤9223372036854775807∧∀ y,y∈x.pairs→Yl.Fit y)
theorem Ym.of (us:List U) (hl:us.length=3) (ht:∀ (j:Nat) ty u,[Ty.s,.s,.sl [.s,.i .i64]][j]?=some ty→us[j]?=some u→UT ty u):∃ x,us=Ym.u x∧Ym.Fit x:=by
 match us,hl with
 | [c0,c1,c2],_=>
  obtain ⟨x0,rfl,f0⟩:=(ht 0 _ c0 rfl rfl).str_of
  obtain ⟨x1,rfl,f1⟩:=(ht 1 _ c1 rfl rfl).str_of
  obtain ⟨x2,rfl,f2⟩:=(ht 2 _ c2 rfl rfl).sl_of Yl.of
  exact ⟨⟨⟨x0,x1⟩,x2⟩,rfl,⟨⟨f0,f1⟩,f2⟩⟩
structure Yf where
 epoch:Int
 members:(List Int)
 fresh:Bool
def Yf.u (x:Yf):List U:=[.int .i64 x.epoch,.sl 1 (x.members.map iU),.bool x.fresh]
def Yf.Fit (x:Yf):Prop:=Z9 x.epoch∧(x.members.length≤9223372036854775807∧∀ y,y∈x.members→Z9 y)∧True
theorem Yf.of (us:List U) (hl:us.length=3) (ht:∀ (j:Nat) ty u,[Ty.i .i64,.sl [.i .i64],.b][j]?=some ty→us[j]?=some u→UT ty u):∃ x,us=Yf.u x∧Yf.Fit x:=by
 match us,hl with
 | [c0,c1,c2],_=>
  obtain ⟨x0,rfl,f0⟩:=(ht 0 _ c0 rfl rfl).int_of
  obtain ⟨x1,rfl,f1⟩:=(ht 1 _ c1 rfl rfl).sl_of ZL8
  obtain ⟨x2,rfl⟩:=(ht 2 _ c2 rfl rfl).bool_of
  exact ⟨⟨x0,x1,x2⟩,rfl,⟨f0,f1,trivial⟩⟩
structure Yi where
 kind:Int
 node:Int
 place:Int
 sent:Yh
def Yi.u (x:Yi):List U:=[.int .i64 x.kind,.int .i64 x.node,.int .i64 x.place,.int .i64 x.sent.client,.int .i64 x.sent.seq,.int .i64 x.sent.cmd.kind,.str x.sent.cmd.key,.int .i64 x.sent.cmd.value,.int .i64 x.sent.cmd.old]
def Yi.Fit (x:Yi):Prop:=Z9 x.kind∧Z9 x.node∧Z9 x.place∧Yh.Fit x.sent
theorem Yi.of (us:List U) (hl:us.length=9) (ht:∀ (j:Nat) ty u,[Ty.i .i64,.i .i64,.i .i64,.i .i64,.i .i64,.i .i64,.s,.i .i64,.i .i64][j]?=some ty→us[j]?=some u→UT ty u):∃ x,us=Yi.u x∧Yi.Fit x:=by
 match us,hl with
 | [c0,c1,c2,c3,c4,c5,c6,c7,c8],_=>
  obtain ⟨x0,rfl,f0⟩:=(ht 0 _ c0 rfl rfl).int_of
  obtain ⟨x1,rfl,f1⟩:=(ht 1 _ c1 rfl rfl).int_of
  obtain ⟨x2,rfl,f2⟩:=(ht 2 _ c2 rfl rfl).int_of
  obtain ⟨x3,rfl,f3⟩:=(ht 3 _ c3 rfl rfl).int_of
  obtain ⟨x4,rfl,f4⟩:=(ht 4 _ c4 rfl rfl).int_of
  obtain ⟨x5,rfl,f5⟩:=(ht 5 _ c5 rfl rfl).int_of
  obtain ⟨x6,rfl,f6⟩:=(ht 6 _ c6 rfl rfl).str_of
  obtain ⟨x7,rfl,f7⟩:=(ht 7 _ c7 rfl rfl).int_of
  obtain ⟨x8,rfl,f8⟩:=(ht 8 _ c8 rfl rfl).int_of
  exact ⟨⟨x0,x1,x2,⟨x3,x4,⟨x5,x6,x7,x8⟩⟩⟩,rfl,⟨f0,f1,f2,⟨f3,f4,⟨f5,f6,f7,f8⟩⟩⟩⟩
structure Yn where
 kind:Int
 first:Int
 second:Int
 key:Str
 from_:Int
 to_:Int
 step:Int
def Yn.u (x:Yn):List U:=[.int .i64 x.kind,.int .i64 x.first,.int .i64 x.second,.str x.key,.int .i64 x.from_,.int .i64 x.to_,.int .i64 x.step]
def Yn.Fit (x:Yn):Prop:=Z9 x.kind∧Z9 x.first∧Z9 x.second∧x.key.length≤9223372036854775807∧Z9 x.from_∧Z9 x.to_∧Z9 x.step
theorem Yn.of (us:List U) (hl:us.length=7) (ht:∀ (j:Nat) ty u,[Ty.i .i64,.i .i64,.i .i64,.s,.i .i64,.i .i64,.i .i64][j]?=some ty→us[j]?=some u→UT ty u):∃ x,us=Yn.u x∧Yn.Fit x:=by
 match us,hl with
 | [c0,c1,c2,c3,c4,c5,c6],_=>
  obtain ⟨x0,rfl,f0⟩:=(ht 0 _ c0 rfl rfl).int_of
  obtain ⟨x1,rfl,f1⟩:=(ht 1 _ c1 rfl rfl).int_of
  obtain ⟨x2,rfl,f2⟩:=(ht 2 _ c2 rfl rfl).int_of
  obtain ⟨x3,rfl,f3⟩:=(ht 3 _ c3 rfl rfl).str_of
  obtain ⟨x4,rfl,f4⟩:=(ht 4 _ c4 rfl rfl).int_of
  obtain ⟨x5,rfl,f5⟩:=(ht 5 _ c5 rfl rfl).int_of
  obtain ⟨x6,rfl,f6⟩:=(ht 6 _ c6 rfl rfl).int_of
  exact ⟨⟨x0,x1,x2,x3,x4,x5,x6⟩,rfl,⟨f0,f1,f2,f3,f4,f5,f6⟩⟩
structure Yg where
 kind:Int
 who:Int
 node:Int
 number:Int
 wish:Ye
 inner:Yi
 work:Yn
def Yg.u (x:Yg):List U:=[.int .i64 x.kind,.int .i64 x.who,.int .i64 x.node,.int .i64 x.number,.int .i64 x.wish.kind,.str x.wish.key,.int .i64 x.wish.value,.int .i64 x.wish.old,.int .i64 x.inner.kind,.int .i64 x.inner.node,.int .i64 x.inner.place,.int .i64 x.inner.sent.client,.int .i64 x.inner.sent.seq,.int .i64 x.inner.sent.cmd.kind,.str x.inner.sent.cmd.key,.int .i64 x.inner.sent.cmd.value,.int .i64 x.inner.sent.cmd.old,.int .i64 x.work.kind,.int .i64 x.work.first,.int .i64 x.work.second,.str x.work.key,.int .i64 x.work.from_,.int .i64 x.work.to_,.int .i64 x.work.step]
def Yg.Fit (x:Yg):Prop:=Z9 x.kind∧Z9 x.who∧Z9 x.node∧Z9 x.number∧Ye.Fit x.wish∧Yi.Fit x.inner∧Yn.Fit x.work
theorem Yg.of (us:List U) (hl:us.length=24) (ht:∀ (j:Nat) ty u,[Ty.i .i64,.i .i64,.i .i64,.i .i64,.i .i64,.s,.i .i64,.i .i64,.i .i64,.i .i64,.i .i64,.i .i64,.i .i64,.i .i64,.s,.i .i64,.i .i64,.i .i64,.i .i64,.i .i64,.s,.i .i64,.i .i64,.i .i64][j]?=some ty→us[j]?=some u→UT ty u):∃ x,us=Yg.u x∧Yg.Fit x:=by
 match us,hl with
 | [c0,c1,c2,c3,c4,c5,c6,c7,c8,c9,c10,c11,c12,c13,c14,c15,c16,c17,c18,c19,c20,c21,c22,c23],_=>
  obtain ⟨x0,rfl,f0⟩:=(ht 0 _ c0 rfl rfl).int_of
  obtain ⟨x1,rfl,f1⟩:=(ht 1 _ c1 rfl rfl).int_of
  obtain ⟨x2,rfl,f2⟩:=(ht 2 _ c2 rfl rfl).int_of
  obtain ⟨x3,rfl,f3⟩:=(ht 3 _ c3 rfl rfl).int_of
  obtain ⟨x4,rfl,f4⟩:=(ht 4 _ c4 rfl rfl).int_of
  obtain ⟨x5,rfl,f5⟩:=(ht 5 _ c5 rfl rfl).str_of
  obtain ⟨x6,rfl,f6⟩:=(ht 6 _ c6 rfl rfl).int_of
  obtain ⟨x7,rfl,f7⟩:=(ht 7 _ c7 rfl rfl).int_of
  obtain ⟨x8,rfl,f8⟩:=(ht 8 _ c8 rfl rfl).int_of
  obtain ⟨x9,rfl,f9⟩:=(ht 9 _ c9 rfl rfl).int_of
  obtain ⟨x10,rfl,f10⟩:=(ht 10 _ c10 rfl rfl).int_of
  obtain ⟨x11,rfl,f11⟩:=(ht 11 _ c11 rfl rfl).int_of
  obtain ⟨x12,rfl,f12⟩:=(ht 12 _ c12 rfl rfl).int_of
  obtain ⟨x13,rfl,f13⟩:=(ht 13 _ c13 rfl rfl).int_of
  obtain ⟨x14,rfl,f14⟩:=(ht 14 _ c14 rfl rfl).str_of
  obtain ⟨x15,rfl,f15⟩:=(ht 15 _ c15 rfl rfl).int_of
  obtain ⟨x16,rfl,f16⟩:=(ht 16 _ c16 rfl rfl).int_of
  obtain ⟨x17,rfl,f17⟩:=(ht 17 _ c17 rfl rfl).int_of
  obtain ⟨x18,rfl,f18⟩:=(ht 18 _ c18 rfl rfl).int_of
  obtain ⟨x19,rfl,f19⟩:=(ht 19 _ c19 rfl rfl).int_of
  obtain ⟨x20,rfl,f20⟩:=(ht 20 _ c20 rfl rfl).str_of
  obtain ⟨x21,rfl,f21⟩:=(ht 21 _ c21 rfl rfl).int_of
  obtain ⟨x22,rfl,f22⟩:=(ht 22 _ c22 rfl rfl).int_of
  obtain ⟨x23,rfl,f23⟩:=(ht 23 _ c23 rfl rfl).int_of
  exact ⟨⟨x0,x1,x2,x3,⟨x4,x5,x6,x7⟩,⟨x8,x9,x10,⟨x11,x12,⟨x13,x14,x15,x16⟩⟩⟩,⟨x17,x18,x19,x20,x21,x22,x23⟩⟩,rfl,⟨f0,f1,f2,f3,⟨f4,f5,f6,f7⟩,⟨f8,f9,f10,⟨f11,f12,⟨f13,f14,f15,f16⟩⟩⟩,⟨f17,f18,f19,f20,f21,f22,f23⟩⟩⟩
structure Yo where
 conf:Yf
 ready:Bool
 log:(List Yh)
def Yo.u (x:Yo):List U:=[.int .i64 x.conf.epoch,.sl 1 (x.conf.members.map iU),.bool x.conf.fresh,.bool x.ready,.sl 6 (x.log.map Yh.u)]
def Yo.Fit (x:Yo):Prop:=Yf.Fit x.conf∧True∧(x.log.length≤9223372036854775807∧∀ y,y∈x.log→Yh.Fit y)
theorem Yo.of (us:List U) (hl:us.length=5) (ht:∀ (j:Nat) ty u,[Ty.i .i64,.sl [.i .i64],.b,.b,.sl [.i .i64,.i .i64,.i .i64,.s,.i .i64,.i .i64]][j]?=some ty→us[j]?=some u→UT ty u):∃ x,us=Yo.u x∧Yo.Fit x:=by
 match us,hl with
 | [c0,c1,c2,c3,c4],_=>
  obtain ⟨x0,rfl,f0⟩:=(ht 0 _ c0 rfl rfl).int_of
  obtain ⟨x1,rfl,f1⟩:=(ht 1 _ c1 rfl rfl).sl_of ZL8
  obtain ⟨x2,rfl⟩:=(ht 2 _ c2 rfl rfl).bool_of
  obtain ⟨x3,rfl⟩:=(ht 3 _ c3 rfl rfl).bool_of
  obtain ⟨x4,rfl,f4⟩:=(ht 4 _ c4 rfl rfl).sl_of Yh.of
  exact ⟨⟨⟨x0,x1,x2⟩,x3,x4⟩,rfl,⟨⟨f0,f1,trivial⟩,trivial,f4⟩⟩
structure Yk where
 kind:Int
 to_:Int
 epoch:Int
 conf:Yf
 log:(List Yh)
def Yk.u (x:Yk):List U:=[.int .i64 x.kind,.int .i64 x.to_,.int .i64 x.epoch,.int .i64 x.conf.epoch,.sl 1 (x.conf.members.map iU),.bool x.conf.fresh,.sl 6 (x.log.map Yh.u)]
def Yk.Fit (x:Yk):Prop:=Z9 x.kind∧Z9 x.to_∧Z9 x.epoch∧Yf.Fit x.conf∧(x.log.length≤9223372036854775807∧∀ y,y∈x.log→Yh.Fit y)
theorem Yk.of (us:List U) (hl:us.length=7) (ht:∀ (j:Nat) ty u,[Ty.i .i64,.i .i64,.i .i64,.i .i64,.sl [.i .i64],.b,.sl [.i .i64,.i .i64,.i .i64,.s,.i .i64,.i .i64]][j]?=some ty→us[j]?=some u→UT ty u):∃ x,us=Yk.u x∧Yk.Fit x:=by
 match us,hl with
 | [c0,c1,c2,c3,c4,c5,c6],_=>
  obtain ⟨x0,rfl,f0⟩:=(ht 0 _ c0 rfl rfl).int_of
  obtain ⟨x1,rfl,f1⟩:=(ht 1 _ c1 rfl rfl).int_of
  obtain ⟨x2,rfl,f2⟩:=(ht 2 _ c2 rfl rfl).int_of
  obtain ⟨x3,rfl,f3⟩:=(ht 3 _ c3 rfl rfl).int_of
  obtain ⟨x4,rfl,f4⟩:=(ht 4 _ c4 rfl rfl).sl_of ZL8
  obtain ⟨x5,rfl⟩:=(ht 5 _ c5 rfl rfl).bool_of
  obtain ⟨x6,rfl,f6⟩:=(ht 6 _ c6 rfl rfl).sl_of Yh.of
  exact ⟨⟨x0,x1,x2,⟨x3,x4,x5⟩,x6⟩,rfl,⟨f0,f1,f2,⟨f3,f4,trivial⟩,f6⟩⟩
structure Yc where
 base:Yt
 conf:Yf
 nodes:(List Yo)
 up:(List Bool)
 bag:(List Yk)
 answers:(List Ya)
def Yc.u (x:Yc):List U:=[.str x.base.span.low,.str x.base.span.high,.sl 2 (x.base.pairs.map Yl.u),.sl 3 (x.base.known.map Yr.u),.bool x.base.sealed,.str x.base.cut,.int .i64 x.conf.epoch,.sl 1 (x.conf.members.map iU),.bool x.conf.fresh,.sl 5 (x.nodes.map Yo.u),.sl 1 (x.up.map bU),.sl 7 (x.bag.map Yk.u),.sl 7 (x.answers.map Ya.u)]
def Yc.Fit (x:Yc):Prop:=Yt.Fit x.base∧Yf.Fit x.conf∧(x.nodes.length≤9223372036854775807∧∀ y,y∈x.nodes→Yo.Fit y)∧(x.up.length≤9223372036854775807∧∀ y,y∈x.up→True)∧(x.bag.length≤9223372036854775807∧∀ y,y∈x.bag→Yk.Fit y)∧(x.answers.length≤9223372036854775807∧∀ y,y∈x.answers→Ya.Fit y)
theorem Yc.of (us:List U) (hl:us.length=13) (ht:∀ (j:Nat) ty u,[Ty.s,.s,.sl [.s,.i .i64],.sl [.i .i64,.i .i64,.i .i64],.b,.s,.i .i64,.sl [.i .i64],.b,.sl [.i .i64,.sl [.i .i64],.b,.b,.sl [.i .i64,.i .i64,.i .i64,.s,.i .i64,.i .i64]],.sl [.b],.sl [.i .i64,.i .i64,.i .i64,.i .i64,.sl [.i .i64],.b,.sl [.i .i64,.i .i64,.i .i64,.s,.i .i64,.i .i64]],.sl [.i .i64,.i .i64,.i .i64,.s,.i .i64,.i .i64,.i .i64]][j]?=some ty→us[j]?=some u→UT ty u):∃ x,us=Yc.u x∧Yc.Fit x:=by
 match us,hl with
 | [c0,c1,c2,c3,c4,c5,c6,c7,c8,c9,c10,c11,c12],_=>
  obtain ⟨x0,rfl,f0⟩:=(ht 0 _ c0 rfl rfl).str_of
  obtain ⟨x1,rfl,f1⟩:=(ht 1 _ c1 rfl rfl).str_of
  obtain ⟨x2,rfl,f2⟩:=(ht 2 _ c2 rfl rfl).sl_of Yl.of
  obtain ⟨x3,rfl,f3⟩:=(ht 3 _ c3 rfl rfl).sl_of Yr.of
  obtain ⟨x4,rfl⟩:=(ht 4 _ c4 rfl rfl).bool_of
  obtain ⟨x5,rfl,f5⟩:=(ht 5 _ c5 rfl rfl).str_of
  obtain ⟨x6,rfl,f6⟩:=(ht 6 _ c6 rfl rfl).int_of
  obtain ⟨x7,rfl,f7⟩:=(ht 7 _ c7 rfl rfl).sl_of ZL8
  obtain ⟨x8,rfl⟩:=(ht 8 _ c8 rfl rfl).bool_of
  obtain ⟨x9,rfl,f9⟩:=(ht 9 _ c9 rfl rfl).sl_of Yo.of
  obtain ⟨x10,rfl,f10⟩:=(ht 10 _ c10 rfl rfl).sl_of ZOC
  obtain ⟨x11,rfl,f11⟩:=(ht 11 _ c11 rfl rfl).sl_of Yk.of
  obtain ⟨x12,rfl,f12⟩:=(ht 12 _ c12 rfl rfl).sl_of Ya.of
  exact ⟨⟨⟨⟨x0,x1⟩,x2,x3,x4,x5⟩,⟨x6,x7,x8⟩,x9,x10,x11,x12⟩,rfl,⟨⟨⟨f0,f1⟩,f2,f3,trivial,f5⟩,⟨f6,f7,trivial⟩,f9,f10,f11,f12⟩⟩
structure Yq where
 number:Int
 span:Yj
def Yq.u (x:Yq):List U:=[.int .i64 x.number,.str x.span.low,.str x.span.high]
def Yq.Fit (x:Yq):Prop:=Z9 x.number∧Yj.Fit x.span
theorem Yq.of (us:List U) (hl:us.length=3) (ht:∀ (j:Nat) ty u,[Ty.i .i64,.s,.s][j]?=some ty→us[j]?=some u→UT ty u):∃ x,us=Yq.u x∧Yq.Fit x:=by
 match us,hl with
 | [c0,c1,c2],_=>
  obtain ⟨x0,rfl,f0⟩:=(ht 0 _ c0 rfl rfl).int_of
  obtain ⟨x1,rfl,f1⟩:=(ht 1 _ c1 rfl rfl).str_of
  obtain ⟨x2,rfl,f2⟩:=(ht 2 _ c2 rfl rfl).str_of
  exact ⟨⟨x0,⟨x1,x2⟩⟩,rfl,⟨f0,⟨f1,f2⟩⟩⟩
structure Yb where
 cache:(List Yq)
 seq:Int
 busy:Bool
 wish:Ye
 called:Int
def Yb.u (x:Yb):List U:=[.sl 3 (x.cache.map Yq.u),.int .i64 x.seq,.bool x.busy,.int .i64 x.wish.kind,.str x.wish.key,.int .i64 x.wish.value,.int .i64 x.wish.old,.int .i64 x.called]
def Yb.Fit (x:Yb):Prop:=(x.cache.length≤9223372036854775807∧∀ y,y∈x.cache→Yq.Fit y)∧Z9 x.seq∧True∧Ye.Fit x.wish∧Z9 x.called
theorem Yb.of (us:List U) (hl:us.length=8) (ht:∀ (j:Nat) ty u,[Ty.sl [.i .i64,.s,.s],.i .i64,.b,.i .i64,.s,.i .i64,.i .i64,.i .i64][j]?=some ty→us[j]?=some u→UT ty u):∃ x,us=Yb.u x∧Yb.Fit x:=by
 match us,hl with
 | [c0,c1,c2,c3,c4,c5,c6,c7],_=>
  obtain ⟨x0,rfl,f0⟩:=(ht 0 _ c0 rfl rfl).sl_of Yq.of
  obtain ⟨x1,rfl,f1⟩:=(ht 1 _ c1 rfl rfl).int_of
  obtain ⟨x2,rfl⟩:=(ht 2 _ c2 rfl rfl).bool_of
  obtain ⟨x3,rfl,f3⟩:=(ht 3 _ c3 rfl rfl).int_of
  obtain ⟨x4,rfl,f4⟩:=(ht 4 _ c4 rfl rfl).str_of
  obtain ⟨x5,rfl,f5⟩:=(ht 5 _ c5 rfl rfl).int_of
  obtain ⟨x6,rfl,f6⟩:=(ht 6 _ c6 rfl rfl).int_of
  obtain ⟨x7,rfl,f7⟩:=(ht 7 _ c7 rfl rfl).int_of
  exact ⟨⟨x0,x1,x2,⟨x3,x4,x5,x6⟩,x7⟩,rfl,⟨f0,f1,trivial,⟨f3,f4,f5,f6⟩,f7⟩⟩
structure Yp where
 client:Int
 seq:Int
 wish:Ye
 reply:Int
 called:Int
 returned:Int
def Yp.u (x:Yp):List U:=[.int .i64 x.client,.int .i64 x.seq,.int .i64 x.wish.kind,.str x.wish.key,.int .i64 x.wish.value,.int .i64 x.wish.old,.int .i64 x.reply,.int .i64 x.called,.int .i64 x.returned]
def Yp.Fit (x:Yp):Prop:=Z9 x.client∧Z9 x.seq∧Ye.Fit x.wish∧Z9 x.reply∧Z9 x.called∧Z9 x.returned
theorem Yp.of (us:List U) (hl:us.length=9) (ht:∀ (j:Nat) ty u,[Ty.i .i64,.i .i64,.i .i64,.s,.i .i64,.i .i64,.i .i64,.i .i64,.i .i64][j]?=some ty→us[j]?=some u→UT ty u):∃ x,us=Yp.u x∧Yp.Fit x:=by
 match us,hl with
 | [c0,c1,c2,c3,c4,c5,c6,c7,c8],_=>
  obtain ⟨x0,rfl,f0⟩:=(ht 0 _ c0 rfl rfl).int_of
  obtain ⟨x1,rfl,f1⟩:=(ht 1 _ c1 rfl rfl).int_of
  obtain ⟨x2,rfl,f2⟩:=(ht 2 _ c2 rfl rfl).int_of
  obtain ⟨x3,rfl,f3⟩:=(ht 3 _ c3 rfl rfl).str_of
  obtain ⟨x4,rfl,f4⟩:=(ht 4 _ c4 rfl rfl).int_of
  obtain ⟨x5,rfl,f5⟩:=(ht 5 _ c5 rfl rfl).int_of
  obtain ⟨x6,rfl,f6⟩:=(ht 6 _ c6 rfl rfl).int_of
  obtain ⟨x7,rfl,f7⟩:=(ht 7 _ c7 rfl rfl).int_of
  obtain ⟨x8,rfl,f8⟩:=(ht 8 _ c8 rfl rfl).int_of
  exact ⟨⟨x0,x1,⟨x2,x3,x4,x5⟩,x6,x7,x8⟩,rfl,⟨f0,f1,⟨f2,f3,f4,f5⟩,f6,f7,f8⟩⟩
structure Ys where
 live:Bool
 group:Yc
def Ys.u (x:Ys):List U:=[.bool x.live,.str x.group.base.span.low,.str x.group.base.span.high,.sl 2 (x.group.base.pairs.map Yl.u),.sl 3 (x.group.base.known.map Yr.u),.bool x.group.base.sealed,.str x.group.base.cut,.int .i64 x.group.conf.epoch,.sl 1 (x.group.conf.members.map iU),.bool x.group.conf.fresh,.sl 5 (x.group.nodes.map Yo.u),.sl 1 (x.group.up.map bU),.sl 7 (x.group.bag.map Yk.u),.sl 7 (x.group.answers.map Ya.u)]
def Ys.Fit (x:Ys):Prop:=True∧Yc.Fit x.group
theorem Ys.of (us:List U) (hl:us.length=14) (ht:∀ (j:Nat) ty u,[Ty.b,.s,.s,.sl [.s,.i .i64],.sl [.i .i64,.i .i64,.i .i64],.b,.s,.i .i64,.sl [.i .i64],.b,.sl [.i .i64,.sl [.i .i64],.b,.b,.sl [.i .i64,.i .i64,.i .i64,.s,.i .i64,.i .i64]],.sl [.b],.sl [.i .i64,.i .i64,.i .i64,.i .i64,.sl [.i .i64],.b,.sl [.i .i64,.i .i64,.i .i64,.s,.i .i64,.i .i64]],.sl [.i .i64,.i .i64,.i .i64,.s,.i .i64,.i .i64,.i .i64]][j]?=some ty→us[j]?=some u→UT ty u):∃ x,us=Ys.u x∧Ys.Fit x:=by
 match us,hl with
 | [c0,c1,c2,c3,c4,c5,c6,c7,c8,c9,c10,c11,c12,c13],_=>
  obtain ⟨x0,rfl⟩:=(ht 0 _ c0 rfl rfl).bool_of
  obtain ⟨x1,rfl,f1⟩:=(ht 1 _ c1 rfl rfl).str_of
  obtain ⟨x2,rfl,f2⟩:=(ht 2 _ c2 rfl rfl).str_of
  obtain ⟨x3,rfl,f3⟩:=(ht 3 _ c3 rfl rfl).sl_of Yl.of
  obtain ⟨x4,rfl,f4⟩:=(ht 4 _ c4 rfl rfl).sl_of Yr.of
  obtain ⟨x5,rfl⟩:=(ht 5 _ c5 rfl rfl).bool_of
  obtain ⟨x6,rfl,f6⟩:=(ht 6 _ c6 rfl rfl).str_of
  obtain ⟨x7,rfl,f7⟩:=(ht 7 _ c7 rfl rfl).int_of
  obtain ⟨x8,rfl,f8⟩:=(ht 8 _ c8 rfl rfl).sl_of ZL8
  obtain ⟨x9,rfl⟩:=(ht 9 _ c9 rfl rfl).bool_of
  obtain ⟨x10,rfl,f10⟩:=(ht 10 _ c10 rfl rfl).sl_of Yo.of
  obtain ⟨x11,rfl,f11⟩:=(ht 11 _ c11 rfl rfl).sl_of ZOC
  obtain ⟨x12,rfl,f12⟩:=(ht 12 _ c12 rfl rfl).sl_of Yk.of
  obtain ⟨x13,rfl,f13⟩:=(ht 13 _ c13 rfl rfl).sl_of Ya.of
  exact ⟨⟨x0,⟨⟨⟨x1,x2⟩,x3,x4,x5,x6⟩,⟨x7,x8,x9⟩,x10,x11,x12,x13⟩⟩,rfl,⟨trivial,⟨⟨⟨f1,f2⟩,f3,f4,trivial,f6⟩,⟨f7,f8,trivial⟩,f10,f11,f12,f13⟩⟩⟩
structure Yd where
 shards:(List Ys)
 clients:(List Yb)
 results:(List Yp)
 work:Yn
 turn:Int
 clock:Int
def Yd.u (x:Yd):List U:=[.sl 14 (x.shards.map Ys.u),.sl 8 (x.clients.map Yb.u),.sl 9 (x.results.map Yp.u),.int .i64 x.work.kind,.int .i64 x.work.first,.int .i64 x.work.second,.str x.work.key,.int .i64 x.work.from_,.int .i64 x.work.to_,.int .i64 x.work.step,.int .i64 x.turn,.int .i64 x.clock]
def Yd.Fit (x:Yd):Prop:=(x.shards.length≤9223372036854775807∧∀ y,y∈x.shards→Ys.Fit y)∧(x.clients.length≤9223372036854775807∧∀ y,y∈x.clients→Yb.Fit y)∧(x.results.length≤9223372036854775807∧∀ y,y∈x.results→Yp.Fit y)∧Yn.Fit x.work∧Z9 x.turn∧Z9 x.clock
theorem Yd.of (us:List U) (hl:us.length=12) (ht:∀ (j:Nat) ty u,[Ty.sl [.b,.s,.s,.sl [.s,.i .i64],.sl [.i .i64,.i .i64,.i .i64],.b,.s,.i .i64,.sl [.i .i64],.b,.sl [.i .i64,.sl [.i .i64],.b,.b,.sl [.i .i64,.i .i64,.i .i64,.s,.i .i64,.i .i64]],.sl [.b],.sl [.i .i64,.i .i64,.i .i64,.i .i64,.sl [.i .i64],.b,.sl [.i .i64,.i .i64,.i .i64,.s,.i .i64,.i .i64]],.sl [.i .i64,.i .i64,.i .i64,.s,.i .i64,.i .i64,.i .i64]],.sl [.sl [.i .i64,.s,.s],.i .i64,.b,.i .i64,.s,.i .i64,.i .i64,.i .i64],.sl [.i .i64,.i .i64,.i .i64,.s,.i .i64,.i .i64,.i .i64,.i .i64,.i .i64],.i .i64,.i .i64,.i .i64,.s,.i .i64,.i .i64,.i .i64,.i .i64,.i .i64][j]?=some ty→us[j]?=some u→UT ty u):∃ x,us=Yd.u x∧Yd.Fit x:=by
 match us,hl with
 | [c0,c1,c2,c3,c4,c5,c6,c7,c8,c9,c10,c11],_=>
  obtain ⟨x0,rfl,f0⟩:=(ht 0 _ c0 rfl rfl).sl_of Ys.of
  obtain ⟨x1,rfl,f1⟩:=(ht 1 _ c1 rfl rfl).sl_of Yb.of
  obtain ⟨x2,rfl,f2⟩:=(ht 2 _ c2 rfl rfl).sl_of Yp.of
  obtain ⟨x3,rfl,f3⟩:=(ht 3 _ c3 rfl rfl).int_of
  obtain ⟨x4,rfl,f4⟩:=(ht 4 _ c4 rfl rfl).int_of
  obtain ⟨x5,rfl,f5⟩:=(ht 5 _ c5 rfl rfl).int_of
  obtain ⟨x6,rfl,f6⟩:=(ht 6 _ c6 rfl rfl).str_of
  obtain ⟨x7,rfl,f7⟩:=(ht 7 _ c7 rfl rfl).int_of
  obtain ⟨x8,rfl,f8⟩:=(ht 8 _ c8 rfl rfl).int_of
  obtain ⟨x9,rfl,f9⟩:=(ht 9 _ c9 rfl rfl).int_of
  obtain ⟨x10,rfl,f10⟩:=(ht 10 _ c10 rfl rfl).int_of
  obtain ⟨x11,rfl,f11⟩:=(ht 11 _ c11 rfl rfl).int_of
  exact ⟨⟨x0,x1,x2,⟨x3,x4,x5,x6,x7,x8,x9⟩,x10,x11⟩,rfl,⟨f0,f1,f2,⟨f3,f4,f5,f6,f7,f8,f9⟩,f10,f11⟩⟩
theorem ZL7:(∀ l:List Yl,ZcG (l.map Yl.u)=true)∧(∀ l:List Yr,ZcG (l.map Yr.u)=true)∧(∀ l:List Int,ZcG (l.map iU)=true)∧(∀ l:List Ya,ZcG (l.map Ya.u)=true)∧(∀ l:List Yh,ZcG (l.map Yh.u)=true)∧(∀ l:List Bool,ZcG (l.map bU)=true)∧(∀ l:List Yq,ZcG (l.map Yq.u)=true)∧(∀ l:List Yp,ZcG (l.map Yp.u)=true)∧(∀ l:List Yj,ZcG (l.map Yj.u)=true)∧(∀ (b:Bool) (x:List Id),sel b x x=x)∧
  (∀ (st:St) d res x0 x1 x2 x3 x4 x5 x6,St.ofRet st d ⟨res,[x0,x1,x2,x3,x4,x5,x6],[]⟩=(((((((st.obj (.loc d 0) (some x0)).obj (.loc d 1) (some x1)).obj (.loc d 2) (some x2)).obj (.loc d 3) (some x3)).obj (.loc d 4) (some x4)).obj (.loc d 5) (some x5)).obj (.loc d 6) (some x6)).put d (retD (res.map (T.mapC (C.ren (Zah d))))))∧List.range 7=[0,1,2,3,4,5,6]∧
  (∀ l:List Yl,Zbi (l.map Yl.u)=true)∧(∀ l:List Yr,Zbi (l.map Yr.u)=true)∧(∀ l:List Int,Zbi (l.map iU)=true)∧(∀ l:List Ya,Zbi (l.map Ya.u)=true)∧(∀ l:List Yh,Zbi (l.map Yh.u)=true)∧(∀ l:List Bool,Zbi (l.map bU)=true)∧(∀ l:List Yq,Zbi (l.map Yq.u)=true)∧(∀ l:List Yp,Zbi (l.map Yp.u)=true)∧(∀ l:List Yj,Zbi (l.map Yj.u)=true):=
 ⟨Zi4 fun _=>rfl,Zi4 fun _=>rfl,Zi4 fun _=>rfl,Zi4 fun _=>rfl,Zi4 fun _=>rfl,Zi4 fun _=>rfl,Zi4 fun _=>rfl,Zi4 fun _=>rfl,Zi4 fun _=>rfl,fun b x=>by cases b<;>rfl,fun st d res x0 x1 x2 x3 x4 x5 x6=>rfl,rfl,Zjd fun _=>rfl,Zjd fun _=>rfl,Zjd fun _=>rfl,Zjd fun _=>rfl,Zjd fun _=>rfl,Zjd fun _=>rfl,Zjd fun _=>rfl,Zjd fun _=>rfl,Zjd fun _=>rfl⟩
theorem xT:(type_of% xQ)∧(type_of% xR)∧(type_of% xS)∧(type_of% ZL7):=⟨xQ,xR,xS,ZL7⟩
theorem xU:(type_of% xQ)∧(type_of% xR)∧(type_of% xD)∧(type_of% ZL7):=⟨xQ,xR,xD,ZL7⟩
def offZ (left:Int) (n:Nat) (k:Int→Int):Int:=if IntKind.i64.wrap (left - n)<0 then -1 else k (IntKind.i64.wrap (left - n))
def chkZ (a:Int) (k:Int→Int):Int:=if a<0 then -1 else k a
def allZ {α:Type} (g:α→Int→Int):List α→Int→Int
 | [],a=>a
 | x::xs,a=>chkZ (g x a) (allZ g xs)
theorem ZGW {α:Type} {g:α→Int→Int} {l:List α} {i:Nat} {x:α} (h:l[i]?=some x) (a:Int):allZ g (l.drop i) a=chkZ (g x a) (allZ g (l.drop (i+1))):=by
 have hi:=(List.getElem?_eq_some_iff.1 h).1
 have he:=(List.getElem?_eq_some_iff.1 h).2
 rw [List.drop_eq_getElem_cons hi,he]; rfl
def LeZ (g:Int→Int) (P:Prop):Prop:=∀ a,0≤a→a≤1048576→g a≤a∧(0≤g a→P)
theorem LeZ.id:LeZ (fun a=>a) True:=fun a _ _=>⟨Int.le_refl _,fun _=>trivial⟩
theorem LeZ.off {n:Nat} {k:Int→Int} {P:Prop} (hn:n≤9223372036854775807) (hk:LeZ k P):LeZ (fun a=>offZ a n k) (n≤1048576∧P):=by
 intro a h0 h1
 simp only[offZ]
 rw [w64 (by omega) (by omega)]
 split
 ·exact ⟨by omega,fun h=>by omega⟩
 ·obtain ⟨h2,h3⟩:=hk (a - n) (by omega) (by omega)
  exact ⟨by omega,fun h=>⟨by omega,h3 h⟩⟩
theorem LeZ.chk {g k:Int→Int} {P Q:Prop} (hg:LeZ g P) (hk:LeZ k Q):LeZ (fun a=>chkZ (g a) k) (P∧Q):=by
 intro a h0 h1
 obtain ⟨h2,h3⟩:=hg a h0 h1
 simp only[chkZ]
 split
 ·exact ⟨by omega,fun h=>by omega⟩
 ·obtain ⟨h4,h5⟩:=hk (g a) (by omega) (by omega)
  exact ⟨by omega,fun h=>⟨h3 (by omega),h5 h⟩⟩
theorem LeZ.all {α:Type} {g:α→Int→Int} {P:α→Prop}:∀ {l:List α},(∀ x,x∈l→LeZ (g x) (P x))→LeZ (allZ g l) (∀ x,x∈l→P x)
 | [],_=>fun a _ _=>⟨Int.le_refl _,fun _ x h=>by cases h⟩
 | x::xs,h=>by
  have h1:=(h x (List.mem_cons_self ..)).chk (LeZ.all (l:=xs) (fun y hy=>h y (List.mem_cons_of_mem _ hy)))
  intro a h0 h2
  obtain ⟨h3,h4⟩:=h1 a h0 h2
  refine ⟨h3,fun h y hy=>?_⟩
  rcases List.mem_cons.1 hy with rfl|hy
  ·exact (h4 h).1
  ·exact (h4 h).2 y hy
theorem ZFN {α:Type} {f:α→List U} {z:List U} {l:List α} {i:Nat} {x:α} (h:l[i]?=some x):((l.take i).map f++List.replicate (l.length - i) z).set i (f x)=(l.take (i+1)).map f++List.replicate (l.length - (i+1)) z:=by
 have hi:=(List.getElem?_eq_some_iff.1 h).1
 have he:=(List.getElem?_eq_some_iff.1 h).2
 have h1:((l.take i).map f).length=i:=by simp; omega
 rw [List.set_append_right _ _ (by omega),h1,Nat.sub_self,show l.length - i=(l.length - (i+1))+1 by omega,List.replicate_succ,List.set_cons_zero,List.take_succ_eq_append_getElem hi,List.map_append,List.append_assoc,he]
 rfl
theorem ZFM {α:Type} {f:α→List U} {z:List U} {l:List α} {i:Nat} (hi:i<l.length):((l.take i).map f++List.replicate (l.length - i) z)[i]?=some z:=by
 have h1:((l.take i).map f).length=i:=by simp; omega
 rw [List.getElem?_append_right (by omega),h1,Nat.sub_self,show l.length - i=(l.length - (i+1))+1 by omega,List.replicate_succ]
 rfl
theorem ZFL {α:Type} {f:α→List U} {z:List U} {l:List α}:(l.take l.length).map f++List.replicate (l.length - l.length) z=l.map f:=by simp
theorem ZJs (st:St) (d n:Nat) (zero:List U) (bytes:Nat) (h:n*bytes≤140737488355328):stMk st d (DI (n:Int)) (DI (n:Int)) zero bytes=some (((st.cool (.loc d 0)).obj (.loc d 0) (some (.row zero.length (List.replicate n zero)))).put d (.t (.sc (.own (.loc d 0) n)))):=by
 simp [stMk,D.int?,h]
theorem ZLr (st:St) (d n:Nat) (zero:List U) (bytes:Nat) (h:n*bytes≤140737488355328) (hz:zero.all U.zed=true):Zhg st d (DI (n:Int)) (DI (n:Int)) zero bytes=some (((st.cool (.loc d 0)).obj (.loc d 0) (some (.deep zero.length (List.replicate n zero)))).put d (.t (.sc (.down (.loc d 0) n)))):=by
 simp only[List.all_eq_true] at hz
 simp only[Zhg,D.int?,Option.bind_some,List.all_eq_true]
 rw [if_pos ⟨by omega,by omega,by simpa using h,hz⟩]
 simp
def ZHm (l:(List Int)):Prop:=l.length≤1048576∧True
def ZI5 (l:(List Int)) (left:Int):Int:=offZ left l.length fun a=>a
theorem ZNL (l:(List Int)) (left:Int):EE F 301 [L 1 (l.map iU),I left] []=ok1 (I (ZI5 l left)):=by
 rw [R301,b301]
 simp only[↓xP,xU,rB,rA,rS]
 refine ZiE (fun h=>?_) (fun h=>?_)<;>(simp only[decide_eq_true_eq,decide_eq_false_iff_not] at h; simp [ZI5,offZ,h])
theorem ZNK (l:(List Int)) (hf:(l.length≤9223372036854775807∧∀ y,y∈l→Z9 y)):LeZ (ZI5 l) (ZHm l):=LeZ.off hf.1 (LeZ.id)
theorem ZNQ (l:(List Int)) (hs:ZHm l):EE F 308 [L 1 (l.map iU)] []=some ⟨[.sc (.own (.par 0) l.length)],[.row 1 (l.map iU)],[]⟩:=by
 have hl:=hs.1
 rw [R308,b308]
 simp only[↓xP,xU,rB,rA,rS,ZJs _ 7 l.length [.int .i64 0] 8 (by omega)]
 refine (Zjc (fun (i:Nat) st=>i≤l.length∧st.s 0=DU (.sl 1 (l.map iU))∧st.s 4=DI i∧st.s 3=.t (.sc (.own (.loc 7 0) l.length))∧st.o (.loc 7 0)=some (.row 1 ((l.take i).map iU++List.replicate (l.length - i) [.int .i64 0]))) (fun i=>l.length - i) (fun i=>some ⟨[.sc (.own (.par 0) l.length)],[.row 1 (l.map iU)],[]⟩) ?_ 0 ⟨by omega,by simp only[↓xP,xU,rB,rA,rS],by simp only[↓xP,xU,rB,rA,rS]; rfl,by simp only[↓xP,xU,rB,rA,rS],by simp only[↓xP,xU,rB,rA,rS,Nat.sub_zero]⟩)
 rintro i st ⟨hle,h0,h4,h3,ho⟩ ih
 by_cases hi:i<l.length
 ·obtain ⟨x,hx⟩:∃ x,l[i]?=some x:=⟨_,List.getElem?_eq_getElem hi⟩
  have hw:=w_succ (i:=i) (by omega)
  have hg:=ZFM (f:=iU) (z:=[.int .i64 0]) hi
  have hf:=ZFN (f:=iU) (z:=[.int .i64 0]) hx
  simp only[iU] at hf
  simp only[↓xP,xU,rB,rA,rS,h0,h4,h3,ho,hi,hx,hw,hg,hf,iU]
  exact ih (i+1) _ (by omega) ⟨by omega,by simp only[↓xP,xU,rB,rA,rS,h0],by simp only[↓xP,xU,rB,rA,rS],by simp only[↓xP,xU,rB,rA,rS,h3],by simp only[↓xP,xU,rB,rA,rS,iU]⟩
 ·have:i=l.length:=by omega
  subst this
  rw [ZFL] at ho
  simp only[↓xP,xU,rB,rA,rS,h0,h4,h3,ho,hi]
theorem ZNw (l:(List Int)) (hs:ZHm l):EE F 317 [L 1 (l.map iU),L 1 (l.map iU)] []=ok1 (B true):=by
 have hl:=hs.1
 rw [R317,b317]
 simp only[↓xP,xU,rB,rA,rS,ne_eq,not_true_eq_false]
 refine (Zjc (fun (i:Nat) st=>st.s 0=DU (.sl 1 (l.map iU))∧st.s 1=DU (.sl 1 (l.map iU))∧st.s 5=DI i) (fun i=>l.length - i) (fun i=>ok1 (B true)) ?_ 0 ⟨by simp only[↓xP,xU,rB,rA,rS],by simp only[↓xP,xU,rB,rA,rS],by simp only[↓xP,xU,rB,rA,rS]; rfl⟩)
 rintro i st ⟨h0,h1,h5⟩ ih
 by_cases hi:i<l.length
 ·obtain ⟨x,hx⟩:∃ x,l[i]?=some x:=⟨_,List.getElem?_eq_getElem hi⟩
  have hw:=w_succ (i:=i) (by omega)
  simp only[↓xP,xU,rB,rA,rS,h0,h1,h5,hi,hx,hw,iU,ne_eq,not_true_eq_false]
  exact ih (i+1) _ (by omega) ⟨by simp only[↓xP,xU,rB,rA,rS,h0],by simp only[↓xP,xU,rB,rA,rS,h1],by simp only[↓xP,xU,rB,rA,rS]⟩
 ·simp only[↓xP,xU,rB,rA,rS,h0,h1,h5,hi]
def ZG6 (l:(List Bool)):Prop:=l.length≤1048576∧True
def ZIa (l:(List Bool)) (left:Int):Int:=offZ left l.length fun a=>a
theorem ZMU (l:(List Bool)) (left:Int):EE F 255 [L 1 (l.map bU),I left] []=ok1 (I (ZIa l left)):=by
 rw [R255,b255]
 simp only[↓xP,xU,rB,rA,rS]
 refine ZiE (fun h=>?_) (fun h=>?_)<;>(simp only[decide_eq_true_eq,decide_eq_false_iff_not] at h; simp [ZIa,offZ,h])
theorem ZMT (l:(List Bool)) (hf:(l.length≤9223372036854775807∧∀ y,y∈l→True)):LeZ (ZIa l) (ZG6 l):=LeZ.off hf.1 (LeZ.id)
theorem ZM5 (l:(List Bool)) (hs:ZG6 l):EE F 265 [L 1 (l.map bU)] []=some ⟨[.sc (.own (.par 0) l.length)],[.row 1 (l.map bU)],[]⟩:=by
 have hl:=hs.1
 rw [R265,b265]
 simp only[↓xP,xU,rB,rA,rS,ZJs _ 7 l.length [.bool false] 1 (by omega)]
 refine (Zjc (fun (i:Nat) st=>i≤l.length∧st.s 0=DU (.sl 1 (l.map bU))∧st.s 4=DI i∧st.s 3=.t (.sc (.own (.loc 7 0) l.length))∧st.o (.loc 7 0)=some (.row 1 ((l.take i).map bU++List.replicate (l.length - i) [.bool false]))) (fun i=>l.length - i) (fun i=>some ⟨[.sc (.own (.par 0) l.length)],[.row 1 (l.map bU)],[]⟩) ?_ 0 ⟨by omega,by simp only[↓xP,xU,rB,rA,rS],by simp only[↓xP,xU,rB,rA,rS]; rfl,by simp only[↓xP,xU,rB,rA,rS],by simp only[↓xP,xU,rB,rA,rS,Nat.sub_zero]⟩)
 rintro i st ⟨hle,h0,h4,h3,ho⟩ ih
 by_cases hi:i<l.length
 ·obtain ⟨x,hx⟩:∃ x,l[i]?=some x:=⟨_,List.getElem?_eq_getElem hi⟩
  have hw:=w_succ (i:=i) (by omega)
  have hg:=ZFM (f:=bU) (z:=[.bool false]) hi
  have hf:=ZFN (f:=bU) (z:=[.bool false]) hx
  simp only[bU] at hf
  simp only[↓xP,xU,rB,rA,rS,h0,h4,h3,ho,hi,hx,hw,hg,hf,bU]
  exact ih (i+1) _ (by omega) ⟨by omega,by simp only[↓xP,xU,rB,rA,rS,h0],by simp only[↓xP,xU,rB,rA,rS],by simp only[↓xP,xU,rB,rA,rS,h3],by simp only[↓xP,xU,rB,rA,rS,bU]⟩
 ·have:i=l.length:=by omega
  subst this
  rw [ZFL] at ho
  simp only[↓xP,xU,rB,rA,rS,h0,h4,h3,ho,hi]
theorem ZMB (l:(List Bool)) (hs:ZG6 l):EE F 278 [L 1 (l.map bU),L 1 (l.map bU)] []=ok1 (B true):=by
 have hl:=hs.1
 rw [R278,b278]
 simp only[↓xP,xU,rB,rA,rS,ne_eq,not_true_eq_false]
 refine (Zjc (fun (i:Nat) st=>st.s 0=DU (.sl 1 (l.map bU))∧st.s 1=DU (.sl 1 (l.map bU))∧st.s 5=DI i) (fun i=>l.length - i) (fun i=>ok1 (B true)) ?_ 0 ⟨by simp only[↓xP,xU,rB,rA,rS],by simp only[↓xP,xU,rB,rA,rS],by simp only[↓xP,xU,rB,rA,rS]; rfl⟩)
 rintro i st ⟨h0,h1,h5⟩ ih
 by_cases hi:i<l.length
 ·obtain ⟨x,hx⟩:∃ x,l[i]?=some x:=⟨_,List.getElem?_eq_getElem hi⟩
  have hw:=w_succ (i:=i) (by omega)
  simp only[↓xP,xU,rB,rA,rS,h0,h1,h5,hi,hx,hw,bU,ne_eq,not_true_eq_false]
  exact ih (i+1) _ (by omega) ⟨by simp only[↓xP,xU,rB,rA,rS,h0],by simp only[↓xP,xU,rB,rA,rS,h1],by simp only[↓xP,xU,rB,rA,rS]⟩
 ·simp only[↓xP,xU,rB,rA,rS,h0,h1,h5,hi]
def Yj.Small (x:Yj):Prop:=x.low.length≤1048576∧x.high.length≤1048576∧True
def ZGk (x:Yj) (a:Int):Int:=offZ a x.low.length fun a=>offZ a x.high.length fun a=>a
theorem ZHl (c0:Str) (c1:Str) (left:Int):EE F 16 [.ag [.u (.str c0),.u (.str c1)],I left] []=ok1 (I (ZGk ⟨c0,c1⟩ left)):=by
 rw [R16,b16]
 simp only[↓xP,xU,rB,rA,rS]
 repeat' (refine ZiE (fun h=>?_) (fun h=>?_))
 all_goals (simp only[decide_eq_true_eq,decide_eq_false_iff_not] at *; simp [ZGk,offZ,chkZ, *])
theorem ZIs (x:Yj) (hf:Yj.Fit x):LeZ (ZGk x) (Yj.Small x):=LeZ.off hf.1 (LeZ.off hf.2 LeZ.id)
theorem ZGP (c0:Str) (c1:Str):EE F 18 [.ag [.u (.str c0),.u (.str c1)]] []=ok1 (.ag [.u (.str c0),.u (.str c1)]):=by
 rw [R18,b18]
 simp only[↓xP,xU,rB,rA,rS]
theorem ZHi (c0:Str) (c1:Str):EE F 151 [.ag [.u (.str c0),.u (.str c1)],.ag [.u (.str c0),.u (.str c1)]] []=ok1 (B true):=by
 rw [R151,b151]
 simp only[↓xP,xU,rB,rA,rS,ne_eq,not_true_eq_false]
def Yl.Small (x:Yl):Prop:=x.key.length≤1048576∧True
def ZIn (x:Yl) (a:Int):Int:=offZ a x.key.length fun a=>a
theorem ZNN (c0:Str) (c1:Int) (left:Int):EE F 336 [.ag [.u (.str c0),.u (.int .i64 c1)],I left] []=ok1 (I (ZIn ⟨c0,c1⟩ left)):=by
 rw [R336,b336]
 simp only[↓xP,xU,rB,rA,rS]
 repeat' (refine ZiE (fun h=>?_) (fun h=>?_))
 all_goals (simp only[decide_eq_true_eq,decide_eq_false_iff_not] at *; simp [ZIn,offZ,chkZ, *])
theorem ZNM (x:Yl) (hf:Yl.Fit x):LeZ (ZIn x) (Yl.Small x):=LeZ.off hf.1 LeZ.id
theorem ZNR (c0:Str) (c1:Int):EE F 339 [.ag [.u (.str c0),.u (.int .i64 c1)]] []=ok1 (.ag [.u (.str c0),.u (.int .i64 c1)]):=by
 rw [R339,b339]
 simp only[↓xP,xU,rB,rA,rS]
theorem ZNx (c0:Str) (c1:Int):EE F 230 [.ag [.u (.str c0),.u (.int .i64 c1)],.ag [.u (.str c0),.u (.int .i64 c1)]] []=ok1 (B true):=by
 rw [R230,b230]
 simp only[↓xP,xU,rB,rA,rS,ne_eq,not_true_eq_false]
def ZGy (l:(List Yl)):Prop:=l.length≤1048576∧∀ y,y∈l→Yl.Small y
def ZHt (l:(List Yl)) (left:Int):Int:=offZ left l.length fun a=>allZ ZIn l a
theorem ZMY (l:(List Yl)) (hf:(l.length≤9223372036854775807∧∀ y,y∈l→Yl.Fit y)) (left:Int):EE F 299 [L 2 (l.map Yl.u),I left] []=ok1 (I (ZHt l left)):=by
 have hl:=hf.1
 rw [R299,b299]
 simp only[↓xP,xU,rB,rA,rS]
 refine ZiE (fun h=>?_) (fun h=>?_)
 ·simp only[decide_eq_true_eq] at h
  simp [ZHt,offZ,h]
 ·refine (Zjc (fun (a:Nat×Int) st=>st.s 0=DU (.sl 2 (l.map Yl.u))∧st.s 5=DI a.1∧st.s 1=DI a.2) (fun a=>l.length - a.1) (fun a=>ok1 (I (allZ ZIn (l.drop a.1) a.2))) ?_ (0,IntKind.i64.wrap (left - l.length)) ⟨by simp only[↓xP,xU,rB,rA,rS],by simp only[↓xP,xU,rB,rA,rS]; rfl,by simp only[↓xP,xU,rB,rA,rS]⟩).trans ?_
  ·rintro ⟨i,a⟩ st ⟨h0,h5,h1⟩ ih
   dsimp only at h0 h5 h1 ih ⊢
   by_cases hi:i<l.length
   ·obtain ⟨⟨c0,c1⟩,hx⟩:∃ x,l[i]?=some x:=⟨_,List.getElem?_eq_getElem hi⟩
    have hw:=w_succ (i:=i) (by omega)
    have hfx:=hf.2 _ (List.mem_of_getElem? hx)
    simp only[↓xP,xU,rB,rA,rS,h0,h5,h1,hi,hx,hw,Yl.u,ZNN]
    rw [ZGW hx,chkZ]
    refine ZiE (fun h=>?_) (fun h=>?_)
    ·simp only[decide_eq_true_eq] at h
     simp [h]
    ·rw [ih (i+1,ZIn ⟨c0,c1⟩ a) _ (by dsimp only; omega) ⟨by simp only[↓xP,xU,rB,rA,rS,h0],by simp only[↓xP,xU,rB,rA,rS],by simp only[↓xP,xU,rB,rA,rS]⟩]
     simp only[decide_eq_false_iff_not] at h
     simp [h]
   ·simp only[↓xP,xU,rB,rA,rS,h0,h5,h1,hi]
    rw [List.drop_of_length_le (by omega)]; rfl
  ·simp only[decide_eq_false_iff_not] at h
   simp [ZHt,offZ,h]
theorem ZMX (l:(List Yl)) (hf:(l.length≤9223372036854775807∧∀ y,y∈l→Yl.Fit y)):LeZ (ZHt l) (ZGy l):=LeZ.off hf.1 (LeZ.all fun x hx=>ZNM x (hf.2 x hx))
theorem ZM7 (l:(List Yl)) (hs:ZGy l):EE F 306 [L 2 (l.map Yl.u)] []=some ⟨[.sc (.own (.par 0) l.length)],[.row 2 (l.map Yl.u)],[]⟩:=by
 have hl:=hs.1
 rw [R306,b306]
 simp only[↓xP,xU,rB,rA,rS,ZJs _ 7 l.length [.str [],.int .i64 0] 24 (by omega)]
 refine (Zjc (fun (i:Nat) st=>i≤l.length∧st.s 0=DU (.sl 2 (l.map Yl.u))∧st.s 4=DI i∧st.s 3=.t (.sc (.own (.loc 7 0) l.length))∧st.o (.loc 7 0)=some (.row 2 ((l.take i).map Yl.u++List.replicate (l.length - i) [.str [],.int .i64 0]))) (fun i=>l.length - i) (fun i=>some ⟨[.sc (.own (.par 0) l.length)],[.row 2 (l.map Yl.u)],[]⟩) ?_ 0 ⟨by omega,by simp only[↓xP,xU,rB,rA,rS],by simp only[↓xP,xU,rB,rA,rS]; rfl,by simp only[↓xP,xU,rB,rA,rS],by simp only[↓xP,xU,rB,rA,rS,Nat.sub_zero]⟩)
 rintro i st ⟨hle,h0,h4,h3,ho⟩ ih
 by_cases hi:i<l.length
 ·obtain ⟨⟨c0,c1⟩,hx⟩:∃ x,l[i]?=some x:=⟨_,List.getElem?_eq_getElem hi⟩
  have hw:=w_succ (i:=i) (by omega)
  have hg:=ZFM (f:=Yl.u) (z:=[.str [],.int .i64 0]) hi
  have hf:=ZFN (f:=Yl.u) (z:=[.str [],.int .i64 0]) hx
  simp only[Yl.u] at hf
  simp only[↓xP,xU,rB,rA,rS,h0,h4,h3,ho,hi,hx,hw,hg,hf,Yl.u,ZNR]
  exact ih (i+1) _ (by omega) ⟨by omega,by simp only[↓xP,xU,rB,rA,rS,h0],by simp only[↓xP,xU,rB,rA,rS],by simp only[↓xP,xU,rB,rA,rS,h3],by simp only[↓xP,xU,rB,rA,rS,Yl.u]⟩
 ·have:i=l.length:=by omega
  subst this
  rw [ZFL] at ho
  simp only[↓xP,xU,rB,rA,rS,h0,h4,h3,ho,hi]
theorem ZJX (l:(List Yl)) (hs:ZGy l):EE F 152 [L 2 (l.map Yl.u),L 2 (l.map Yl.u)] []=ok1 (B true):=by
 have hl:=hs.1
 rw [R152,b152]
 simp only[↓xP,xU,rB,rA,rS,ne_eq,not_true_eq_false]
 refine (Zjc (fun (i:Nat) st=>st.s 0=DU (.sl 2 (l.map Yl.u))∧st.s 1=DU (.sl 2 (l.map Yl.u))∧st.s 5=DI i) (fun i=>l.length - i) (fun i=>ok1 (B true)) ?_ 0 ⟨by simp only[↓xP,xU,rB,rA,rS],by simp only[↓xP,xU,rB,rA,rS],by simp only[↓xP,xU,rB,rA,rS]; rfl⟩)
 rintro i st ⟨h0,h1,h5⟩ ih
 by_cases hi:i<l.length
 ·obtain ⟨⟨c0,c1⟩,hx⟩:∃ x,l[i]?=some x:=⟨_,List.getElem?_eq_getElem hi⟩
  have hw:=w_succ (i:=i) (by omega)
  simp only[↓xP,xU,rB,rA,rS,h0,h1,h5,hi,hx,hw,Yl.u,ZNx,ne_eq,not_true_eq_false]
  exact ih (i+1) _ (by omega) ⟨by simp only[↓xP,xU,rB,rA,rS,h0],by simp only[↓xP,xU,rB,rA,rS,h1],by simp only[↓xP,xU,rB,rA,rS]⟩
 ·simp only[↓xP,xU,rB,rA,rS,h0,h1,h5,hi]
def Ye.Small (x:Ye):Prop:=x.key.length≤1048576∧True
def ZGc (x:Ye) (a:Int):Int:=offZ a x.key.length fun a=>a
theorem ZHH (c0:Int) (c1:Str) (c2:Int) (c3:Int) (left:Int):EE F 199 [.ag [.u (.int .i64 c0),.u (.str c1),.u (.int .i64 c2),.u (.int .i64 c3)],I left] []=ok1 (I (ZGc ⟨c0,c1,c2,c3⟩ left)):=by
 rw [R199,b199]
 simp only[↓xP,xU,rB,rA,rS]
 repeat' (refine ZiE (fun h=>?_) (fun h=>?_))
 all_goals (simp only[decide_eq_true_eq,decide_eq_false_iff_not] at *; simp [ZGc,offZ,chkZ, *])
theorem ZHG (x:Ye) (hf:Ye.Fit x):LeZ (ZGc x) (Ye.Small x):=LeZ.off hf.2.1 LeZ.id
theorem ZHJ (c0:Int) (c1:Str) (c2:Int) (c3:Int):EE F 210 [.ag [.u (.int .i64 c0),.u (.str c1),.u (.int .i64 c2),.u (.int .i64 c3)]] []=ok1 (.ag [.u (.int .i64 c0),.u (.str c1),.u (.int .i64 c2),.u (.int .i64 c3)]):=by
 rw [R210,b210]
 simp only[↓xP,xU,rB,rA,rS]
theorem ZHw (c0:Int) (c1:Str) (c2:Int) (c3:Int):EE F 223 [.ag [.u (.int .i64 c0),.u (.str c1),.u (.int .i64 c2),.u (.int .i64 c3)],.ag [.u (.int .i64 c0),.u (.str c1),.u (.int .i64 c2),.u (.int .i64 c3)]] []=ok1 (B true):=by
 rw [R223,b223]
 simp only[↓xP,xU,rB,rA,rS,ne_eq,not_true_eq_false]
theorem ZLV (c0:Int) (c1:Int) (c2:Int):EE F 340 [.ag [.u (.int .i64 c0),.u (.int .i64 c1),.u (.int .i64 c2)]] []=ok1 (.ag [.u (.int .i64 c0),.u (.int .i64 c1),.u (.int .i64 c2)]):=by
 rw [R340,b340]
 simp only[↓xP,xU,rB,rA,rS]
theorem ZLm (c0:Int) (c1:Int) (c2:Int):EE F 344 [.ag [.u (.int .i64 c0),.u (.int .i64 c1),.u (.int .i64 c2)],.ag [.u (.int .i64 c0),.u (.int .i64 c1),.u (.int .i64 c2)]] []=ok1 (B true):=by
 rw [R344,b344]
 simp only[↓xP,xU,rB,rA,rS,ne_eq,not_true_eq_false]
def ZF3 (l:(List Yr)):Prop:=l.length≤1048576∧True
def ZGT (l:(List Yr)) (left:Int):Int:=offZ left l.length fun a=>a
theorem ZKT (l:(List Yr)) (left:Int):EE F 300 [L 3 (l.map Yr.u),I left] []=ok1 (I (ZGT l left)):=by
 rw [R300,b300]
 simp only[↓xP,xU,rB,rA,rS]
 refine ZiE (fun h=>?_) (fun h=>?_)<;>(simp only[decide_eq_true_eq,decide_eq_false_iff_not] at h; simp [ZGT,offZ,h])
theorem ZKS (l:(List Yr)) (hf:(l.length≤9223372036854775807∧∀ y,y∈l→Yr.Fit y)):LeZ (ZGT l) (ZF3 l):=LeZ.off hf.1 (LeZ.id)
theorem ZKW (l:(List Yr)) (hs:ZF3 l):EE F 307 [L 3 (l.map Yr.u)] []=some ⟨[.sc (.own (.par 0) l.length)],[.row 3 (l.map Yr.u)],[]⟩:=by
 have hl:=hs.1
 rw [R307,b307]
 simp only[↓xP,xU,rB,rA,rS,ZJs _ 7 l.length [.int .i64 0,.int .i64 0,.int .i64 0] 24 (by omega)]
 refine (Zjc (fun (i:Nat) st=>i≤l.length∧st.s 0=DU (.sl 3 (l.map Yr.u))∧st.s 4=DI i∧st.s 3=.t (.sc (.own (.loc 7 0) l.length))∧st.o (.loc 7 0)=some (.row 3 ((l.take i).map Yr.u++List.replicate (l.length - i) [.int .i64 0,.int .i64 0,.int .i64 0]))) (fun i=>l.length - i) (fun i=>some ⟨[.sc (.own (.par 0) l.length)],[.row 3 (l.map Yr.u)],[]⟩) ?_ 0 ⟨by omega,by simp only[↓xP,xU,rB,rA,rS],by simp only[↓xP,xU,rB,rA,rS]; rfl,by simp only[↓xP,xU,rB,rA,rS],by simp only[↓xP,xU,rB,rA,rS,Nat.sub_zero]⟩)
 rintro i st ⟨hle,h0,h4,h3,ho⟩ ih
 by_cases hi:i<l.length
 ·obtain ⟨⟨c0,c1,c2⟩,hx⟩:∃ x,l[i]?=some x:=⟨_,List.getElem?_eq_getElem hi⟩
  have hw:=w_succ (i:=i) (by omega)
  have hg:=ZFM (f:=Yr.u) (z:=[.int .i64 0,.int .i64 0,.int .i64 0]) hi
  have hf:=ZFN (f:=Yr.u) (z:=[.int .i64 0,.int .i64 0,.int .i64 0]) hx
  simp only[Yr.u] at hf
  simp only[↓xP,xU,rB,rA,rS,h0,h4,h3,ho,hi,hx,hw,hg,hf,Yr.u,ZLV]
  exact ih (i+1) _ (by omega) ⟨by omega,by simp only[↓xP,xU,rB,rA,rS,h0],by simp only[↓xP,xU,rB,rA,rS],by simp only[↓xP,xU,rB,rA,rS,h3],by simp only[↓xP,xU,rB,rA,rS,Yr.u]⟩
 ·have:i=l.length:=by omega
  subst this
  rw [ZFL] at ho
  simp only[↓xP,xU,rB,rA,rS,h0,h4,h3,ho,hi]
theorem ZKz (l:(List Yr)) (hs:ZF3 l):EE F 316 [L 3 (l.map Yr.u),L 3 (l.map Yr.u)] []=ok1 (B true):=by
 have hl:=hs.1
 rw [R316,b316]
 simp only[↓xP,xU,rB,rA,rS,ne_eq,not_true_eq_false]
 refine (Zjc (fun (i:Nat) st=>st.s 0=DU (.sl 3 (l.map Yr.u))∧st.s 1=DU (.sl 3 (l.map Yr.u))∧st.s 5=DI i) (fun i=>l.length - i) (fun i=>ok1 (B true)) ?_ 0 ⟨by simp only[↓xP,xU,rB,rA,rS],by simp only[↓xP,xU,rB,rA,rS],by simp only[↓xP,xU,rB,rA,rS]; rfl⟩)
 rintro i st ⟨h0,h1,h5⟩ ih
 by_cases hi:i<l.length
 ·obtain ⟨⟨c0,c1,c2⟩,hx⟩:∃ x,l[i]?=some x:=⟨_,List.getElem?_eq_getElem hi⟩
  have hw:=w_succ (i:=i) (by omega)
  simp only[↓xP,xU,rB,rA,rS,h0,h1,h5,hi,hx,hw,Yr.u,ZLm,ne_eq,not_true_eq_false]
  exact ih (i+1) _ (by omega) ⟨by simp only[↓xP,xU,rB,rA,rS,h0],by simp only[↓xP,xU,rB,rA,rS,h1],by simp only[↓xP,xU,rB,rA,rS]⟩
 ·simp only[↓xP,xU,rB,rA,rS,h0,h1,h5,hi]
def Yh.Small (x:Yh):Prop:=Ye.Small x.cmd∧True
def ZGS (x:Yh) (a:Int):Int:=chkZ (ZGc x.cmd a) fun a=>a
theorem ZKr (c0:Int) (c1:Int) (c2:Int) (c3:Str) (c4:Int) (c5:Int) (left:Int):EE F 338 [.ag [.u (.int .i64 c0),.u (.int .i64 c1),.u (.int .i64 c2),.u (.str c3),.u (.int .i64 c4),.u (.int .i64 c5)],I left] []=ok1 (I (ZGS ⟨c0,c1,⟨c2,c3,c4,c5⟩⟩ left)):=by
 rw [R338,b338]
 simp only[↓xP,xU,rB,rA,rS,ZHH]
 repeat' (refine ZiE (fun h=>?_) (fun h=>?_))
 all_goals (simp only[decide_eq_true_eq,decide_eq_false_iff_not] at *; simp [ZGS,offZ,chkZ, *])
theorem ZKq (x:Yh) (hf:Yh.Fit x):LeZ (ZGS x) (Yh.Small x):=LeZ.chk (ZHG _ hf.2.2) LeZ.id
theorem ZKs (c0:Int) (c1:Int) (c2:Int) (c3:Str) (c4:Int) (c5:Int):EE F 342 [.ag [.u (.int .i64 c0),.u (.int .i64 c1),.u (.int .i64 c2),.u (.str c3),.u (.int .i64 c4),.u (.int .i64 c5)]] []=ok1 (.ag [.u (.int .i64 c0),.u (.int .i64 c1),.u (.int .i64 c2),.u (.str c3),.u (.int .i64 c4),.u (.int .i64 c5)]):=by
 rw [R342,b342]
 simp only[↓xP,xU,rB,rA,rS,ZHJ]
theorem ZJW (c0:Int) (c1:Int) (c2:Int) (c3:Str) (c4:Int) (c5:Int):EE F 346 [.ag [.u (.int .i64 c0),.u (.int .i64 c1),.u (.int .i64 c2),.u (.str c3),.u (.int .i64 c4),.u (.int .i64 c5)],.ag [.u (.int .i64 c0),.u (.int .i64 c1),.u (.int .i64 c2),.u (.str c3),.u (.int .i64 c4),.u (.int .i64 c5)]] []=ok1 (B true):=by
 rw [R346,b346]
 simp only[↓xP,xU,rB,rA,rS,ZHw,ne_eq,not_true_eq_false]
def ZGf (l:(List Yh)):Prop:=l.length≤1048576∧∀ y,y∈l→Yh.Small y
def ZGL (l:(List Yh)) (left:Int):Int:=offZ left l.length fun a=>allZ ZGS l a
theorem ZJA (l:(List Yh)) (hf:(l.length≤9223372036854775807∧∀ y,y∈l→Yh.Fit y)) (left:Int):EE F 337 [L 6 (l.map Yh.u),I left] []=ok1 (I (ZGL l left)):=by
 have hl:=hf.1
 rw [R337,b337]
 simp only[↓xP,xU,rB,rA,rS]
 refine ZiE (fun h=>?_) (fun h=>?_)
 ·simp only[decide_eq_true_eq] at h
  simp [ZGL,offZ,h]
 ·refine (Zjc (fun (a:Nat×Int) st=>st.s 0=DU (.sl 6 (l.map Yh.u))∧st.s 5=DI a.1∧st.s 1=DI a.2) (fun a=>l.length - a.1) (fun a=>ok1 (I (allZ ZGS (l.drop a.1) a.2))) ?_ (0,IntKind.i64.wrap (left - l.length)) ⟨by simp only[↓xP,xU,rB,rA,rS],by simp only[↓xP,xU,rB,rA,rS]; rfl,by simp only[↓xP,xU,rB,rA,rS]⟩).trans ?_
  ·rintro ⟨i,a⟩ st ⟨h0,h5,h1⟩ ih
   dsimp only at h0 h5 h1 ih ⊢
   by_cases hi:i<l.length
   ·obtain ⟨⟨c0,c1,⟨c2,c3,c4,c5⟩⟩,hx⟩:∃ x,l[i]?=some x:=⟨_,List.getElem?_eq_getElem hi⟩
    have hw:=w_succ (i:=i) (by omega)
    have hfx:=hf.2 _ (List.mem_of_getElem? hx)
    simp only[↓xP,xU,rB,rA,rS,h0,h5,h1,hi,hx,hw,Yh.u,ZKr]
    rw [ZGW hx,chkZ]
    refine ZiE (fun h=>?_) (fun h=>?_)
    ·simp only[decide_eq_true_eq] at h
     simp [h]
    ·rw [ih (i+1,ZGS ⟨c0,c1,⟨c2,c3,c4,c5⟩⟩ a) _ (by dsimp only; omega) ⟨by simp only[↓xP,xU,rB,rA,rS,h0],by simp only[↓xP,xU,rB,rA,rS],by simp only[↓xP,xU,rB,rA,rS]⟩]
     simp only[decide_eq_false_iff_not] at h
     simp [h]
   ·simp only[↓xP,xU,rB,rA,rS,h0,h5,h1,hi]
    rw [List.drop_of_length_le (by omega)]; rfl
  ·simp only[decide_eq_false_iff_not] at h
   simp [ZGL,offZ,h]
theorem ZJz (l:(List Yh)) (hf:(l.length≤9223372036854775807∧∀ y,y∈l→Yh.Fit y)):LeZ (ZGL l) (ZGf l):=LeZ.off hf.1 (LeZ.all fun x hx=>ZKq x (hf.2 x hx))
theorem ZJB (l:(List Yh)) (hs:ZGf l):EE F 341 [L 6 (l.map Yh.u)] []=some ⟨[.sc (.own (.par 0) l.length)],[.row 6 (l.map Yh.u)],[]⟩:=by
 have hl:=hs.1
 rw [R341,b341]
 simp only[↓xP,xU,rB,rA,rS,ZJs _ 7 l.length [.int .i64 0,.int .i64 0,.int .i64 0,.str [],.int .i64 0,.int .i64 0] 56 (by omega)]
 refine (Zjc (fun (i:Nat) st=>i≤l.length∧st.s 0=DU (.sl 6 (l.map Yh.u))∧st.s 4=DI i∧st.s 3=.t (.sc (.own (.loc 7 0) l.length))∧st.o (.loc 7 0)=some (.row 6 ((l.take i).map Yh.u++List.replicate (l.length - i) [.int .i64 0,.int .i64 0,.int .i64 0,.str [],.int .i64 0,.int .i64 0]))) (fun i=>l.length - i) (fun i=>some ⟨[.sc (.own (.par 0) l.length)],[.row 6 (l.map Yh.u)],[]⟩) ?_ 0 ⟨by omega,by simp only[↓xP,xU,rB,rA,rS],by simp only[↓xP,xU,rB,rA,rS]; rfl,by simp only[↓xP,xU,rB,rA,rS],by simp only[↓xP,xU,rB,rA,rS,Nat.sub_zero]⟩)
 rintro i st ⟨hle,h0,h4,h3,ho⟩ ih
 by_cases hi:i<l.length
 ·obtain ⟨⟨c0,c1,⟨c2,c3,c4,c5⟩⟩,hx⟩:∃ x,l[i]?=some x:=⟨_,List.getElem?_eq_getElem hi⟩
  have hw:=w_succ (i:=i) (by omega)
  have hg:=ZFM (f:=Yh.u) (z:=[.int .i64 0,.int .i64 0,.int .i64 0,.str [],.int .i64 0,.int .i64 0]) hi
  have hf:=ZFN (f:=Yh.u) (z:=[.int .i64 0,.int .i64 0,.int .i64 0,.str [],.int .i64 0,.int .i64 0]) hx
  simp only[Yh.u] at hf
  simp only[↓xP,xU,rB,rA,rS,h0,h4,h3,ho,hi,hx,hw,hg,hf,Yh.u,ZKs]
  exact ih (i+1) _ (by omega) ⟨by omega,by simp only[↓xP,xU,rB,rA,rS,h0],by simp only[↓xP,xU,rB,rA,rS],by simp only[↓xP,xU,rB,rA,rS,h3],by simp only[↓xP,xU,rB,rA,rS,Yh.u]⟩
 ·have:i=l.length:=by omega
  subst this
  rw [ZFL] at ho
  simp only[↓xP,xU,rB,rA,rS,h0,h4,h3,ho,hi]
theorem ZJq (l:(List Yh)) (hs:ZGf l):EE F 345 [L 6 (l.map Yh.u),L 6 (l.map Yh.u)] []=ok1 (B true):=by
 have hl:=hs.1
 rw [R345,b345]
 simp only[↓xP,xU,rB,rA,rS,ne_eq,not_true_eq_false]
 refine (Zjc (fun (i:Nat) st=>st.s 0=DU (.sl 6 (l.map Yh.u))∧st.s 1=DU (.sl 6 (l.map Yh.u))∧st.s 5=DI i) (fun i=>l.length - i) (fun i=>ok1 (B true)) ?_ 0 ⟨by simp only[↓xP,xU,rB,rA,rS],by simp only[↓xP,xU,rB,rA,rS],by simp only[↓xP,xU,rB,rA,rS]; rfl⟩)
 rintro i st ⟨h0,h1,h5⟩ ih
 by_cases hi:i<l.length
 ·obtain ⟨⟨c0,c1,⟨c2,c3,c4,c5⟩⟩,hx⟩:∃ x,l[i]?=some x:=⟨_,List.getElem?_eq_getElem hi⟩
  have hw:=w_succ (i:=i) (by omega)
  simp only[↓xP,xU,rB,rA,rS,h0,h1,h5,hi,hx,hw,Yh.u,ZJW,ne_eq,not_true_eq_false]
  exact ih (i+1) _ (by omega) ⟨by simp only[↓xP,xU,rB,rA,rS,h0],by simp only[↓xP,xU,rB,rA,rS,h1],by simp only[↓xP,xU,rB,rA,rS]⟩
 ·simp only[↓xP,xU,rB,rA,rS,h0,h1,h5,hi]
def Ya.Small (x:Ya):Prop:=Yh.Small x.asked∧True
def ZGH (x:Ya) (a:Int):Int:=chkZ (ZGS x.asked a) fun a=>a
theorem ZMl (c0:Int) (c1:Int) (c2:Int) (c3:Str) (c4:Int) (c5:Int) (c6:Int) (left:Int):EE F 304 [.ag [.u (.int .i64 c0),.u (.int .i64 c1),.u (.int .i64 c2),.u (.str c3),.u (.int .i64 c4),.u (.int .i64 c5),.u (.int .i64 c6)],I left] []=ok1 (I (ZGH ⟨⟨c0,c1,⟨c2,c3,c4,c5⟩⟩,c6⟩ left)):=by
 rw [R304,b304]
 simp only[↓xP,xU,rB,rA,rS,ZKr]
 repeat' (refine ZiE (fun h=>?_) (fun h=>?_))
 all_goals (simp only[decide_eq_true_eq,decide_eq_false_iff_not] at *; simp [ZGH,offZ,chkZ, *])
theorem ZMk (x:Ya) (hf:Ya.Fit x):LeZ (ZGH x) (Ya.Small x):=LeZ.chk (ZKq _ hf.1) LeZ.id
theorem ZMu (c0:Int) (c1:Int) (c2:Int) (c3:Str) (c4:Int) (c5:Int) (c6:Int):EE F 311 [.ag [.u (.int .i64 c0),.u (.int .i64 c1),.u (.int .i64 c2),.u (.str c3),.u (.int .i64 c4),.u (.int .i64 c5),.u (.int .i64 c6)]] []=ok1 (.ag [.u (.int .i64 c0),.u (.int .i64 c1),.u (.int .i64 c2),.u (.str c3),.u (.int .i64 c4),.u (.int .i64 c5),.u (.int .i64 c6)]):=by
 rw [R311,b311]
 simp only[↓xP,xU,rB,rA,rS,ZKs]
theorem ZL0 (c0:Int) (c1:Int) (c2:Int) (c3:Str) (c4:Int) (c5:Int) (c6:Int):EE F 320 [.ag [.u (.int .i64 c0),.u (.int .i64 c1),.u (.int .i64 c2),.u (.str c3),.u (.int .i64 c4),.u (.int .i64 c5),.u (.int .i64 c6)],.ag [.u (.int .i64 c0),.u (.int .i64 c1),.u (.int .i64 c2),.u (.str c3),.u (.int .i64 c4),.u (.int .i64 c5),.u (.int .i64 c6)]] []=ok1 (B true):=by
 rw [R320,b320]
 simp only[↓xP,xU,rB,rA,rS,ZJW,ne_eq,not_true_eq_false]
def ZGn (l:(List Ya)):Prop:=l.length≤1048576∧∀ y,y∈l→Ya.Small y
def ZGI (l:(List Ya)) (left:Int):Int:=offZ left l.length fun a=>allZ ZGH l a
theorem ZLF (l:(List Ya)) (hf:(l.length≤9223372036854775807∧∀ y,y∈l→Ya.Fit y)) (left:Int):EE F 257 [L 7 (l.map Ya.u),I left] []=ok1 (I (ZGI l left)):=by
 have hl:=hf.1
 rw [R257,b257]
 simp only[↓xP,xU,rB,rA,rS]
 refine ZiE (fun h=>?_) (fun h=>?_)
 ·simp only[decide_eq_true_eq] at h
  simp [ZGI,offZ,h]
 ·refine (Zjc (fun (a:Nat×Int) st=>st.s 0=DU (.sl 7 (l.map Ya.u))∧st.s 5=DI a.1∧st.s 1=DI a.2) (fun a=>l.length - a.1) (fun a=>ok1 (I (allZ ZGH (l.drop a.1) a.2))) ?_ (0,IntKind.i64.wrap (left - l.length)) ⟨by simp only[↓xP,xU,rB,rA,rS],by simp only[↓xP,xU,rB,rA,rS]; rfl,by simp only[↓xP,xU,rB,rA,rS]⟩).trans ?_
  ·rintro ⟨i,a⟩ st ⟨h0,h5,h1⟩ ih
   dsimp only at h0 h5 h1 ih ⊢
   by_cases hi:i<l.length
   ·obtain ⟨⟨⟨c0,c1,⟨c2,c3,c4,c5⟩⟩,c6⟩,hx⟩:∃ x,l[i]?=some x:=⟨_,List.getElem?_eq_getElem hi⟩
    have hw:=w_succ (i:=i) (by omega)
    have hfx:=hf.2 _ (List.mem_of_getElem? hx)
    simp only[↓xP,xU,rB,rA,rS,h0,h5,h1,hi,hx,hw,Ya.u,ZMl]
    rw [ZGW hx,chkZ]
    refine ZiE (fun h=>?_) (fun h=>?_)
    ·simp only[decide_eq_true_eq] at h
     simp [h]
    ·rw [ih (i+1,ZGH ⟨⟨c0,c1,⟨c2,c3,c4,c5⟩⟩,c6⟩ a) _ (by dsimp only; omega) ⟨by simp only[↓xP,xU,rB,rA,rS,h0],by simp only[↓xP,xU,rB,rA,rS],by simp only[↓xP,xU,rB,rA,rS]⟩]
     simp only[decide_eq_false_iff_not] at h
     simp [h]
   ·simp only[↓xP,xU,rB,rA,rS,h0,h5,h1,hi]
    rw [List.drop_of_length_le (by omega)]; rfl
  ·simp only[decide_eq_false_iff_not] at h
   simp [ZGI,offZ,h]
theorem ZLE (l:(List Ya)) (hf:(l.length≤9223372036854775807∧∀ y,y∈l→Ya.Fit y)):LeZ (ZGI l) (ZGn l):=LeZ.off hf.1 (LeZ.all fun x hx=>ZMk x (hf.2 x hx))
theorem ZLQ (l:(List Ya)) (hs:ZGn l):EE F 267 [L 7 (l.map Ya.u)] []=some ⟨[.sc (.own (.par 0) l.length)],[.row 7 (l.map Ya.u)],[]⟩:=by
 have hl:=hs.1
 rw [R267,b267]
 simp only[↓xP,xU,rB,rA,rS,ZJs _ 7 l.length [.int .i64 0,.int .i64 0,.int .i64 0,.str [],.int .i64 0,.int .i64 0,.int .i64 0] 64 (by omega)]
 refine (Zjc (fun (i:Nat) st=>i≤l.length∧st.s 0=DU (.sl 7 (l.map Ya.u))∧st.s 4=DI i∧st.s 3=.t (.sc (.own (.loc 7 0) l.length))∧st.o (.loc 7 0)=some (.row 7 ((l.take i).map Ya.u++List.replicate (l.length - i) [.int .i64 0,.int .i64 0,.int .i64 0,.str [],.int .i64 0,.int .i64 0,.int .i64 0]))) (fun i=>l.length - i) (fun i=>some ⟨[.sc (.own (.par 0) l.length)],[.row 7 (l.map Ya.u)],[]⟩) ?_ 0 ⟨by omega,by simp only[↓xP,xU,rB,rA,rS],by simp only[↓xP,xU,rB,rA,rS]; rfl,by simp only[↓xP,xU,rB,rA,rS],by simp only[↓xP,xU,rB,rA,rS,Nat.sub_zero]⟩)
 rintro i st ⟨hle,h0,h4,h3,ho⟩ ih
 by_cases hi:i<l.length
 ·obtain ⟨⟨⟨c0,c1,⟨c2,c3,c4,c5⟩⟩,c6⟩,hx⟩:∃ x,l[i]?=some x:=⟨_,List.getElem?_eq_getElem hi⟩
  have hw:=w_succ (i:=i) (by omega)
  have hg:=ZFM (f:=Ya.u) (z:=[.int .i64 0,.int .i64 0,.int .i64 0,.str [],.int .i64 0,.int .i64 0,.int .i64 0]) hi
  have hf:=ZFN (f:=Ya.u) (z:=[.int .i64 0,.int .i64 0,.int .i64 0,.str [],.int .i64 0,.int .i64 0,.int .i64 0]) hx
  simp only[Ya.u] at hf
  simp only[↓xP,xU,rB,rA,rS,h0,h4,h3,ho,hi,hx,hw,hg,hf,Ya.u,ZMu]
  exact ih (i+1) _ (by omega) ⟨by omega,by simp only[↓xP,xU,rB,rA,rS,h0],by simp only[↓xP,xU,rB,rA,rS],by simp only[↓xP,xU,rB,rA,rS,h3],by simp only[↓xP,xU,rB,rA,rS,Ya.u]⟩
 ·have:i=l.length:=by omega
  subst this
  rw [ZFL] at ho
  simp only[↓xP,xU,rB,rA,rS,h0,h4,h3,ho,hi]
theorem ZLg (l:(List Ya)) (hs:ZGn l):EE F 280 [L 7 (l.map Ya.u),L 7 (l.map Ya.u)] []=ok1 (B true):=by
 have hl:=hs.1
 rw [R280,b280]
 simp only[↓xP,xU,rB,rA,rS,ne_eq,not_true_eq_false]
 refine (Zjc (fun (i:Nat) st=>st.s 0=DU (.sl 7 (l.map Ya.u))∧st.s 1=DU (.sl 7 (l.map Ya.u))∧st.s 5=DI i) (fun i=>l.length - i) (fun i=>ok1 (B true)) ?_ 0 ⟨by simp only[↓xP,xU,rB,rA,rS],by simp only[↓xP,xU,rB,rA,rS],by simp only[↓xP,xU,rB,rA,rS]; rfl⟩)
 rintro i st ⟨h0,h1,h5⟩ ih
 by_cases hi:i<l.length
 ·obtain ⟨⟨⟨c0,c1,⟨c2,c3,c4,c5⟩⟩,c6⟩,hx⟩:∃ x,l[i]?=some x:=⟨_,List.getElem?_eq_getElem hi⟩
  have hw:=w_succ (i:=i) (by omega)
  simp only[↓xP,xU,rB,rA,rS,h0,h1,h5,hi,hx,hw,Ya.u,ZL0,ne_eq,not_true_eq_false]
  exact ih (i+1) _ (by omega) ⟨by simp only[↓xP,xU,rB,rA,rS,h0],by simp only[↓xP,xU,rB,rA,rS,h1],by simp only[↓xP,xU,rB,rA,rS]⟩
 ·simp only[↓xP,xU,rB,rA,rS,h0,h1,h5,hi]
def Yt.Small (x:Yt):Prop:=Yj.Small x.span∧ZGy x.pairs∧ZF3 x.known∧x.cut.length≤1048576∧True
def ZIe (x:Yt) (a:Int):Int:=chkZ (ZGk x.span a) fun a=>chkZ (ZHt x.pairs a) fun a=>chkZ (ZGT x.known a) fun a=>offZ a x.cut.length fun a=>a
theorem ZM4 (c0:Str) (c1:Str) (c2:(List Yl)) (c3:(List Yr)) (c4:Bool) (c5:Str) (hf:Yt.Fit ⟨⟨c0,c1⟩,c2,c3,c4,c5⟩) (left:Int):EE F 252 [.ag [.u (.str c0),.u (.str c1),.u (.sl 2 (c2.map Yl.u)),.u (.sl 3 (c3.map Yr.u)),.u (.bool c4),.u (.str c5)],I left] []=ok1 (I (ZIe ⟨⟨c0,c1⟩,c2,c3,c4,c5⟩ left)):=by
 rw [R252,b252]
 simp only[↓xP,xU,rB,rA,rS,ZHl,ZMY c2 hf.2.1,ZKT]
 repeat' (refine ZiE (fun h=>?_) (fun h=>?_))
 all_goals (simp only[decide_eq_true_eq,decide_eq_false_iff_not] at *; simp [ZIe,offZ,chkZ, *])
theorem ZM3 (x:Yt) (hf:Yt.Fit x):LeZ (ZIe x) (Yt.Small x):=LeZ.chk (ZIs _ hf.1) (LeZ.chk (ZMX _ hf.2.1) (LeZ.chk (ZKS _ hf.2.2.1) (LeZ.off hf.2.2.2.2 LeZ.id)))
theorem ZNa (c0:Str) (c1:Str) (c2:(List Yl)) (c3:(List Yr)) (c4:Bool) (c5:Str) (hs:Yt.Small ⟨⟨c0,c1⟩,c2,c3,c4,c5⟩):EE F 262 [.ag [.u (.str c0),.u (.str c1),.u (.sl 2 (c2.map Yl.u)),.u (.sl 3 (c3.map Yr.u)),.u (.bool c4),.u (.str c5)]] []=some ⟨[.ag [.u (.str c0),.u (.str c1),.own (.par 0) c2.length,.own (.par 1) c3.length,.u (.bool c4),.u (.str c5)]],[.row 2 (c2.map Yl.u),.row 3 (c3.map Yr.u)],[]⟩:=by
 rw [R262,b262]
 simp only[↓xP,xU,rB,rA,rS,ZGP,ZM7 c2 hs.2.1,ZKW c3 hs.2.2.1]
theorem ZMG (c0:Str) (c1:Str) (c2:(List Yl)) (c3:(List Yr)) (c4:Bool) (c5:Str) (hs:Yt.Small ⟨⟨c0,c1⟩,c2,c3,c4,c5⟩):EE F 275 [.ag [.u (.str c0),.u (.str c1),.u (.sl 2 (c2.map Yl.u)),.u (.sl 3 (c3.map Yr.u)),.u (.bool c4),.u (.str c5)],.ag [.u (.str c0),.u (.str c1),.u (.sl 2 (c2.map Yl.u)),.u (.sl 3 (c3.map Yr.u)),.u (.bool c4),.u (.str c5)]] []=ok1 (B true):=by
 rw [R275,b275]
 simp only[↓xP,xU,rB,rA,rS,ZHi,ZJX c2 hs.2.1,ZKz c3 hs.2.2.1,ne_eq,not_true_eq_false]
def Ym.Small (x:Ym):Prop:=Yj.Small x.span∧ZGy x.pairs∧True
theorem ZMD (c0:Str) (c1:Str) (c2:(List Yl)) (hs:Ym.Small ⟨⟨c0,c1⟩,c2⟩):EE F 76 [.ag [.u (.str c0),.u (.str c1),.u (.sl 2 (c2.map Yl.u))],.ag [.u (.str c0),.u (.str c1),.u (.sl 2 (c2.map Yl.u))]] []=ok1 (B true):=by
 rw [R76,b76]
 simp only[↓xP,xU,rB,rA,rS,ZHi,ZJX c2 hs.2.1,ne_eq,not_true_eq_false]
def ZHN (l:(List Ym)):Prop:=l.length≤1048576∧∀ y,y∈l→Ym.Small y
theorem ZL2 (l:(List Ym)) (hs:ZHN l):EE F 20 [L 3 (l.map Ym.u),L 3 (l.map Ym.u)] []=ok1 (B true):=by
 have hl:=hs.1
 rw [R20,b20]
 simp only[↓xP,xU,rB,rA,rS,ne_eq,not_true_eq_false]
 refine (Zjc (fun (i:Nat) st=>st.s 0=DU (.sl 3 (l.map Ym.u))∧st.s 1=DU (.sl 3 (l.map Ym.u))∧st.s 5=DI i) (fun i=>l.length - i) (fun i=>ok1 (B true)) ?_ 0 ⟨by simp only[↓xP,xU,rB,rA,rS],by simp only[↓xP,xU,rB,rA,rS],by simp only[↓xP,xU,rB,rA,rS]; rfl⟩)
 rintro i st ⟨h0,h1,h5⟩ ih
 by_cases hi:i<l.length
 ·obtain ⟨⟨⟨c0,c1⟩,c2⟩,hx⟩:∃ x,l[i]?=some x:=⟨_,List.getElem?_eq_getElem hi⟩
  have hw:=w_succ (i:=i) (by omega)
  have hsx:=hs.2 _ (List.mem_of_getElem? hx)
  simp only[↓xP,xU,rB,rA,rS,h0,h1,h5,hi,hx,hw,Ym.u,ZMD c0 c1 c2 hsx,ne_eq,not_true_eq_false]
  exact ih (i+1) _ (by omega) ⟨by simp only[↓xP,xU,rB,rA,rS,h0],by simp only[↓xP,xU,rB,rA,rS,h1],by simp only[↓xP,xU,rB,rA,rS]⟩
 ·simp only[↓xP,xU,rB,rA,rS,h0,h1,h5,hi]
def Yf.Small (x:Yf):Prop:=ZHm x.members∧True
def ZGK (x:Yf) (a:Int):Int:=chkZ (ZI5 x.members a) fun a=>a
theorem ZId (c0:Int) (c1:(List Int)) (c2:Bool) (left:Int):EE F 253 [.ag [.u (.int .i64 c0),.u (.sl 1 (c1.map iU)),.u (.bool c2)],I left] []=ok1 (I (ZGK ⟨c0,c1,c2⟩ left)):=by
 rw [R253,b253]
 simp only[↓xP,xU,rB,rA,rS,ZNL]
 repeat' (refine ZiE (fun h=>?_) (fun h=>?_))
 all_goals (simp only[decide_eq_true_eq,decide_eq_false_iff_not] at *; simp [ZGK,offZ,chkZ, *])
theorem ZIc (x:Yf) (hf:Yf.Fit x):LeZ (ZGK x) (Yf.Small x):=LeZ.chk (ZNK _ hf.2.1) LeZ.id
theorem ZIf (c0:Int) (c1:(List Int)) (c2:Bool) (hs:Yf.Small ⟨c0,c1,c2⟩):EE F 263 [.ag [.u (.int .i64 c0),.u (.sl 1 (c1.map iU)),.u (.bool c2)]] []=some ⟨[.ag [.u (.int .i64 c0),.own (.par 0) c1.length,.u (.bool c2)]],[.row 1 (c1.map iU)],[]⟩:=by
 rw [R263,b263]
 simp only[↓xP,xU,rB,rA,rS,ZNQ c1 hs.1]
theorem ZHS (c0:Int) (c1:(List Int)) (c2:Bool) (hs:Yf.Small ⟨c0,c1,c2⟩):EE F 276 [.ag [.u (.int .i64 c0),.u (.sl 1 (c1.map iU)),.u (.bool c2)],.ag [.u (.int .i64 c0),.u (.sl 1 (c1.map iU)),.u (.bool c2)]] []=ok1 (B true):=by
 rw [R276,b276]
 simp only[↓xP,xU,rB,rA,rS,ZNw c1 hs.1,ne_eq,not_true_eq_false]
def Yi.Small (x:Yi):Prop:=Yh.Small x.sent∧True
def Yn.Small (x:Yn):Prop:=x.key.length≤1048576∧True
def ZJT (x:Yn) (a:Int):Int:=offZ a x.key.length fun a=>a
theorem ZNP (c0:Int) (c1:Int) (c2:Int) (c3:Str) (c4:Int) (c5:Int) (c6:Int) (left:Int):EE F 57 [.ag [.u (.int .i64 c0),.u (.int .i64 c1),.u (.int .i64 c2),.u (.str c3),.u (.int .i64 c4),.u (.int .i64 c5),.u (.int .i64 c6)],I left] []=ok1 (I (ZJT ⟨c0,c1,c2,c3,c4,c5,c6⟩ left)):=by
 rw [R57,b57]
 simp only[↓xP,xU,rB,rA,rS]
 repeat' (refine ZiE (fun h=>?_) (fun h=>?_))
 all_goals (simp only[decide_eq_true_eq,decide_eq_false_iff_not] at *; simp [ZJT,offZ,chkZ, *])
theorem ZNO (x:Yn) (hf:Yn.Fit x):LeZ (ZJT x) (Yn.Small x):=LeZ.off hf.2.2.2.1 LeZ.id
theorem ZNS (c0:Int) (c1:Int) (c2:Int) (c3:Str) (c4:Int) (c5:Int) (c6:Int):EE F 65 [.ag [.u (.int .i64 c0),.u (.int .i64 c1),.u (.int .i64 c2),.u (.str c3),.u (.int .i64 c4),.u (.int .i64 c5),.u (.int .i64 c6)]] []=ok1 (.ag [.u (.int .i64 c0),.u (.int .i64 c1),.u (.int .i64 c2),.u (.str c3),.u (.int .i64 c4),.u (.int .i64 c5),.u (.int .i64 c6)]):=by
 rw [R65,b65]
 simp only[↓xP,xU,rB,rA,rS]
theorem ZNy (c0:Int) (c1:Int) (c2:Int) (c3:Str) (c4:Int) (c5:Int) (c6:Int):EE F 73 [.ag [.u (.int .i64 c0),.u (.int .i64 c1),.u (.int .i64 c2),.u (.str c3),.u (.int .i64 c4),.u (.int .i64 c5),.u (.int .i64 c6)],.ag [.u (.int .i64 c0),.u (.int .i64 c1),.u (.int .i64 c2),.u (.str c3),.u (.int .i64 c4),.u (.int .i64 c5),.u (.int .i64 c6)]] []=ok1 (B true):=by
 rw [R73,b73]
 simp only[↓xP,xU,rB,rA,rS,ne_eq,not_true_eq_false]
def Yg.Small (x:Yg):Prop:=Ye.Small x.wish∧Yi.Small x.inner∧Yn.Small x.work∧True
def Yo.Small (x:Yo):Prop:=Yf.Small x.conf∧ZGf x.log∧True
def ZGe (x:Yo) (a:Int):Int:=chkZ (ZGK x.conf a) fun a=>chkZ (ZGL x.log a) fun a=>a
theorem ZLN (c0:Int) (c1:(List Int)) (c2:Bool) (c3:Bool) (c4:(List Yh)) (hf:Yo.Fit ⟨⟨c0,c1,c2⟩,c3,c4⟩) (left:Int):EE F 302 [.ag [.u (.int .i64 c0),.u (.sl 1 (c1.map iU)),.u (.bool c2),.u (.bool c3),.u (.sl 6 (c4.map Yh.u))],I left] []=ok1 (I (ZGe ⟨⟨c0,c1,c2⟩,c3,c4⟩ left)):=by
 rw [R302,b302]
 simp only[↓xP,xU,rB,rA,rS,ZId,ZJA c4 hf.2.2]
 repeat' (refine ZiE (fun h=>?_) (fun h=>?_))
 all_goals (simp only[decide_eq_true_eq,decide_eq_false_iff_not] at *; simp [ZGe,offZ,chkZ, *])
theorem ZLM (x:Yo) (hf:Yo.Fit x):LeZ (ZGe x) (Yo.Small x):=LeZ.chk (ZIc _ hf.1) (LeZ.chk (ZJz _ hf.2.2) LeZ.id)
theorem ZLT (c0:Int) (c1:(List Int)) (c2:Bool) (c3:Bool) (c4:(List Yh)) (hs:Yo.Small ⟨⟨c0,c1,c2⟩,c3,c4⟩):EE F 309 [.ag [.u (.int .i64 c0),.u (.sl 1 (c1.map iU)),.u (.bool c2),.u (.bool c3),.u (.sl 6 (c4.map Yh.u))]] []=some ⟨[.ag [.u (.int .i64 c0),.own (.par 0) c1.length,.u (.bool c2),.u (.bool c3),.own (.par 1) c4.length]],[.row 1 (c1.map iU),.row 6 (c4.map Yh.u)],[]⟩:=by
 rw [R309,b309]
 simp only[↓xP,xU,rB,rA,rS,ZIf c0 c1 c2 hs.1,ZJB c4 hs.2.1]
theorem ZLk (c0:Int) (c1:(List Int)) (c2:Bool) (c3:Bool) (c4:(List Yh)) (hs:Yo.Small ⟨⟨c0,c1,c2⟩,c3,c4⟩):EE F 318 [.ag [.u (.int .i64 c0),.u (.sl 1 (c1.map iU)),.u (.bool c2),.u (.bool c3),.u (.sl 6 (c4.map Yh.u))],.ag [.u (.int .i64 c0),.u (.sl 1 (c1.map iU)),.u (.bool c2),.u (.bool c3),.u (.sl 6 (c4.map Yh.u))]] []=ok1 (B true):=by
 rw [R318,b318]
 simp only[↓xP,xU,rB,rA,rS,ZHS c0 c1 c2 hs.1,ZJq c4 hs.2.1,ne_eq,not_true_eq_false]
def ZF2 (l:(List Yo)):Prop:=l.length≤1048576∧∀ y,y∈l→Yo.Small y
def ZGm (l:(List Yo)) (left:Int):Int:=offZ left l.length fun a=>allZ ZGe l a
theorem ZKR (l:(List Yo)) (hf:(l.length≤9223372036854775807∧∀ y,y∈l→Yo.Fit y)) (left:Int):EE F 254 [L 5 (l.map Yo.u),I left] []=ok1 (I (ZGm l left)):=by
 have hl:=hf.1
 rw [R254,b254]
 simp only[↓xP,xU,rB,rA,rS]
 refine ZiE (fun h=>?_) (fun h=>?_)
 ·simp only[decide_eq_true_eq] at h
  simp [ZGm,offZ,h]
 ·refine (Zjc (fun (a:Nat×Int) st=>st.s 0=DU (.sl 5 (l.map Yo.u))∧st.s 5=DI a.1∧st.s 1=DI a.2) (fun a=>l.length - a.1) (fun a=>ok1 (I (allZ ZGe (l.drop a.1) a.2))) ?_ (0,IntKind.i64.wrap (left - l.length)) ⟨by simp only[↓xP,xU,rB,rA,rS],by simp only[↓xP,xU,rB,rA,rS]; rfl,by simp only[↓xP,xU,rB,rA,rS]⟩).trans ?_
  ·rintro ⟨i,a⟩ st ⟨h0,h5,h1⟩ ih
   dsimp only at h0 h5 h1 ih ⊢
   by_cases hi:i<l.length
   ·obtain ⟨⟨⟨c0,c1,c2⟩,c3,c4⟩,hx⟩:∃ x,l[i]?=some x:=⟨_,List.getElem?_eq_getElem hi⟩
    have hw:=w_succ (i:=i) (by omega)
    have hfx:=hf.2 _ (List.mem_of_getElem? hx)
    simp only[↓xP,xU,rB,rA,rS,h0,h5,h1,hi,hx,hw,Yo.u,ZLN c0 c1 c2 c3 c4 hfx]
    rw [ZGW hx,chkZ]
    refine ZiE (fun h=>?_) (fun h=>?_)
    ·simp only[decide_eq_true_eq] at h
     simp [h]
    ·rw [ih (i+1,ZGe ⟨⟨c0,c1,c2⟩,c3,c4⟩ a) _ (by dsimp only; omega) ⟨by simp only[↓xP,xU,rB,rA,rS,h0],by simp only[↓xP,xU,rB,rA,rS],by simp only[↓xP,xU,rB,rA,rS]⟩]
     simp only[decide_eq_false_iff_not] at h
     simp [h]
   ·simp only[↓xP,xU,rB,rA,rS,h0,h5,h1,hi]
    rw [List.drop_of_length_le (by omega)]; rfl
  ·simp only[decide_eq_false_iff_not] at h
   simp [ZGm,offZ,h]
theorem ZKQ (l:(List Yo)) (hf:(l.length≤9223372036854775807∧∀ y,y∈l→Yo.Fit y)):LeZ (ZGm l) (ZF2 l):=LeZ.off hf.1 (LeZ.all fun x hx=>ZLM x (hf.2 x hx))
theorem ZKV (l:(List Yo)) (hs:ZF2 l):EE F 264 [L 5 (l.map Yo.u)] []=some ⟨[.sc (.down (.par 0) l.length)],[.deep 5 (l.map Yo.u)],[]⟩:=by
 have hl:=hs.1
 rw [R264,b264]
 simp only[↓xP,xU,rB,rA,rS,ZLr _ 7 l.length [.int .i64 0,.sl 1 [],.bool false,.bool false,.sl 6 []] 72 (by omega) rfl]
 refine (Zjc (fun (i:Nat) st=>i≤l.length∧st.s 0=DU (.sl 5 (l.map Yo.u))∧st.s 4=DI i∧st.s 3=.t (.sc (.down (.loc 7 0) l.length))∧st.o (.loc 7 0)=some (.deep 5 ((l.take i).map Yo.u++List.replicate (l.length - i) [.int .i64 0,.sl 1 [],.bool false,.bool false,.sl 6 []]))) (fun i=>l.length - i) (fun i=>some ⟨[.sc (.down (.par 0) l.length)],[.deep 5 (l.map Yo.u)],[]⟩) ?_ 0 ⟨by omega,by simp only[↓xP,xU,rB,rA,rS],by simp only[↓xP,xU,rB,rA,rS]; rfl,by simp only[↓xP,xU,rB,rA,rS],by simp only[↓xP,xU,rB,rA,rS,Nat.sub_zero]⟩)
 rintro i st ⟨hle,h0,h4,h3,ho⟩ ih
 by_cases hi:i<l.length
 ·obtain ⟨⟨⟨c0,c1,c2⟩,c3,c4⟩,hx⟩:∃ x,l[i]?=some x:=⟨_,List.getElem?_eq_getElem hi⟩
  have hw:=w_succ (i:=i) (by omega)
  have hg:=ZFM (f:=Yo.u) (z:=[.int .i64 0,.sl 1 [],.bool false,.bool false,.sl 6 []]) hi
  have hf:=ZFN (f:=Yo.u) (z:=[.int .i64 0,.sl 1 [],.bool false,.bool false,.sl 6 []]) hx
  simp only[Yo.u] at hf
  have hsx:=hs.2 _ (List.mem_of_getElem? hx)
  simp only[↓xP,xU,rB,rA,rS,h0,h4,h3,ho,hi,hx,hw,hg,hf,Yo.u,ZLT c0 c1 c2 c3 c4 hsx]
  exact ih (i+1) _ (by omega) ⟨by omega,by simp only[↓xP,xU,rB,rA,rS,h0],by simp only[↓xP,xU,rB,rA,rS],by simp only[↓xP,xU,rB,rA,rS,h3],by simp only[↓xP,xU,rB,rA,rS,Yo.u]⟩
 ·have:i=l.length:=by omega
  subst this
  rw [ZFL] at ho
  simp only[↓xP,xU,rB,rA,rS,h0,h4,h3,ho,hi]
theorem ZKy (l:(List Yo)) (hs:ZF2 l):EE F 277 [L 5 (l.map Yo.u),L 5 (l.map Yo.u)] []=ok1 (B true):=by
 have hl:=hs.1
 rw [R277,b277]
 simp only[↓xP,xU,rB,rA,rS,ne_eq,not_true_eq_false]
 refine (Zjc (fun (i:Nat) st=>st.s 0=DU (.sl 5 (l.map Yo.u))∧st.s 1=DU (.sl 5 (l.map Yo.u))∧st.s 5=DI i) (fun i=>l.length - i) (fun i=>ok1 (B true)) ?_ 0 ⟨by simp only[↓xP,xU,rB,rA,rS],by simp only[↓xP,xU,rB,rA,rS],by simp only[↓xP,xU,rB,rA,rS]; rfl⟩)
 rintro i st ⟨h0,h1,h5⟩ ih
 by_cases hi:i<l.length
 ·obtain ⟨⟨⟨c0,c1,c2⟩,c3,c4⟩,hx⟩:∃ x,l[i]?=some x:=⟨_,List.getElem?_eq_getElem hi⟩
  have hw:=w_succ (i:=i) (by omega)
  have hsx:=hs.2 _ (List.mem_of_getElem? hx)
  simp only[↓xP,xU,rB,rA,rS,h0,h1,h5,hi,hx,hw,Yo.u,ZLk c0 c1 c2 c3 c4 hsx,ne_eq,not_true_eq_false]
  exact ih (i+1) _ (by omega) ⟨by simp only[↓xP,xU,rB,rA,rS,h0],by simp only[↓xP,xU,rB,rA,rS,h1],by simp only[↓xP,xU,rB,rA,rS]⟩
 ·simp only[↓xP,xU,rB,rA,rS,h0,h1,h5,hi]
def Yk.Small (x:Yk):Prop:=Yf.Small x.conf∧ZGf x.log∧True
def ZGd (x:Yk) (a:Int):Int:=chkZ (ZGK x.conf a) fun a=>chkZ (ZGL x.log a) fun a=>a
theorem ZLL (c0:Int) (c1:Int) (c2:Int) (c3:Int) (c4:(List Int)) (c5:Bool) (c6:(List Yh)) (hf:Yk.Fit ⟨c0,c1,c2,⟨c3,c4,c5⟩,c6⟩) (left:Int):EE F 303 [.ag [.u (.int .i64 c0),.u (.int .i64 c1),.u (.int .i64 c2),.u (.int .i64 c3),.u (.sl 1 (c4.map iU)),.u (.bool c5),.u (.sl 6 (c6.map Yh.u))],I left] []=ok1 (I (ZGd ⟨c0,c1,c2,⟨c3,c4,c5⟩,c6⟩ left)):=by
 rw [R303,b303]
 simp only[↓xP,xU,rB,rA,rS,ZId,ZJA c6 hf.2.2.2.2]
 repeat' (refine ZiE (fun h=>?_) (fun h=>?_))
 all_goals (simp only[decide_eq_true_eq,decide_eq_false_iff_not] at *; simp [ZGd,offZ,chkZ, *])
theorem ZLK (x:Yk) (hf:Yk.Fit x):LeZ (ZGd x) (Yk.Small x):=LeZ.chk (ZIc _ hf.2.2.2.1) (LeZ.chk (ZJz _ hf.2.2.2.2) LeZ.id)
theorem ZLS (c0:Int) (c1:Int) (c2:Int) (c3:Int) (c4:(List Int)) (c5:Bool) (c6:(List Yh)) (hs:Yk.Small ⟨c0,c1,c2,⟨c3,c4,c5⟩,c6⟩):EE F 310 [.ag [.u (.int .i64 c0),.u (.int .i64 c1),.u (.int .i64 c2),.u (.int .i64 c3),.u (.sl 1 (c4.map iU)),.u (.bool c5),.u (.sl 6 (c6.map Yh.u))]] []=some ⟨[.ag [.u (.int .i64 c0),.u (.int .i64 c1),.u (.int .i64 c2),.u (.int .i64 c3),.own (.par 0) c4.length,.u (.bool c5),.own (.par 1) c6.length]],[.row 1 (c4.map iU),.row 6 (c6.map Yh.u)],[]⟩:=by
 rw [R310,b310]
 simp only[↓xP,xU,rB,rA,rS,ZIf c3 c4 c5 hs.1,ZJB c6 hs.2.1]
theorem ZLi (c0:Int) (c1:Int) (c2:Int) (c3:Int) (c4:(List Int)) (c5:Bool) (c6:(List Yh)) (hs:Yk.Small ⟨c0,c1,c2,⟨c3,c4,c5⟩,c6⟩):EE F 319 [.ag [.u (.int .i64 c0),.u (.int .i64 c1),.u (.int .i64 c2),.u (.int .i64 c3),.u (.sl 1 (c4.map iU)),.u (.bool c5),.u (.sl 6 (c6.map Yh.u))],.ag [.u (.int .i64 c0),.u (.int .i64 c1),.u (.int .i64 c2),.u (.int .i64 c3),.u (.sl 1 (c4.map iU)),.u (.bool c5),.u (.sl 6 (c6.map Yh.u))]] []=ok1 (B true):=by
 rw [R319,b319]
 simp only[↓xP,xU,rB,rA,rS,ZHS c3 c4 c5 hs.1,ZJq c6 hs.2.1,ne_eq,not_true_eq_false]
def ZFy (l:(List Yk)):Prop:=l.length≤1048576∧∀ y,y∈l→Yk.Small y
def ZGl (l:(List Yk)) (left:Int):Int:=offZ left l.length fun a=>allZ ZGd l a
theorem ZKP (l:(List Yk)) (hf:(l.length≤9223372036854775807∧∀ y,y∈l→Yk.Fit y)) (left:Int):EE F 256 [L 7 (l.map Yk.u),I left] []=ok1 (I (ZGl l left)):=by
 have hl:=hf.1
 rw [R256,b256]
 simp only[↓xP,xU,rB,rA,rS]
 refine ZiE (fun h=>?_) (fun h=>?_)
 ·simp only[decide_eq_true_eq] at h
  simp [ZGl,offZ,h]
 ·refine (Zjc (fun (a:Nat×Int) st=>st.s 0=DU (.sl 7 (l.map Yk.u))∧st.s 5=DI a.1∧st.s 1=DI a.2) (fun a=>l.length - a.1) (fun a=>ok1 (I (allZ ZGd (l.drop a.1) a.2))) ?_ (0,IntKind.i64.wrap (left - l.length)) ⟨by simp only[↓xP,xU,rB,rA,rS],by simp only[↓xP,xU,rB,rA,rS]; rfl,by simp only[↓xP,xU,rB,rA,rS]⟩).trans ?_
  ·rintro ⟨i,a⟩ st ⟨h0,h5,h1⟩ ih
   dsimp only at h0 h5 h1 ih ⊢
   by_cases hi:i<l.length
   ·obtain ⟨⟨c0,c1,c2,⟨c3,c4,c5⟩,c6⟩,hx⟩:∃ x,l[i]?=some x:=⟨_,List.getElem?_eq_getElem hi⟩
    have hw:=w_succ (i:=i) (by omega)
    have hfx:=hf.2 _ (List.mem_of_getElem? hx)
    simp only[↓xP,xU,rB,rA,rS,h0,h5,h1,hi,hx,hw,Yk.u,ZLL c0 c1 c2 c3 c4 c5 c6 hfx]
    rw [ZGW hx,chkZ]
    refine ZiE (fun h=>?_) (fun h=>?_)
    ·simp only[decide_eq_true_eq] at h
     simp [h]
    ·rw [ih (i+1,ZGd ⟨c0,c1,c2,⟨c3,c4,c5⟩,c6⟩ a) _ (by dsimp only; omega) ⟨by simp only[↓xP,xU,rB,rA,rS,h0],by simp only[↓xP,xU,rB,rA,rS],by simp only[↓xP,xU,rB,rA,rS]⟩]
     simp only[decide_eq_false_iff_not] at h
     simp [h]
   ·simp only[↓xP,xU,rB,rA,rS,h0,h5,h1,hi]
    rw [List.drop_of_length_le (by omega)]; rfl
  ·simp only[decide_eq_false_iff_not] at h
   simp [ZGl,offZ,h]
theorem ZKO (l:(List Yk)) (hf:(l.length≤9223372036854775807∧∀ y,y∈l→Yk.Fit y)):LeZ (ZGl l) (ZFy l):=LeZ.off hf.1 (LeZ.all fun x hx=>ZLK x (hf.2 x hx))
theorem ZKU (l:(List Yk)) (hs:ZFy l):EE F 266 [L 7 (l.map Yk.u)] []=some ⟨[.sc (.down (.par 0) l.length)],[.deep 7 (l.map Yk.u)],[]⟩:=by
 have hl:=hs.1
 rw [R266,b266]
 simp only[↓xP,xU,rB,rA,rS,ZLr _ 7 l.length [.int .i64 0,.int .i64 0,.int .i64 0,.int .i64 0,.sl 1 [],.bool false,.sl 6 []] 88 (by omega) rfl]
 refine (Zjc (fun (i:Nat) st=>i≤l.length∧st.s 0=DU (.sl 7 (l.map Yk.u))∧st.s 4=DI i∧st.s 3=.t (.sc (.down (.loc 7 0) l.length))∧st.o (.loc 7 0)=some (.deep 7 ((l.take i).map Yk.u++List.replicate (l.length - i) [.int .i64 0,.int .i64 0,.int .i64 0,.int .i64 0,.sl 1 [],.bool false,.sl 6 []]))) (fun i=>l.length - i) (fun i=>some ⟨[.sc (.down (.par 0) l.length)],[.deep 7 (l.map Yk.u)],[]⟩) ?_ 0 ⟨by omega,by simp only[↓xP,xU,rB,rA,rS],by simp only[↓xP,xU,rB,rA,rS]; rfl,by simp only[↓xP,xU,rB,rA,rS],by simp only[↓xP,xU,rB,rA,rS,Nat.sub_zero]⟩)
 rintro i st ⟨hle,h0,h4,h3,ho⟩ ih
 by_cases hi:i<l.length
 ·obtain ⟨⟨c0,c1,c2,⟨c3,c4,c5⟩,c6⟩,hx⟩:∃ x,l[i]?=some x:=⟨_,List.getElem?_eq_getElem hi⟩
  have hw:=w_succ (i:=i) (by omega)
  have hg:=ZFM (f:=Yk.u) (z:=[.int .i64 0,.int .i64 0,.int .i64 0,.int .i64 0,.sl 1 [],.bool false,.sl 6 []]) hi
  have hf:=ZFN (f:=Yk.u) (z:=[.int .i64 0,.int .i64 0,.int .i64 0,.int .i64 0,.sl 1 [],.bool false,.sl 6 []]) hx
  simp only[Yk.u] at hf
  have hsx:=hs.2 _ (List.mem_of_getElem? hx)
  simp only[↓xP,xU,rB,rA,rS,h0,h4,h3,ho,hi,hx,hw,hg,hf,Yk.u,ZLS c0 c1 c2 c3 c4 c5 c6 hsx]
  exact ih (i+1) _ (by omega) ⟨by omega,by simp only[↓xP,xU,rB,rA,rS,h0],by simp only[↓xP,xU,rB,rA,rS],by simp only[↓xP,xU,rB,rA,rS,h3],by simp only[↓xP,xU,rB,rA,rS,Yk.u]⟩
 ·have:i=l.length:=by omega
  subst this
  rw [ZFL] at ho
  simp only[↓xP,xU,rB,rA,rS,h0,h4,h3,ho,hi]
theorem ZKx (l:(List Yk)) (hs:ZFy l):EE F 279 [L 7 (l.map Yk.u),L 7 (l.map Yk.u)] []=ok1 (B true):=by
 have hl:=hs.1
 rw [R279,b279]
 simp only[↓xP,xU,rB,rA,rS,ne_eq,not_true_eq_false]
 refine (Zjc (fun (i:Nat) st=>st.s 0=DU (.sl 7 (l.map Yk.u))∧st.s 1=DU (.sl 7 (l.map Yk.u))∧st.s 5=DI i) (fun i=>l.length - i) (fun i=>ok1 (B true)) ?_ 0 ⟨by simp only[↓xP,xU,rB,rA,rS],by simp only[↓xP,xU,rB,rA,rS],by simp only[↓xP,xU,rB,rA,rS]; rfl⟩)
 rintro i st ⟨h0,h1,h5⟩ ih
 by_cases hi:i<l.length
 ·obtain ⟨⟨c0,c1,c2,⟨c3,c4,c5⟩,c6⟩,hx⟩:∃ x,l[i]?=some x:=⟨_,List.getElem?_eq_getElem hi⟩
  have hw:=w_succ (i:=i) (by omega)
  have hsx:=hs.2 _ (List.mem_of_getElem? hx)
  simp only[↓xP,xU,rB,rA,rS,h0,h1,h5,hi,hx,hw,Yk.u,ZLi c0 c1 c2 c3 c4 c5 c6 hsx,ne_eq,not_true_eq_false]
  exact ih (i+1) _ (by omega) ⟨by simp only[↓xP,xU,rB,rA,rS,h0],by simp only[↓xP,xU,rB,rA,rS,h1],by simp only[↓xP,xU,rB,rA,rS]⟩
 ·simp only[↓xP,xU,rB,rA,rS,h0,h1,h5,hi]
def Yc.Small (x:Yc):Prop:=Yt.Small x.base∧Yf.Small x.conf∧ZF2 x.nodes∧ZG6 x.up∧ZFy x.bag∧ZGn x.answers∧True
def ZIb (x:Yc) (a:Int):Int:=chkZ (ZIe x.base a) fun a=>chkZ (ZGK x.conf a) fun a=>chkZ (ZGm x.nodes a) fun a=>chkZ (ZIa x.up a) fun a=>chkZ (ZGl x.bag a) fun a=>chkZ (ZGI x.answers a) fun a=>a
theorem ZMW (c0:Str) (c1:Str) (c2:(List Yl)) (c3:(List Yr)) (c4:Bool) (c5:Str) (c6:Int) (c7:(List Int)) (c8:Bool) (c9:(List Yo)) (c10:(List Bool)) (c11:(List Yk)) (c12:(List Ya)) (hf:Yc.Fit ⟨⟨⟨c0,c1⟩,c2,c3,c4,c5⟩,⟨c6,c7,c8⟩,c9,c10,c11,c12⟩) (left:Int):EE F 197 [.ag [.u (.str c0),.u (.str c1),.u (.sl 2 (c2.map Yl.u)),.u (.sl 3 (c3.map Yr.u)),.u (.bool c4),.u (.str c5),.u (.int .i64 c6),.u (.sl 1 (c7.map iU)),.u (.bool c8),.u (.sl 5 (c9.map Yo.u)),.u (.sl 1 (c10.map bU)),.u (.sl 7 (c11.map Yk.u)),.u (.sl 7 (c12.map Ya.u))],I left] []=ok1 (I (ZIb ⟨⟨⟨c0,c1⟩,c2,c3,c4,c5⟩,⟨c6,c7,c8⟩,c9,c10,c11,c12⟩ left)):=by
 rw [R197,b197]
 simp only[↓xP,xU,rB,rA,rS,ZM4 c0 c1 c2 c3 c4 c5 hf.1,ZId,ZKR c9 hf.2.2.1,ZMU,ZKP c11 hf.2.2.2.2.1,ZLF c12 hf.2.2.2.2.2]
 repeat' (refine ZiE (fun h=>?_) (fun h=>?_))
 all_goals (simp only[decide_eq_true_eq,decide_eq_false_iff_not] at *; simp [ZIb,offZ,chkZ, *])
theorem ZMV (x:Yc) (hf:Yc.Fit x):LeZ (ZIb x) (Yc.Small x):=LeZ.chk (ZM3 _ hf.1) (LeZ.chk (ZIc _ hf.2.1) (LeZ.chk (ZKQ _ hf.2.2.1) (LeZ.chk (ZMT _ hf.2.2.2.1) (LeZ.chk (ZKO _ hf.2.2.2.2.1) (LeZ.chk (ZLE _ hf.2.2.2.2.2) LeZ.id)))))
theorem ZM6 (c0:Str) (c1:Str) (c2:(List Yl)) (c3:(List Yr)) (c4:Bool) (c5:Str) (c6:Int) (c7:(List Int)) (c8:Bool) (c9:(List Yo)) (c10:(List Bool)) (c11:(List Yk)) (c12:(List Ya)) (hs:Yc.Small ⟨⟨⟨c0,c1⟩,c2,c3,c4,c5⟩,⟨c6,c7,c8⟩,c9,c10,c11,c12⟩):EE F 208 [.ag [.u (.str c0),.u (.str c1),.u (.sl 2 (c2.map Yl.u)),.u (.sl 3 (c3.map Yr.u)),.u (.bool c4),.u (.str c5),.u (.int .i64 c6),.u (.sl 1 (c7.map iU)),.u (.bool c8),.u (.sl 5 (c9.map Yo.u)),.u (.sl 1 (c10.map bU)),.u (.sl 7 (c11.map Yk.u)),.u (.sl 7 (c12.map Ya.u))]] []=some ⟨[.ag [.u (.str c0),.u (.str c1),.own (.par 0) c2.length,.own (.par 1) c3.length,.u (.bool c4),.u (.str c5),.u (.int .i64 c6),.own (.par 2) c7.length,.u (.bool c8),.down (.par 3) c9.length,.own (.par 4) c10.length,.down (.par 5) c11.length,.own (.par 6) c12.length]],[.row 2 (c2.map Yl.u),.row 3 (c3.map Yr.u),.row 1 (c7.map iU),.deep 5 (c9.map Yo.u),.row 1 (c10.map bU),.deep 7 (c11.map Yk.u),.row 7 (c12.map Ya.u)],[]⟩:=by
 rw [R208,b208]
 simp only[↓xP,xU,rB,rA,rS,ZNa c0 c1 c2 c3 c4 c5 hs.1,ZIf c6 c7 c8 hs.2.1,ZKV c9 hs.2.2.1,ZM5 c10 hs.2.2.2.1,ZKU c11 hs.2.2.2.2.1,ZLQ c12 hs.2.2.2.2.2.1]
theorem ZMC (c0:Str) (c1:Str) (c2:(List Yl)) (c3:(List Yr)) (c4:Bool) (c5:Str) (c6:Int) (c7:(List Int)) (c8:Bool) (c9:(List Yo)) (c10:(List Bool)) (c11:(List Yk)) (c12:(List Ya)) (hs:Yc.Small ⟨⟨⟨c0,c1⟩,c2,c3,c4,c5⟩,⟨c6,c7,c8⟩,c9,c10,c11,c12⟩):EE F 221 [.ag [.u (.str c0),.u (.str c1),.u (.sl 2 (c2.map Yl.u)),.u (.sl 3 (c3.map Yr.u)),.u (.bool c4),.u (.str c5),.u (.int .i64 c6),.u (.sl 1 (c7.map iU)),.u (.bool c8),.u (.sl 5 (c9.map Yo.u)),.u (.sl 1 (c10.map bU)),.u (.sl 7 (c11.map Yk.u)),.u (.sl 7 (c12.map Ya.u))],.ag [.u (.str c0),.u (.str c1),.u (.sl 2 (c2.map Yl.u)),.u (.sl 3 (c3.map Yr.u)),.u (.bool c4),.u (.str c5),.u (.int .i64 c6),.u (.sl 1 (c7.map iU)),.u (.bool c8),.u (.sl 5 (c9.map Yo.u)),.u (.sl 1 (c10.map bU)),.u (.sl 7 (c11.map Yk.u)),.u (.sl 7 (c12.map Ya.u))]] []=ok1 (B true):=by
 rw [R221,b221]
 simp only[↓xP,xU,rB,rA,rS,ZMG c0 c1 c2 c3 c4 c5 hs.1,ZHS c6 c7 c8 hs.2.1,ZKy c9 hs.2.2.1,ZMB c10 hs.2.2.2.1,ZKx c11 hs.2.2.2.2.1,ZLg c12 hs.2.2.2.2.2.1,ne_eq,not_true_eq_false]
def Yq.Small (x:Yq):Prop:=Yj.Small x.span∧True
def ZHu (x:Yq) (a:Int):Int:=chkZ (ZGk x.span a) fun a=>a
theorem ZM0 (c0:Int) (c1:Str) (c2:Str) (left:Int):EE F 258 [.ag [.u (.int .i64 c0),.u (.str c1),.u (.str c2)],I left] []=ok1 (I (ZHu ⟨c0,⟨c1,c2⟩⟩ left)):=by
 rw [R258,b258]
 simp only[↓xP,xU,rB,rA,rS,ZHl]
 repeat' (refine ZiE (fun h=>?_) (fun h=>?_))
 all_goals (simp only[decide_eq_true_eq,decide_eq_false_iff_not] at *; simp [ZHu,offZ,chkZ, *])
theorem ZMZ (x:Yq) (hf:Yq.Fit x):LeZ (ZHu x) (Yq.Small x):=LeZ.chk (ZIs _ hf.2) LeZ.id
theorem ZM8 (c0:Int) (c1:Str) (c2:Str):EE F 268 [.ag [.u (.int .i64 c0),.u (.str c1),.u (.str c2)]] []=ok1 (.ag [.u (.int .i64 c0),.u (.str c1),.u (.str c2)]):=by
 rw [R268,b268]
 simp only[↓xP,xU,rB,rA,rS,ZGP]
theorem ZME (c0:Int) (c1:Str) (c2:Str):EE F 281 [.ag [.u (.int .i64 c0),.u (.str c1),.u (.str c2)],.ag [.u (.int .i64 c0),.u (.str c1),.u (.str c2)]] []=ok1 (B true):=by
 rw [R281,b281]
 simp only[↓xP,xU,rB,rA,rS,ZHi,ne_eq,not_true_eq_false]
def ZGQ (l:(List Yq)):Prop:=l.length≤1048576∧∀ y,y∈l→Yq.Small y
def ZG3 (l:(List Yq)) (left:Int):Int:=offZ left l.length fun a=>allZ ZHu l a
theorem ZMr (l:(List Yq)) (hf:(l.length≤9223372036854775807∧∀ y,y∈l→Yq.Fit y)) (left:Int):EE F 198 [L 3 (l.map Yq.u),I left] []=ok1 (I (ZG3 l left)):=by
 have hl:=hf.1
 rw [R198,b198]
 simp only[↓xP,xU,rB,rA,rS]
 refine ZiE (fun h=>?_) (fun h=>?_)
 ·simp only[decide_eq_true_eq] at h
  simp [ZG3,offZ,h]
 ·refine (Zjc (fun (a:Nat×Int) st=>st.s 0=DU (.sl 3 (l.map Yq.u))∧st.s 5=DI a.1∧st.s 1=DI a.2) (fun a=>l.length - a.1) (fun a=>ok1 (I (allZ ZHu (l.drop a.1) a.2))) ?_ (0,IntKind.i64.wrap (left - l.length)) ⟨by simp only[↓xP,xU,rB,rA,rS],by simp only[↓xP,xU,rB,rA,rS]; rfl,by simp only[↓xP,xU,rB,rA,rS]⟩).trans ?_
  ·rintro ⟨i,a⟩ st ⟨h0,h5,h1⟩ ih
   dsimp only at h0 h5 h1 ih ⊢
   by_cases hi:i<l.length
   ·obtain ⟨⟨c0,⟨c1,c2⟩⟩,hx⟩:∃ x,l[i]?=some x:=⟨_,List.getElem?_eq_getElem hi⟩
    have hw:=w_succ (i:=i) (by omega)
    have hfx:=hf.2 _ (List.mem_of_getElem? hx)
    simp only[↓xP,xU,rB,rA,rS,h0,h5,h1,hi,hx,hw,Yq.u,ZM0]
    rw [ZGW hx,chkZ]
    refine ZiE (fun h=>?_) (fun h=>?_)
    ·simp only[decide_eq_true_eq] at h
     simp [h]
    ·rw [ih (i+1,ZHu ⟨c0,⟨c1,c2⟩⟩ a) _ (by dsimp only; omega) ⟨by simp only[↓xP,xU,rB,rA,rS,h0],by simp only[↓xP,xU,rB,rA,rS],by simp only[↓xP,xU,rB,rA,rS]⟩]
     simp only[decide_eq_false_iff_not] at h
     simp [h]
   ·simp only[↓xP,xU,rB,rA,rS,h0,h5,h1,hi]
    rw [List.drop_of_length_le (by omega)]; rfl
  ·simp only[decide_eq_false_iff_not] at h
   simp [ZG3,offZ,h]
theorem ZMq (l:(List Yq)) (hf:(l.length≤9223372036854775807∧∀ y,y∈l→Yq.Fit y)):LeZ (ZG3 l) (ZGQ l):=LeZ.off hf.1 (LeZ.all fun x hx=>ZMZ x (hf.2 x hx))
theorem ZMx (l:(List Yq)) (hs:ZGQ l):EE F 209 [L 3 (l.map Yq.u)] []=some ⟨[.sc (.own (.par 0) l.length)],[.row 3 (l.map Yq.u)],[]⟩:=by
 have hl:=hs.1
 rw [R209,b209]
 simp only[↓xP,xU,rB,rA,rS,ZJs _ 7 l.length [.int .i64 0,.str [],.str []] 40 (by omega)]
 refine (Zjc (fun (i:Nat) st=>i≤l.length∧st.s 0=DU (.sl 3 (l.map Yq.u))∧st.s 4=DI i∧st.s 3=.t (.sc (.own (.loc 7 0) l.length))∧st.o (.loc 7 0)=some (.row 3 ((l.take i).map Yq.u++List.replicate (l.length - i) [.int .i64 0,.str [],.str []]))) (fun i=>l.length - i) (fun i=>some ⟨[.sc (.own (.par 0) l.length)],[.row 3 (l.map Yq.u)],[]⟩) ?_ 0 ⟨by omega,by simp only[↓xP,xU,rB,rA,rS],by simp only[↓xP,xU,rB,rA,rS]; rfl,by simp only[↓xP,xU,rB,rA,rS],by simp only[↓xP,xU,rB,rA,rS,Nat.sub_zero]⟩)
 rintro i st ⟨hle,h0,h4,h3,ho⟩ ih
 by_cases hi:i<l.length
 ·obtain ⟨⟨c0,⟨c1,c2⟩⟩,hx⟩:∃ x,l[i]?=some x:=⟨_,List.getElem?_eq_getElem hi⟩
  have hw:=w_succ (i:=i) (by omega)
  have hg:=ZFM (f:=Yq.u) (z:=[.int .i64 0,.str [],.str []]) hi
  have hf:=ZFN (f:=Yq.u) (z:=[.int .i64 0,.str [],.str []]) hx
  simp only[Yq.u] at hf
  simp only[↓xP,xU,rB,rA,rS,h0,h4,h3,ho,hi,hx,hw,hg,hf,Yq.u,ZM8]
  exact ih (i+1) _ (by omega) ⟨by omega,by simp only[↓xP,xU,rB,rA,rS,h0],by simp only[↓xP,xU,rB,rA,rS],by simp only[↓xP,xU,rB,rA,rS,h3],by simp only[↓xP,xU,rB,rA,rS,Yq.u]⟩
 ·have:i=l.length:=by omega
  subst this
  rw [ZFL] at ho
  simp only[↓xP,xU,rB,rA,rS,h0,h4,h3,ho,hi]
theorem ZL4 (l:(List Yq)) (hs:ZGQ l):EE F 222 [L 3 (l.map Yq.u),L 3 (l.map Yq.u)] []=ok1 (B true):=by
 have hl:=hs.1
 rw [R222,b222]
 simp only[↓xP,xU,rB,rA,rS,ne_eq,not_true_eq_false]
 refine (Zjc (fun (i:Nat) st=>st.s 0=DU (.sl 3 (l.map Yq.u))∧st.s 1=DU (.sl 3 (l.map Yq.u))∧st.s 5=DI i) (fun i=>l.length - i) (fun i=>ok1 (B true)) ?_ 0 ⟨by simp only[↓xP,xU,rB,rA,rS],by simp only[↓xP,xU,rB,rA,rS],by simp only[↓xP,xU,rB,rA,rS]; rfl⟩)
 rintro i st ⟨h0,h1,h5⟩ ih
 by_cases hi:i<l.length
 ·obtain ⟨⟨c0,⟨c1,c2⟩⟩,hx⟩:∃ x,l[i]?=some x:=⟨_,List.getElem?_eq_getElem hi⟩
  have hw:=w_succ (i:=i) (by omega)
  simp only[↓xP,xU,rB,rA,rS,h0,h1,h5,hi,hx,hw,Yq.u,ZME,ne_eq,not_true_eq_false]
  exact ih (i+1) _ (by omega) ⟨by simp only[↓xP,xU,rB,rA,rS,h0],by simp only[↓xP,xU,rB,rA,rS,h1],by simp only[↓xP,xU,rB,rA,rS]⟩
 ·simp only[↓xP,xU,rB,rA,rS,h0,h1,h5,hi]
def Yb.Small (x:Yb):Prop:=ZGQ x.cache∧Ye.Small x.wish∧True
def ZG1 (x:Yb) (a:Int):Int:=chkZ (ZG3 x.cache a) fun a=>chkZ (ZGc x.wish a) fun a=>a
theorem ZMn (c0:(List Yq)) (c1:Int) (c2:Bool) (c3:Int) (c4:Str) (c5:Int) (c6:Int) (c7:Int) (hf:Yb.Fit ⟨c0,c1,c2,⟨c3,c4,c5,c6⟩,c7⟩) (left:Int):EE F 123 [.ag [.u (.sl 3 (c0.map Yq.u)),.u (.int .i64 c1),.u (.bool c2),.u (.int .i64 c3),.u (.str c4),.u (.int .i64 c5),.u (.int .i64 c6),.u (.int .i64 c7)],I left] []=ok1 (I (ZG1 ⟨c0,c1,c2,⟨c3,c4,c5,c6⟩,c7⟩ left)):=by
 rw [R123,b123]
 simp only[↓xP,xU,rB,rA,rS,ZMr c0 hf.1,ZHH]
 repeat' (refine ZiE (fun h=>?_) (fun h=>?_))
 all_goals (simp only[decide_eq_true_eq,decide_eq_false_iff_not] at *; simp [ZG1,offZ,chkZ, *])
theorem ZMm (x:Yb) (hf:Yb.Fit x):LeZ (ZG1 x) (Yb.Small x):=LeZ.chk (ZMq _ hf.1) (LeZ.chk (ZHG _ hf.2.2.2.1) LeZ.id)
theorem ZMv (c0:(List Yq)) (c1:Int) (c2:Bool) (c3:Int) (c4:Str) (c5:Int) (c6:Int) (c7:Int) (hs:Yb.Small ⟨c0,c1,c2,⟨c3,c4,c5,c6⟩,c7⟩):EE F 135 [.ag [.u (.sl 3 (c0.map Yq.u)),.u (.int .i64 c1),.u (.bool c2),.u (.int .i64 c3),.u (.str c4),.u (.int .i64 c5),.u (.int .i64 c6),.u (.int .i64 c7)]] []=some ⟨[.ag [.own (.par 0) c0.length,.u (.int .i64 c1),.u (.bool c2),.u (.int .i64 c3),.u (.str c4),.u (.int .i64 c5),.u (.int .i64 c6),.u (.int .i64 c7)]],[.row 3 (c0.map Yq.u)],[]⟩:=by
 rw [R135,b135]
 simp only[↓xP,xU,rB,rA,rS,ZMx c0 hs.1,ZHJ]
theorem ZL1 (c0:(List Yq)) (c1:Int) (c2:Bool) (c3:Int) (c4:Str) (c5:Int) (c6:Int) (c7:Int) (hs:Yb.Small ⟨c0,c1,c2,⟨c3,c4,c5,c6⟩,c7⟩):EE F 145 [.ag [.u (.sl 3 (c0.map Yq.u)),.u (.int .i64 c1),.u (.bool c2),.u (.int .i64 c3),.u (.str c4),.u (.int .i64 c5),.u (.int .i64 c6),.u (.int .i64 c7)],.ag [.u (.sl 3 (c0.map Yq.u)),.u (.int .i64 c1),.u (.bool c2),.u (.int .i64 c3),.u (.str c4),.u (.int .i64 c5),.u (.int .i64 c6),.u (.int .i64 c7)]] []=ok1 (B true):=by
 rw [R145,b145]
 simp only[↓xP,xU,rB,rA,rS,ZL4 c0 hs.1,ZHw,ne_eq,not_true_eq_false]
def ZGo (l:(List Yb)):Prop:=l.length≤1048576∧∀ y,y∈l→Yb.Small y
def ZGJ (l:(List Yb)) (left:Int):Int:=offZ left l.length fun a=>allZ ZG1 l a
theorem ZLH (l:(List Yb)) (hf:(l.length≤9223372036854775807∧∀ y,y∈l→Yb.Fit y)) (left:Int):EE F 55 [L 8 (l.map Yb.u),I left] []=ok1 (I (ZGJ l left)):=by
 have hl:=hf.1
 rw [R55,b55]
 simp only[↓xP,xU,rB,rA,rS]
 refine ZiE (fun h=>?_) (fun h=>?_)
 ·simp only[decide_eq_true_eq] at h
  simp [ZGJ,offZ,h]
 ·refine (Zjc (fun (a:Nat×Int) st=>st.s 0=DU (.sl 8 (l.map Yb.u))∧st.s 5=DI a.1∧st.s 1=DI a.2) (fun a=>l.length - a.1) (fun a=>ok1 (I (allZ ZG1 (l.drop a.1) a.2))) ?_ (0,IntKind.i64.wrap (left - l.length)) ⟨by simp only[↓xP,xU,rB,rA,rS],by simp only[↓xP,xU,rB,rA,rS]; rfl,by simp only[↓xP,xU,rB,rA,rS]⟩).trans ?_
  ·rintro ⟨i,a⟩ st ⟨h0,h5,h1⟩ ih
   dsimp only at h0 h5 h1 ih ⊢
   by_cases hi:i<l.length
   ·obtain ⟨⟨c0,c1,c2,⟨c3,c4,c5,c6⟩,c7⟩,hx⟩:∃ x,l[i]?=some x:=⟨_,List.getElem?_eq_getElem hi⟩
    have hw:=w_succ (i:=i) (by omega)
    have hfx:=hf.2 _ (List.mem_of_getElem? hx)
    simp only[↓xP,xU,rB,rA,rS,h0,h5,h1,hi,hx,hw,Yb.u,ZMn c0 c1 c2 c3 c4 c5 c6 c7 hfx]
    rw [ZGW hx,chkZ]
    refine ZiE (fun h=>?_) (fun h=>?_)
    ·simp only[decide_eq_true_eq] at h
     simp [h]
    ·rw [ih (i+1,ZG1 ⟨c0,c1,c2,⟨c3,c4,c5,c6⟩,c7⟩ a) _ (by dsimp only; omega) ⟨by simp only[↓xP,xU,rB,rA,rS,h0],by simp only[↓xP,xU,rB,rA,rS],by simp only[↓xP,xU,rB,rA,rS]⟩]
     simp only[decide_eq_false_iff_not] at h
     simp [h]
   ·simp only[↓xP,xU,rB,rA,rS,h0,h5,h1,hi]
    rw [List.drop_of_length_le (by omega)]; rfl
  ·simp only[decide_eq_false_iff_not] at h
   simp [ZGJ,offZ,h]
theorem ZLG (l:(List Yb)) (hf:(l.length≤9223372036854775807∧∀ y,y∈l→Yb.Fit y)):LeZ (ZGJ l) (ZGo l):=LeZ.off hf.1 (LeZ.all fun x hx=>ZMm x (hf.2 x hx))
theorem ZLR (l:(List Yb)) (hs:ZGo l):EE F 63 [L 8 (l.map Yb.u)] []=some ⟨[.sc (.down (.par 0) l.length)],[.deep 8 (l.map Yb.u)],[]⟩:=by
 have hl:=hs.1
 rw [R63,b63]
 simp only[↓xP,xU,rB,rA,rS,ZLr _ 7 l.length [.sl 3 [],.int .i64 0,.bool false,.int .i64 0,.str [],.int .i64 0,.int .i64 0,.int .i64 0] 88 (by omega) rfl]
 refine (Zjc (fun (i:Nat) st=>i≤l.length∧st.s 0=DU (.sl 8 (l.map Yb.u))∧st.s 4=DI i∧st.s 3=.t (.sc (.down (.loc 7 0) l.length))∧st.o (.loc 7 0)=some (.deep 8 ((l.take i).map Yb.u++List.replicate (l.length - i) [.sl 3 [],.int .i64 0,.bool false,.int .i64 0,.str [],.int .i64 0,.int .i64 0,.int .i64 0]))) (fun i=>l.length - i) (fun i=>some ⟨[.sc (.down (.par 0) l.length)],[.deep 8 (l.map Yb.u)],[]⟩) ?_ 0 ⟨by omega,by simp only[↓xP,xU,rB,rA,rS],by simp only[↓xP,xU,rB,rA,rS]; rfl,by simp only[↓xP,xU,rB,rA,rS],by simp only[↓xP,xU,rB,rA,rS,Nat.sub_zero]⟩)
 rintro i st ⟨hle,h0,h4,h3,ho⟩ ih
 by_cases hi:i<l.length
 ·obtain ⟨⟨c0,c1,c2,⟨c3,c4,c5,c6⟩,c7⟩,hx⟩:∃ x,l[i]?=some x:=⟨_,List.getElem?_eq_getElem hi⟩
  have hw:=w_succ (i:=i) (by omega)
  have hg:=ZFM (f:=Yb.u) (z:=[.sl 3 [],.int .i64 0,.bool false,.int .i64 0,.str [],.int .i64 0,.int .i64 0,.int .i64 0]) hi
  have hf:=ZFN (f:=Yb.u) (z:=[.sl 3 [],.int .i64 0,.bool false,.int .i64 0,.str [],.int .i64 0,.int .i64 0,.int .i64 0]) hx
  simp only[Yb.u] at hf
  have hsx:=hs.2 _ (List.mem_of_getElem? hx)
  simp only[↓xP,xU,rB,rA,rS,h0,h4,h3,ho,hi,hx,hw,hg,hf,Yb.u,ZMv c0 c1 c2 c3 c4 c5 c6 c7 hsx]
  exact ih (i+1) _ (by omega) ⟨by omega,by simp only[↓xP,xU,rB,rA,rS,h0],by simp only[↓xP,xU,rB,rA,rS],by simp only[↓xP,xU,rB,rA,rS,h3],by simp only[↓xP,xU,rB,rA,rS,Yb.u]⟩
 ·have:i=l.length:=by omega
  subst this
  rw [ZFL] at ho
  simp only[↓xP,xU,rB,rA,rS,h0,h4,h3,ho,hi]
theorem ZLh (l:(List Yb)) (hs:ZGo l):EE F 71 [L 8 (l.map Yb.u),L 8 (l.map Yb.u)] []=ok1 (B true):=by
 have hl:=hs.1
 rw [R71,b71]
 simp only[↓xP,xU,rB,rA,rS,ne_eq,not_true_eq_false]
 refine (Zjc (fun (i:Nat) st=>st.s 0=DU (.sl 8 (l.map Yb.u))∧st.s 1=DU (.sl 8 (l.map Yb.u))∧st.s 5=DI i) (fun i=>l.length - i) (fun i=>ok1 (B true)) ?_ 0 ⟨by simp only[↓xP,xU,rB,rA,rS],by simp only[↓xP,xU,rB,rA,rS],by simp only[↓xP,xU,rB,rA,rS]; rfl⟩)
 rintro i st ⟨h0,h1,h5⟩ ih
 by_cases hi:i<l.length
 ·obtain ⟨⟨c0,c1,c2,⟨c3,c4,c5,c6⟩,c7⟩,hx⟩:∃ x,l[i]?=some x:=⟨_,List.getElem?_eq_getElem hi⟩
  have hw:=w_succ (i:=i) (by omega)
  have hsx:=hs.2 _ (List.mem_of_getElem? hx)
  simp only[↓xP,xU,rB,rA,rS,h0,h1,h5,hi,hx,hw,Yb.u,ZL1 c0 c1 c2 c3 c4 c5 c6 c7 hsx,ne_eq,not_true_eq_false]
  exact ih (i+1) _ (by omega) ⟨by simp only[↓xP,xU,rB,rA,rS,h0],by simp only[↓xP,xU,rB,rA,rS,h1],by simp only[↓xP,xU,rB,rA,rS]⟩
 ·simp only[↓xP,xU,rB,rA,rS,h0,h1,h5,hi]
def Yp.Small (x:Yp):Prop:=Ye.Small x.wish∧True
def ZG2 (x:Yp) (a:Int):Int:=chkZ (ZGc x.wish a) fun a=>a
theorem ZMp (c0:Int) (c1:Int) (c2:Int) (c3:Str) (c4:Int) (c5:Int) (c6:Int) (c7:Int) (c8:Int) (left:Int):EE F 124 [.ag [.u (.int .i64 c0),.u (.int .i64 c1),.u (.int .i64 c2),.u (.str c3),.u (.int .i64 c4),.u (.int .i64 c5),.u (.int .i64 c6),.u (.int .i64 c7),.u (.int .i64 c8)],I left] []=ok1 (I (ZG2 ⟨c0,c1,⟨c2,c3,c4,c5⟩,c6,c7,c8⟩ left)):=by
 rw [R124,b124]
 simp only[↓xP,xU,rB,rA,rS,ZHH]
 repeat' (refine ZiE (fun h=>?_) (fun h=>?_))
 all_goals (simp only[decide_eq_true_eq,decide_eq_false_iff_not] at *; simp [ZG2,offZ,chkZ, *])
theorem ZMo (x:Yp) (hf:Yp.Fit x):LeZ (ZG2 x) (Yp.Small x):=LeZ.chk (ZHG _ hf.2.2.1) LeZ.id
theorem ZMw (c0:Int) (c1:Int) (c2:Int) (c3:Str) (c4:Int) (c5:Int) (c6:Int) (c7:Int) (c8:Int):EE F 136 [.ag [.u (.int .i64 c0),.u (.int .i64 c1),.u (.int .i64 c2),.u (.str c3),.u (.int .i64 c4),.u (.int .i64 c5),.u (.int .i64 c6),.u (.int .i64 c7),.u (.int .i64 c8)]] []=ok1 (.ag [.u (.int .i64 c0),.u (.int .i64 c1),.u (.int .i64 c2),.u (.str c3),.u (.int .i64 c4),.u (.int .i64 c5),.u (.int .i64 c6),.u (.int .i64 c7),.u (.int .i64 c8)]):=by
 rw [R136,b136]
 simp only[↓xP,xU,rB,rA,rS,ZHJ]
theorem ZL3 (c0:Int) (c1:Int) (c2:Int) (c3:Str) (c4:Int) (c5:Int) (c6:Int) (c7:Int) (c8:Int):EE F 146 [.ag [.u (.int .i64 c0),.u (.int .i64 c1),.u (.int .i64 c2),.u (.str c3),.u (.int .i64 c4),.u (.int .i64 c5),.u (.int .i64 c6),.u (.int .i64 c7),.u (.int .i64 c8)],.ag [.u (.int .i64 c0),.u (.int .i64 c1),.u (.int .i64 c2),.u (.str c3),.u (.int .i64 c4),.u (.int .i64 c5),.u (.int .i64 c6),.u (.int .i64 c7),.u (.int .i64 c8)]] []=ok1 (B true):=by
 rw [R146,b146]
 simp only[↓xP,xU,rB,rA,rS,ZHw,ne_eq,not_true_eq_false]
def ZGp (l:(List Yp)):Prop:=l.length≤1048576∧∀ y,y∈l→Yp.Small y
def ZGM (l:(List Yp)) (left:Int):Int:=offZ left l.length fun a=>allZ ZG2 l a
theorem ZLP (l:(List Yp)) (hf:(l.length≤9223372036854775807∧∀ y,y∈l→Yp.Fit y)) (left:Int):EE F 56 [L 9 (l.map Yp.u),I left] []=ok1 (I (ZGM l left)):=by
 have hl:=hf.1
 rw [R56,b56]
 simp only[↓xP,xU,rB,rA,rS]
 refine ZiE (fun h=>?_) (fun h=>?_)
 ·simp only[decide_eq_true_eq] at h
  simp [ZGM,offZ,h]
 ·refine (Zjc (fun (a:Nat×Int) st=>st.s 0=DU (.sl 9 (l.map Yp.u))∧st.s 5=DI a.1∧st.s 1=DI a.2) (fun a=>l.length - a.1) (fun a=>ok1 (I (allZ ZG2 (l.drop a.1) a.2))) ?_ (0,IntKind.i64.wrap (left - l.length)) ⟨by simp only[↓xP,xU,rB,rA,rS],by simp only[↓xP,xU,rB,rA,rS]; rfl,by simp only[↓xP,xU,rB,rA,rS]⟩).trans ?_
  ·rintro ⟨i,a⟩ st ⟨h0,h5,h1⟩ ih
   dsimp only at h0 h5 h1 ih ⊢
   by_cases hi:i<l.length
   ·obtain ⟨⟨c0,c1,⟨c2,c3,c4,c5⟩,c6,c7,c8⟩,hx⟩:∃ x,l[i]?=some x:=⟨_,List.getElem?_eq_getElem hi⟩
    have hw:=w_succ (i:=i) (by omega)
    have hfx:=hf.2 _ (List.mem_of_getElem? hx)
    simp only[↓xP,xU,rB,rA,rS,h0,h5,h1,hi,hx,hw,Yp.u,ZMp]
    rw [ZGW hx,chkZ]
    refine ZiE (fun h=>?_) (fun h=>?_)
    ·simp only[decide_eq_true_eq] at h
     simp [h]
    ·rw [ih (i+1,ZG2 ⟨c0,c1,⟨c2,c3,c4,c5⟩,c6,c7,c8⟩ a) _ (by dsimp only; omega) ⟨by simp only[↓xP,xU,rB,rA,rS,h0],by simp only[↓xP,xU,rB,rA,rS],by simp only[↓xP,xU,rB,rA,rS]⟩]
     simp only[decide_eq_false_iff_not] at h
     simp [h]
   ·simp only[↓xP,xU,rB,rA,rS,h0,h5,h1,hi]
    rw [List.drop_of_length_le (by omega)]; rfl
  ·simp only[decide_eq_false_iff_not] at h
   simp [ZGM,offZ,h]
theorem ZLO (l:(List Yp)) (hf:(l.length≤9223372036854775807∧∀ y,y∈l→Yp.Fit y)):LeZ (ZGM l) (ZGp l):=LeZ.off hf.1 (LeZ.all fun x hx=>ZMo x (hf.2 x hx))
theorem ZLU (l:(List Yp)) (hs:ZGp l):EE F 64 [L 9 (l.map Yp.u)] []=some ⟨[.sc (.own (.par 0) l.length)],[.row 9 (l.map Yp.u)],[]⟩:=by
 have hl:=hs.1
 rw [R64,b64]
 simp only[↓xP,xU,rB,rA,rS,ZJs _ 7 l.length [.int .i64 0,.int .i64 0,.int .i64 0,.str [],.int .i64 0,.int .i64 0,.int .i64 0,.int .i64 0,.int .i64 0] 80 (by omega)]
 refine (Zjc (fun (i:Nat) st=>i≤l.length∧st.s 0=DU (.sl 9 (l.map Yp.u))∧st.s 4=DI i∧st.s 3=.t (.sc (.own (.loc 7 0) l.length))∧st.o (.loc 7 0)=some (.row 9 ((l.take i).map Yp.u++List.replicate (l.length - i) [.int .i64 0,.int .i64 0,.int .i64 0,.str [],.int .i64 0,.int .i64 0,.int .i64 0,.int .i64 0,.int .i64 0]))) (fun i=>l.length - i) (fun i=>some ⟨[.sc (.own (.par 0) l.length)],[.row 9 (l.map Yp.u)],[]⟩) ?_ 0 ⟨by omega,by simp only[↓xP,xU,rB,rA,rS],by simp only[↓xP,xU,rB,rA,rS]; rfl,by simp only[↓xP,xU,rB,rA,rS],by simp only[↓xP,xU,rB,rA,rS,Nat.sub_zero]⟩)
 rintro i st ⟨hle,h0,h4,h3,ho⟩ ih
 by_cases hi:i<l.length
 ·obtain ⟨⟨c0,c1,⟨c2,c3,c4,c5⟩,c6,c7,c8⟩,hx⟩:∃ x,l[i]?=some x:=⟨_,List.getElem?_eq_getElem hi⟩
  have hw:=w_succ (i:=i) (by omega)
  have hg:=ZFM (f:=Yp.u) (z:=[.int .i64 0,.int .i64 0,.int .i64 0,.str [],.int .i64 0,.int .i64 0,.int .i64 0,.int .i64 0,.int .i64 0]) hi
  have hf:=ZFN (f:=Yp.u) (z:=[.int .i64 0,.int .i64 0,.int .i64 0,.str [],.int .i64 0,.int .i64 0,.int .i64 0,.int .i64 0,.int .i64 0]) hx
  simp only[Yp.u] at hf
  simp only[↓xP,xU,rB,rA,rS,h0,h4,h3,ho,hi,hx,hw,hg,hf,Yp.u,ZMw]
  exact ih (i+1) _ (by omega) ⟨by omega,by simp only[↓xP,xU,rB,rA,rS,h0],by simp only[↓xP,xU,rB,rA,rS],by simp only[↓xP,xU,rB,rA,rS,h3],by simp only[↓xP,xU,rB,rA,rS,Yp.u]⟩
 ·have:i=l.length:=by omega
  subst this
  rw [ZFL] at ho
  simp only[↓xP,xU,rB,rA,rS,h0,h4,h3,ho,hi]
theorem ZLl (l:(List Yp)) (hs:ZGp l):EE F 72 [L 9 (l.map Yp.u),L 9 (l.map Yp.u)] []=ok1 (B true):=by
 have hl:=hs.1
 rw [R72,b72]
 simp only[↓xP,xU,rB,rA,rS,ne_eq,not_true_eq_false]
 refine (Zjc (fun (i:Nat) st=>st.s 0=DU (.sl 9 (l.map Yp.u))∧st.s 1=DU (.sl 9 (l.map Yp.u))∧st.s 5=DI i) (fun i=>l.length - i) (fun i=>ok1 (B true)) ?_ 0 ⟨by simp only[↓xP,xU,rB,rA,rS],by simp only[↓xP,xU,rB,rA,rS],by simp only[↓xP,xU,rB,rA,rS]; rfl⟩)
 rintro i st ⟨h0,h1,h5⟩ ih
 by_cases hi:i<l.length
 ·obtain ⟨⟨c0,c1,⟨c2,c3,c4,c5⟩,c6,c7,c8⟩,hx⟩:∃ x,l[i]?=some x:=⟨_,List.getElem?_eq_getElem hi⟩
  have hw:=w_succ (i:=i) (by omega)
  simp only[↓xP,xU,rB,rA,rS,h0,h1,h5,hi,hx,hw,Yp.u,ZL3,ne_eq,not_true_eq_false]
  exact ih (i+1) _ (by omega) ⟨by simp only[↓xP,xU,rB,rA,rS,h0],by simp only[↓xP,xU,rB,rA,rS,h1],by simp only[↓xP,xU,rB,rA,rS]⟩
 ·simp only[↓xP,xU,rB,rA,rS,h0,h1,h5,hi]
def Ys.Small (x:Ys):Prop:=Yc.Small x.group∧True
def ZHv (x:Ys) (a:Int):Int:=chkZ (ZIb x.group a) fun a=>a
theorem ZM2 (c0:Bool) (c1:Str) (c2:Str) (c3:(List Yl)) (c4:(List Yr)) (c5:Bool) (c6:Str) (c7:Int) (c8:(List Int)) (c9:Bool) (c10:(List Yo)) (c11:(List Bool)) (c12:(List Yk)) (c13:(List Ya)) (hf:Ys.Fit ⟨c0,⟨⟨⟨c1,c2⟩,c3,c4,c5,c6⟩,⟨c7,c8,c9⟩,c10,c11,c12,c13⟩⟩) (left:Int):EE F 122 [.ag [.u (.bool c0),.u (.str c1),.u (.str c2),.u (.sl 2 (c3.map Yl.u)),.u (.sl 3 (c4.map Yr.u)),.u (.bool c5),.u (.str c6),.u (.int .i64 c7),.u (.sl 1 (c8.map iU)),.u (.bool c9),.u (.sl 5 (c10.map Yo.u)),.u (.sl 1 (c11.map bU)),.u (.sl 7 (c12.map Yk.u)),.u (.sl 7 (c13.map Ya.u))],I left] []=ok1 (I (ZHv ⟨c0,⟨⟨⟨c1,c2⟩,c3,c4,c5,c6⟩,⟨c7,c8,c9⟩,c10,c11,c12,c13⟩⟩ left)):=by
 rw [R122,b122]
 simp only[↓xP,xU,rB,rA,rS,ZMW c1 c2 c3 c4 c5 c6 c7 c8 c9 c10 c11 c12 c13 hf.2]
 repeat' (refine ZiE (fun h=>?_) (fun h=>?_))
 all_goals (simp only[decide_eq_true_eq,decide_eq_false_iff_not] at *; simp [ZHv,offZ,chkZ, *])
theorem ZM1 (x:Ys) (hf:Ys.Fit x):LeZ (ZHv x) (Ys.Small x):=LeZ.chk (ZMV _ hf.2) LeZ.id
theorem ZM9 (c0:Bool) (c1:Str) (c2:Str) (c3:(List Yl)) (c4:(List Yr)) (c5:Bool) (c6:Str) (c7:Int) (c8:(List Int)) (c9:Bool) (c10:(List Yo)) (c11:(List Bool)) (c12:(List Yk)) (c13:(List Ya)) (hs:Ys.Small ⟨c0,⟨⟨⟨c1,c2⟩,c3,c4,c5,c6⟩,⟨c7,c8,c9⟩,c10,c11,c12,c13⟩⟩):EE F 134 [.ag [.u (.bool c0),.u (.str c1),.u (.str c2),.u (.sl 2 (c3.map Yl.u)),.u (.sl 3 (c4.map Yr.u)),.u (.bool c5),.u (.str c6),.u (.int .i64 c7),.u (.sl 1 (c8.map iU)),.u (.bool c9),.u (.sl 5 (c10.map Yo.u)),.u (.sl 1 (c11.map bU)),.u (.sl 7 (c12.map Yk.u)),.u (.sl 7 (c13.map Ya.u))]] []=some ⟨[.ag [.u (.bool c0),.u (.str c1),.u (.str c2),.own (.par 0) c3.length,.own (.par 1) c4.length,.u (.bool c5),.u (.str c6),.u (.int .i64 c7),.own (.par 2) c8.length,.u (.bool c9),.down (.par 3) c10.length,.own (.par 4) c11.length,.down (.par 5) c12.length,.own (.par 6) c13.length]],[.row 2 (c3.map Yl.u),.row 3 (c4.map Yr.u),.row 1 (c8.map iU),.deep 5 (c10.map Yo.u),.row 1 (c11.map bU),.deep 7 (c12.map Yk.u),.row 7 (c13.map Ya.u)],[]⟩:=by
 rw [R134,b134]
 simp only[↓xP,xU,rB,rA,rS,ZM6 c1 c2 c3 c4 c5 c6 c7 c8 c9 c10 c11 c12 c13 hs.1]
theorem ZMF (c0:Bool) (c1:Str) (c2:Str) (c3:(List Yl)) (c4:(List Yr)) (c5:Bool) (c6:Str) (c7:Int) (c8:(List Int)) (c9:Bool) (c10:(List Yo)) (c11:(List Bool)) (c12:(List Yk)) (c13:(List Ya)) (hs:Ys.Small ⟨c0,⟨⟨⟨c1,c2⟩,c3,c4,c5,c6⟩,⟨c7,c8,c9⟩,c10,c11,c12,c13⟩⟩):EE F 144 [.ag [.u (.bool c0),.u (.str c1),.u (.str c2),.u (.sl 2 (c3.map Yl.u)),.u (.sl 3 (c4.map Yr.u)),.u (.bool c5),.u (.str c6),.u (.int .i64 c7),.u (.sl 1 (c8.map iU)),.u (.bool c9),.u (.sl 5 (c10.map Yo.u)),.u (.sl 1 (c11.map bU)),.u (.sl 7 (c12.map Yk.u)),.u (.sl 7 (c13.map Ya.u))],.ag [.u (.bool c0),.u (.str c1),.u (.str c2),.u (.sl 2 (c3.map Yl.u)),.u (.sl 3 (c4.map Yr.u)),.u (.bool c5),.u (.str c6),.u (.int .i64 c7),.u (.sl 1 (c8.map iU)),.u (.bool c9),.u (.sl 5 (c10.map Yo.u)),.u (.sl 1 (c11.map bU)),.u (.sl 7 (c12.map Yk.u)),.u (.sl 7 (c13.map Ya.u))]] []=ok1 (B true):=by
 rw [R144,b144]
 simp only[↓xP,xU,rB,rA,rS,ZMC c1 c2 c3 c4 c5 c6 c7 c8 c9 c10 c11 c12 c13 hs.1,ne_eq,not_true_eq_false]
def ZGR (l:(List Ys)):Prop:=l.length≤1048576∧∀ y,y∈l→Ys.Small y
def ZG4 (l:(List Ys)) (left:Int):Int:=offZ left l.length fun a=>allZ ZHv l a
theorem ZMt (l:(List Ys)) (hf:(l.length≤9223372036854775807∧∀ y,y∈l→Ys.Fit y)) (left:Int):EE F 54 [L 14 (l.map Ys.u),I left] []=ok1 (I (ZG4 l left)):=by
 have hl:=hf.1
 rw [R54,b54]
 simp only[↓xP,xU,rB,rA,rS]
 refine ZiE (fun h=>?_) (fun h=>?_)
 ·simp only[decide_eq_true_eq] at h
  simp [ZG4,offZ,h]
 ·refine (Zjc (fun (a:Nat×Int) st=>st.s 0=DU (.sl 14 (l.map Ys.u))∧st.s 5=DI a.1∧st.s 1=DI a.2) (fun a=>l.length - a.1) (fun a=>ok1 (I (allZ ZHv (l.drop a.1) a.2))) ?_ (0,IntKind.i64.wrap (left - l.length)) ⟨by simp only[↓xP,xU,rB,rA,rS],by simp only[↓xP,xU,rB,rA,rS]; rfl,by simp only[↓xP,xU,rB,rA,rS]⟩).trans ?_
  ·rintro ⟨i,a⟩ st ⟨h0,h5,h1⟩ ih
   dsimp only at h0 h5 h1 ih ⊢
   by_cases hi:i<l.length
   ·obtain ⟨⟨c0,⟨⟨⟨c1,c2⟩,c3,c4,c5,c6⟩,⟨c7,c8,c9⟩,c10,c11,c12,c13⟩⟩,hx⟩:∃ x,l[i]?=some x:=⟨_,List.getElem?_eq_getElem hi⟩
    have hw:=w_succ (i:=i) (by omega)
    have hfx:=hf.2 _ (List.mem_of_getElem? hx)
    simp only[↓xP,xU,rB,rA,rS,h0,h5,h1,hi,hx,hw,Ys.u,ZM2 c0 c1 c2 c3 c4 c5 c6 c7 c8 c9 c10 c11 c12 c13 hfx]
    rw [ZGW hx,chkZ]
    refine ZiE (fun h=>?_) (fun h=>?_)
    ·simp only[decide_eq_true_eq] at h
     simp [h]
    ·rw [ih (i+1,ZHv ⟨c0,⟨⟨⟨c1,c2⟩,c3,c4,c5,c6⟩,⟨c7,c8,c9⟩,c10,c11,c12,c13⟩⟩ a) _ (by dsimp only; omega) ⟨by simp only[↓xP,xU,rB,rA,rS,h0],by simp only[↓xP,xU,rB,rA,rS],by simp only[↓xP,xU,rB,rA,rS]⟩]
     simp only[decide_eq_false_iff_not] at h
     simp [h]
   ·simp only[↓xP,xU,rB,rA,rS,h0,h5,h1,hi]
    rw [List.drop_of_length_le (by omega)]; rfl
  ·simp only[decide_eq_false_iff_not] at h
   simp [ZG4,offZ,h]
theorem ZMs (l:(List Ys)) (hf:(l.length≤9223372036854775807∧∀ y,y∈l→Ys.Fit y)):LeZ (ZG4 l) (ZGR l):=LeZ.off hf.1 (LeZ.all fun x hx=>ZM1 x (hf.2 x hx))
theorem ZMy (l:(List Ys)) (hs:ZGR l):EE F 62 [L 14 (l.map Ys.u)] []=some ⟨[.sc (.down (.par 0) l.length)],[.deep 14 (l.map Ys.u)],[]⟩:=by
 have hl:=hs.1
 rw [R62,b62]
 simp only[↓xP,xU,rB,rA,rS,ZLr _ 7 l.length [.bool false,.str [],.str [],.sl 2 [],.sl 3 [],.bool false,.str [],.int .i64 0,.sl 1 [],.bool false,.sl 5 [],.sl 1 [],.sl 7 [],.sl 7 []] 248 (by omega) rfl]
 refine (Zjc (fun (i:Nat) st=>i≤l.length∧st.s 0=DU (.sl 14 (l.map Ys.u))∧st.s 4=DI i∧st.s 3=.t (.sc (.down (.loc 7 0) l.length))∧st.o (.loc 7 0)=some (.deep 14 ((l.take i).map Ys.u++List.replicate (l.length - i) [.bool false,.str [],.str [],.sl 2 [],.sl 3 [],.bool false,.str [],.int .i64 0,.sl 1 [],.bool false,.sl 5 [],.sl 1 [],.sl 7 [],.sl 7 []]))) (fun i=>l.length - i) (fun i=>some ⟨[.sc (.down (.par 0) l.length)],[.deep 14 (l.map Ys.u)],[]⟩) ?_ 0 ⟨by omega,by simp only[↓xP,xU,rB,rA,rS],by simp only[↓xP,xU,rB,rA,rS]; rfl,by simp only[↓xP,xU,rB,rA,rS],by simp only[↓xP,xU,rB,rA,rS,Nat.sub_zero]⟩)
 rintro i st ⟨hle,h0,h4,h3,ho⟩ ih
 by_cases hi:i<l.length
 ·obtain ⟨⟨c0,⟨⟨⟨c1,c2⟩,c3,c4,c5,c6⟩,⟨c7,c8,c9⟩,c10,c11,c12,c13⟩⟩,hx⟩:∃ x,l[i]?=some x:=⟨_,List.getElem?_eq_getElem hi⟩
  have hw:=w_succ (i:=i) (by omega)
  have hg:=ZFM (f:=Ys.u) (z:=[.bool false,.str [],.str [],.sl 2 [],.sl 3 [],.bool false,.str [],.int .i64 0,.sl 1 [],.bool false,.sl 5 [],.sl 1 [],.sl 7 [],.sl 7 []]) hi
  have hf:=ZFN (f:=Ys.u) (z:=[.bool false,.str [],.str [],.sl 2 [],.sl 3 [],.bool false,.str [],.int .i64 0,.sl 1 [],.bool false,.sl 5 [],.sl 1 [],.sl 7 [],.sl 7 []]) hx
  simp only[Ys.u] at hf
  have hsx:=hs.2 _ (List.mem_of_getElem? hx)
  simp only[↓xP,xU,rB,rA,rS,h0,h4,h3,ho,hi,hx,hw,hg,hf,Ys.u,ZM9 c0 c1 c2 c3 c4 c5 c6 c7 c8 c9 c10 c11 c12 c13 hsx]
  exact ih (i+1) _ (by omega) ⟨by omega,by simp only[↓xP,xU,rB,rA,rS,h0],by simp only[↓xP,xU,rB,rA,rS],by simp only[↓xP,xU,rB,rA,rS,h3],by simp only[↓xP,xU,rB,rA,rS,Ys.u]⟩
 ·have:i=l.length:=by omega
  subst this
  rw [ZFL] at ho
  simp only[↓xP,xU,rB,rA,rS,h0,h4,h3,ho,hi]
theorem ZL5 (l:(List Ys)) (hs:ZGR l):EE F 70 [L 14 (l.map Ys.u),L 14 (l.map Ys.u)] []=ok1 (B true):=by
 have hl:=hs.1
 rw [R70,b70]
 simp only[↓xP,xU,rB,rA,rS,ne_eq,not_true_eq_false]
 refine (Zjc (fun (i:Nat) st=>st.s 0=DU (.sl 14 (l.map Ys.u))∧st.s 1=DU (.sl 14 (l.map Ys.u))∧st.s 5=DI i) (fun i=>l.length - i) (fun i=>ok1 (B true)) ?_ 0 ⟨by simp only[↓xP,xU,rB,rA,rS],by simp only[↓xP,xU,rB,rA,rS],by simp only[↓xP,xU,rB,rA,rS]; rfl⟩)
 rintro i st ⟨h0,h1,h5⟩ ih
 by_cases hi:i<l.length
 ·obtain ⟨⟨c0,⟨⟨⟨c1,c2⟩,c3,c4,c5,c6⟩,⟨c7,c8,c9⟩,c10,c11,c12,c13⟩⟩,hx⟩:∃ x,l[i]?=some x:=⟨_,List.getElem?_eq_getElem hi⟩
  have hw:=w_succ (i:=i) (by omega)
  have hsx:=hs.2 _ (List.mem_of_getElem? hx)
  simp only[↓xP,xU,rB,rA,rS,h0,h1,h5,hi,hx,hw,Ys.u,ZMF c0 c1 c2 c3 c4 c5 c6 c7 c8 c9 c10 c11 c12 c13 hsx,ne_eq,not_true_eq_false]
  exact ih (i+1) _ (by omega) ⟨by simp only[↓xP,xU,rB,rA,rS,h0],by simp only[↓xP,xU,rB,rA,rS,h1],by simp only[↓xP,xU,rB,rA,rS]⟩
 ·simp only[↓xP,xU,rB,rA,rS,h0,h1,h5,hi]
def Yd.Small (x:Yd):Prop:=ZGR x.shards∧ZGo x.clients∧ZGp x.results∧Yn.Small x.work∧True
def ZHF (x:Yd) (a:Int):Int:=chkZ (ZG4 x.shards a) fun a=>chkZ (ZGJ x.clients a) fun a=>chkZ (ZGM x.results a) fun a=>chkZ (ZJT x.work a) fun a=>a
theorem ZLJ (c0:(List Ys)) (c1:(List Yb)) (c2:(List Yp)) (c3:Int) (c4:Int) (c5:Int) (c6:Str) (c7:Int) (c8:Int) (c9:Int) (c10:Int) (c11:Int) (hf:Yd.Fit ⟨c0,c1,c2,⟨c3,c4,c5,c6,c7,c8,c9⟩,c10,c11⟩) (left:Int):EE F 11 [.ag [.u (.sl 14 (c0.map Ys.u)),.u (.sl 8 (c1.map Yb.u)),.u (.sl 9 (c2.map Yp.u)),.u (.int .i64 c3),.u (.int .i64 c4),.u (.int .i64 c5),.u (.str c6),.u (.int .i64 c7),.u (.int .i64 c8),.u (.int .i64 c9),.u (.int .i64 c10),.u (.int .i64 c11)],I left] []=ok1 (I (ZHF ⟨c0,c1,c2,⟨c3,c4,c5,c6,c7,c8,c9⟩,c10,c11⟩ left)):=by
 rw [R11,b11]
 simp only[↓xP,xU,rB,rA,rS,ZMt c0 hf.1,ZLH c1 hf.2.1,ZLP c2 hf.2.2.1,ZNP]
 repeat' (refine ZiE (fun h=>?_) (fun h=>?_))
 all_goals (simp only[decide_eq_true_eq,decide_eq_false_iff_not] at *; simp [ZHF,offZ,chkZ, *])
theorem ZLI (x:Yd) (hf:Yd.Fit x):LeZ (ZHF x) (Yd.Small x):=LeZ.chk (ZMs _ hf.1) (LeZ.chk (ZLG _ hf.2.1) (LeZ.chk (ZLO _ hf.2.2.1) (LeZ.chk (ZNO _ hf.2.2.2.1) LeZ.id)))
theorem ZI6 (c0:(List Ys)) (c1:(List Yb)) (c2:(List Yp)) (c3:Int) (c4:Int) (c5:Int) (c6:Str) (c7:Int) (c8:Int) (c9:Int) (c10:Int) (c11:Int) (hs:Yd.Small ⟨c0,c1,c2,⟨c3,c4,c5,c6,c7,c8,c9⟩,c10,c11⟩):EE F 13 [.ag [.u (.sl 14 (c0.map Ys.u)),.u (.sl 8 (c1.map Yb.u)),.u (.sl 9 (c2.map Yp.u)),.u (.int .i64 c3),.u (.int .i64 c4),.u (.int .i64 c5),.u (.str c6),.u (.int .i64 c7),.u (.int .i64 c8),.u (.int .i64 c9),.u (.int .i64 c10),.u (.int .i64 c11)]] []=some ⟨[.ag [.down (.par 0) c0.length,.down (.par 1) c1.length,.own (.par 2) c2.length,.u (.int .i64 c3),.u (.int .i64 c4),.u (.int .i64 c5),.u (.str c6),.u (.int .i64 c7),.u (.int .i64 c8),.u (.int .i64 c9),.u (.int .i64 c10),.u (.int .i64 c11)]],[.deep 14 (c0.map Ys.u),.deep 8 (c1.map Yb.u),.row 9 (c2.map Yp.u)],[]⟩:=by
 rw [R13,b13]
 simp only[↓xP,xU,rB,rA,rS,ZMy c0 hs.1,ZLR c1 hs.2.1,ZLU c2 hs.2.2.1,ZNS]
theorem ZIJ (c0:(List Ys)) (c1:(List Yb)) (c2:(List Yp)) (c3:Int) (c4:Int) (c5:Int) (c6:Str) (c7:Int) (c8:Int) (c9:Int) (c10:Int) (c11:Int) (hs:Yd.Small ⟨c0,c1,c2,⟨c3,c4,c5,c6,c7,c8,c9⟩,c10,c11⟩):EE F 15 [.ag [.u (.sl 14 (c0.map Ys.u)),.u (.sl 8 (c1.map Yb.u)),.u (.sl 9 (c2.map Yp.u)),.u (.int .i64 c3),.u (.int .i64 c4),.u (.int .i64 c5),.u (.str c6),.u (.int .i64 c7),.u (.int .i64 c8),.u (.int .i64 c9),.u (.int .i64 c10),.u (.int .i64 c11)],.ag [.u (.sl 14 (c0.map Ys.u)),.u (.sl 8 (c1.map Yb.u)),.u (.sl 9 (c2.map Yp.u)),.u (.int .i64 c3),.u (.int .i64 c4),.u (.int .i64 c5),.u (.str c6),.u (.int .i64 c7),.u (.int .i64 c8),.u (.int .i64 c9),.u (.int .i64 c10),.u (.int .i64 c11)]] []=ok1 (B true):=by
 rw [R15,b15]
 simp only[↓xP,xU,rB,rA,rS,ZL5 c0 hs.1,ZLh c1 hs.2.1,ZLl c2 hs.2.2.1,ZNy,ne_eq,not_true_eq_false]
def allF (n:Nat) (p:Nat→Bool) (i:Nat):Bool:=if i<n then p i&&allF n p (i+1) else true
termination_by n - i
theorem ZFW {n:Nat} {p:Nat→Bool} {i:Nat} (h:i<n):allF n p i=(p i&&allF n p (i+1)):=by rw [allF,if_pos h]
theorem ZFV {n:Nat} {p:Nat→Bool} {i:Nat} (h:¬i<n):allF n p i=true:=by rw [allF,if_neg h]
theorem ZFE {n:Nat} {p:Nat→Bool}:∀ (k i:Nat),n - i=k→(allF n p i=true↔∀ j,i≤j→j<n→p j=true)
 | 0,i,h=>by
  rw [ZFV (by omega)]
  exact ⟨fun _ j h1 h2=>by omega,fun _=>rfl⟩
 | k+1,i,h=>by
  rw [ZFW (by omega),Bool.and_eq_true,ZFE k (i+1) (by omega)]
  refine ⟨fun ⟨h1,h2⟩ j hj hn=>?_,fun h1=>⟨h1 i (Nat.le_refl _) (by omega),fun j hj hn=>h1 j (by omega) hn⟩⟩
  by_cases e:j=i
  ·subst e; exact h1
  ·exact h2 j (by omega) hn
def inR (n a b:Int):Bool:=decide (a≤n)&&decide (n≤b)
theorem ZU (n a b:Int):EE F 93 [I n,I a,I b] []=ok1 (B (inR n a b)):=by
 rw [R93,b93]
 simp only[↓xP,xT,rL,rB,rA,rS]
 repeat' (refine ZiE (fun h=>?_) (fun h=>?_))
 all_goals (simp_all [inR]<;>(intros; omega))
theorem ZFA (n:Int):EE F 116 [I n] []=ok1 (B (inR n 0 999)):=by
 rw [R116,b116]
 simp only[↓xP,xT,rL,rB,rA,rS]
 repeat' (refine ZiE (fun h=>?_) (fun h=>?_))
 all_goals (simp_all [inR]<;>(intros; omega))
def ZHU (c:UInt8):Bool:=decide (97≤(c.toNat:Int))&&decide ((c.toNat:Int)≤122)
def ZT (s:Str):Bool:=decide (1≤s.length)&&decide (s.length≤4)&&s.all ZHU
theorem cut1 (n:Nat):vcut (n+1) (some (DI 1)) none=some (1,n+1):=by
 have:(1:Int)≤(n:Int)+1:=by omega
 simp [vcut,D.int?,this]
theorem ZHV:∀ s:Str,EE F 194 [S s] []=ok1 (B (s.all ZHU))
 | []=>by
  rw [R194,b194]
  simp only[↓xP,xT,rL,rB,rA,rS]
 | c::s=>by
  have h2:(List.take (s.length+1) (c::s)).drop 1=s:=by simp
  rw [R194,b194]
  simp only[↓xP,xT,rL,rB,rA,rS,cut1,ZHV s,reduceCtorEq,ZHU,List.take_of_length_le]
  repeat' (refine ZiE (fun h=>?_) (fun h=>?_))
  all_goals (simp_all<;>(intros; omega))
theorem ZFz (s:Str):EE F 115 [S s] []=ok1 (B (ZT s)):=by
 rw [R115,b115]
 simp only[↓xP,xT,rL,rB,rA,rS,ZHV]
 repeat' (refine ZiE (fun h=>?_) (fun h=>?_))
 all_goals (simp_all [ZT]<;>(intros; omega))
theorem ZFp (s:Str):EE F 203 [S s] []=ok1 (B (ZT s)):=by
 rw [R203,b203]
 simp only[↓xP,xT,rL,rB,rA,rS,ZU]
 refine ZiE (fun h=>?_) (fun h=>?_)
 ·simp_all [ZT,inR]
  omega
 ·simp only[Bool.not_eq_false',inR,Bool.and_eq_true,decide_eq_true_eq] at h
  refine (Zjc (fun (i:Nat) st=>i≤s.length∧st.s 0=DU (.str s)∧st.s 3=DI i) (fun i=>s.length - i) (fun i=>ok1 (B ((s.drop i).all ZHU))) ?_ 0 ⟨by omega,by simp only[↓xP,xQ,rB],by simp only[↓xP,xQ,rB]; rfl⟩).trans ?_
  ·rintro i st ⟨hle,h0,h3⟩ ih
   by_cases hi:i<s.length
   ·have hc:s[i]?=some s[i]:=List.getElem?_eq_getElem hi
    have hd:s.drop i=s[i]::s.drop (i+1):=List.drop_eq_getElem_cons hi
    have hw:=w_succ (i:=i) (by omega)
    simp only[↓xP,xT,rL,rB,rA,rS,h0,h3,hi,hc,hw]
    rw [hd]
    generalize s[i]=c
    repeat' (refine ZiE (fun h=>?_) (fun h=>?_))
    ·simp_all [ZHU]
     omega
    ·simp_all [ZHU]
     omega
    ·rw [ih (i+1) _ (by omega) ⟨by omega,by simp only[↓xP,xQ,rB,h0],by simp only[↓xP,xQ,rB]⟩]
     simp_all [ZHU]
   ·simp only[↓xP,xT,rL,rB,rA,rS,h0,h3,hi]
    rw [List.drop_of_length_le (by omega)]; rfl
  ·simp [ZT]
   omega
theorem ZJe (s:Str):ZaZ [] s=decide (s≠[]):=by cases s<;>simp [ZaZ,Op.bytesLess]
theorem ZNe (s:Str):ZaZ s []=false:=by cases s<;>simp [ZaZ,Op.bytesLess]
theorem ZIR (a b:UInt8) (s t:Str):ZaZ (a::s) (b::t)=(decide (a<b)||(a==b&&ZaZ s t)):=rfl
theorem ZGY:∀ s:Str,ZaZ s s=false
 | []=>rfl
 | a::s=>by rw [ZIR,ZGY s]; simp
theorem lt_trans:∀ {s t u:Str},ZaZ s t=true→ZaZ t u=true→ZaZ s u=true
 | _,[],_,h,_=>by rw [ZNe] at h; cases h
 | _,b::t,[],_,h=>by rw [ZNe] at h; cases h
 | [],b::t,c::u,_,_=>by rw [ZJe]; simp
 | a :: s,b::t,c::u,h1,h2=>by
  rw [ZIR] at h1 h2 ⊢
  simp only[Bool.or_eq_true,Bool.and_eq_true,decide_eq_true_eq,beq_iff_eq] at h1 h2 ⊢
  rcases h1 with h1|⟨rfl,h1⟩
  ·rcases h2 with h2|⟨rfl,h2⟩
   ·exact .inl (UInt8.lt_trans h1 h2)
   ·exact .inl h1
  ·rcases h2 with h2|⟨rfl,h2⟩
   ·exact .inl h2
   ·exact .inr ⟨rfl,lt_trans h1 h2⟩
theorem ZJ8 {s t:Str} (h:ZaZ s t=true):ZaZ t s=false:=by
 cases hq:ZaZ t s with
 | false=>rfl
 | true=>have:=lt_trans h hq; rw [ZGY] at this; cases this
theorem ZIS:∀ (s t:Str),ZaZ s t=true∨s=t∨ZaZ t s=true
 | [],[]=>.inr (.inl rfl)
 | [],b::t=>.inl (by rw [ZJe]; simp)
 | a::s,[]=>.inr (.inr (by rw [ZJe]; simp))
 | a :: s,b::t=>by
  rw [ZIR,ZIR]
  simp only[Bool.or_eq_true,Bool.and_eq_true,decide_eq_true_eq,beq_iff_eq,List.cons.injEq]
  rcases Nat.lt_trichotomy a.toNat b.toNat with h|h|h
  ·exact .inl (.inl (UInt8.lt_iff_toNat_lt.2 h))
  rotate_left
  ·exact .inr (.inr (.inl (UInt8.lt_iff_toNat_lt.2 h)))
  ·have h:=UInt8.toNat_inj.1 h
   subst h
   rcases ZIS s t with h|h|h
   ·exact .inl (.inr ⟨rfl,h⟩)
   ·exact .inr (.inl ⟨rfl,h⟩)
   ·exact .inr (.inr (.inr ⟨rfl,h⟩))
theorem ZHB (s t:Str):(ZaZ s t||decide (s=t))=!ZaZ t s:=by
 rcases ZIS s t with h|h|h
 ·simp [h,ZJ8 h]
 ·subst h; simp [ZGY]
 ·have h1:=ZJ8 h
  have h2:¬s=t:=fun e=>by subst e; rw [ZGY] at h; cases h
  simp [h,h1,h2]
def ZA (v:Yj):Bool:=(decide (v.low=[])||ZT v.low)&&(decide (v.high=[])||ZT v.high)&&(decide (v.high=[])||ZaZ (if v.low=[] then [97] else v.low) v.high)
theorem ZLp (lo hi:Str):EE F 118 [.ag [.u (.str lo),.u (.str hi)]] []=ok1 (S (if lo=[] then [97] else lo)):=by
 rw [R118,b118]
 simp only[↓xP,xT,rL,rB,rA,rS]
 repeat' (refine ZiE (fun h=>?_) (fun h=>?_))
 all_goals simp_all
theorem ZI (lo hi:Str):EE F 51 [.ag [.u (.str lo),.u (.str hi)]] []=ok1 (B (ZA ⟨lo,hi⟩)):=by
 rw [R51,b51]
 simp only[↓xP,xT,rL,rB,rA,rS,ZFz,ZLp]
 repeat' (refine ZiE (fun h=>?_) (fun h=>?_))
 all_goals simp_all [ZA]
theorem lt_a {s:Str} (h:ZT s=true):ZaZ [97] s=decide (s≠[97]):=by
 match s,h with
 | [],h=>simp [ZT] at h
 | c :: t,h=>
  simp only[ZT,ZHU,List.all_cons,Bool.and_eq_true,decide_eq_true_eq] at h
  have hc:97≤c.toNat:=by omega
  rw [ZIR,ZJe]
  by_cases e:c=97
  ·subst e; simp
  ·have h1:(97:UInt8)<c:=by
    rw [UInt8.lt_iff_toNat_lt]
    have:c.toNat≠97:=fun q=>e (UInt8.toNat_inj.1 q)
    show 97<c.toNat
    omega
   simp [h1,e]
theorem ZY (lo hi:Str):EE F 224 [.ag [.u (.str lo),.u (.str hi)]] []=ok1 (B (ZA ⟨lo,hi⟩)):=by
 rw [R224,b224]
 simp only[↓xP,xT,rL,rB,rA,rS,ZFp]
 repeat' (refine ZiE (fun h=>?_) (fun h=>?_))
 all_goals simp_all [ZA,ZJe,lt_a]
def ZFf (v:Yj) (key:Str):Bool:=!ZaZ key v.low&&(decide (v.high=[])||ZaZ key v.high)
theorem ZK2 (lo hi key:Str):EE F 109 [.ag [.u (.str lo),.u (.str hi)],S key] []=ok1 (B (ZFf ⟨lo,hi⟩ key)):=by
 rw [R109,b109]
 simp only[↓xP,xT,rL,rB,rA,rS,ZHB]
 repeat' (refine ZiE (fun h=>?_) (fun h=>?_))
 all_goals simp_all [ZFf]
def ZFo (v:Yj) (key:Str):Bool:=ZA v&&ZT key&&ZFf v key
theorem ZFh (lo hi key:Str):EE F 226 [.ag [.u (.str lo),.u (.str hi)],S key] []=ok1 (B (ZFo ⟨lo,hi⟩ key)):=by
 rw [R226,b226]
 simp only[↓xP,xT,rL,rB,rA,rS,ZY,ZFp]
 repeat' (refine ZiE (fun h=>?_) (fun h=>?_))
 all_goals simp_all [ZFo,ZFf]
def ZFt (l:List Yl) (i:Nat):Bool:=match l[i]? with
 | some p=>ZT p.key&&inR p.value 0 999&&(decide (i=0)||(match l[i - 1]? with
  | some q=>ZaZ q.key p.key
  | none=>true))
 | none=>true
def ZB (l:List Yl):Bool:=decide (l.length≤48)&&allF l.length (ZFt l) 0
theorem ZFu (l:List Yl):EE F 48 [L 2 (l.map Yl.u)] []=ok1 (B (ZB l)):=by
 rw [R48,b48]
 simp only[↓xP,xT,rL,rB,rA,rS]
 refine ZiE (fun h=>?_) (fun h=>?_)
 ·simp only[decide_eq_true_eq] at h
  simp [ZB,show ¬l.length≤48 by omega]
 ·simp only[decide_eq_false_iff_not] at h
  refine (Zjc (fun (i:Nat) st=>st.s 0=DU (.sl 2 (l.map Yl.u))∧st.s 8=DU (.sl 2 (l.map Yl.u))∧st.s 9=DI l.length∧st.s 10=DI i) (fun i=>l.length - i) (fun i=>ok1 (B (allF l.length (ZFt l) i))) ?_ 0 ⟨by simp only[↓xP,xT,rL,rB,rA,rS],by simp only[↓xP,xT,rL,rB,rA,rS],by simp only[↓xP,xT,rL,rB,rA,rS],by simp only[↓xP,xT,rL,rB,rA,rS]; rfl⟩).trans ?_
  ·rintro i st ⟨h0,h8,h9,h10⟩ ih
   by_cases hi:i<l.length
   ·obtain ⟨⟨pk,pv⟩,hp⟩:∃ p,l[i]?=some p:=⟨_,List.getElem?_eq_getElem hi⟩
    have hw:=w_succ (i:=i) (by omega)
    rw [ZFW hi]
    by_cases hz:i=0
    ·have h01:¬(0:Int)<(i:Int):=by omega
     simp only[↓xP,xT,rL,rB,rA,rS,h0,h8,h9,h10,hi,hp,hw,h01,Yl.u,ZFz,ZFA]
     repeat' (refine ZiE (fun h=>?_) (fun h=>?_))
     ·simp_all [ZFt]
     ·simp_all [ZFt]
     ·rw [ih (i+1) _ (by omega) ⟨by simp only[↓xP,xT,rL,rB,rA,rS,h0],by simp only[↓xP,xT,rL,rB,rA,rS,h8],by simp only[↓xP,xT,rL,rB,rA,rS,h9],by simp only[↓xP,xT,rL,rB,rA,rS]⟩]
      simp_all [ZFt]
    ·obtain ⟨⟨qk,qv⟩,hq⟩:∃ q,l[i - 1]?=some q:=⟨_,List.getElem?_eq_getElem (by omega)⟩
     have hw2:IntKind.i64.wrap ((i:Int) - 1)=((i - 1:Nat):Int):=by rw [w64 (by omega) (by omega)]; omega
     have h01:(0:Int)<(i:Int):=by omega
     simp only[↓xP,xT,rL,rB,rA,rS,h0,h8,h9,h10,hi,hp,hw,hw2,hq,h01,Yl.u,ZFz,ZFA]
     repeat' (refine ZiE (fun h=>?_) (fun h=>?_))
     ·simp_all [ZFt]
     ·simp_all [ZFt]
     ·simp_all [ZFt]
     ·rw [ih (i+1) _ (by omega) ⟨by simp only[↓xP,xT,rL,rB,rA,rS,h0],by simp only[↓xP,xT,rL,rB,rA,rS,h8],by simp only[↓xP,xT,rL,rB,rA,rS,h9],by simp only[↓xP,xT,rL,rB,rA,rS]⟩]
      simp_all [ZFt]
   ·simp only[↓xP,xT,rL,rB,rA,rS,h0,h8,h9,h10,hi]
    rw [ZFV hi]
  ·simp [ZB,show l.length≤48 by omega]
theorem Z8 (l:List Yl):EE F 128 [L 2 (l.map Yl.u)] []=ok1 (B (ZB l)):=by
  rw [R128,b128]
  simp only[↓xP,xT,rL,rB,rA,rS]
  refine ZiE (fun h=>?_) (fun h=>?_)
  · simp only[decide_eq_true_eq] at h
    simp [ZB,show ¬l.length≤48 by omega]
  · simp only[decide_eq_false_iff_not] at h
    refine (Zjc (fun (i:Nat) st=>st.s 0=DU (.sl 2 (l.map Yl.u))∧st.s 3=DI i) (fun i=>l.length - i) (fun i=>ok1 (B (allF l.length (ZFt l) i))) ?_ 0 ⟨by simp only[↓xP,xT,rL,rB,rA,rS],by simp only[↓xP,xT,rL,rB,rA,rS]; rfl⟩).trans ?_
    · rintro i st ⟨h0,h3⟩ ih
      by_cases hi:i<l.length
      · obtain ⟨⟨pk,pv⟩,hp⟩:∃ p,l[i]?=some p:=⟨_,List.getElem?_eq_getElem hi⟩
        have hw:=w_succ (i:=i) (by omega)
        rw [ZFW hi]
        by_cases hz:i=0
        · have h01:¬(0:Int)<(i:Int):=by omega
          simp only[↓xP,xT,rL,rB,rA,rS,h0,h3,hi,hp,hw,h01,Yl.u,ZFp,ZU]
          repeat' (refine ZiE (fun h=>?_) (fun h=>?_))
          · simp_all [ZFt]
          · simp_all [ZFt]
          · rw [ih (i+1) _ (by omega) ⟨by simp only[↓xP,xT,rL,rB,rA,rS,h0],by simp only[↓xP,xT,rL,rB,rA,rS]⟩]
            simp_all [ZFt]
        · obtain ⟨⟨qk,qv⟩,hq⟩:∃ q,l[i - 1]?=some q:=⟨_,List.getElem?_eq_getElem (by omega)⟩
          have hw2:IntKind.i64.wrap ((i:Int) - 1)=((i - 1:Nat):Int):=by rw [w64 (by omega) (by omega)]; omega
          have h01:(0:Int)<(i:Int):=by omega
          simp only[↓xP,xT,rL,rB,rA,rS,h0,h3,hi,hp,hw,hw2,hq,h01,Yl.u,ZFp,ZU,ZHB]
          repeat' (refine ZiE (fun h=>?_) (fun h=>?_))
          · simp_all [ZFt]
          · simp_all [ZFt]
          · simp_all [ZFt]
          · rw [ih (i+1) _ (by omega) ⟨by simp only[↓xP,xT,rL,rB,rA,rS,h0],by simp only[↓xP,xT,rL,rB,rA,rS]⟩]
            simp_all [ZFt]
      · simp only[↓xP,xT,rL,rB,rA,rS,h0,h3,hi]
        rw [ZFV hi]
    · simp [ZB,show l.length≤48 by omega]
theorem ZHj {l:List Yl} (h:ZB l=true) {i:Nat} {p:Yl} (hp:l[i]?=some p):ZT p.key=true∧inR p.value 0 999=true:=by
 simp only[ZB,Bool.and_eq_true,decide_eq_true_eq] at h
 have:=(ZFE _ 0 rfl).1 h.2 i (by omega) (List.getElem?_eq_some_iff.1 hp).1
 simp only[ZFt,hp,Bool.and_eq_true] at this
 exact this.1
theorem ZJH (n:Int):EE F 174 [I n] []=ok1 (B (inR n 1 3)):=by
 rw [R174,b174]
 simp only[↓xP,xT,rL,rB,rA,rS]
 repeat' (refine ZiE (fun h=>?_) (fun h=>?_))
 all_goals (simp_all [inR]<;>(intros; omega))
theorem ZHD (n:Int):EE F 178 [I n] []=ok1 (B (inR n 0 4)):=by
 rw [R178,b178]
 simp only[↓xP,xT,rL,rB,rA,rS]
 repeat' (refine ZiE (fun h=>?_) (fun h=>?_))
 all_goals (simp_all [inR]<;>(intros; omega))
theorem ZGx (n:Int):EE F 177 [I n] []=ok1 (B (inR n 0 7)):=by
 rw [R177,b177]
 simp only[↓xP,xT,rL,rB,rA,rS]
 repeat' (refine ZiE (fun h=>?_) (fun h=>?_))
 all_goals (simp_all [inR]<;>(intros; omega))
theorem ZHb (n:Int):EE F 175 [I n] []=ok1 (B (inR n 1 999)):=by
 rw [R175,b175]
 simp only[↓xP,xT,rL,rB,rA,rS]
 repeat' (refine ZiE (fun h=>?_) (fun h=>?_))
 all_goals (simp_all [inR]<;>(intros; omega))
def Z7 (c:Ye):Bool:=(ZT c.key||decide (c.kind=5)&&decide (c.key=[])) &&
 ((decide (c.kind=1)||decide (c.kind=3)||decide (c.kind=5))&&decide (c.value=0)&&decide (c.old=0)||decide (c.kind=2)&&inR c.value 0 999&&decide (c.old=0)||decide (c.kind=4)&&inR c.value 0 999&&inR c.old (-1) 999)
theorem ZLY (k:Int):k=1∨k=2∨k=3∨k=4∨k=5∨(k<1∧¬5<k∧¬k=1∧¬k=2∧¬k=3∧¬k=4∧¬k=5)∨(¬k<1∧5<k∧¬k=1∧¬k=2∧¬k=3∧¬k=4∧¬k=5):=by omega
theorem ZGr (k:Int) (key:Str) (v o:Int):EE F 200 [.ag [.u (.int .i64 k),.u (.str key),.u (.int .i64 v),.u (.int .i64 o)]] []=ok1 (B (Z7 ⟨k,key,v,o⟩)):=by
 rw [R200,b200]
 rcases ZLY k with h|h|h|h|h|h|h<;>(try subst h)<;>(try obtain ⟨_,_,_,_,_,_,_⟩:=h)<;>simp only[↓xP,xT,rL,rB,rA,rS,ZFp,ZU, *]<;>
  repeat' (refine ZiE (fun h=>?_) (fun h=>?_))
 all_goals (simp_all [Z7]<;>(intros; omega))
theorem ZGq (k:Int) (key:Str) (v o:Int):EE F 216 [.ag [.u (.int .i64 k),.u (.str key),.u (.int .i64 v),.u (.int .i64 o)]] []=ok1 (B (Z7 ⟨k,key,v,o⟩)):=by
 rw [R216,b216]
 rcases ZLY k with h|h|h|h|h|h|h<;>(try subst h)<;>(try obtain ⟨_,_,_,_,_,_,_⟩:=h)<;>simp only[↓xP,xT,rL,rB,rA,rS,ZFz,ZFA, *]<;>
  repeat' (refine ZiE (fun h=>?_) (fun h=>?_))
 all_goals first|(simp_all [Z7,inR]; done)|(simp_all [Z7,inR]<;>(intros; omega))|(simp_all [Z7,inR]; rw [Bool.eq_iff_iff]; simp; omega)
def ZG5 (c:Ye):Bool:=Z7 c&&!decide (c.kind=5)
theorem ZJ4 (k:Int) (key:Str) (v o:Int):EE F 187 [.ag [.u (.int .i64 k),.u (.str key),.u (.int .i64 v),.u (.int .i64 o)]] []=ok1 (B (ZG5 ⟨k,key,v,o⟩)):=by
 rw [R187,b187]
 simp only[↓xP,xT,rL,rB,rA,rS,ZGr]
 repeat' (refine ZiE (fun h=>?_) (fun h=>?_))
 all_goals (simp_all [ZG5])
theorem ZI7 (k:Int) (key:Str) (v o:Int):EE F 173 [.ag [.u (.int .i64 k),.u (.str key),.u (.int .i64 v),.u (.int .i64 o)]] []=ok1 (B (ZG5 ⟨k,key,v,o⟩)):=by
 rw [R173,b173]
 simp only[↓xP,xT,rL,rB,rA,rS,ZGq]
 repeat' (refine ZiE (fun h=>?_) (fun h=>?_))
 all_goals (simp_all [ZG5])
def ZP (e:Yh):Bool:=inR e.client 0 3&&inR e.seq 1 999&&Z7 e.cmd
theorem ZF6 (c s k:Int) (key:Str) (v o:Int):EE F 125 [.ag [.u (.int .i64 c),.u (.int .i64 s),.u (.int .i64 k),.u (.str key),.u (.int .i64 v),.u (.int .i64 o)]] []=ok1 (B (ZP ⟨c,s,⟨k,key,v,o⟩⟩)):=by
 rw [R125,b125]
 simp only[↓xP,xT,rL,rB,rA,rS,ZGr,ZU]
 repeat' (refine ZiE (fun h=>?_) (fun h=>?_))
 all_goals (simp_all [ZP])
theorem ZGV (c s k:Int) (key:Str) (v o:Int):EE F 141 [.ag [.u (.int .i64 c),.u (.int .i64 s),.u (.int .i64 k),.u (.str key),.u (.int .i64 v),.u (.int .i64 o)]] []=ok1 (B (ZP ⟨c,s,⟨k,key,v,o⟩⟩)):=by
 rw [R141,b141]
 simp only[↓xP,xT,rL,rB,rA,rS,ZGq,ZHb]
 repeat' (refine ZiE (fun h=>?_) (fun h=>?_))
 all_goals first|(simp_all [ZP,inR]; done)|(simp_all [ZP,inR]<;>(intros; omega))|(simp_all [ZP,inR]; rw [Bool.eq_iff_iff]; simp; omega)
def ZFH (p:Yn):Bool:=inR p.first 0 7&&(decide (p.kind=1)&&ZT p.key&&decide (p.second=0)&&decide (p.from_=0)&&decide (p.to_=0)&&decide (p.step=0) ||
 decide (p.kind=2)&&inR p.second 0 7&&!decide (p.second=p.first)&&decide (p.key=[])&&decide (p.from_=0)&&decide (p.to_=0)&&decide (p.step=0) ||
 decide (p.kind=3)&&inR p.from_ 0 4&&inR p.to_ 0 4&&!decide (p.from_=p.to_)&&inR p.step 0 1&&decide (p.second=0)&&decide (p.key=[]))
theorem ZK9 (k:Int):k=1∨k=2∨k=3∨(¬k=1∧¬k=2∧¬k=3):=by omega
theorem ZKk (k f s:Int) (key:Str) (a b c:Int):EE F 182 [.ag [.u (.int .i64 k),.u (.int .i64 f),.u (.int .i64 s),.u (.str key),.u (.int .i64 a),.u (.int .i64 b),.u (.int .i64 c)]] []=ok1 (B (ZFH ⟨k,f,s,key,a,b,c⟩)):=by
 rw [R182,b182]
 rcases ZK9 k with h|h|h|h<;>(try subst h)<;>(try obtain ⟨_,_,_⟩:=h)<;>simp only[↓xP,xT,rL,rB,rA,rS,ZFp,ZU, *]<;>
  repeat' (refine ZiE (fun h=>?_) (fun h=>?_))
 all_goals first|(simp_all [ZFH]; done)|(simp_all [ZFH]<;>(intros; omega))|(simp_all [ZFH]; rw [Bool.eq_iff_iff]; simp; omega)
theorem ZKj (k f s:Int) (key:Str) (a b c:Int):EE F 89 [.ag [.u (.int .i64 k),.u (.int .i64 f),.u (.int .i64 s),.u (.str key),.u (.int .i64 a),.u (.int .i64 b),.u (.int .i64 c)]] []=ok1 (B (ZFH ⟨k,f,s,key,a,b,c⟩)):=by
 rw [R89,b89]
 rcases ZK9 k with h|h|h|h<;>(try subst h)<;>(try obtain ⟨_,_,_⟩:=h)<;>simp only[↓xP,xT,rL,rB,rA,rS,ZFz,ZGx,ZHD, *]<;>
  repeat' (refine ZiE (fun h=>?_) (fun h=>?_))
 all_goals first|(simp_all [ZFH]; done)|(simp_all [ZFH,inR]<;>(intros; omega))|(simp_all [ZFH,Bool.and_assoc]; done)|(simp_all [ZFH,inR]; rw [Bool.eq_iff_iff]; simp; omega)
def ZHL (v:Yj) (key:Str):Bool:=ZA v&&ZT key&&ZA ⟨v.low,key⟩&&ZA ⟨key,v.high⟩
def ZHg (v:Yj) (key:Str):Option Ret:=sel (ZHL v key) (some ⟨[.ag [.u (.str v.low),.u (.str key)],.ag [.u (.str key),.u (.str v.high)],B true],[],[]⟩) (some ⟨[.ag [.u (.str []),.u (.str [])],.ag [.u (.str []),.u (.str [])],B false],[],[]⟩)
theorem ZHo (lo hi key:Str):EE F 227 [.ag [.u (.str lo),.u (.str hi)],S key] []=ZHg ⟨lo,hi⟩ key:=by
 rw [R227,b227]
 simp only[↓xP,xT,rL,rB,rA,rS,ZY,ZFp]
 repeat' (refine ZiE (fun h=>?_) (fun h=>?_))
 all_goals simp_all [ZHL,ZHg,sel]
theorem ZGB (lo hi key:Str):EE F 110 [.ag [.u (.str lo),.u (.str hi)],S key] []=ZHg ⟨lo,hi⟩ key:=by
 rw [R110,b110]
 simp only[↓xP,xT,rL,rB,rA,rS,ZI,ZFz]
 repeat' (refine ZiE (fun h=>?_) (fun h=>?_))
 all_goals simp_all [ZHL,ZHg,sel]
def ZHA (a b:Yj):Bool:=ZA a&&ZA b&&!decide (a.high=[])&&decide (a.high=b.low)
def ZIi (a b:Yj):Option Ret:=sel (ZHA a b) (some ⟨[.ag [.u (.str a.low),.u (.str b.high)],B true],[],[]⟩) (some ⟨[.ag [.u (.str []),.u (.str [])],B false],[],[]⟩)
theorem ZIN (al ah bl bh:Str):EE F 250 [.ag [.u (.str al),.u (.str ah)],.ag [.u (.str bl),.u (.str bh)]] []=ZIi ⟨al,ah⟩ ⟨bl,bh⟩:=by
 rw [R250,b250]
 simp only[↓xP,xT,rL,rB,rA,rS,ZY]
 repeat' (refine ZiE (fun h=>?_) (fun h=>?_))
 all_goals simp_all [ZHA,ZIi,sel]
theorem ZIM (al ah bl bh:Str):EE F 120 [.ag [.u (.str al),.u (.str ah)],.ag [.u (.str bl),.u (.str bh)]] []=ZIi ⟨al,ah⟩ ⟨bl,bh⟩:=by
 rw [R120,b120]
 simp only[↓xP,xT,rL,rB,rA,rS,ZI]
 repeat' (refine ZiE (fun h=>?_) (fun h=>?_))
 all_goals simp_all [ZHA,ZIi,sel]
def Z3 (l:List Yr) (i:Nat):Bool:=match l[i]? with
 | none=>true
 | some s=>inR s.client 0 3&&inR s.seq 1 999&&inR s.reply (-2) 999&&(decide (i=0)||(match l[i - 1]? with
  | some r=>decide (r.client<s.client)
  | none=>true))
def ZF (l:List Yr):Bool:=allF l.length (Z3 l) 0
theorem ZFJ (l:List Yr) (hn:l.length≤4611686018427387904):EE F 225 [L 3 (l.map Yr.u)] []=ok1 (B (ZF l)):=by
 rw [R225,b225]
 simp only[↓xP,xT,rL,rB,rA,rS]
 refine (Zjc (fun (i:Nat) st=>st.s 0=DU (.sl 3 (l.map Yr.u))∧st.s 3=DI i) (fun i=>l.length - i) (fun i=>ok1 (B (allF l.length (Z3 l) i))) ?_ 0 ⟨by simp only[↓xP,xT,rL,rB,rA,rS],by simp only[↓xP,xT,rL,rB,rA,rS]; rfl⟩).trans ?_
 ·rintro i st ⟨h0,h3⟩ ih
  by_cases hi:i<l.length
  ·obtain ⟨⟨c,s,r⟩,hp⟩:∃ p,l[i]?=some p:=⟨_,List.getElem?_eq_getElem hi⟩
   have hw:=w_succ (i:=i) (by omega)
   rw [ZFW hi]
   by_cases hz:i=0
   ·have h01:¬(0:Int)<(i:Int):=by omega
    simp only[↓xP,xT,rL,rB,rA,rS,h0,h3,hi,hp,hw,h01,Yr.u,ZU]
    repeat' (refine ZiE (fun h=>?_) (fun h=>?_))
    all_goals first|(rw [ih (i+1) _ (by omega) ⟨by simp only[↓xP,xT,rL,rB,rA,rS,h0],by simp only[↓xP,xT,rL,rB,rA,rS]⟩]; simp_all [Z3]; done)|(simp_all [Z3]; done)
   ·obtain ⟨⟨qc,qs,qr⟩,hq⟩:∃ q,l[i - 1]?=some q:=⟨_,List.getElem?_eq_getElem (by omega)⟩
    have hw2:IntKind.i64.wrap ((i:Int) - 1)=((i - 1:Nat):Int):=by rw [w64 (by omega) (by omega)]; omega
    have h01:(0:Int)<(i:Int):=by omega
    simp only[↓xP,xT,rL,rB,rA,rS,h0,h3,hi,hp,hw,hw2,hq,h01,Yr.u,ZU]
    repeat' (refine ZiE (fun h=>?_) (fun h=>?_))
    all_goals first|(rw [ih (i+1) _ (by omega) ⟨by simp only[↓xP,xT,rL,rB,rA,rS,h0],by simp only[↓xP,xT,rL,rB,rA,rS]⟩]; simp_all [Z3]; done)|(simp_all [Z3]; done)|(simp_all [Z3]<;>(intros; omega))
  ·simp only[↓xP,xT,rL,rB,rA,rS,h0,h3,hi]
   rw [ZFV hi]
 ·rfl
theorem ZGb (l:List Yr) (hn:l.length≤4611686018427387904):EE F 108 [L 3 (l.map Yr.u)] []=ok1 (B (ZF l)):=by
 rw [R108,b108]
 simp only[↓xP,xT,rL,rB,rA,rS]
 refine (Zjc (fun (i:Nat) st=>st.s 0=DU (.sl 3 (l.map Yr.u))∧st.s 5=DU (.sl 3 (l.map Yr.u))∧st.s 6=DI l.length∧st.s 7=DI i) (fun i=>l.length - i) (fun i=>ok1 (B (allF l.length (Z3 l) i))) ?_ 0 ⟨by simp only[↓xP,xT,rL,rB,rA,rS],by simp only[↓xP,xT,rL,rB,rA,rS],by simp only[↓xP,xT,rL,rB,rA,rS],by simp only[↓xP,xT,rL,rB,rA,rS]; rfl⟩).trans ?_
 ·rintro i st ⟨h0,h5,h6,h7⟩ ih
  by_cases hi:i<l.length
  ·obtain ⟨⟨c,s,r⟩,hp⟩:∃ p,l[i]?=some p:=⟨_,List.getElem?_eq_getElem hi⟩
   have hw:=w_succ (i:=i) (by omega)
   rw [ZFW hi]
   by_cases hz:i=0
   ·have h01:¬(0:Int)<(i:Int):=by omega
    simp only[↓xP,xT,rL,rB,rA,rS,h0,h5,h6,h7,hi,hp,hw,h01,Yr.u,ZHb]
    repeat' (refine ZiE (fun h=>?_) (fun h=>?_))
    all_goals first|(rw [ih (i+1) _ (by omega) ⟨by simp only[↓xP,xT,rL,rB,rA,rS,h0],by simp only[↓xP,xT,rL,rB,rA,rS,h5],by simp only[↓xP,xT,rL,rB,rA,rS,h6],by simp only[↓xP,xT,rL,rB,rA,rS]⟩]; simp_all [Z3,inR]; done)|(rw [ih (i+1) _ (by omega) ⟨by simp only[↓xP,xT,rL,rB,rA,rS,h0],by simp only[↓xP,xT,rL,rB,rA,rS,h5],by simp only[↓xP,xT,rL,rB,rA,rS,h6],by simp only[↓xP,xT,rL,rB,rA,rS]⟩]; simp_all [Z3,inR]<;>(intros; omega))|(simp_all [Z3,inR]; done)|(simp_all [Z3,inR]<;>(intros; omega))
   ·obtain ⟨⟨qc,qs,qr⟩,hq⟩:∃ q,l[i - 1]?=some q:=⟨_,List.getElem?_eq_getElem (by omega)⟩
    have hw2:IntKind.i64.wrap ((i:Int) - 1)=((i - 1:Nat):Int):=by rw [w64 (by omega) (by omega)]; omega
    have h01:(0:Int)<(i:Int):=by omega
    simp only[↓xP,xT,rL,rB,rA,rS,h0,h5,h6,h7,hi,hp,hw,hw2,hq,h01,Yr.u,ZHb]
    repeat' (refine ZiE (fun h=>?_) (fun h=>?_))
    all_goals first|(rw [ih (i+1) _ (by omega) ⟨by simp only[↓xP,xT,rL,rB,rA,rS,h0],by simp only[↓xP,xT,rL,rB,rA,rS,h5],by simp only[↓xP,xT,rL,rB,rA,rS,h6],by simp only[↓xP,xT,rL,rB,rA,rS]⟩]; simp_all [Z3,inR]; done)|(rw [ih (i+1) _ (by omega) ⟨by simp only[↓xP,xT,rL,rB,rA,rS,h0],by simp only[↓xP,xT,rL,rB,rA,rS,h5],by simp only[↓xP,xT,rL,rB,rA,rS,h6],by simp only[↓xP,xT,rL,rB,rA,rS]⟩]; simp_all [Z3,inR]<;>(intros; omega))|(simp_all [Z3,inR]; done)|(simp_all [Z3,inR]<;>(intros; omega))
  ·simp only[↓xP,xT,rL,rB,rA,rS,h0,h5,h6,h7,hi]
   rw [ZFV hi]
 ·rfl
def ZD (s:Yt):Bool:=ZA s.span&&ZB s.pairs&&ZF s.known&&(s.pairs.all fun q=>ZFf s.span q.key)&&(decide (s.cut=[])||s.sealed&&ZHL s.span s.cut)
theorem Z0 {l:List Yl} (h:ZB l=true):l.length≤48:=by
 simp only[ZB,Bool.and_eq_true,decide_eq_true_eq] at h; exact h.1
theorem ZF7 (lo hi:Str) (l:List Yl) (k:List Yr) (se:Bool) (cut:Str) (hn:k.length≤4611686018427387904):EE F 41 [.ag [.u (.str lo),.u (.str hi),.u (.sl 2 (l.map Yl.u)),.u (.sl 3 (k.map Yr.u)),.u (.bool se),.u (.str cut)]] []=ok1 (B (ZD ⟨⟨lo,hi⟩,l,k,se,cut⟩)):=by
 rw [R41,b41]
 simp only[↓xP,xT,rL,rB,rA,rS,ZI,ZFu,ZGb k hn]
 refine ZiE (fun h=>?_) (fun h=>?_)
 ·simp_all [ZD]
 refine ZiE (fun h2=>?_) (fun h2=>?_)
 ·simp_all [ZD]
 refine ZiE (fun h3=>?_) (fun h3=>?_)
 ·simp_all [ZD]
 simp only[Bool.not_eq_false'] at h h2 h3
 have hlen:=Z0 h2
 refine (Zjc (fun (i:Nat) st=>st.s 1=.t (.sc (.ptr (.loc 1 0) 0 0))∧st.o (.loc 1 0)=some (.box [.u (.str lo),.u (.str hi),.u (.sl 2 (l.map Yl.u)),.u (.sl 3 (k.map Yr.u)),.u (.bool se),.u (.str cut)])∧st.s 25=DU (.sl 2 (l.map Yl.u))∧st.s 26=DI l.length∧st.s 27=DI i) (fun i=>l.length - i) (fun i=>ok1 (B (((l.drop i).all fun q=>ZFf ⟨lo,hi⟩ q.key)&&(decide (cut=[])||se&&ZHL ⟨lo,hi⟩ cut)))) ?_ 0 ⟨by simp only[↓xP,xT,rL,rB,rA,rS],by simp only[↓xP,xT,rL,rB,rA,rS],by simp only[↓xP,xT,rL,rB,rA,rS],by simp only[↓xP,xT,rL,rB,rA,rS],by simp only[↓xP,xT,rL,rB,rA,rS]; rfl⟩).trans ?_
 ·rintro i st ⟨h1,ho,h25,h26,h27⟩ ih
  by_cases hi':i<l.length
  ·obtain ⟨⟨pk,pv⟩,hp⟩:∃ p,l[i]?=some p:=⟨_,List.getElem?_eq_getElem hi'⟩
   have hd:l.drop i=⟨pk,pv⟩::l.drop (i+1):=by rw [List.drop_eq_getElem_cons hi',(List.getElem?_eq_some_iff.1 hp).2]
   have hw:=w_succ (i:=i) (by omega)
   simp only[↓xP,xT,rL,rB,rA,rS,h1,ho,h25,h26,h27,hi',hp,hw,Yl.u,ZK2]
   rw [hd]
   refine ZiE (fun h=>?_) (fun h=>?_)
   ·simp_all
   ·rw [ih (i+1) _ (by omega) ⟨by simp only[↓xP,xT,rL,rB,rA,rS,h1],by simp only[↓xP,xT,rL,rB,rA,rS,ho],by simp only[↓xP,xT,rL,rB,rA,rS,h25],by simp only[↓xP,xT,rL,rB,rA,rS,h26],by simp only[↓xP,xT,rL,rB,rA,rS]⟩]
    simp_all
  ·simp only[↓xP,xT,rL,rB,rA,rS,h1,ho,h25,h26,h27,hi',ZGB]
   rw [List.drop_of_length_le (by omega)]
   refine ZiE (fun h=>?_) (fun h=>?_)
   ·simp_all
   cases hc:ZHL ⟨lo,hi⟩ cut<;>simp only[↓xP,xT,rL,rB,rA,rS,ZHg,hc,h1,ho]
   all_goals repeat' (refine ZiE (fun h=>?_) (fun h=>?_))
   all_goals simp_all
 ·simp [ZD,h,h2,h3]
theorem ZF8 (lo hi:Str) (l:List Yl) (k:List Yr) (se:Bool) (cut:Str) (hn:k.length≤4611686018427387904):EE F 148 [.ag [.u (.str lo),.u (.str hi),.u (.sl 2 (l.map Yl.u)),.u (.sl 3 (k.map Yr.u)),.u (.bool se),.u (.str cut)]] []=ok1 (B (ZD ⟨⟨lo,hi⟩,l,k,se,cut⟩)):=by
 rw [R148,b148]
 simp only[↓xP,xT,rL,rB,rA,rS,ZY,Z8,ZFJ k hn]
 refine ZiE (fun h=>?_) (fun h=>?_)
 ·simp_all [ZD]
 refine ZiE (fun h2=>?_) (fun h2=>?_)
 ·simp_all [ZD]
 refine ZiE (fun h3=>?_) (fun h3=>?_)
 ·simp_all [ZD]
 simp only[Bool.not_eq_false'] at h h2 h3
 have hlen:=Z0 h2
 refine (Zjc (fun (i:Nat) st=>st.s 1=.t (.sc (.ptr (.loc 1 0) 0 0))∧st.o (.loc 1 0)=some (.box [.u (.str lo),.u (.str hi),.u (.sl 2 (l.map Yl.u)),.u (.sl 3 (k.map Yr.u)),.u (.bool se),.u (.str cut)])∧st.s 3=DI i) (fun i=>l.length - i) (fun i=>ok1 (B (((l.drop i).all fun q=>ZFf ⟨lo,hi⟩ q.key)&&(decide (cut=[])||se&&ZHL ⟨lo,hi⟩ cut)))) ?_ 0 ⟨by simp only[↓xP,xT,rL,rB,rA,rS],by simp only[↓xP,xT,rL,rB,rA,rS],by simp only[↓xP,xT,rL,rB,rA,rS]; rfl⟩).trans ?_
 ·rintro i st ⟨h1,ho,h3'⟩ ih
  by_cases hi':i<l.length
  ·obtain ⟨⟨pk,pv⟩,hp⟩:∃ p,l[i]?=some p:=⟨_,List.getElem?_eq_getElem hi'⟩
   have hd:l.drop i=⟨pk,pv⟩::l.drop (i+1):=by rw [List.drop_eq_getElem_cons hi',(List.getElem?_eq_some_iff.1 hp).2]
   have hw:=w_succ (i:=i) (by omega)
   have hk:=(ZHj h2 hp).1
   simp only[↓xP,xT,rL,rB,rA,rS,h1,ho,h3',hi',hp,hw,Yl.u,ZFh]
   rw [hd]
   refine ZiE (fun h=>?_) (fun h=>?_)
   ·simp_all [ZFo]
   ·rw [ih (i+1) _ (by omega) ⟨by simp only[↓xP,xT,rL,rB,rA,rS,h1],by simp only[↓xP,xT,rL,rB,rA,rS,ho],by simp only[↓xP,xT,rL,rB,rA,rS]⟩]
    simp_all [ZFo]
  ·simp only[↓xP,xT,rL,rB,rA,rS,h1,ho,h3',hi',ZHo]
   rw [List.drop_of_length_le (by omega)]
   cases hc:ZHL ⟨lo,hi⟩ cut<;>simp only[↓xP,xT,rL,rB,rA,rS,ZHg,hc,h1,ho]
   all_goals repeat' (refine ZiE (fun h=>?_) (fun h=>?_))
   all_goals simp_all
 ·simp [ZD,h,h2,h3]
def digs (k:Nat) (o:Str):Str:=if h:k=0 then o else digs (k / 10) (UInt8.ofNat (IntKind.u8.wrap (IntKind.i64.wrap (48 + (k:Int).tmod 10))).toNat::o)
termination_by k
decreasing_by omega
def ZHa (K:Int):Str:=109::digs K.toNat []
theorem ZZ (K:Int) (h0:1≤K) (h1:K≤4611686018427387904):EE F 80 [I K] []=ok1 (S (ZHa K)):=by
 rw [R80,b80]
 have hk:¬K≤0:=by omega
 obtain ⟨k,rfl⟩:∃ k:Nat,K=k:=⟨K.toNat,by omega⟩
 simp only[↓xP,xT,rL,rB,rA,rS,hk]
 refine (Zjc (fun (a:Nat×Str) st=>a.2.length+a.1≤4611686018427387904∧st.s 0=DI (a.1:Int)∧st.s 3=DS a.2) (fun a=>a.1) (fun a=>ok1 (S (109::digs a.1 a.2))) ?_ (k,[]) ⟨by simp; omega,by simp only[↓xP,xT,rL,rB,rA,rS],by simp only[↓xP,xT,rL,rB,rA,rS]⟩).trans ?_
 ·rintro ⟨k,o⟩ st ⟨hl,h0,h3⟩ ih
  dsimp only at hl h0 h3 ih ⊢
  rw [digs]
  by_cases hz:k=0
  ·subst hz
   have hlen:1+o.length≤9223372036854775807:=by omega
   rw [dif_pos rfl]
   have hno:¬(0:Int)<((0:Nat):Int):=by omega
   simp only[↓xP,xT,rL,rB,rA,rS,h0,h3,hno,hlen]
  ·have hyes:(0:Int)<(k:Int):=by omega
   have hq:IntKind.i64.wrap ((k:Int).tdiv 10)=((k / 10:Nat):Int):=by
    have:(k:Int).tdiv 10=((k / 10:Nat):Int):=by rw [Int.tdiv_eq_ediv_of_nonneg (by omega)]; rfl
    rw [this,w64 (by omega) (by omega)]
   have hle:1+o.length≤9223372036854775807:=by omega
   have h10:¬(10:Int)=0:=by omega
   simp only[↓xP,xT,rL,rB,rA,rS,h0,h3,hyes,hq,hle,h10]
   rw [dif_neg hz]
   refine ih (k / 10,_) _ (by dsimp only; omega) ⟨?_,?_,?_⟩
   ·simp only[List.length_cons]; omega
   ·simp only[↓xP,xT,rL,rB,rA,rS]
   ·simp only[↓xP,xT,rL,rB,rA,rS]
 ·simp [ZHa]
def mkL {α:Type} (f:Int→α) (w:Int) (K:Int) (n:Nat):List α:=(List.range n).map fun (i:Nat)=>f (K+w * (i:Int))
theorem ZV {α:Type} (f:Int→α) (w K:Int) (n:Nat):(mkL f w K n).length=n:=by simp [mkL]
theorem ZMc {α:Type} (u:α→List U) (f:Int→α) (w K:Int) (n:Nat):List.take n (List.map u (mkL f w K n))=List.map u (mkL f w K n):=List.take_of_length_le (by simp [ZV])
theorem ZOx {α:Type} (f:Int→α) (w K:Int) {n i:Nat} (h:i<n):(mkL f w K n)[i]?=some (f (K+w*i)):=by simp [mkL,List.getElem?_map,List.getElem?_range h]
theorem ZH3 {α β:Type} {u:α→β} {f:Int→α} {w K:Int} {l:List α} {i:Nat} {x:α} (h:l[i]?=some x):((mkL f w K i++l.drop i).map u)[i]?=some (u x):=by
 rw [List.getElem?_map,List.getElem?_append_right (by simp [ZV]),ZV,List.getElem?_drop]
 simp [h]
theorem ZH4 {α β:Type} {u:α→β} {f:Int→α} {w K:Int} {l:List α} {i:Nat} {x:α} (h:l[i]?=some x):((mkL f w K i++l.drop i).map u).set i (u (f (K+w*i)))=(mkL f w K (i+1)++l.drop (i+1)).map u:=by
 have hi:=(List.getElem?_eq_some_iff.1 h).1
 have e:mkL f w K (i+1)=mkL f w K i++[f (K+w*i)]:=by simp [mkL,List.range_succ]
 rw [←List.map_set,List.set_append_right _ _ (by simp [ZV]),ZV,Nat.sub_self,List.drop_eq_getElem_cons hi,List.set_cons_zero,e,List.append_assoc]
 rfl
theorem ZFR {α:Type} (r:List α) (i:Nat) (h:i<r.length) (c:α):(r.set i c)[i]?=some c:=by simp [h]
theorem ZFs {a b:Int} (h:a=b):DI a=DI b:=by rw [h]

def ZH2 (K:Int):Int:=(K)
theorem ZH0 (l:List Int) (K:Int) (h1:1≤K) (h2:K+1*l.length≤4611686018427387904):EE F 154 [.sc (.own (.par 0) l.length),I K] [.row 1 (l.map iU)]=some ⟨[I (K+1*l.length)],[],[.row 1 ((mkL ZH2 1 K l.length).map iU)]⟩:=by
 refine (EE_run (fn:=i154) (by kernel_rfl) rfl).trans ?_
 simp only[i154,b154,ZdN,ZcQ,List.length_cons,List.length_nil]
 simp only[↓xP,xT,rL,rB,rA,rS]
 refine (Zjc (fun (i:Nat) st=>i≤l.length∧st.s 0=.t (.sc (.own (.par 0) l.length))∧st.s 5=DI i∧st.s 1=DI (K+1*i)∧st.o (.par 0)=some (.row 1 ((mkL ZH2 1 K i++l.drop i).map iU))) (fun i=>l.length - i) (fun i=>some ⟨[I (K+1*l.length)],[],[.row 1 ((mkL ZH2 1 K l.length).map iU)]⟩) ?_ 0 ⟨by omega,by simp only[↓xP,xT,rL,rB,rA,rS],by simp only[↓xP,xT,rL,rB,rA,rS]; rfl,by simp only[↓xP,xT,rL,rB,rA,rS]; exact ZFs (by omega),by simp only[↓xP,xT,rL,rB,rA,rS]; simp [mkL]⟩).trans rfl
 rintro i st ⟨hle,h0,h5,h1',ho⟩ ih
 by_cases hi:i<l.length
 ·obtain ⟨x,hx⟩:∃ x,l[i]?=some x:=⟨_,List.getElem?_eq_getElem hi⟩
  have hw:=w_succ (i:=i) (by omega)
  have hg:=ZH3 (u:=iU) (f:=ZH2) (w:=1) (K:=K) hx
  have hf:=ZH4 (u:=iU) (f:=ZH2) (w:=1) (K:=K) hx
  simp only[iU,ZH2] at hf
  have hlen:i<((mkL ZH2 1 K i++l.drop i).map iU).length:=by simp [ZV]; omega
  have hk1:1≤K+1 * (i:Int):=by omega
  have hk2:K+1 * (i:Int)+1≤4611686018427387904:=by omega
  have hn:K+1 * ((i+1:Nat):Int)=K+1 * (i:Int)+1:=by omega
  generalize (mkL ZH2 1 K i++l.drop i).map iU=r at hg hf hlen ho
  obtain ⟨K',hK⟩:∃ K',K'=K+1 * (i:Int):=⟨_,rfl⟩
  rw [←hK] at h1' hf hn hk1 hk2
  
  simp only[iU] at hg hf
  have hgs:=ZFR r i hlen
  have hw0:IntKind.i64.wrap (K'+1)=K'+1:=by rw [w64 (by omega) (by omega)]
  simp only[↓xP,xT,rL,rB,rA,rS,h0,h5,h1',ho,hi,hg,hgs,List.set_set,hw,hf,hw0]
  exact ih (i+1) _ (by omega) ⟨by omega,by simp only[↓xP,xT,rL,rB,rA,rS,h0],by simp only[↓xP,xT,rL,rB,rA,rS],by simp only[↓xP,xT,rL,rB,rA,rS]; exact ZFs (by omega),by simp only[↓xP,xT,rL,rB,rA,rS]⟩
 ·have:i=l.length:=by omega
  subst this
  simp only[↓xP,xT,rL,rB,rA,rS,h0,h5,h1',ho,hi,List.drop_length,List.append_nil,List.length_map,ZV]
def ZGa (K:Int):Yl:=⟨(ZHa (K)),(K+1)⟩
theorem ZIT (l:List Yl) (K:Int) (h1:1≤K) (h2:K+2*l.length≤4611686018427387904):EE F 81 [.sc (.own (.par 0) l.length),I K] [.row 2 (l.map Yl.u)]=some ⟨[I (K+2*l.length)],[],[.row 2 ((mkL ZGa 2 K l.length).map Yl.u)]⟩:=by
 refine (EE_run (fn:=i81) (by kernel_rfl) rfl).trans ?_
 simp only[i81,b81,ZdN,ZcQ,List.length_cons,List.length_nil]
 simp only[↓xP,xT,rL,rB,rA,rS]
 refine (Zjc (fun (i:Nat) st=>i≤l.length∧st.s 0=.t (.sc (.own (.par 0) l.length))∧st.s 5=DI i∧st.s 1=DI (K+2*i)∧st.o (.par 0)=some (.row 2 ((mkL ZGa 2 K i++l.drop i).map Yl.u))) (fun i=>l.length - i) (fun i=>some ⟨[I (K+2*l.length)],[],[.row 2 ((mkL ZGa 2 K l.length).map Yl.u)]⟩) ?_ 0 ⟨by omega,by simp only[↓xP,xT,rL,rB,rA,rS],by simp only[↓xP,xT,rL,rB,rA,rS]; rfl,by simp only[↓xP,xT,rL,rB,rA,rS]; exact ZFs (by omega),by simp only[↓xP,xT,rL,rB,rA,rS]; simp [mkL]⟩).trans rfl
 rintro i st ⟨hle,h0,h5,h1',ho⟩ ih
 by_cases hi:i<l.length
 ·obtain ⟨x,hx⟩:∃ x,l[i]?=some x:=⟨_,List.getElem?_eq_getElem hi⟩
  have hw:=w_succ (i:=i) (by omega)
  have hg:=ZH3 (u:=Yl.u) (f:=ZGa) (w:=2) (K:=K) hx
  have hf:=ZH4 (u:=Yl.u) (f:=ZGa) (w:=2) (K:=K) hx
  have hlen:i<((mkL ZGa 2 K i++l.drop i).map Yl.u).length:=by simp [ZV]; omega
  have hk1:1≤K+2 * (i:Int):=by omega
  have hk2:K+2 * (i:Int)+2≤4611686018427387904:=by omega
  have hn:K+2 * ((i+1:Nat):Int)=K+2 * (i:Int)+2:=by omega
  generalize (mkL ZGa 2 K i++l.drop i).map Yl.u=r at hg hf hlen ho
  obtain ⟨K',hK⟩:∃ K',K'=K+2 * (i:Int):=⟨_,rfl⟩
  rw [←hK] at h1' hf hn hk1 hk2
  obtain ⟨c1,c2⟩:=x
  simp only[Yl.u,ZGa] at hg hf
  have hgs:=ZFR r i hlen
  have hw0:IntKind.i64.wrap (K'+1)=K'+1:=by rw [w64 (by omega) (by omega)]
  have hw1:IntKind.i64.wrap (K'+1+1)=K'+1+1:=by rw [w64 (by omega) (by omega)]
  have mt0:=ZZ (K') (by omega) (by omega)
  simp only[↓xP,xT,rL,rB,rA,rS,h0,h5,h1',ho,hi,hg,hgs,List.set_set,hw,hf,hw0,hw1,mt0]
  exact ih (i+1) _ (by omega) ⟨by omega,by simp only[↓xP,xT,rL,rB,rA,rS,h0],by simp only[↓xP,xT,rL,rB,rA,rS],by simp only[↓xP,xT,rL,rB,rA,rS]; exact ZFs (by omega),by simp only[↓xP,xT,rL,rB,rA,rS]⟩
 ·have:i=l.length:=by omega
  subst this
  simp only[↓xP,xT,rL,rB,rA,rS,h0,h5,h1',ho,hi,List.drop_length,List.append_nil,List.length_map,ZV]
def ZFY (K:Int):Yr:=⟨(K),(K+1),(K+1+1)⟩
theorem ZJM (l:List Yr) (K:Int) (h1:1≤K) (h2:K+3*l.length≤4611686018427387904):EE F 153 [.sc (.own (.par 0) l.length),I K] [.row 3 (l.map Yr.u)]=some ⟨[I (K+3*l.length)],[],[.row 3 ((mkL ZFY 3 K l.length).map Yr.u)]⟩:=by
 refine (EE_run (fn:=i153) (by kernel_rfl) rfl).trans ?_
 simp only[i153,b153,ZdN,ZcQ,List.length_cons,List.length_nil]
 simp only[↓xP,xT,rL,rB,rA,rS]
 refine (Zjc (fun (i:Nat) st=>i≤l.length∧st.s 0=.t (.sc (.own (.par 0) l.length))∧st.s 5=DI i∧st.s 1=DI (K+3*i)∧st.o (.par 0)=some (.row 3 ((mkL ZFY 3 K i++l.drop i).map Yr.u))) (fun i=>l.length - i) (fun i=>some ⟨[I (K+3*l.length)],[],[.row 3 ((mkL ZFY 3 K l.length).map Yr.u)]⟩) ?_ 0 ⟨by omega,by simp only[↓xP,xT,rL,rB,rA,rS],by simp only[↓xP,xT,rL,rB,rA,rS]; rfl,by simp only[↓xP,xT,rL,rB,rA,rS]; exact ZFs (by omega),by simp only[↓xP,xT,rL,rB,rA,rS]; simp [mkL]⟩).trans rfl
 rintro i st ⟨hle,h0,h5,h1',ho⟩ ih
 by_cases hi:i<l.length
 ·obtain ⟨x,hx⟩:∃ x,l[i]?=some x:=⟨_,List.getElem?_eq_getElem hi⟩
  have hw:=w_succ (i:=i) (by omega)
  have hg:=ZH3 (u:=Yr.u) (f:=ZFY) (w:=3) (K:=K) hx
  have hf:=ZH4 (u:=Yr.u) (f:=ZFY) (w:=3) (K:=K) hx
  have hlen:i<((mkL ZFY 3 K i++l.drop i).map Yr.u).length:=by simp [ZV]; omega
  have hk1:1≤K+3 * (i:Int):=by omega
  have hk2:K+3 * (i:Int)+3≤4611686018427387904:=by omega
  have hn:K+3 * ((i+1:Nat):Int)=K+3 * (i:Int)+3:=by omega
  generalize (mkL ZFY 3 K i++l.drop i).map Yr.u=r at hg hf hlen ho
  obtain ⟨K',hK⟩:∃ K',K'=K+3 * (i:Int):=⟨_,rfl⟩
  rw [←hK] at h1' hf hn hk1 hk2
  obtain ⟨c1,c2,c3⟩:=x
  simp only[Yr.u,ZFY] at hg hf
  have hgs:=ZFR r i hlen
  have hw0:IntKind.i64.wrap (K'+1)=K'+1:=by rw [w64 (by omega) (by omega)]
  have hw1:IntKind.i64.wrap (K'+1+1)=K'+1+1:=by rw [w64 (by omega) (by omega)]
  have hw2:IntKind.i64.wrap (K'+1+1+1)=K'+1+1+1:=by rw [w64 (by omega) (by omega)]
  simp only[↓xP,xT,rL,rB,rA,rS,h0,h5,h1',ho,hi,hg,hgs,List.set_set,hw,hf,hw0,hw1,hw2]
  exact ih (i+1) _ (by omega) ⟨by omega,by simp only[↓xP,xT,rL,rB,rA,rS,h0],by simp only[↓xP,xT,rL,rB,rA,rS],by simp only[↓xP,xT,rL,rB,rA,rS]; exact ZFs (by omega),by simp only[↓xP,xT,rL,rB,rA,rS]⟩
 ·have:i=l.length:=by omega
  subst this
  simp only[↓xP,xT,rL,rB,rA,rS,h0,h5,h1',ho,hi,List.drop_length,List.append_nil,List.length_map,ZV]
def ZGv (K:Int):Ya:=⟨⟨(K),(K+1),⟨(K+1+1),(ZHa (K+1+1+1)),(K+1+1+1+1),(K+1+1+1+1+1)⟩⟩,(K+1+1+1+1+1+1)⟩
theorem ZKa (l:List Ya) (K:Int) (h1:1≤K) (h2:K+7*l.length≤4611686018427387904):EE F 158 [.sc (.own (.par 0) l.length),I K] [.row 7 (l.map Ya.u)]=some ⟨[I (K+7*l.length)],[],[.row 7 ((mkL ZGv 7 K l.length).map Ya.u)]⟩:=by
 refine (EE_run (fn:=i158) (by kernel_rfl) rfl).trans ?_
 simp only[i158,b158,ZdN,ZcQ,List.length_cons,List.length_nil]
 simp only[↓xP,xT,rL,rB,rA,rS]
 refine (Zjc (fun (i:Nat) st=>i≤l.length∧st.s 0=.t (.sc (.own (.par 0) l.length))∧st.s 5=DI i∧st.s 1=DI (K+7*i)∧st.o (.par 0)=some (.row 7 ((mkL ZGv 7 K i++l.drop i).map Ya.u))) (fun i=>l.length - i) (fun i=>some ⟨[I (K+7*l.length)],[],[.row 7 ((mkL ZGv 7 K l.length).map Ya.u)]⟩) ?_ 0 ⟨by omega,by simp only[↓xP,xT,rL,rB,rA,rS],by simp only[↓xP,xT,rL,rB,rA,rS]; rfl,by simp only[↓xP,xT,rL,rB,rA,rS]; exact ZFs (by omega),by simp only[↓xP,xT,rL,rB,rA,rS]; simp [mkL]⟩).trans rfl
 rintro i st ⟨hle,h0,h5,h1',ho⟩ ih
 by_cases hi:i<l.length
 ·obtain ⟨x,hx⟩:∃ x,l[i]?=some x:=⟨_,List.getElem?_eq_getElem hi⟩
  have hw:=w_succ (i:=i) (by omega)
  have hg:=ZH3 (u:=Ya.u) (f:=ZGv) (w:=7) (K:=K) hx
  have hf:=ZH4 (u:=Ya.u) (f:=ZGv) (w:=7) (K:=K) hx
  have hlen:i<((mkL ZGv 7 K i++l.drop i).map Ya.u).length:=by simp [ZV]; omega
  have hk1:1≤K+7 * (i:Int):=by omega
  have hk2:K+7 * (i:Int)+7≤4611686018427387904:=by omega
  have hn:K+7 * ((i+1:Nat):Int)=K+7 * (i:Int)+7:=by omega
  generalize (mkL ZGv 7 K i++l.drop i).map Ya.u=r at hg hf hlen ho
  obtain ⟨K',hK⟩:∃ K',K'=K+7 * (i:Int):=⟨_,rfl⟩
  rw [←hK] at h1' hf hn hk1 hk2
  obtain ⟨⟨c1,c2,⟨c3,c4,c5,c6⟩⟩,c7⟩:=x
  simp only[Ya.u,ZGv] at hg hf
  have hgs:=ZFR r i hlen
  have hw0:IntKind.i64.wrap (K'+1)=K'+1:=by rw [w64 (by omega) (by omega)]
  have hw1:IntKind.i64.wrap (K'+1+1)=K'+1+1:=by rw [w64 (by omega) (by omega)]
  have hw2:IntKind.i64.wrap (K'+1+1+1)=K'+1+1+1:=by rw [w64 (by omega) (by omega)]
  have hw3:IntKind.i64.wrap (K'+1+1+1+1)=K'+1+1+1+1:=by rw [w64 (by omega) (by omega)]
  have hw4:IntKind.i64.wrap (K'+1+1+1+1+1)=K'+1+1+1+1+1:=by rw [w64 (by omega) (by omega)]
  have hw5:IntKind.i64.wrap (K'+1+1+1+1+1+1)=K'+1+1+1+1+1+1:=by rw [w64 (by omega) (by omega)]
  have hw6:IntKind.i64.wrap (K'+1+1+1+1+1+1+1)=K'+1+1+1+1+1+1+1:=by rw [w64 (by omega) (by omega)]
  have mt3:=ZZ (K'+1+1+1) (by omega) (by omega)
  simp only[↓xP,xT,rL,rB,rA,rS,h0,h5,h1',ho,hi,hg,hgs,List.set_set,hw,hf,hw0,hw1,hw2,hw3,hw4,hw5,hw6,mt3]
  exact ih (i+1) _ (by omega) ⟨by omega,by simp only[↓xP,xT,rL,rB,rA,rS,h0],by simp only[↓xP,xT,rL,rB,rA,rS],by simp only[↓xP,xT,rL,rB,rA,rS]; exact ZFs (by omega),by simp only[↓xP,xT,rL,rB,rA,rS]⟩
 ·have:i=l.length:=by omega
  subst this
  simp only[↓xP,xT,rL,rB,rA,rS,h0,h5,h1',ho,hi,List.drop_length,List.append_nil,List.length_map,ZV]
def cmpS (a b:Str):Int:=if ZaZ a b=true then -1 else if ZaZ b a=true then 1 else 0
theorem ZOv (s:Str):EE F 247 [S s] []=ok1 (B false):=by
 rw [R247,b247]
 simp only[↓xP,xT,rL,rB,rA,rS,ne_eq,not_true_eq_false,decide_false]
theorem ZKZ (a b:Str):EE F 181 [S a,S b] []=ok1 (I (cmpS a b)):=by
 rw [R181,b181]
 simp only[↓xP,xT,rL,rB,rA,rS,ZOv,ZHB]
 repeat' (refine ZiE (fun h=>?_) (fun h=>?_))
 all_goals simp_all [cmpS]
theorem ZLt (p:Str) (v:Int) (key:Str):EE F 193 [.ag [.u (.str p),.u (.int .i64 v)],S key] []=ok1 (I (cmpS p key)):=by
 rw [R193,b193]
 simp only[↓xP,xT,rL,rB,rA,rS,ZKZ]
def place (key:Str):List Yl→Nat
 | []=>0
 | p::l=>if ZaZ p.key key=true then place key l+1 else 0
theorem ZF5 (key:Str):∀ l,place key l≤l.length
 | []=>Nat.le_refl _
 | p::l=>by simp only[place]; split; simpa using ZF5 key l; simp
theorem ZIX (key:Str):∀ (l:List Yl) (i:Nat),i≤l.length→(∀ t p,t<i→l[t]?=some p→ZaZ p.key key=true)→(∀ p,l[i]?=some p→ZaZ p.key key=false)→place key l=i
 | [],i,hi,_,_=>by simp at hi; simp [place,hi]
 | p::l,0,_,_,h2=>by simp [place,h2 p rfl]
 | p::l,i+1,hi,h1,h2=>by
  have:=h1 0 p (by omega) rfl
  simp only[place,this,if_true]
  rw [ZIX key l i (by simpa using hi) (fun t q ht hq=>h1 (t+1) q (by omega) hq) (fun q hq=>h2 q hq)]
def Asc (l:List Yl):Prop:=∀ (s t:Nat) p q,s<t→l[s]?=some p→l[t]?=some q→ZaZ p.key q.key=true
theorem ZHO {l:List Yl} (h:ZB l=true):Asc l:=by
 have hc:∀ (t:Nat) p q,l[t]?=some p→l[t+1]?=some q→ZaZ p.key q.key=true:=by
  intro t p q hp hq
  simp only[ZB,Bool.and_eq_true,decide_eq_true_eq] at h
  have:=(ZFE _ 0 rfl).1 h.2 (t+1) (by omega) (List.getElem?_eq_some_iff.1 hq).1
  simp only[ZFt,hq,Nat.add_sub_cancel,hp] at this
  simp_all
 intro s t p q hst hp hq
 induction t generalizing q with
 | zero=>omega
 | succ t ih=>
  obtain ⟨r,hr⟩:∃ r,l[t]?=some r:=⟨_,List.getElem?_eq_getElem (by have:=(List.getElem?_eq_some_iff.1 hq).1; omega)⟩
  by_cases e:s=t
  ·subst e; exact hc _ _ _ hp hq
  ·exact lt_trans (ih r (by omega) hr) (hc _ _ _ hr hq)
theorem ZOF {i j:Nat} (h:i+j<9223372036854775808):IntKind.i64.wrap ((IntKind.u64.wrap (IntKind.i64.wrap ((i:Int) + (j:Int)))).fdiv (2 ^ min (Int.toNat 1) IntKind.u64.bits))=(((i+j) / 2:Nat):Int):=by
 rw [show (2:Int) ^ min (Int.toNat 1) IntKind.u64.bits=2 from rfl]
 rw [show IntKind.i64.wrap ((i:Int) + (j:Int))=(i:Int)+j from w64 (by omega) (by omega)]
 have:IntKind.u64.wrap ((i:Int)+j)=(i:Int)+j:=by rw [IntKind.wrap_u64]; omega
 rw [this,Int.fdiv_eq_ediv_of_nonneg _ (by omega),w64 (by omega) (by omega)]
 omega
def ZJY (key:Str) (l:List Yl):Bool:=match l[place key l]? with
 | some p=>decide (p.key=key)
 | none=>false
theorem ZNH (l:List Yl) (key:Str) (ha:Asc l) (hn:l.length≤1048576):EE F 192 [L 2 (l.map Yl.u),S key,.sc (.u (.fn 193 []))] []=some ⟨[I (place key l),B (ZJY key l)],[],[]⟩:=by
 rw [R192,b192]
 simp only[↓xP,xT,rL,rB,rA,rS]
 refine (Zjc (fun (a:Nat×Nat) st=>a.1≤a.2∧a.2≤l.length∧(∀ t p,t<a.1→l[t]?=some p→ZaZ p.key key=true)∧(∀ t p,a.2≤t→l[t]?=some p→ZaZ p.key key=false)∧
  st.s 0=DU (.sl 2 (l.map Yl.u))∧st.s 1=DS key∧st.s 2=.t (.sc (.u (.fn 193 [])))∧st.s 8=DI l.length∧st.s 9=DI a.1∧st.s 10=DI a.2) (fun a=>a.2 - a.1) (fun a=>some ⟨[I (place key l),B (ZJY key l)],[],[]⟩) ?_ (0,l.length) ⟨by omega,by dsimp only; omega,by omega,?_,by simp only[↓xP,xT,rL,rB,rA,rS],by simp only[↓xP,xT,rL,rB,rA,rS],by simp only[↓xP,xT,rL,rB,rA,rS],by simp only[↓xP,xT,rL,rB,rA,rS],by simp only[↓xP,xT,rL,rB,rA,rS]; rfl,by simp only[↓xP,xT,rL,rB,rA,rS]⟩).trans rfl
 ·rintro ⟨i,j⟩ st ⟨hij,hj,hlo,hhi,h0,h1,h2,h8,h9,h10⟩ ih
  dsimp only at hij hj hlo hhi h9 h10 ih
  by_cases h:i<j
  ·obtain ⟨⟨pk,pv⟩,hp⟩:∃ p,l[(i+j) / 2]?=some p:=⟨_,List.getElem?_eq_getElem (by omega)⟩
   have hm:=ZOF (i:=i) (j:=j) (by omega)
   have hw:=w_succ (i:=(i+j) / 2) (by omega)
   have hb:¬(1:Int)<0:=by omega
   by_cases hc:ZaZ pk key=true
   ·have hs:cmpS pk key = -1:=by simp [cmpS,hc]
    have hn1:(-1:Int)<0:=by omega
    simp only[↓xP,xT,rL,rB,rA,rS,h0,h1,h2,h8,h9,h10,h,hb,hm,hp,hw,Yl.u,ZLt,hs,hn1]
    refine ih ((i+j) / 2+1,j) _ (by dsimp only; omega) ⟨by dsimp only; omega,hj,fun t q ht hq=>?_,hhi,by simp only[↓xP,xT,rL,rB,rA,rS,h0],by simp only[↓xP,xT,rL,rB,rA,rS,h1],by simp only[↓xP,xT,rL,rB,rA,rS,h2],by simp only[↓xP,xT,rL,rB,rA,rS,h8],by simp only[↓xP,xT,rL,rB,rA,rS],by simp only[↓xP,xT,rL,rB,rA,rS,h10]⟩
    dsimp only at ht
    by_cases e:t=(i+j) / 2
    ·subst e; rw [hp] at hq; cases hq; exact hc
    ·exact lt_trans (ha t _ _ _ (by omega) hq hp) hc
   ·have hs:¬cmpS pk key<0:=by unfold cmpS; rw [if_neg hc]; split<;>omega
    simp only[↓xP,xT,rL,rB,rA,rS,h0,h1,h2,h8,h9,h10,h,hb,hm,hp,hw,Yl.u,ZLt,hs]
    refine ih (i,(i+j) / 2) _ (by dsimp only; omega) ⟨by dsimp only; omega,by dsimp only; omega,hlo,fun t q ht hq=>?_,by simp only[↓xP,xT,rL,rB,rA,rS,h0],by simp only[↓xP,xT,rL,rB,rA,rS,h1],by simp only[↓xP,xT,rL,rB,rA,rS,h2],by simp only[↓xP,xT,rL,rB,rA,rS,h8],by simp only[↓xP,xT,rL,rB,rA,rS,h9],by simp only[↓xP,xT,rL,rB,rA,rS]⟩
    dsimp only at ht
    rw [Bool.eq_false_iff]
    intro h3
    by_cases e:t=(i+j) / 2
    ·subst e; rw [hp] at hq; cases hq; exact hc h3
    ·exact hc (lt_trans (ha _ t _ _ (by omega) hp hq) h3)
  ·have hpl:place key l=i:=ZIX key l i (by omega) hlo (fun p hp=>hhi i p (by omega) hp)
   by_cases hi:i<l.length
   ·obtain ⟨⟨pk,pv⟩,hp⟩:∃ p,l[i]?=some p:=⟨_,List.getElem?_eq_getElem hi⟩
    have h3:=hhi i _ (by omega) hp
    simp only[↓xP,xT,rL,rB,rA,rS,h0,h1,h2,h8,h9,h10,h,hi,hp,Yl.u,ZLt,ZJY,hpl]
    have:decide (cmpS pk key=0)=decide (pk=key):=by
     simp only at h3
     rcases ZIS pk key with h4|h4|h4
     ·rw [h3] at h4; cases h4
     ·subst h4; simp [cmpS,ZGY]
     ·have:pk≠key:=fun e=>by subst e; simp [ZGY] at h4
      simp [cmpS,h3,h4,this]
    rw [this]
   ·have hp:l[i]?=none:=List.getElem?_eq_none (by omega)
    simp only[↓xP,xT,rL,rB,rA,rS,h0,h1,h2,h8,h9,h10,h,hi,ZJY,hpl,hp]
 ·intro t p ht hp
  have:=(List.getElem?_eq_some_iff.1 hp).1
  dsimp only at ht
  omega
theorem ZFZ (l:List Yl) (key:Str) (ha:Asc l) (hn:l.length≤1048576):EE F 114 [L 2 (l.map Yl.u),S key] []=some ⟨[I (place key l),B (ZJY key l)],[],[]⟩:=by
 rw [R114,b114]
 simp only[↓xP,xT,rL,rB,rA,rS,ZNH l key ha hn]
theorem ZH5 {key:Str}:∀ {l:List Yl} {t:Nat} {p:Yl},t<place key l→l[t]?=some p→ZaZ p.key key=true
 | [],t,p,ht,hp=>by simp at hp
 | q :: l,t,p,ht,hp=>by
  simp only[place] at ht
  split at ht
  ·rename_i hq
   cases t with
   | zero=>cases hp; exact hq
   | succ t=>exact ZH5 (l:=l) (t:=t) (by omega) hp
  ·omega
theorem ZIW {key:Str}:∀ {l:List Yl} {p:Yl},l[place key l]?=some p→ZaZ p.key key=false
 | [],p,hp=>by simp at hp
 | q::l,p,hp=>by
  simp only[place] at hp
  split at hp
  ·exact ZIW (l:=l) hp
  ·rename_i hq; cases hp; simpa using hq
theorem ZKi {key:Str} {l:List Yl} (ha:Asc l) {t:Nat} {p:Yl} (ht:place key l≤t) (hp:l[t]?=some p):ZaZ p.key key=false:=by
 obtain ⟨q,hq⟩:∃ q,l[place key l]?=some q:=⟨_,List.getElem?_eq_getElem (by have:=(List.getElem?_eq_some_iff.1 hp).1; omega)⟩
 have h1:=ZIW hq
 by_cases e:place key l=t
 ·subst e; rw [hq] at hp; cases hp; exact h1
 ·rw [Bool.eq_false_iff]
  intro h2
  rw [lt_trans (ha _ t _ _ (by omega) hq hp) h2] at h1
  cases h1
theorem ZMO {a b:Str} {l:List Yl} (ha:Asc l) (h:ZaZ a b=true):place a l≤place b l:=by
 by_cases hc:place a l≤place b l
 ·exact hc
 ·have hl:=ZF5 a l
  obtain ⟨q,hq⟩:∃ q,l[place b l]?=some q:=⟨_,List.getElem?_eq_getElem (by omega)⟩
  have h1:=ZIW hq
  rw [lt_trans (ZH5 (by omega) hq) h] at h1
  cases h1
theorem ZHx {α:Type} (q:α→Bool):∀ (l:List α) (a b:Nat),(∀ t p,l[t]?=some p→(q p=true↔a≤t∧t<b))→l.filter q=(l.take b).drop a
 | [],a,b,_=>by simp
 | x :: l,a,b,h=>by
  have h0:=h 0 x rfl
  cases b with
  | zero=>
   have:q x=false:=by simpa using h0
   rw [List.filter_cons,this]
   simpa using ZHx q l 0 0 (fun t p hp=>by have:=h (t+1) p hp; simpa using this)
  | succ b=>
   cases a with
   | zero=>
    have:q x=true:=by simpa using h0
    rw [List.filter_cons,this]
    have:=ZHx q l 0 b (fun t p hp=>by have:=h (t+1) p hp; simpa using this)
    simpa using this
   | succ a=>
    have:q x=false:=by simpa using h0
    rw [List.filter_cons,this]
    have:=ZHx q l a b (fun t p hp=>by have:=h (t+1) p hp; simpa using this)
    simpa using this
def ZFi (l:List Yl) (v:Yj):List Yl:=l.filter fun p=>ZFf v p.key
theorem ZMf {l:List Yl} (ha:Asc l) (v:Yj):(l.take (if v.high=[] then l.length else place v.high l)).drop (place v.low l)=ZFi l v:=by
 refine (ZHx _ l _ _ (fun t p hp=>?_)).symm
 have hlen:=(List.getElem?_eq_some_iff.1 hp).1
 have h1:place v.low l≤t↔ZaZ p.key v.low=false:=by
  refine ⟨fun h=>ZKi ha h hp,fun h=>?_⟩
  by_cases hc:place v.low l≤t
  ·exact hc
  ·rw [ZH5 (by omega) hp] at h; cases h
 have h2:t<place v.high l↔ZaZ p.key v.high=true:=by
  refine ⟨fun h=>ZH5 h hp,fun h=>?_⟩
  by_cases hc:t<place v.high l
  ·exact hc
  ·rw [ZKi ha (by omega) hp] at h; cases h
 by_cases hh:v.high=[]
 ·simp [ZFf,hh,h1,hlen]
 ·simp [ZFf,hh,h1,h2]
theorem ZOk {v:Yj} (h:ZA v=true) (hh:v.high≠[]):ZaZ v.low v.high=true:=by
 simp only[ZA,Bool.and_eq_true,Bool.or_eq_true,decide_eq_true_eq,hh,false_or] at h
 by_cases hl:v.low=[]
 ·rw [hl,ZJe]; simpa using hh
 ·have:=h.2
  rwa [if_neg hl] at this
theorem ZGg (l:List Yl) (hn:l.length≤1048576):EE F 196 [L 2 (l.map Yl.u)] []=some ⟨[.sc (.own (.par 0) l.length)],[.row 2 (l.map Yl.u)],[]⟩:=by
 rw [R196,b196]
 have h1:l.length≤maxLen:=by simp [maxLen]; omega
 have h2:l.length*24≤140737488355328:=by omega
 simp only[↓xP,xT,rL,rB,rA,rS,h1,h2]
theorem ZKg (l:List Yl) (v:Yj):(ZFi l v).length≤l.length:=List.length_filter_le ..
def Z4 (l:List Yl) (v:Yj):List Yl:=if ZB l=true∧ZA v=true then ZFi l v else []
theorem ZLy (l:List Yl) (lo hi:Str):EE F 121 [L 2 (l.map Yl.u),.ag [.u (.str lo),.u (.str hi)]] []=some ⟨[.sc (.own (.par 0) (Z4 l ⟨lo,hi⟩).length)],[.row 2 ((Z4 l ⟨lo,hi⟩).map Yl.u)],[]⟩:=by
 rw [R121,b121]
 simp only[↓xP,xT,rL,rB,rA,rS,ZFu,ZI]
 refine ZiE (fun h=>?_) (fun h=>?_)
 ·simp only[Bool.not_eq_true'] at h; simp [Z4,h]
 refine ZiE (fun h2=>?_) (fun h2=>?_)
 ·simp only[Bool.not_eq_true'] at h2; simp [Z4,h2]
 simp only[Bool.not_eq_false'] at h h2
 have ha:=ZHO h
 have hl:=Z0 h
 have hn:l.length≤1048576:=by omega
 have e:Z4 l ⟨lo,hi⟩=ZFi l ⟨lo,hi⟩:=by simp [Z4,h,h2]
 have hp1:=ZF5 lo l
 have hp2:=ZF5 hi l
 have hc:=ZMf ha ⟨lo,hi⟩
 dsimp only at hc
 have hpl:=ZKg l ⟨lo,hi⟩
 rw [e]
 by_cases hh:hi=[]
 ·subst hh
  rw [if_pos rfl] at hc
  have hcut:vcut l.length (some (DI (place lo l))) (some (DI l.length))=some (place lo l,l.length):=by simp [vcut,D.int?]; omega
  have hm:(l.map Yl.u).drop (place lo l)=(ZFi l ⟨lo,[]⟩).map Yl.u:=by rw [←hc,List.map_drop,List.take_length]
  have hcp:=ZGg (ZFi l ⟨lo,[]⟩) (by omega)
  simp only[↓xP,xT,rL,rB,rA,rS,ZFZ l lo ha hn,ne_eq,not_true_eq_false,decide_false,hcut,hm,hcp]
 ·rw [if_neg hh] at hc
  have hlt:=ZMO ha (ZOk h2 hh)
  dsimp only at hlt
  have hcut:vcut l.length (some (DI (place lo l))) (some (DI (place hi l)))=some (place lo l,place hi l):=by simp [vcut,D.int?]; omega
  have hm:((l.map Yl.u).take (place hi l)).drop (place lo l)=(ZFi l ⟨lo,hi⟩).map Yl.u:=by rw [←hc,List.map_drop,List.map_take]
  have hcp:=ZGg (ZFi l ⟨lo,hi⟩) (by omega)
  simp only[↓xP,xT,rL,rB,rA,rS,ZFZ l lo ha hn,ZFZ l hi ha hn,hh,ne_eq,not_false_eq_true,decide_true,hcut,hm,hcp]
def ZF1 (a b:Yj):Yj:=⟨if ZaZ a.low b.low=true then b.low else a.low,if b.high≠[]∧(a.high=[]∨ZaZ b.high a.high=true) then b.high else a.high⟩
def ZH1 (a b:Yj):Bool:=ZA a&&ZA b&&ZA (ZF1 a b)
def ZIj (a b:Yj):Option Ret:=sel (ZH1 a b) (some ⟨[.ag [.u (.str (ZF1 a b).low),.u (.str (ZF1 a b).high)],B true],[],[]⟩) (some ⟨[.ag [.u (.str []),.u (.str [])],B false],[],[]⟩)
theorem ZIP (al ah bl bh:Str):EE F 147 [.ag [.u (.str al),.u (.str ah)],.ag [.u (.str bl),.u (.str bh)]] []=ZIj ⟨al,ah⟩ ⟨bl,bh⟩:=by
 rw [R147,b147]
 simp only[↓xP,xT,rL,rB,rA,rS,ZY]
 repeat' (refine ZiE (fun h=>?_) (fun h=>?_))
 all_goals simp_all [ZH1,ZIj,ZF1,sel,ZHB]
theorem ZKB (a b:Str):EE F 229 [S a,S b] []=ok1 (S (if b≠[]∧(a=[]∨ZaZ b a=true) then b else a)):=by
 rw [R229,b229]
 simp only[↓xP,xT,rL,rB,rA,rS]
 repeat' (refine ZiE (fun h=>?_) (fun h=>?_))
 all_goals (have hle:=ZHB a b; cases hx:ZaZ b a<;>rw [hx] at hle<;>simp_all)
theorem ZIO (al ah bl bh:Str):EE F 150 [.ag [.u (.str al),.u (.str ah)],.ag [.u (.str bl),.u (.str bh)]] []=ZIj ⟨al,ah⟩ ⟨bl,bh⟩:=by
 rw [R150,b150]
 simp only[↓xP,xT,rL,rB,rA,rS,ZI,ZKB]
 repeat' (refine ZiE (fun h=>?_) (fun h=>?_))
 all_goals (cases hx:ZaZ al bl<;>simp_all [ZH1,ZIj,ZF1,sel,ZHB])
theorem ZLA {l:List Yl} {v:Yj} {k:Nat} {p:Yl} (hp:l[k]?=some p):ZFi (l.take (k+1)) v=ZFi (l.take k) v++(if ZFf v p.key=true then [p] else []):=by
 have:l.take (k+1)=l.take k++[p]:=by rw [List.take_add_one,hp]; rfl
 simp only[ZFi,this,List.filter_append,List.filter_cons,List.filter_nil]
theorem ZKI (l:List Yl) (lo hi:Str):EE F 228 [L 2 (l.map Yl.u),.ag [.u (.str lo),.u (.str hi)],I 48] []=some ⟨[.sc (.own (.par 0) (Z4 l ⟨lo,hi⟩).length)],[.row 2 ((Z4 l ⟨lo,hi⟩).map Yl.u)],[]⟩:=by
 rw [R228,b228]
 have h48:inR 48 0 48=true:=by simp [inR]
 simp only[↓xP,xT,rL,rB,rA,rS,Z8,ZY,ZU,h48]
 refine ZiE (fun h=>?_) (fun h=>?_)
 ·simp only[Bool.not_eq_true'] at h; simp [Z4,h]
 refine ZiE (fun h2=>?_) (fun h2=>?_)
 ·simp only[Bool.not_eq_true'] at h2; simp [Z4,h2]
 simp only[Bool.not_eq_false'] at h h2
 have hl:=Z0 h
 have e:Z4 l ⟨lo,hi⟩=ZFi l ⟨lo,hi⟩:=by simp [Z4,h,h2]
 rw [e]
 refine (Zjc (fun (k:Nat) st=>k≤l.length∧st.s 0=DU (.sl 2 (l.map Yl.u))∧st.s 4=.t (.sc (.ptr (.loc 4 0) 0 0))∧st.o (.loc 4 0)=some (.box [.u (.str lo),.u (.str hi)])∧st.s 2=DI 48∧st.s 8=DI k∧
  st.s 7=.t (.sc (.own (.loc 9 0) (ZFi (l.take k) ⟨lo,hi⟩).length))∧st.o (.loc 9 0)=some (.row 2 ((ZFi (l.take k) ⟨lo,hi⟩).map Yl.u))) (fun k=>l.length - k) (fun k=>some ⟨[.sc (.own (.par 0) (ZFi l ⟨lo,hi⟩).length)],[.row 2 ((ZFi l ⟨lo,hi⟩).map Yl.u)],[]⟩) ?_ 0 ⟨by omega,by simp only[↓xP,xT,rL,rB,rA,rS],by simp only[↓xP,xT,rL,rB,rA,rS],by simp only[↓xP,xT,rL,rB,rA,rS],by simp only[↓xP,xT,rL,rB,rA,rS],by simp only[↓xP,xT,rL,rB,rA,rS]; rfl,by simp only[↓xP,xT,rL,rB,rA,rS]; simp [ZFi],by simp only[↓xP,xT,rL,rB,rA,rS]; simp [ZFi]⟩).trans rfl
 rintro k st ⟨hle,h0,h4,ho,h2',h8,h7,ho9⟩ ih
 by_cases hi':k<l.length
 ·obtain ⟨⟨pk,pv⟩,hp⟩:∃ p,l[k]?=some p:=⟨_,List.getElem?_eq_getElem hi'⟩
  have hw:=w_succ (i:=k) (by omega)
  have hk:=(ZHj h hp).1
  have hq:=ZKg (l.take k) ⟨lo,hi⟩
  have hq2:(l.take k).length=k:=by simp; omega
  have h47:((ZFi (l.take k) ⟨lo,hi⟩).length:Int)<48:=by omega
  have hin:ZFo ⟨lo,hi⟩ pk=ZFf ⟨lo,hi⟩ pk:=by simp [ZFo,h2,hk]
  have hm1:(ZFi (l.take k) ⟨lo,hi⟩).length+1≤maxLen:=by simp [maxLen]; omega
  have hm2:((ZFi (l.take k) ⟨lo,hi⟩).length+1)*24≤140737488355328:=by omega
  have hnx:=ZLA (v:=⟨lo,hi⟩) hp
  by_cases hc:ZFf ⟨lo,hi⟩ pk=true
  ·rw [if_pos hc] at hnx
   simp only[↓xP,xT,rL,rB,rA,rS,h0,h4,ho,h2',h8,h7,ho9,hi',hp,hw,h47,Yl.u,ZFh,hin,hc,hm1,hm2]
   refine ih (k+1) _ (by omega) ⟨by omega,by simp only[↓xP,xT,rL,rB,rA,rS,h0],by simp only[↓xP,xT,rL,rB,rA,rS,h4],by simp only[↓xP,xT,rL,rB,rA,rS,ho],by simp only[↓xP,xT,rL,rB,rA,rS,h2'],by simp only[↓xP,xT,rL,rB,rA,rS],?_,?_⟩
   ·rw [hnx]; simp only[↓xP,xT,rL,rB,rA,rS,List.length_append]
   ·rw [hnx]; simp only[↓xP,xT,rL,rB,rA,rS,List.map_append]; rfl
  ·rw [if_neg hc,List.append_nil] at hnx
   simp only[Bool.not_eq_true] at hc
   simp only[↓xP,xT,rL,rB,rA,rS,h0,h4,ho,h2',h8,h7,ho9,hi',hp,hw,h47,Yl.u,ZFh,hin,hc]
   exact ih (k+1) _ (by omega) ⟨by omega,by simp only[↓xP,xT,rL,rB,rA,rS,h0],by simp only[↓xP,xT,rL,rB,rA,rS,h4],by simp only[↓xP,xT,rL,rB,rA,rS,ho],by simp only[↓xP,xT,rL,rB,rA,rS,h2'],by simp only[↓xP,xT,rL,rB,rA,rS],by rw [hnx]; simp only[↓xP,xT,rL,rB,rA,rS,h7],by rw [hnx]; simp only[↓xP,xT,rL,rB,rA,rS,ho9]⟩
 ·have:k=l.length:=by omega
  subst this
  rw [List.take_length] at h7 ho9
  simp only[↓xP,xT,rL,rB,rA,rS,h0,h4,ho,h2',h8,h7,ho9,hi']
theorem ZLz (l:List Yl) (lo hi:Str):EE F 149 [L 2 (l.map Yl.u),.ag [.u (.str lo),.u (.str hi)]] []=some ⟨[.sc (.own (.par 0) (Z4 l ⟨lo,hi⟩).length)],[.row 2 ((Z4 l ⟨lo,hi⟩).map Yl.u)],[]⟩:=by
 rw [R149,b149]
 simp only[↓xP,xT,rL,rB,rA,rS,ZKI]
def ZGG (s:Yt) (v:Yj):Bool:=ZD s&&ZH1 s.span v
def ZJR (s:Yt) (v:Yj):Option Ret:=sel (ZGG s v)
 (some ⟨[.ag [.u (.str (ZF1 s.span v).low),.u (.str (ZF1 s.span v).high),.own (.par 0) (Z4 s.pairs (ZF1 s.span v)).length],B true],[.row 2 ((Z4 s.pairs (ZF1 s.span v)).map Yl.u)],[]⟩)
 (some ⟨[.ag [.u (.str []),.u (.str []),.u (.sl 2 [])],B false],[],[]⟩)
theorem ZKn (lo hi:Str) (l:List Yl) (k:List Yr) (se:Bool) (cut:Str) (hn:k.length≤4611686018427387904) (vl vh:Str):EE F 75 [.ag [.u (.str lo),.u (.str hi),.u (.sl 2 (l.map Yl.u)),.u (.sl 3 (k.map Yr.u)),.u (.bool se),.u (.str cut)],.ag [.u (.str vl),.u (.str vh)]] []=ZJR ⟨⟨lo,hi⟩,l,k,se,cut⟩ ⟨vl,vh⟩:=by
 rw [R75,b75]
 cases hm:ZH1 ⟨lo,hi⟩ ⟨vl,vh⟩<;>cases hs:ZD ⟨⟨lo,hi⟩,l,k,se,cut⟩<;>simp only[↓xP,xT,rL,rB,rA,rS,ZF7 lo hi l k se cut hn,ZIO,ZIj,hm,hs,ZJR,ZGG,ZLy]
theorem ZLo (n:Nat) (K:Int) (h1:1≤K) (h2:K+2*n≤4611686018427387904):EE F 82 [L 2 ((mkL ZGa 2 K n).map Yl.u),I K] []=ok1 (I (K+2*n)):=by
 rw [R82,b82]
 simp only[↓xP,xT,rL,rB,rA,rS]
 refine (Zjc (fun (i:Nat) st=>i≤n∧st.s 0=DU (.sl 2 ((mkL ZGa 2 K n).map Yl.u))∧st.s 5=DI i∧st.s 1=DI (K+2*i)) (fun i=>n - i) (fun i=>ok1 (I (K+2*n))) ?_ 0 ⟨by omega,by simp only[↓xP,xT,rL,rB,rA,rS],by simp only[↓xP,xT,rL,rB,rA,rS]; rfl,by simp only[↓xP,xT,rL,rB,rA,rS]; exact ZFs (by omega)⟩).trans rfl
 rintro i st ⟨hle,h0,h5,h1'⟩ ih
 have hlen:=ZV ZGa 2 K n
 by_cases hi:i<n
 ·have hx:=ZOx ZGa 2 K hi
  have hw:=w_succ (i:=i) (by omega)
  have hk1:1≤K+2 * (i:Int):=by omega
  have hk2:K+2 * (i:Int)+2≤4611686018427387904:=by omega
  have hn:K+2 * ((i+1:Nat):Int)=K+2 * (i:Int)+2:=by omega
  obtain ⟨K',hK⟩:∃ K',K'=K+2 * (i:Int):=⟨_,rfl⟩
  rw [←hK] at h1' hx hn hk1 hk2
  have hw0:IntKind.i64.wrap (K'+1)=K'+1:=by rw [w64 (by omega) (by omega)]
  have hw1:IntKind.i64.wrap (K'+1+1)=K'+1+1:=by rw [w64 (by omega) (by omega)]
  have mt0:=ZZ K' (by omega) (by omega)
  simp only[↓xP,xT,rL,rB,rA,rS,h0,h5,h1',hlen,hi,hx,hw,Yl.u,ZGa,hw0,hw1,mt0,ne_eq,not_true_eq_false,decide_false]
  exact ih (i+1) _ (by omega) ⟨by omega,by simp only[↓xP,xT,rL,rB,rA,rS,h0],by simp only[↓xP,xT,rL,rB,rA,rS],by simp only[↓xP,xT,rL,rB,rA,rS]; exact ZFs (by omega)⟩
 ·have:i=n:=by omega
  subst this
  simp only[↓xP,xT,rL,rB,rA,rS,h0,h5,h1',hlen,hi]
def idxI (l:List Int) (x:Int):Int:=if x∈l then (l.idxOf x:Int) else -1
theorem ZOr {x:Int} {l:List Int}:idxI (x::l) x=0:=by simp [idxI]
theorem ZOt {x y:Int} {l:List Int} (h:y≠x):idxI (y::l) x=if x∈l then idxI l x+1 else -1:=by
 have h':x≠y:=fun e=>h e.symm
 simp only[idxI,List.mem_cons,h',false_or]
 by_cases hm:x∈l
 ·simp only[hm,if_true]
  have:(y==x)=false:=by simpa using h
  simp [List.idxOf_cons,this]
 ·simp [hm]
theorem ZN4 {l:List Int} {x:Int}:idxI l x<0↔x∉l:=by
 unfold idxI
 split<;>simp_all
theorem ZOs {l:List Int} {x:Int}:0≤idxI l x↔x∈l:=by
 have:=ZN4 (l:=l) (x:=x)
 constructor
 ·intro h; by_cases hm:x∈l
  ·exact hm
  ·have:=this.2 hm; omega
 ·intro h
  by_cases hq:idxI l x<0
  ·exact absurd h (this.1 hq)
  ·omega
def idxF (l:List Int) (x:Int) (i:Nat):Int:=if x∈l.drop i then (i:Int)+idxI (l.drop i) x else -1
theorem ZOK (l:List Int) (x:Int):idxF l x 0=idxI l x:=by
 simp only[idxF,List.drop_zero,idxI]
 split<;>simp
theorem ZN2 (l:List Int) (x:Int) {i:Nat} (h:¬i<l.length):idxF l x i = -1:=by
 simp [idxF,List.drop_of_length_le (show l.length≤i by omega)]
theorem ZN3 {l:List Int} {x:Int} {i:Nat} (h:l[i]?=some x):idxF l x i=i:=by
 obtain ⟨hi,hx⟩:=List.getElem?_eq_some_iff.1 h
 simp [idxF,List.drop_eq_getElem_cons hi,hx,ZOr]
theorem ZNA {l:List Int} {x y:Int} {i:Nat} (h:l[i]?=some y) (hn:y≠x):idxF l x i=idxF l x (i+1):=by
 obtain ⟨hi,hx⟩:=List.getElem?_eq_some_iff.1 h
 have hn':x≠y:=fun e=>hn e.symm
 simp only[idxF,List.drop_eq_getElem_cons hi,hx,List.mem_cons,hn',false_or,ZOt hn]
 by_cases hm:x∈l.drop (i+1)
 ·simp only[hm,if_true]; omega
 ·simp [hm]
theorem ZNB (l:List Int) (x:Int) (hn:l.length≤4611686018427387904):EE F 296 [L 1 (l.map iU),I x] []=ok1 (I (idxI l x)):=by
 rw [R296,b296]
 simp only[↓xP,xT,rL,rB,rA,rS]
 refine (Zjc (fun (i:Nat) st=>i≤l.length∧st.s 0=DU (.sl 1 (l.map iU))∧st.s 1=DI x∧st.s 7=DI l.length∧st.s 8=DI i) (fun i=>l.length - i) (fun i=>ok1 (I (idxF l x i))) ?_ 0 (by and_intros<;>first|omega|rfl|(simp only[↓xP,xT,rL,rB,rA,rS]<;>first|done|rfl|omega))).trans (by rw [ZOK])
 rintro i st ⟨hle,h0,h1,h7,h8⟩ ih
 by_cases hi:i<l.length
 ·obtain ⟨y,hy⟩:∃ y,l[i]?=some y:=⟨_,List.getElem?_eq_getElem hi⟩
  have hw:=w_succ (i:=i) (by omega)
  simp only[↓xP,xT,rL,rB,rA,rS,h0,h1,h7,h8,hi,hy,hw,iU]
  refine ZiE (fun h=>?_) (fun h=>?_)
  ·simp only[decide_eq_true_eq] at h
   rw [ZN3 (by rw [hy,h])]
  ·simp only[decide_eq_false_iff_not] at h
   rw [ZNA hy (fun e=>h e.symm)]
   exact ih (i+1) _ (by omega) (by and_intros<;>first|omega|rfl|(simp only[↓xP,xT,rL,rB,rA,rS,h0,h1,h7]<;>first|done|rfl|omega))
 ·simp only[↓xP,xT,rL,rB,rA,rS,h0,h1,h7,h8,hi]
  rw [ZN2 l x hi]
theorem ZLf (l:List Int) (x:Int) (hn:l.length≤4611686018427387904):EE F 243 [L 1 (l.map iU),I x] []=ok1 (B (decide (x∈l))):=by
 rw [R243,b243]
 simp only[↓xP,xT,rL,rB,rA,rS,ZNB l x hn,ge_iff_le,ZOs]
def okAt (l:List Int) (k:Nat):Bool:=match l[k]? with
 | some x=>inR x 0 4&&!decide (x∈l.take k)
 | none=>true
def ZR (c:Yf):Bool:=decide (1≤c.epoch)&&decide (c.epoch≤60)&&decide (1≤c.members.length)&&decide (c.members.length≤4)&&!(c.fresh&&decide (c.members.length<2))&&allF c.members.length (okAt c.members) 0
theorem ZK7 {l:List Int} {k:Nat} {x:Int} (h:l[k]?=some x):okAt l k=(inR x 0 4&&!decide (x∈l.take k)):=by simp [okAt,h]
theorem ZIy {n:Nat} {i:Nat} (h:i≤n):vcut n none (some (DI (i:Int)))=some (0,i):=by
 simp [vcut,D.int?]
 omega
theorem ZGz (e:Int) (l:List Int) (f:Bool) (hn:l.length≤4611686018427387904):EE F 168 [.ag [.u (.int .i64 e),.u (.sl 1 (l.map iU)),.u (.bool f)]] []=ok1 (B (ZR ⟨e,l,f⟩)):=by
 rw [R168,b168]
 simp only[↓xP,xT,rL,rB,rA,rS]
 by_cases hg:(decide (1≤e)&&decide (e≤60)&&decide (1≤l.length)&&decide (l.length≤4)&&!(f&&decide (l.length<2)))=true
 ·have e1:ZR ⟨e,l,f⟩=allF l.length (okAt l) 0:=by simp only[ZR,hg,Bool.true_and]
  rw [e1]
  simp only[Bool.and_eq_true,decide_eq_true_eq,Bool.not_eq_true',Bool.and_eq_false_iff,decide_eq_false_iff_not] at hg
  obtain ⟨⟨⟨⟨h1,h2⟩,h3⟩,h4⟩,h5⟩:=hg
  have g1:¬e<1:=by omega
  have g2:¬60<e:=by omega
  have g3:¬(l.length:Int)<1:=by omega
  have g4:¬(4:Int)<(l.length:Int):=by omega
  simp only[g1,g2,g3,g4,gt_iff_lt,decide_false,↓xP,xT,rL,rB,rA,rS]
  repeat' (refine ZiE (fun h=>?_) (fun h=>?_))
  all_goals (try (exfalso; simp only[decide_eq_true_eq] at *; simp_all; omega))
  all_goals
   refine (Zjc (fun (i:Nat) st=>i≤l.length∧st.s 1=.t (.sc (.ptr (.loc 1 0) 0 0))∧st.o (.loc 1 0)=some (.box [.u (.int .i64 e),.u (.sl 1 (l.map iU)),.u (.bool f)])∧st.s 34=DU (.sl 1 (l.map iU))∧st.s 35=DI l.length∧st.s 36=DI i) (fun i=>l.length - i) (fun i=>ok1 (B (allF l.length (okAt l) i))) ?_ 0 (by and_intros<;>first|omega|rfl|(simp only[↓xP,xT,rL,rB,rA,rS]<;>first|done|rfl|omega))).trans rfl
   rintro i st ⟨hle,hb,ho,h34,h35,h36⟩ ih
   by_cases hi:i<l.length
   ·obtain ⟨y,hy⟩:∃ y,l[i]?=some y:=⟨_,List.getElem?_eq_getElem hi⟩
    have hw:=w_succ (i:=i) (by omega)
    have hct:=ZIy (n:=l.length) hle
    have hlt:(l.take i).length≤4611686018427387904:=by simp; omega
    have hct2:=ZLf (l.take i) y hlt
    simp only[↓xP,xT,rL,rB,rA,rS,hb,ho,h34,h35,h36,hi,hy,hw,iU,ZHD,List.length_map,hct,List.drop_zero,←List.map_take,hct2]
    rw [ZFW hi,ZK7 hy]
    repeat' (refine ZiE (fun h=>?_) (fun h=>?_))
    all_goals first
     | (simp_all; done)
     | (rw [ih (i+1) _ (by omega) (by and_intros<;>first|omega|rfl|(simp only[↓xP,xT,rL,rB,rA,rS,hb,ho,h34,h35]<;>first|done|rfl|omega))]; simp_all)
   ·simp only[↓xP,xT,rL,rB,rA,rS,hb,ho,h34,h35,h36,hi]
    rw [ZFV hi]
 ·have hg2:=hg
  rw [Bool.not_eq_true] at hg2
  have e1:ZR ⟨e,l,f⟩=false:=by simp only[ZR,hg2,Bool.false_and]
  clear hg2
  rw [e1]
  repeat' (refine ZiE (fun h=>?_) (fun h=>?_))
  all_goals first
   | rfl
   | (exfalso; apply hg; simp only[decide_eq_true_eq,decide_eq_false_iff_not] at *; simp_all; omega)
theorem ZGA (e:Int) (l:List Int) (f:Bool) (hn:l.length≤4611686018427387904):EE F 183 [.ag [.u (.int .i64 e),.u (.sl 1 (l.map iU)),.u (.bool f)]] []=ok1 (B (ZR ⟨e,l,f⟩)):=by
 rw [R183,b183]
 simp only[↓xP,xT,rL,rB,rA,rS,ZU]
 by_cases hg:(decide (1≤e)&&decide (e≤60)&&decide (1≤l.length)&&decide (l.length≤4)&&!(f&&decide (l.length<2)))=true
 ·have e1 : ZR ⟨e,l,f⟩=allF l.length (okAt l) 0:=by simp only[ZR,hg,Bool.true_and]
  rw [e1]
  simp only[Bool.and_eq_true,decide_eq_true_eq,Bool.not_eq_true',Bool.and_eq_false_iff,decide_eq_false_iff_not] at hg
  obtain ⟨⟨⟨⟨h1,h2⟩,h3⟩,h4⟩,h5⟩:=hg
  have g1:inR e 1 60=true:=by simp [inR,h1,h2]
  have g2:inR (l.length:Int) 1 4=true:=by simp [inR]; omega
  simp only[g1,g2,↓xP,xT,rL,rB,rA,rS]
  repeat' (refine ZiE (fun h=>?_) (fun h=>?_))
  all_goals (try (exfalso; simp only[decide_eq_true_eq] at *; simp_all; omega))
  all_goals
   refine (Zjc (fun (i:Nat) st=>i≤l.length∧st.s 1=.t (.sc (.ptr (.loc 1 0) 0 0))∧st.o (.loc 1 0)=some (.box [.u (.int .i64 e),.u (.sl 1 (l.map iU)),.u (.bool f)])∧st.s 3=DI i) (fun i=>l.length - i) (fun i=>ok1 (B (allF l.length (okAt l) i))) ?_ 0 (by and_intros<;>first|omega|rfl|(simp only[↓xP,xT,rL,rB,rA,rS]<;>first|done|rfl|omega))).trans rfl
   rintro i st ⟨hle,hb,ho,h3⟩ ih
   by_cases hi:i<l.length
   ·obtain ⟨y,hy⟩:∃ y,l[i]?=some y:=⟨_,List.getElem?_eq_getElem hi⟩
    have hw:=w_succ (i:=i) (by omega)
    simp only[↓xP,xT,rL,rB,rA,rS,hb,ho,h3,hi,hy,iU,ZU]
    rw [ZFW hi,ZK7 hy]
    refine ZiE (fun h=>?_) (fun h=>?_)
    ·simp_all
    refine (Zjc (fun (j:Nat) st=>j≤i∧st.s 1=.t (.sc (.ptr (.loc 1 0) 0 0))∧st.o (.loc 1 0)=some (.box [.u (.int .i64 e),.u (.sl 1 (l.map iU)),.u (.bool f)])∧st.s 3=DI i∧st.s 4=DI j) (fun j=>i - j) (fun j=>ok1 (B (!decide (y∈(l.take i).drop j)&&allF l.length (okAt l) (i+1)))) ?_ 0 (by and_intros<;>first|omega|rfl|(simp only[↓xP,xT,rL,rB,rA,rS,hb,ho,h3]<;>first|done|rfl|omega))).trans (by simp_all)
    rintro j st ⟨hlj,hb,ho,h3,h4⟩ ihj
    by_cases hj:j<i
    ·obtain ⟨z,hz⟩:∃ z,l[j]?=some z:=⟨_,List.getElem?_eq_getElem (by omega)⟩
     have hwj:=w_succ (i:=j) (by omega)
     have hd:(l.take i).drop j=z::(l.take i).drop (j+1):=by
      rw [List.drop_eq_getElem_cons (by simp; omega)]
      simp [(List.getElem?_eq_some_iff.1 hz).2]
     simp only[↓xP,xT,rL,rB,rA,rS,hb,ho,h3,h4,hj,hz,hy,iU,hwj]
     rw [hd]
     refine ZiE (fun h=>?_) (fun h=>?_)
     ·simp_all
     ·rw [ihj (j+1) _ (by omega) (by and_intros<;>first|omega|rfl|(simp only[↓xP,xT,rL,rB,rA,rS,hb,ho,h3]<;>first|done|rfl|omega))]
      simp only[decide_eq_false_iff_not] at h
      have h':¬y=z:=fun e=>h e.symm
      simp [h']
    ·simp only[↓xP,xT,rL,rB,rA,rS,hb,ho,h3,h4,hj,hw]
     rw [List.drop_of_length_le (by simp; omega)]
     rw [ih (i+1) _ (by omega) (by and_intros<;>first|omega|rfl|(simp only[↓xP,xT,rL,rB,rA,rS,hb,ho]<;>first|done|rfl|omega))]
     simp
   ·simp only[↓xP,xT,rL,rB,rA,rS,hb,ho,h3,hi]
    rw [ZFV hi]
 ·have hg2:=hg
  rw [Bool.not_eq_true] at hg2
  have e1:ZR ⟨e,l,f⟩=false:=by simp only[ZR,hg2,Bool.false_and]
  clear hg2
  rw [e1]
  repeat' (refine ZiE (fun h=>?_) (fun h=>?_))
  all_goals first
   | rfl
   | (exfalso; apply hg; simp only[decide_eq_true_eq,decide_eq_false_iff_not,inR] at *; simp_all; omega)
theorem ZN {n k:Nat} (h:n≤1048576) (hk:k≤100000000):n≤maxLen∧n*k≤140737488355328:=by
 refine ⟨by simp [maxLen]; omega,?_⟩
 have:=Nat.mul_le_mul h hk
 omega
def rep {α:Type} (l:List α) (a m:Nat) (b:List α):List α:=l.take a++b++l.drop (a+m)
theorem ZIY {α:Type} {l:List α} {a m:Nat} {b:List α} (h:a+m≤l.length):(rep l a m b).length=l.length - m+b.length:=by
 simp [rep]; omega
def zero_Pair:List U:=[.str [],.int .i64 0]
def zero_Session:List U:=[.int .i64 0,.int .i64 0,.int .i64 0]
theorem ZOb (st:St) (d c:Nat) (zero:List U) (bytes:Nat) (h:c*bytes≤140737488355328):stMk st d (DI 0) (DI (c:Int)) zero bytes=some (((st.cool (.loc d 0)).obj (.loc d 0) (some (.row zero.length []))).put d (.t (.sc (.own (.loc d 0) 0)))):=by
 have h0:(0:Int)≤(c:Int):=by omega
 simp [stMk,D.int?,h,h0]
theorem ZHR {n i:Nat} (h:i≤n):vcut n (some (DI (i:Int))) none=some (i,n):=by
 simp [vcut,D.int?]
 omega
theorem ZG {α β:Type} (f:α→β) (l:List α):List.take l.length (List.map f l)=List.map f l:=List.take_of_length_le (by simp)
theorem ZHk (l b:List Yl) (a m:Nat) (h:a+m≤l.length) (hn:l.length+b.length≤1048576):EE F 274 [L 2 (l.map Yl.u),I a,I m,L 2 (b.map Yl.u)] []=some ⟨[.sc (.own (.par 0) (rep l a m b).length)],[.row 2 ((rep l a m b).map Yl.u)],[]⟩:=by
 rw [R274,b274]
 have w1:IntKind.i64.wrap ((l.length:Int) - (m:Int))=((l.length - m:Nat):Int):=by rw [w64 (by omega) (by omega)]; omega
 have w2:IntKind.i64.wrap (((l.length - m:Nat):Int) + (b.length:Int))=((l.length - m+b.length:Nat):Int):=by rw [w64 (by omega) (by omega)]; omega
 have w3:IntKind.i64.wrap ((a:Int) + (m:Int))=((a+m:Nat):Int):=by rw [w64 (by omega) (by omega)]; omega
 have c1:=ZIy (n:=l.length) (i:=a) (by omega)
 have c2:=ZHR (n:=l.length) (i:=a+m) h
 have k0:=fun st d=>ZOb st d (l.length - m+b.length) (Go.Proofs.YtfajcehhcjmofaaGreatV.zero_Pair) 24 (by omega)
 have ha:min a l.length=a:=by omega
 have q1:a≤maxLen∧a*24≤140737488355328:=ZN (by omega) (by omega)
 have q2:a+b.length≤maxLen∧(a+b.length)*24≤140737488355328:=ZN (by omega) (by omega)
 have q3:a+b.length + (l.length - (a+m))≤maxLen∧(a+b.length + (l.length - (a+m)))*24≤140737488355328:=ZN (by omega) (by omega)
 simp only[zero_Pair] at k0
 simp only[↓xP,xT,rL,rB,rA,rS,w1,w2,w3,k0,c1,c2,List.drop_zero,List.length_map,List.length_take,List.length_drop,List.length_append,List.length_nil,Nat.zero_add,List.nil_append,ha,q1.1,q1.2,q2.1,q2.2,q3.1,q3.2,ZG,rep,List.map_append,List.map_take,List.map_drop]
theorem ZHr (l b:List Yr) (a m:Nat) (h:a+m≤l.length) (hn:l.length+b.length≤1048576):EE F 315 [L 3 (l.map Yr.u),I a,I m,L 3 (b.map Yr.u)] []=some ⟨[.sc (.own (.par 0) (rep l a m b).length)],[.row 3 ((rep l a m b).map Yr.u)],[]⟩:=by
 rw [R315,b315]
 have w1:IntKind.i64.wrap ((l.length:Int) - (m:Int))=((l.length - m:Nat):Int):=by rw [w64 (by omega) (by omega)]; omega
 have w2:IntKind.i64.wrap (((l.length - m:Nat):Int) + (b.length:Int))=((l.length - m+b.length:Nat):Int):=by rw [w64 (by omega) (by omega)]; omega
 have w3:IntKind.i64.wrap ((a:Int) + (m:Int))=((a+m:Nat):Int):=by rw [w64 (by omega) (by omega)]; omega
 have c1:=ZIy (n:=l.length) (i:=a) (by omega)
 have c2:=ZHR (n:=l.length) (i:=a+m) h
 have k0:=fun st d=>ZOb st d (l.length - m+b.length) (Go.Proofs.YtfajcehhcjmofaaGreatV.zero_Session) 24 (by omega)
 have ha:min a l.length=a:=by omega
 have q1:a≤maxLen∧a*24≤140737488355328:=ZN (by omega) (by omega)
 have q2:a+b.length≤maxLen∧(a+b.length)*24≤140737488355328:=ZN (by omega) (by omega)
 have q3:a+b.length + (l.length - (a+m))≤maxLen∧(a+b.length + (l.length - (a+m)))*24≤140737488355328:=ZN (by omega) (by omega)
 simp only[zero_Session] at k0
 simp only[↓xP,xT,rL,rB,rA,rS,w1,w2,w3,k0,c1,c2,List.drop_zero,List.length_map,List.length_take,List.length_drop,List.length_append,List.length_nil,Nat.zero_add,List.nil_append,ha,q1.1,q1.2,q2.1,q2.2,q3.1,q3.2,ZG,rep,List.map_append,List.map_take,List.map_drop]
def hit (key:Str) (l:List Yl):Option Yl:=match l[place key l]? with
 | some p=>if p.key=key then some p else none
 | none=>none
def ZFn (l:List Yl) (key:Str):Int:=if ZB l=true then (match hit key l with
 | some p=>p.value
 | none=>-1) else -1
def Z5 (l:List Yl) (key:Str) (v:Int):List Yl×Bool:=
 if ZB l=true∧ZT key=true∧inR v 0 999=true then
  (if (hit key l).isSome=true then (rep l (place key l) 1 [⟨key,v⟩],true) else if 48≤l.length then (l,false) else (rep l (place key l) 0 [⟨key,v⟩],true))
 else ([],false)
def ZFg (l:List Yl) (key:Str):List Yl×Bool:=
 if ZB l=true then (if (hit key l).isSome=true then (rep l (place key l) 1 [],true) else (l,false)) else ([],false)
def Z1 (u:Yl→List U) (sz:Nat) (r:List Yl×Bool):Option Ret:=some ⟨[.sc (.own (.par 0) r.1.length),B r.2],[.row sz (r.1.map u)],[]⟩
theorem ZJc {key:Str} {l:List Yl}:ZJY key l=(hit key l).isSome:=by
 unfold ZJY hit
 cases l[place key l]? with
 | none=>rfl
 | some p=>by_cases h:p.key=key<;>simp [h]
theorem ZGu {key:Str} {l:List Yl} {p:Yl} (h:hit key l=some p):l[place key l]?=some p∧p.key=key:=by
 unfold hit at h
 split at h
 ·rename_i q hq
  split at h
  ·rename_i hk; cases h; exact ⟨hq,hk⟩
  ·cases h
 ·cases h
theorem ZIL {key:Str} {l:List Yl} (h:hit key l=none):∀ p,l[place key l]?=some p→p.key≠key:=by
 intro p hp
 unfold hit at h
 rw [hp] at h
 simp only at h
 split at h
 ·cases h
 ·assumption
theorem ZGC (l:List Yl) (key:Str) (hn:l.length≤4611686018427387904):EE F 204 [L 2 (l.map Yl.u),S key] []=ok1 (I (place key l)):=by
 rw [R204,b204]
 simp only[↓xP,xT,rL,rB,rA,rS]
 refine (Zjc (fun (i:Nat) st=>i≤l.length∧(∀ t p,t<i→l[t]?=some p→ZaZ p.key key=true)∧st.s 0=DU (.sl 2 (l.map Yl.u))∧st.s 1=DS key∧st.s 5=DI i) (fun i=>l.length - i) (fun i=>ok1 (I (place key l))) ?_ 0 ⟨by omega,fun t p ht=>by omega,(by and_intros<;>first|omega|rfl|(simp only[↓xP,xT,rL,rB,rA,rS]<;>first|done|rfl|omega))⟩).trans rfl
 rintro i st ⟨hle,hlo,h0,h1,h5⟩ ih
 by_cases hi:i<l.length
 ·obtain ⟨⟨pk,pv⟩,hp⟩:∃ p,l[i]?=some p:=⟨_,List.getElem?_eq_getElem hi⟩
  have hw:=w_succ (i:=i) (by omega)
  simp only[↓xP,xT,rL,rB,rA,rS,h0,h1,h5,hi,hp,Yl.u]
  refine ZiE (fun h=>?_) (fun h=>?_)
  ·simp only[↓xP,xT,rL,rB,rA,rS,h0,h1,h5,hw]
   exact ih (i+1) _ (by omega) ⟨by omega,fun t p ht hq=>by
    by_cases e:t=i
    ·subst e; rw [hp] at hq; cases hq; exact h
    ·exact hlo t p (by omega) hq,(by and_intros<;>first|omega|rfl|(simp only[↓xP,xT,rL,rB,rA,rS,h0,h1]<;>first|done|rfl|omega))⟩
  ·have:place key l=i:=ZIX key l i (by omega) hlo (fun p hq=>by rw [hp] at hq; cases hq; exact h)
   simp only[↓xP,xT,rL,rB,rA,rS,h0,h1,h5,this]
 ·have:place key l=i:=ZIX key l i (by omega) hlo (fun p hq=>by have:=(List.getElem?_eq_some_iff.1 hq).1; omega)
  simp only[↓xP,xT,rL,rB,rA,rS,h0,h1,h5,hi,this]
theorem ZLu (l:List Yl) (key:Str):EE F 47 [L 2 (l.map Yl.u),S key] []=ok1 (I (ZFn l key)):=by
 rw [R47,b47]
 simp only[↓xP,xT,rL,rB,rA,rS,ZFu]
 refine ZiE (fun h=>?_) (fun h=>?_)
 ·simp_all [ZFn]
 simp only[Bool.not_eq_false'] at h
 have hl:=Z0 h
 simp only[↓xP,xT,rL,rB,rA,rS,ZFZ l key (ZHO h) (by omega),ZJc]
 cases hh:hit key l with
 | none=>simp [ZFn,h,hh,↓xP,xQ,xR,xS,ZL7,rL,rB,rA,rS]
 | some p=>
  obtain ⟨pk,pv⟩:=p
  obtain ⟨h1,h2⟩:=ZGu hh
  simp only[↓xP,xT,rL,rB,rA,rS,Option.isSome_some,h1,Yl.u,ZFn,h,hh]
  try simp
theorem ZLv (l:List Yl) (key:Str) (hn:l.length≤4611686018427387904):EE F 129 [L 2 (l.map Yl.u),S key] []=ok1 (I (ZFn l key)):=by
 rw [R129,b129]
 have hpl:=ZF5 key l
 cases h:ZB l
 ·simp only[↓xP,xT,rL,rB,rA,rS,ZGC l key hn,Z8,h,ZFn]
  try simp
 cases hh:hit key l with
 | none=>
  have hno:=ZIL hh
  by_cases hi:place key l=l.length
  ·have hi':((place key l:Nat):Int)=(l.length:Int):=by omega
   simp only[↓xP,xT,rL,rB,rA,rS,ZGC l key hn,Z8,h,hi',ZFn,hh]
   try simp
  ·obtain ⟨⟨pk,pv⟩,hp⟩:∃ p,l[place key l]?=some p:=⟨_,List.getElem?_eq_getElem (by omega)⟩
   have hi':¬((place key l:Nat):Int)=(l.length:Int):=by omega
   have hne:¬pk=key:=hno _ hp
   simp only[↓xP,xT,rL,rB,rA,rS,ZGC l key hn,Z8,h,hi',ZFn,hh,hp,Yl.u,hne]
   simp [sel,hne]
 | some p=>
  obtain ⟨pk,pv⟩:=p
  obtain ⟨h1,h2⟩:=ZGu hh
  have hlt:=(List.getElem?_eq_some_iff.1 h1).1
  have hi':¬((place key l:Nat):Int)=(l.length:Int):=by omega
  dsimp only at h2
  simp only[↓xP,xT,rL,rB,rA,rS,ZGC l key hn,Z8,h,hi',ZFn,hh,h1,Yl.u,h2]
  simp [sel]
def yU (n:Int):List U:=[.int .u8 n]
def rd (bs:List Int) (p:Nat):Obj:=.box [.u (.sl 1 (bs.map yU)),.u (.int .i64 p)]
def Gd (bs:List Int) (p c:Nat) (R:List T→List Obj→Prop) (x:Option Ret):Prop:=∃ r n q,x=some ⟨r,n,[rd bs q]⟩∧p≤q∧q≤p+c∧R r n
theorem ZNE {fin:St→Option Ret} {is:List Za} {c:IC} {α:Type} {G:Option Ret→Prop} (Inv:α→St→Prop) (μ:α→Nat)
  (h:∀ a st,Inv a st→(∀ a' st',μ a'<μ a→Inv a' st'→G (KK F fin (.inLoop c::is) st'))→G (KK F fin (.code c::.inLoop c::is) st)) {st:St} (a:α) (hI:Inv a st):G (KK F fin (.code (.loop c)::is) st):=by
 rw [ZgK]
 have all:∀ n a st,μ a<n→Inv a st→G (KK F fin (.inLoop c::is) st):=by
  intro n
  induction n with
  | zero=>intro a st h0; omega
  | succ n ih=>
   intro a st hn hI
   rw [ZfN]
   exact h a st hI (fun a' st' hm hI'=>ih a' st' (by omega) hI')
 exact all (μ a+1) a st (by omega) hI
theorem rdx:(∀ bs p,(rd bs p).data=true)∧(∀ bs p q,ZaJ (some (rd bs p)) (rd bs q)=true)∧(∀ id bs p,Obj.mapC (C.kill id) (rd bs p)=rd bs p)∧(∀ st id bs p,Obj.mapC (St.coolC st id) (rd bs p)=rd bs p):=by
 refine ⟨fun _ _=>rfl,fun _ _ _=>rfl,fun _ _ _=>rfl,fun st id bs p=>?_⟩
 have h:∀ u,st.coolC id (.u u)=.u u:=by
  intro u
  unfold St.coolC
  cases st.o id with
  | none=>rfl
  | some ob=>cases ob<;>rfl
 simp [rd,Obj.mapC,h]
theorem Gd.run {f:Nat} {a:List T} {bs:List Int} {p c:Nat} {R:List T→List Obj→Prop} {fn:IFn} (hF:Go.Proofs.YtfajcehhcjmofaaGreatV.F f=some fn) (hn:a.length=fn.np) (h:Gd bs p c R (KK F (FF fn.res 1) [.code fn.body] (ZdN 0 a (ZcQ 0 [rd bs p] S0)))):Gd bs p c R (EE F f a [rd bs p]):=by
 rw [EE_run hF hn]; exact h
theorem ZKt {i:Nat} (h:i≤1048576):IntKind.i64.wrap (((i+1:Nat):Int) - 1)=(i:Int):=by rw [w64 (by omega) (by omega)]; omega
theorem rdx2:(∀ bs p,Obj.flat (rd bs p)=(bs.map yU).isEmpty)∧(∀ bs p,Obj.data (rd bs p)=true)∧(∀ (x:Bool) (a:List Id),sel x a a=a):=by
 refine ⟨fun bs p=>?_,fun bs p=>rfl,fun x a=>by cases x<;>rfl⟩
 simp [rd,Obj.flat,C.isSl,U.flat]
def Code (code:List Int):Prop:=code.length≤9223372036854775807∧∀ b,b∈code→0≤b∧b≤255
def Ok (R:Ret→Prop) (x:Option Ret):Prop:=∃ r,x=some r∧R r
theorem Ok.run {f:Nat} {a:List T} {R:Ret→Prop} {fn:IFn} (hF:Go.Proofs.YtfajcehhcjmofaaGreatV.F f=some fn) (hn:a.length=fn.np) (h:Ok R (KK F (FF fn.res 0) [.code fn.body] (ZdN 0 a (ZcQ 0 [] S0)))):Ok R (EE F f a []):=by
 rw [EE_run hF hn]; exact h
theorem ZOR (us:List U) (hl:us.length=1) (ht:∀ (j:Nat) ty u,[Ty.i .u8][j]?=some ty→us[j]?=some u→UT ty u):∃ x,us=yU x∧(0≤x∧x≤255):=by
 match us,hl with
 | [a],_=>obtain ⟨n,rfl,h⟩:=(ht 0 _ a rfl rfl).u8_of; exact ⟨n,rfl,h⟩
theorem Code.of {u:U} (hu:UT (.sl [.i .u8]) u):∃ code:List Int,u=.sl 1 (code.map yU)∧Code code:=by
 obtain ⟨code,rfl,hl,hb⟩:=hu.sl_of ZOR
 exact ⟨code,rfl,hl,hb⟩
theorem ZOy {l:List Yl} {i:Nat} {p q:Yl} (h:l[i]?=some p):(l.map Yl.u).set i (Yl.u q)=(rep l i 1 [q]).map Yl.u:=by
 obtain ⟨hi,_⟩:=List.getElem?_eq_some_iff.1 h
 rw [←List.map_set]
 congr 1
 rw [List.set_eq_take_append_cons_drop,if_pos hi]
 simp [rep]
theorem ZOd {l:List Yl} {i:Nat} {p q:Yl} (h:l[i]?=some p):(rep l i 1 [q]).length=l.length:=by
 obtain ⟨hi,_⟩:=List.getElem?_eq_some_iff.1 h
 rw [ZIY (by omega)]
 simp; omega
theorem ZLx (l:List Yl) (key:Str) (v:Int) (hn:l.length≤1048576):EE F 202 [L 2 (l.map Yl.u),S key,I v] []=Z1 Yl.u 2 (Z5 l key v):=by
 rw [R202,b202]
 have hpl:=ZF5 key l
 have hv:=Z8 l
 cases h:ZB l
 ·rw [h] at hv
  simp only[↓xP,xT,rL,rB,rA,rS,hv,Z5,h,Bool.false_eq_true,false_and,if_false,Z1,List.map_nil,List.length_nil]
 rw [h] at hv
 have hl48:=Z0 h
 have hkv:=ZFp key
 cases hk:ZT key
 ·rw [hk] at hkv
  simp only[↓xP,xT,rL,rB,rA,rS,hv,hkv,Z5,hk,Bool.false_eq_true,false_and,and_false,if_false,Z1,List.map_nil,List.length_nil]
 rw [hk] at hkv
 cases hr:inR v 0 999
 ·simp only[↓xP,xT,rL,rB,rA,rS,hv,hkv,ZU,hr,Z5,Bool.false_eq_true,false_and,and_false,if_false,Z1,List.map_nil,List.length_nil]
 have q0:l.length≤maxLen∧l.length*24≤140737488355328:=ZN hn (by omega)
 have hpl4:=ZGC l key (by omega)
 cases hh:hit key l with
 | some p=>
  obtain ⟨pk,pv⟩:=p
  obtain ⟨h1,h2⟩:=ZGu hh
  dsimp only at h2
  subst h2
  have hlt:=(List.getElem?_eq_some_iff.1 h1).1
  have hli:((place pk l:Nat):Int)<(l.length:Int):=by omega
  have hset:=ZOy (q:=⟨pk,v⟩) h1
  have hrl:=ZOd (q:=⟨pk,v⟩) h1
  simp only[Yl.u] at hset
  have hpp:Z5 l pk v=(rep l (place pk l) 1 [⟨pk,v⟩],true):=by simp only[Z5,h,hk,hr,hh,Option.isSome_some,and_self,if_true]
  rw [hpp]
  simp only[↓xP,xT,rL,rB,rA,rS,hv,hkv,ZU,hr,hpl4,List.length_map,Nat.zero_add,List.nil_append,hli,h1,Yl.u,q0.1,q0.2,hset,hlt]
  simp [sel,hrl,Z1]
 | none=>
  have hno:=ZIL hh
  have hmin:min (place key l) l.length=place key l:=by omega
  have hct:=ZIy (n:=l.length) (i:=place key l) (by omega)
  have hcf:=ZHR (n:=l.length) (i:=place key l) (by omega)
  have q1:place key l≤maxLen∧place key l*24≤140737488355328:=ZN (by omega) (by omega)
  have q2:place key l+1≤maxLen∧(place key l+1)*24≤140737488355328:=ZN (by omega) (by omega)
  have q3:place key l+1 + (l.length - place key l)≤maxLen∧(place key l+1 + (l.length - place key l))*24≤140737488355328:=ZN (by omega) (by omega)
  have hlen:(rep l (place key l) 0 [⟨key,v⟩]).length=place key l+1 + (l.length - place key l):=by rw [ZIY (by omega)]; simp; omega
  have her:List.take (place key l) (l.map Yl.u)++[[U.str key,U.int .i64 v]]++List.drop (place key l) (l.map Yl.u)=(rep l (place key l) 0 [⟨key,v⟩]).map Yl.u:=by simp [rep,List.map_take,List.map_drop,Yl.u]
  by_cases hge:(48:Int)≤(l.length:Int)
  ·have hge':48≤l.length:=by omega
   have hpp:Z5 l key v=(l,false):=by simp only[Z5,h,hk,hr,hh,Option.isSome_none,Bool.false_eq_true,if_false,hge',and_self,if_true]
   rw [hpp]
   by_cases hlt:place key l<l.length
   ·obtain ⟨⟨pk,pv⟩,hp⟩:∃ p,l[place key l]?=some p:=⟨_,List.getElem?_eq_getElem (by omega)⟩
    have hli:((place key l:Nat):Int)<(l.length:Int):=by omega
    have hne:¬pk=key:=hno _ hp
    simp only[↓xP,xT,rL,rB,rA,rS,hv,hkv,ZU,hr,hpl4,List.length_map,Nat.zero_add,List.nil_append,hli,hp,Yl.u,hne,q0.1,q0.2,ge_iff_le,hge,Z1,ZG]
   ·have hli:¬((place key l:Nat):Int)<(l.length:Int):=by omega
    simp only[↓xP,xT,rL,rB,rA,rS,hv,hkv,ZU,hr,hpl4,List.length_map,Nat.zero_add,List.nil_append,hli,Yl.u,q0.1,q0.2,ge_iff_le,hge,Z1,ZG]
  ·have hge':¬48≤l.length:=by omega
   have hpp:Z5 l key v=(rep l (place key l) 0 [⟨key,v⟩],true):=by simp only[Z5,h,hk,hr,hh,Option.isSome_none,Bool.false_eq_true,if_false,hge',and_self,if_true]
   rw [hpp]
   by_cases hlt:place key l<l.length
   ·obtain ⟨⟨pk,pv⟩,hp⟩:∃ p,l[place key l]?=some p:=⟨_,List.getElem?_eq_getElem (by omega)⟩
    have hli:((place key l:Nat):Int)<(l.length:Int):=by omega
    have hne:¬pk=key:=hno _ hp
    simp only[↓xP,xT,rL,rB,rA,rS,hv,hkv,ZU,hr,hpl4,List.length_map,List.length_take,List.length_drop,Nat.zero_add,List.nil_append,hli,hp,Yl.u,hne,q1.1,q1.2,q2.1,q2.2,q3.1,q3.2,ge_iff_le,hge,Z1,ZG,hct,hcf,hmin,hlen,her,List.drop_zero,List.length_append,List.length_cons,List.length_nil]
   ·have hli:¬((place key l:Nat):Int)<(l.length:Int):=by omega
    simp only[↓xP,xT,rL,rB,rA,rS,hv,hkv,ZU,hr,hpl4,List.length_map,List.length_take,List.length_drop,Nat.zero_add,List.nil_append,hli,Yl.u,q1.1,q1.2,q2.1,q2.2,q3.1,q3.2,ge_iff_le,hge,Z1,ZG,hct,hcf,hmin,hlen,her,List.drop_zero,List.length_append,List.length_cons,List.length_nil]
def ZOl (p:Yl):Prop:=ZT p.key=true∧inR p.value 0 999=true
def Up (a b:Yl):Prop:=ZaZ a.key b.key=true
theorem ZFG (l:List Yl):ZB l=true↔l.length≤48∧(∀ p,p∈l→ZOl p)∧l.Pairwise Up:=by
 constructor
 ·intro h
  refine ⟨Z0 h,fun p hp=>?_,?_⟩
  ·obtain ⟨i,hi⟩:=List.mem_iff_getElem?.1 hp
   exact ZHj h hi
  ·rw [List.pairwise_iff_getElem]
   intro i j hi hj hij
   exact ZHO h i j _ _ hij (List.getElem?_eq_getElem hi) (List.getElem?_eq_getElem hj)
 ·rintro ⟨h1,h2,h3⟩
  simp only[ZB,Bool.and_eq_true,decide_eq_true_eq]
  refine ⟨h1,(ZFE _ 0 rfl).2 fun j _ hj=>?_⟩
  obtain ⟨p,hp⟩:∃ p,l[j]?=some p:=⟨_,List.getElem?_eq_getElem hj⟩
  have hf:=h2 p (List.mem_of_getElem? hp)
  simp only[ZFt,hp,hf.1,hf.2,Bool.and_true,Bool.true_and,Bool.or_eq_true,decide_eq_true_eq]
  by_cases h0:j=0
  ·exact .inl h0
  ·right
   obtain ⟨q,hq⟩:∃ q,l[j - 1]?=some q:=⟨_,List.getElem?_eq_getElem (by omega)⟩
   rw [hq]
   have:=List.pairwise_iff_getElem.1 h3 (j - 1) j (by omega) hj (by omega)
   rw [(List.getElem?_eq_some_iff.1 hq).2,(List.getElem?_eq_some_iff.1 hp).2] at this
   exact this
theorem ZKH (l:List Yl) (key:Str) (hn:l.length≤1048576):EE F 201 [L 2 (l.map Yl.u),S key] []=Z1 Yl.u 2 (ZFg l key):=by
 rw [R201,b201]
 have hpl:=ZF5 key l
 have hv:=Z8 l
 cases h:ZB l
 ·rw [h] at hv
  simp only[↓xP,xT,rL,rB,rA,rS,hv,ZFg,h,Bool.false_eq_true,false_and,if_false,Z1,List.map_nil,List.length_nil]
 rw [h] at hv
 have q0:l.length≤maxLen∧l.length*24≤140737488355328:=ZN hn (by omega)
 have hpl4:=ZGC l key (by omega)
 cases hh:hit key l with
 | none=>
  have hno:=ZIL hh
  have hpp:ZFg l key=(l,false):=by simp only[ZFg,h,hh,Option.isSome_none,Bool.false_eq_true,if_false,if_true]
  rw [hpp]
  by_cases hi:place key l=l.length
  ·have hi':((place key l:Nat):Int)=(l.length:Int):=by omega
   simp only[↓xP,xT,rL,rB,rA,rS,hv,hpl4,List.length_map,hi',Nat.zero_add,List.nil_append,q0.1,q0.2,Z1,ZG]
  ·obtain ⟨⟨pk,pv⟩,hp⟩:∃ p,l[place key l]?=some p:=⟨_,List.getElem?_eq_getElem (by omega)⟩
   have hi':¬((place key l:Nat):Int)=(l.length:Int):=by omega
   have hne:¬pk=key:=hno _ hp
   simp only[↓xP,xT,rL,rB,rA,rS,hv,hpl4,List.length_map,hi',hp,Yl.u,hne,Nat.zero_add,List.nil_append,q0.1,q0.2,Z1,ZG,ne_eq,not_false_eq_true]
 | some p=>
  obtain ⟨pk,pv⟩:=p
  obtain ⟨h1,h2⟩:=ZGu hh
  dsimp only at h2
  subst h2
  have hlt:=(List.getElem?_eq_some_iff.1 h1).1
  have hi':¬((place pk l:Nat):Int)=(l.length:Int):=by omega
  have hmin:min (place pk l) l.length=place pk l:=by omega
  have hw:=w_succ (i:=place pk l) (by omega)
  have hct:=ZIy (n:=l.length) (i:=place pk l) (by omega)
  have hcf:=ZHR (n:=l.length) (i:=place pk l+1) (by omega)
  have q1:place pk l≤maxLen∧place pk l*24≤140737488355328:=ZN (by omega) (by omega)
  have q3:place pk l + (l.length - (place pk l+1))≤maxLen∧(place pk l + (l.length - (place pk l+1)))*24≤140737488355328:=ZN (by omega) (by omega)
  have hlen:(rep l (place pk l) 1 []).length=place pk l + (l.length - (place pk l+1)):=by rw [ZIY (by omega)]; simp; omega
  have her:List.take (place pk l) (l.map Yl.u)++List.drop (place pk l+1) (l.map Yl.u)=(rep l (place pk l) 1 []).map Yl.u:=by simp [rep,List.map_take,List.map_drop]
  have hpp:ZFg l pk=(rep l (place pk l) 1 [],true):=by simp only[ZFg,h,hh,Option.isSome_some,if_true]
  rw [hpp]
  simp only[↓xP,xT,rL,rB,rA,rS,hv,hpl4,List.length_map,List.length_take,List.length_drop,hi',h1,Yl.u,Nat.zero_add,List.nil_append,hw,hct,hcf,hmin,q1.1,q1.2,q3.1,q3.2,Z1,ZG,hlen,her,List.drop_zero,ne_eq,not_true_eq_false]
def ZFc (l:List Yl) (c:Ye):List Yl×Int:=
  if ZB l=true∧Z7 c=true∧¬c.kind=5 then
    (if c.kind=1∨(c.kind=4∧¬c.old=ZFn l c.key) then (l,ZFn l c.key)
     else if c.kind=3 then ((ZFg l c.key).1,ZFn l c.key)
     else if ZFn l c.key<0∧8≤l.length then (l,-2)
     else ((Z5 l c.key c.value).1,ZFn l c.key))
  else ([],-3)
def ZO (r:List Yl×Int):Option Ret:=some ⟨[.sc (.own (.par 0) r.1.length),I r.2],[.row 2 (r.1.map Yl.u)],[]⟩
theorem ZIF (l:List Yl) (k:Int) (key:Str) (v o:Int) (hn:l.length≤1048576):EE F 260 [L 2 (l.map Yl.u),.ag [.u (.int .i64 k),.u (.str key),.u (.int .i64 v),.u (.int .i64 o)]] []=ZO (ZFc l ⟨k,key,v,o⟩):=by
  rw [R260,b260]
  have hv:=Z8 l
  have hcv:=ZGr k key v o
  cases h:ZB l
  · rw [h] at hv
    simp only[↓xP,xT,rL,rB,rA,rS,hv,ZFc,h,Bool.false_eq_true,false_and,if_false,ZO,List.map_nil,List.length_nil]
  rw [h] at hv
  cases h2:Z7 ⟨k,key,v,o⟩
  · rw [h2] at hcv
    simp only[↓xP,xT,rL,rB,rA,rS,hv,hcv,ZFc,h,h2,Bool.false_eq_true,false_and,and_false,if_false,ZO,List.map_nil,List.length_nil]
  rw [h2] at hcv
  by_cases h5:k=5
  · subst h5
    simp only[↓xP,xT,rL,rB,rA,rS,hv,hcv,ZFc,not_true_eq_false,and_false,if_false,ZO,List.map_nil,List.length_nil]
  have q0:l.length≤maxLen∧l.length*24≤140737488355328:=ZN hn (by omega)
  have hpg:=ZLv l key (by omega)
  have hpd:=ZKH l key hn
  have hpp:=ZLx l key v hn
  generalize hgo:ZFn l key=old at hpg
  generalize hdo:ZFg l key=dr at hpd
  generalize hpo:Z5 l key v=pu at hpp
  obtain ⟨dl,db⟩:=dr
  obtain ⟨pl,pb⟩:=pu
  simp only[Z1] at hpd hpp
  by_cases h1:k=1
  · subst h1
    simp only[↓xP,xT,rL,rB,rA,rS,hv,hcv,h5,hpg,List.length_map,Nat.zero_add,List.nil_append,q0.1,q0.2,ZFc,h,h2,hgo,hdo,hpo,and_self,true_or,false_or,not_false_eq_true,if_true,ZO,ZG]
  by_cases h4:k=4
  · subst h4
    by_cases ho:o=old
    · subst ho
      have h43:¬(4:Int)=3:=by omega
      by_cases hlt:o<0
      · by_cases h8:(8:Int)≤(l.length:Int)
        · have h8':8≤l.length:=by omega
          simp only[↓xP,xT,rL,rB,rA,rS,hv,hcv,h5,h1,h43,hlt,h8,h8',hpg,List.length_map,Nat.zero_add,List.nil_append,q0.1,q0.2,ZFc,h,h2,hgo,hdo,hpo,and_self,true_or,false_or,or_self,and_false,true_and,not_true_eq_false,not_false_eq_true,if_true,if_false,ZO,ZG,ge_iff_le,ne_eq]
        · have h8':¬8≤l.length:=by omega
          simp only[↓xP,xT,rL,rB,rA,rS,hv,hcv,h5,h1,h43,hlt,h8,h8',hpg,hpp,List.length_map,Nat.zero_add,List.nil_append,q0.1,q0.2,ZFc,h,h2,hgo,hdo,hpo,and_self,true_or,false_or,or_self,and_false,true_and,not_true_eq_false,not_false_eq_true,if_true,if_false,ZO,ZG,ge_iff_le,ne_eq]
      · simp only[↓xP,xT,rL,rB,rA,rS,hv,hcv,h5,h1,h43,hlt,hpg,hpp,List.length_map,Nat.zero_add,List.nil_append,q0.1,q0.2,ZFc,h,h2,hgo,hdo,hpo,and_self,true_or,false_or,or_self,and_false,false_and,true_and,not_true_eq_false,not_false_eq_true,if_true,if_false,ZO,ZG,ge_iff_le,ne_eq]
    · simp only[↓xP,xT,rL,rB,rA,rS,hv,hcv,h5,h1,ho,hpg,List.length_map,Nat.zero_add,List.nil_append,q0.1,q0.2,ZFc,h,h2,hgo,hdo,hpo,and_self,true_or,or_true,false_or,not_false_eq_true,if_true,ZO,ZG,ne_eq]
  by_cases h3:k=3
  · subst h3
    simp only[↓xP,xT,rL,rB,rA,rS,hv,hcv,h5,h1,h4,hpg,hpd,List.length_map,Nat.zero_add,List.nil_append,q0.1,q0.2,ZFc,h,h2,hgo,hdo,hpo,and_self,true_or,false_or,or_self,false_and,not_false_eq_true,if_true,if_false,ZO,ZG]
  · by_cases hlt:old<0
    · by_cases h8:(8:Int)≤(l.length:Int)
      · have h8':8≤l.length:=by omega
        simp only[↓xP,xT,rL,rB,rA,rS,hv,hcv,h5,h1,h4,h3,hlt,h8,h8',hpg,List.length_map,Nat.zero_add,List.nil_append,q0.1,q0.2,ZFc,h,h2,hgo,hdo,hpo,and_self,true_or,false_or,or_self,and_false,false_and,true_and,not_true_eq_false,not_false_eq_true,if_true,if_false,ZO,ZG,ge_iff_le,ne_eq]
      · have h8':¬8≤l.length:=by omega
        simp only[↓xP,xT,rL,rB,rA,rS,hv,hcv,h5,h1,h4,h3,hlt,h8,h8',hpg,hpp,List.length_map,Nat.zero_add,List.nil_append,q0.1,q0.2,ZFc,h,h2,hgo,hdo,hpo,and_self,true_or,false_or,or_self,and_false,false_and,true_and,not_true_eq_false,not_false_eq_true,if_true,if_false,ZO,ZG,ge_iff_le,ne_eq]
    · simp only[↓xP,xT,rL,rB,rA,rS,hv,hcv,h5,h1,h4,h3,hlt,hpg,hpp,List.length_map,Nat.zero_add,List.nil_append,q0.1,q0.2,ZFc,h,h2,hgo,hdo,hpo,and_self,true_or,false_or,or_self,and_false,false_and,true_and,not_true_eq_false,not_false_eq_true,if_true,if_false,ZO,ZG,ge_iff_le,ne_eq]
theorem ZHQ (l:List Yr) (hn:l.length≤1048576):EE F 269 [L 3 (l.map Yr.u)] []=some ⟨[.sc (.own (.par 0) l.length)],[.row 3 (l.map Yr.u)],[]⟩:=by
 rw [R269,b269]
 have h1:l.length≤maxLen:=by simp [maxLen]; omega
 have h2:l.length*24≤140737488355328:=by omega
 have h3:∀ n:Nat,¬(n:Int)<0:=fun n=>by omega
 simp only[↓xP,xT,rL,rB,rA,rS,h1,h2]
def pc (id:Id) (b:Bool) (l:List Yl):C:=match b with
 | false=>.u (.sl 2 (l.map Yl.u))
 | true=>.own id l.length
theorem ofR:(∀ (st:St) d res x y z,St.ofRet st d ⟨res,[x,y,z],[]⟩=(((st.obj (.loc d 0) (some x)).obj (.loc d 1) (some y)).obj (.loc d 2) (some z)).put d (retD (res.map (T.mapC (C.ren (Zah d))))))∧
 (∀ (st:St) d res x y z w,St.ofRet st d ⟨res,[x,y,z,w],[]⟩=((((st.obj (.loc d 0) (some x)).obj (.loc d 1) (some y)).obj (.loc d 2) (some z)).obj (.loc d 3) (some w)).put d (retD (res.map (T.mapC (C.ren (Zah d))))))∧List.range 3=[0,1,2]∧List.range 4=[0,1,2,3]:=
 ⟨fun st d res x y z=>rfl,fun st d res x y z w=>rfl,rfl,rfl⟩
def cmpI (a b:Int):Int:=if a<b then -1 else if b<a then 1 else 0
theorem ZOu (x:Int):EE F 343 [I x] []=ok1 (B false):=by
 rw [R343,b343]
 simp only[↓xP,xT,rL,rB,rA,rS,ne_eq,not_true_eq_false]
theorem ZNt (a b:Int):EE F 314 [I a,I b] []=ok1 (I (cmpI a b)):=by
 rw [R314,b314]
 simp only[↓xP,xT,rL,rB,rA,rS,ZOu]
 unfold cmpI
 by_cases h1:a<b
 ·simp only[h1,if_true,decide_true,sel]
 ·by_cases h2:b<a
  ·simp only[h1,h2,if_true,if_false,decide_true,decide_false,sel,gt_iff_lt,Bool.false_eq_true]
  ·simp only[h1,h2,if_true,if_false,decide_true,decide_false,sel,gt_iff_lt,Bool.false_eq_true]
theorem ZIC (a b c:Int) (x:Int):EE F 313 [.ag [.u (.int .i64 a),.u (.int .i64 b),.u (.int .i64 c)],I x] []=ok1 (I (cmpI a x)):=by
 rw [R313,b313]
 simp only[↓xP,xT,rL,rB,rA,rS,ZNt]
theorem ZLw (l:List Yl) (key:Str) (v:Int) (hn:l.length≤1048576):EE F 218 [L 2 (l.map Yl.u),S key,I v] []=Z1 Yl.u 2 (Z5 l key v):=by
 rw [R218,b218]
 have hv:=ZFu l
 cases h:ZB l
 ·rw [h] at hv
  simp only[↓xP,xT,rL,rB,rA,rS,hv,Z5,h,Bool.false_eq_true,false_and,if_false,Z1,List.map_nil,List.length_nil]
 rw [h] at hv
 have hl48:=Z0 h
 have hkv:=ZFz key
 cases hk:ZT key
 ·rw [hk] at hkv
  simp only[↓xP,xT,rL,rB,rA,rS,hv,hkv,Z5,hk,Bool.false_eq_true,false_and,and_false,if_false,Z1,List.map_nil,List.length_nil]
 rw [hk] at hkv
 cases hr:inR v 0 999
 ·simp only[↓xP,xT,rL,rB,rA,rS,hv,hkv,ZFA,hr,Z5,Bool.false_eq_true,false_and,and_false,if_false,Z1,List.map_nil,List.length_nil]
 have hpl:=ZFZ l key (ZHO h) (by omega)
 have hple:=ZF5 key l
 rw [ZJc] at hpl
 have e0:((0:Nat):Int)=0:=rfl
 have e1:((1:Nat):Int)=1:=rfl
 have hmap : [[U.str key,U.int .i64 v]]=List.map Yl.u [⟨key,v⟩]:=rfl
 cases hh:hit key l with
 | some p=>
  have h1:=(ZGu hh).1
  have hlt:=(List.getElem?_eq_some_iff.1 h1).1
  have hre:=ZHk l [⟨key,v⟩] (place key l) 1 (by omega) (by simp only[List.length_cons,List.length_nil]; omega)
  rw [e1,←hmap] at hre
  have hpp:Z5 l key v=(rep l (place key l) 1 [⟨key,v⟩],true):=by simp only[Z5,h,hk,hr,hh,Option.isSome_some,and_self,if_true]
  rw [hh,Option.isSome_some] at hpl
  simp only[↓xP,xT,rL,rB,rA,rS,hv,hkv,ZFA,hr,hpl,hre,hpp,Z1]
 | none=>
  rw [hh,Option.isSome_none] at hpl
  by_cases h48:48≤l.length
  ·have h48':(48:Int)≤(l.length:Int):=by omega
   have hc:=ZGg l (by omega)
   have hpp:Z5 l key v=(l,false):=by simp only[Z5,h,hk,hr,hh,Option.isSome_none,Bool.false_eq_true,if_false,h48,and_self,if_true]
   simp only[↓xP,xT,rL,rB,rA,rS,hv,hkv,ZFA,hr,hpl,List.length_map,ge_iff_le,h48',hc,hpp,Z1]
  ·have h48':¬(48:Int)≤(l.length:Int):=by omega
   have hre:=ZHk l [⟨key,v⟩] (place key l) 0 (by omega) (by simp only[List.length_cons,List.length_nil]; omega)
   rw [e0,←hmap] at hre
   have hpp:Z5 l key v=(rep l (place key l) 0 [⟨key,v⟩],true):=by simp only[Z5,h,hk,hr,hh,Option.isSome_none,Bool.false_eq_true,if_false,h48,and_self,if_true]
   simp only[↓xP,xT,rL,rB,rA,rS,hv,hkv,ZFA,hr,hpl,List.length_map,ge_iff_le,h48',hre,hpp,Z1]
theorem ZKG (l:List Yl) (key:Str) (hn:l.length≤1048576):EE F 217 [L 2 (l.map Yl.u),S key] []=Z1 Yl.u 2 (ZFg l key):=by
 rw [R217,b217]
 have hv:=ZFu l
 cases h:ZB l
 ·rw [h] at hv
  simp only[↓xP,xT,rL,rB,rA,rS,hv,ZFg,h,Bool.false_eq_true,false_and,if_false,Z1,List.map_nil,List.length_nil]
 rw [h] at hv
 have hl48:=Z0 h
 have hpl:=ZFZ l key (ZHO h) (by omega)
 have hple:=ZF5 key l
 rw [ZJc] at hpl
 have e1:((1:Nat):Int)=1:=rfl
 cases hh:hit key l with
 | some p=>
  have h1:=(ZGu hh).1
  have hlt:=(List.getElem?_eq_some_iff.1 h1).1
  have hre:=ZHk l [] (place key l) 1 (by omega) (by simp only[List.length_nil]; omega)
  rw [e1,List.map_nil] at hre
  have hpp:ZFg l key=(rep l (place key l) 1 [],true):=by simp only[ZFg,h,hh,Option.isSome_some,if_true]
  rw [hh,Option.isSome_some] at hpl
  simp only[↓xP,xT,rL,rB,rA,rS,hv,hpl,hre,hpp,Z1]
 | none=>
  rw [hh,Option.isSome_none] at hpl
  have hc:=ZGg l (by omega)
  have hpp:ZFg l key=(l,false):=by simp only[ZFg,h,hh,Option.isSome_none,Bool.false_eq_true,if_false,if_true]
  simp only[↓xP,xT,rL,rB,rA,rS,hv,hpl,hc,hpp,Z1]
def fxl1 (d n k:Nat) (ok:Bool) (ids:List Id) (r:Option (List (List U))):Option Fx:=if ok=true∧ids=[] then r.map fun r=>⟨some d,.t (.sc (.own (.loc d 0) n)),[(.loc d 0,.row k r)],[]⟩ else none
theorem ZOE:(∀ (E:Zb) (st:St) d n zero ps,fx E st (.lit d n zero ps)=fxl1 d n zero.length (st.dead d 1) (st.partIds ps) (st.fillRows zero.length (List.replicate n zero) ps))∧
 (∀ d n k r,fxl1 d n k true [] (some r)=some ⟨some d,.t (.sc (.own (.loc d 0) n)),[(.loc d 0,.row k r)],[]⟩):=by
 refine ⟨fun E st d n zero ps=>?_,fun d n k r=>rfl⟩
 simp only[fx,fxl1]
theorem ZX {α:Type} {l:List α} {i:Nat} {x:α} (h:l[i]?=some x):l.drop i=x::l.drop (i+1):=by
 have hi:=(List.getElem?_eq_some_iff.1 h).1
 rw [List.drop_eq_getElem_cons hi,(List.getElem?_eq_some_iff.1 h).2]
def ZIB (c:Yf):Bool:=decide (c.epoch=0)&&decide (c.members.length=0)&&!c.fresh
theorem ZJt (e:Int) (l:List Int) (f:Bool):EE F 245 [.ag [.u (.int .i64 e),.u (.sl 1 (l.map iU)),.u (.bool f)]] []=ok1 (B (ZIB ⟨e,l,f⟩)):=by
 rw [R245,b245]
 simp only[↓xP,xT,rL,rB,rA,rS]
 repeat' (refine ZiE (fun h=>?_) (fun h=>?_))
 all_goals simp_all [ZIB]
theorem ZJu (e:Int) (l:List Int) (f:Bool):EE F 249 [.ag [.u (.int .i64 e),.u (.sl 1 (l.map iU)),.u (.bool f)]] []=ok1 (B (ZIB ⟨e,l,f⟩)):=by
 rw [R249,b249]
 simp only[↓xP,xT,rL,rB,rA,rS]
 repeat' (refine ZiE (fun h=>?_) (fun h=>?_))
 all_goals simp_all [ZIB]
def ZL (l:List Yh):Bool:=decide (l.length≤24)&&l.all ZP
theorem ZGs (l:List Yh) (hn:l.length≤4611686018427387904):EE F 213 [L 6 (l.map Yh.u)] []=ok1 (B (ZL l)):=by
 rw [R213,b213]
 simp only[↓xP,xT,rL,rB,rA,rS]
 refine ZiE (fun h=>?_) (fun h=>?_)
 ·have:¬l.length≤24:=by simp at h; omega
  simp [ZL,this]
 have hl:l.length≤24:=by simp at h; omega
 refine (Zjc (fun (i:Nat) st=>st.s 8=DU (.sl 6 (l.map Yh.u))∧st.s 9=DI l.length∧st.s 10=DI i) (fun i=>l.length - i) (fun i=>ok1 (B ((l.drop i).all ZP))) ?_ 0 (by and_intros<;>first|omega|rfl|(simp only[↓xP,xT,rL,rB,rA,rS]<;>first|done|rfl|omega))).trans (by simp [ZL,hl])
 rintro i st ⟨h8,h9,h10⟩ ih
 by_cases hi:i<l.length
 ·obtain ⟨⟨c,s,k,key,v,o⟩,hx⟩:∃ x,l[i]?=some x:=⟨_,List.getElem?_eq_getElem hi⟩
  have hw:=w_succ (i:=i) (by omega)
  simp only[↓xP,xT,rL,rB,rA,rS,h8,h9,h10,hi,hx,hw,Yh.u,ZGV]
  rw [ZX hx]
  refine ZiE (fun h=>?_) (fun h=>?_)
  ·simp_all
  ·rw [ih (i+1) _ (by omega) (by and_intros<;>first|omega|rfl|(simp only[↓xP,xT,rL,rB,rA,rS,h8,h9]<;>first|done|rfl|omega))]; simp_all
 ·simp only[↓xP,xT,rL,rB,rA,rS,h8,h9,h10,hi]
  rw [List.drop_of_length_le (by omega)]; rfl
theorem ZGt (l:List Yh) (hn:l.length≤4611686018427387904):EE F 205 [L 6 (l.map Yh.u)] []=ok1 (B (ZL l)):=by
 rw [R205,b205]
 simp only[↓xP,xT,rL,rB,rA,rS]
 refine (Zjc (fun (i:Nat) st=>i≤24∧i≤l.length∧st.s 0=DU (.sl 6 (l.map Yh.u))∧st.s 3=DI i) (fun i=>l.length - i) (fun i=>ok1 (B (decide (l.length≤24)&&(l.drop i).all ZP))) ?_ 0 (by and_intros<;>first|omega|rfl|(simp only[↓xP,xT,rL,rB,rA,rS]<;>first|done|rfl|omega))).trans (by simp [ZL])
 rintro i st ⟨h24,hle,h0,h3⟩ ih
 by_cases hi:i<l.length
 ·obtain ⟨⟨c,s,k,key,v,o⟩,hx⟩:∃ x,l[i]?=some x:=⟨_,List.getElem?_eq_getElem hi⟩
  have hw:=w_succ (i:=i) (by omega)
  by_cases hc:i=24
  ·have hc2:((24:Int)≤(i:Int))=True:=by simp; omega
   simp only[↓xP,xT,rL,rB,rA,rS,h0,h3,hi,hx,hw,hc2,Yh.u,ZF6]
   have:¬l.length≤24:=by omega
   simp [this]
  ·have hc2:((24:Int)≤(i:Int))=False:=by simp; omega
   simp only[↓xP,xT,rL,rB,rA,rS,h0,h3,hi,hx,hw,hc2,Yh.u,ZF6]
   rw [ZX hx]
   refine ZiE (fun h=>?_) (fun h=>?_)
   ·simp_all
   ·rw [ih (i+1) _ (by omega) (by and_intros<;>first|omega|rfl|(simp only[↓xP,xT,rL,rB,rA,rS,h0]<;>first|done|rfl|omega))]; simp_all
 ·simp only[↓xP,xT,rL,rB,rA,rS,h0,h3,hi]
  rw [List.drop_of_length_le (by omega)]
  have:l.length≤24:=by omega
  simp [this]
def ZFj (r:Yo):Bool:=if ZIB r.conf=true then !r.ready&&decide (r.log.length=0) else ZR r.conf&&ZL r.log&&(r.ready||decide (r.log.length=0))
theorem ZIZ (e:Int) (ms:List Int) (f rd:Bool) (lg:List Yh) (h1:ms.length≤4611686018427387904) (h2:lg.length≤4611686018427387904):EE F 170 [.ag [.u (.int .i64 e),.u (.sl 1 (ms.map iU)),.u (.bool f),.u (.bool rd),.u (.sl 6 (lg.map Yh.u))]] []=ok1 (B (ZFj ⟨⟨e,ms,f⟩,rd,lg⟩)):=by
 rw [R170,b170]
 have a:=ZGz e ms f h1
 have b:=ZGs lg h2
 simp only[↓xP,xT,rL,rB,rA,rS,ZJt,a,b]
 repeat' (refine ZiE (fun h=>?_) (fun h=>?_))
 all_goals simp_all [ZFj]
theorem ZI0 (e:Int) (ms:List Int) (f rd:Bool) (lg:List Yh) (h1:ms.length≤4611686018427387904) (h2:lg.length≤4611686018427387904):EE F 185 [.ag [.u (.int .i64 e),.u (.sl 1 (ms.map iU)),.u (.bool f),.u (.bool rd),.u (.sl 6 (lg.map Yh.u))]] []=ok1 (B (ZFj ⟨⟨e,ms,f⟩,rd,lg⟩)):=by
 rw [R185,b185]
 have a:=ZGA e ms f h1
 have b:=ZGt lg h2
 simp only[↓xP,xT,rL,rB,rA,rS,ZJu,a,b]
 repeat' (refine ZiE (fun h=>?_) (fun h=>?_))
 all_goals simp_all [ZFj]
def Z2 (m:Yk):Bool:=decide (1≤m.epoch)&&decide (m.epoch≤60)&&(if m.kind=1 then inR m.to_ 0 4&&ZR m.conf&&decide (m.conf.epoch=m.epoch)&&decide (m.log.length=0) else if m.kind=2 then inR m.to_ 0 4&&ZIB m.conf&&ZL m.log else if m.kind=3 then decide (m.to_ = -1)&&ZIB m.conf&&decide (m.log.length=0) else false)
theorem ZIU (k t ep e:Int) (ms:List Int) (f:Bool) (lg:List Yh) (h1:ms.length≤4611686018427387904) (h2:lg.length≤4611686018427387904):EE F 244 [.ag [.u (.int .i64 k),.u (.int .i64 t),.u (.int .i64 ep),.u (.int .i64 e),.u (.sl 1 (ms.map iU)),.u (.bool f),.u (.sl 6 (lg.map Yh.u))]] []=ok1 (B (Z2 ⟨k,t,ep,⟨e,ms,f⟩,lg⟩)):=by
 rw [R244,b244]
 have a:=ZGz e ms f h1
 have b:=ZGs lg h2
 simp only[↓xP,xT,rL,rB,rA,rS,ZJt,a,b,ZHD]
 repeat' (refine ZiE (fun h=>?_) (fun h=>?_))
 all_goals first|(simp_all [Z2,inR]; done)|(simp_all [Z2,inR]; grind)|(simp_all [Z2,inR,ZR]; done)|(simp_all [Z2,inR,ZR]; grind)|skip
theorem ZIV (k t ep e:Int) (ms:List Int) (f:Bool) (lg:List Yh) (h1:ms.length≤4611686018427387904) (h2:lg.length≤4611686018427387904):EE F 248 [.ag [.u (.int .i64 k),.u (.int .i64 t),.u (.int .i64 ep),.u (.int .i64 e),.u (.sl 1 (ms.map iU)),.u (.bool f),.u (.sl 6 (lg.map Yh.u))]] []=ok1 (B (Z2 ⟨k,t,ep,⟨e,ms,f⟩,lg⟩)):=by
 rw [R248,b248]
 have a:=ZGA e ms f h1
 have b:=ZGt lg h2
 simp only[↓xP,xT,rL,rB,rA,rS,ZJu,a,b,ZU]
 repeat' (refine ZiE (fun h=>?_) (fun h=>?_))
 all_goals first|(simp_all [Z2,inR]; done)|(simp_all [Z2,inR]; grind)|(simp_all [Z2,inR,ZR]; done)|(simp_all [Z2,inR,ZR]; grind)|skip
def ZHn (l:List Yk):Bool:=decide (l.length≤10)&&l.all Z2
theorem ZKu (l:List Yk) (hs:ZFy l):EE F 169 [L 7 (l.map Yk.u)] []=ok1 (B (ZHn l)):=by
 have hn:=hs.1
 rw [R169,b169]
 simp only[↓xP,xT,rL,rB,rA,rS]
 refine ZiE (fun h=>?_) (fun h=>?_)
 ·have:¬l.length≤10:=by simp at h; omega
  simp [ZHn,this]
 have hl:l.length≤10:=by simp at h; omega
 refine (Zjc (fun (i:Nat) st=>st.s 8=DU (.sl 7 (l.map Yk.u))∧st.s 9=DI l.length∧st.s 10=DI i) (fun i=>l.length - i) (fun i=>ok1 (B ((l.drop i).all Z2))) ?_ 0 (by and_intros<;>first|omega|rfl|(simp only[↓xP,xT,rL,rB,rA,rS]<;>first|done|rfl|omega))).trans (by simp [ZHn,hl])
 rintro i st ⟨h8,h9,h10⟩ ih
 by_cases hi:i<l.length
 ·obtain ⟨⟨k,t,ep,⟨e,ms,f⟩,lg⟩,hx⟩:∃ x,l[i]?=some x:=⟨_,List.getElem?_eq_getElem hi⟩
  have hw:=w_succ (i:=i) (by omega)
  have hsx:=hs.2 _ (List.mem_of_getElem? hx)
  have hm:=ZIU k t ep e ms f lg (by have:=hsx.1.1.1; simp only at this; omega) (by have:=hsx.2.1.1; simp only at this; omega)
  simp only[↓xP,xT,rL,rB,rA,rS,h8,h9,h10,hi,hx,hw,Yk.u,hm]
  rw [ZX hx]
  refine ZiE (fun h=>?_) (fun h=>?_)
  ·simp_all
  ·rw [ih (i+1) _ (by omega) (by and_intros<;>first|omega|rfl|(simp only[↓xP,xT,rL,rB,rA,rS,h8,h9]<;>first|done|rfl|omega))]; simp_all
 ·simp only[↓xP,xT,rL,rB,rA,rS,h8,h9,h10,hi]
  rw [List.drop_of_length_le (by omega)]; rfl
theorem ZKv (l:List Yk) (hs:ZFy l):EE F 184 [L 7 (l.map Yk.u)] []=ok1 (B (ZHn l)):=by
 have hn:=hs.1
 rw [R184,b184]
 simp only[↓xP,xT,rL,rB,rA,rS]
 refine (Zjc (fun (i:Nat) st=>i≤10∧i≤l.length∧st.s 0=DU (.sl 7 (l.map Yk.u))∧st.s 3=DI i) (fun i=>l.length - i) (fun i=>ok1 (B (decide (l.length≤10)&&(l.drop i).all Z2))) ?_ 0 (by and_intros<;>first|omega|rfl|(simp only[↓xP,xT,rL,rB,rA,rS]<;>first|done|rfl|omega))).trans (by simp [ZHn])
 rintro i st ⟨h24,hle,h0,h3⟩ ih
 by_cases hi:i<l.length
 ·obtain ⟨⟨k,t,ep,⟨e,ms,f⟩,lg⟩,hx⟩:∃ x,l[i]?=some x:=⟨_,List.getElem?_eq_getElem hi⟩
  have hw:=w_succ (i:=i) (by omega)
  have hsx:=hs.2 _ (List.mem_of_getElem? hx)
  have hm:=ZIV k t ep e ms f lg (by have:=hsx.1.1.1; simp only at this; omega) (by have:=hsx.2.1.1; simp only at this; omega)
  by_cases hc:i=10
  ·have hc2:((10:Int)≤(i:Int))=True:=by simp; omega
   simp only[↓xP,xT,rL,rB,rA,rS,h0,h3,hi,hx,hw,hc2,Yk.u,hm]
   have:¬l.length≤10:=by omega
   simp [this]
  ·have hc2:((10:Int)≤(i:Int))=False:=by simp; omega
   simp only[↓xP,xT,rL,rB,rA,rS,h0,h3,hi,hx,hw,hc2,Yk.u,hm]
   rw [ZX hx]
   refine ZiE (fun h=>?_) (fun h=>?_)
   ·simp_all
   ·rw [ih (i+1) _ (by omega) (by and_intros<;>first|omega|rfl|(simp only[↓xP,xT,rL,rB,rA,rS,h0]<;>first|done|rfl|omega))]; simp_all
 ·simp only[↓xP,xT,rL,rB,rA,rS,h0,h3,hi]
  rw [List.drop_of_length_le (by omega)]
  have:l.length≤10:=by omega
  simp [this]
def ZFk (a:Ya):Bool:=ZP a.asked&&inR a.reply (-4) 999
def ZW (l:List Ya):Bool:=decide (l.length≤24)&&l.all ZFk
theorem ZJC (l:List Ya) (hn:l.length≤4611686018427387904):EE F 171 [L 7 (l.map Ya.u)] []=ok1 (B (ZW l)):=by
 rw [R171,b171]
 simp only[↓xP,xT,rL,rB,rA,rS]
 refine ZiE (fun h=>?_) (fun h=>?_)
 ·have:¬l.length≤24:=by simp at h; omega
  simp [ZW,this]
 have hl:l.length≤24:=by simp at h; omega
 refine (Zjc (fun (i:Nat) st=>st.s 8=DU (.sl 7 (l.map Ya.u))∧st.s 9=DI l.length∧st.s 10=DI i) (fun i=>l.length - i) (fun i=>ok1 (B ((l.drop i).all ZFk))) ?_ 0 (by and_intros<;>first|omega|rfl|(simp only[↓xP,xT,rL,rB,rA,rS]<;>first|done|rfl|omega))).trans (by simp [ZW,hl])
 rintro i st ⟨h8,h9,h10⟩ ih
 by_cases hi:i<l.length
 ·obtain ⟨⟨⟨c,s,k,key,v,o⟩,r⟩,hx⟩:∃ x,l[i]?=some x:=⟨_,List.getElem?_eq_getElem hi⟩
  have hw:=w_succ (i:=i) (by omega)
  simp only[↓xP,xT,rL,rB,rA,rS,h8,h9,h10,hi,hx,hw,Ya.u,ZGV]
  rw [ZX hx]
  repeat' (refine ZiE (fun h=>?_) (fun h=>?_))
  all_goals first|(rw [ih (i+1) _ (by omega) (by and_intros<;>first|omega|rfl|(simp only[↓xP,xT,rL,rB,rA,rS,h8,h9]<;>first|done|rfl|omega))]; simp_all [ZFk,inR]; done)|(simp_all [ZFk,inR]; done)|(simp_all [ZFk,inR]; grind)|skip
 ·simp only[↓xP,xT,rL,rB,rA,rS,h8,h9,h10,hi]
  rw [List.drop_of_length_le (by omega)]; rfl
def ZE (c:Yc):Bool:=ZD c.base&&ZR c.conf&&decide (c.nodes.length=5)&&decide (c.up.length=5)&&ZHn c.bag&&(c.nodes.all fun r=>ZFj r&&decide (r.conf.epoch≤c.conf.epoch))&&(c.bag.all fun m=>decide (m.epoch≤c.conf.epoch))&&ZW c.answers
theorem ZHK (c0 c1:Str) (c2:List Yl) (c3:List Yr) (c4:Bool) (c5:Str) (c6:Int) (c7:List Int) (c8:Bool) (c9:List Yo) (c10:List Bool) (c11:List Yk) (c12:List Ya) (hs:Yc.Small ⟨⟨⟨c0,c1⟩,c2,c3,c4,c5⟩,⟨c6,c7,c8⟩,c9,c10,c11,c12⟩):EE F 85 [.ag [.u (.str c0),.u (.str c1),.u (.sl 2 (c2.map Yl.u)),.u (.sl 3 (c3.map Yr.u)),.u (.bool c4),.u (.str c5),.u (.int .i64 c6),.u (.sl 1 (c7.map iU)),.u (.bool c8),.u (.sl 5 (c9.map Yo.u)),.u (.sl 1 (c10.map bU)),.u (.sl 7 (c11.map Yk.u)),.u (.sl 7 (c12.map Ya.u))]] []=ok1 (B (ZE ⟨⟨⟨c0,c1⟩,c2,c3,c4,c5⟩,⟨c6,c7,c8⟩,c9,c10,c11,c12⟩)):=by
 rw [R85,b85]
 obtain ⟨hb,hcf,hnd,hup,hbag,hans,_⟩:=hs
 have a1:=ZF7 c0 c1 c2 c3 c4 c5 (by have:=hb.2.2.1.1; simp only at this; omega)
 have a2:=ZGz c6 c7 c8 (by have:=hcf.1.1; simp only at this; omega)
 have a3:=ZKu c11 hbag
 have a4:=ZJC c12 (by have:=hans.1; simp only at this; omega)
 have hnl:c9.length≤1048576:=hnd.1
 have hbl:c11.length≤1048576:=hbag.1
 simp only[↓xP,xT,rL,rB,rA,rS,a1,a2,a3,List.length_map,ne_eq]
 refine ZiE (fun h=>?_) (fun g1=>?_)
 ·rw [Bool.not_eq_true'] at h; simp [ZE,h]
 refine ZiE (fun h=>?_) (fun g2=>?_)
 ·rw [Bool.not_eq_true'] at h; simp [ZE,h]
 refine ZiE (fun h=>?_) (fun g3=>?_)
 ·have:¬c9.length=5:=by simp at h; omega
  simp [ZE,this]
 refine ZiE (fun h=>?_) (fun g4=>?_)
 ·have:¬c10.length=5:=by simp at h; omega
  simp [ZE,this]
 refine ZiE (fun h=>?_) (fun g5=>?_)
 ·rw [Bool.not_eq_true'] at h; simp [ZE,h]
 rw [Bool.not_eq_false'] at g1 g2 g5
 have g3':c9.length=5:=by simp at g3; omega
 have g4':c10.length=5:=by simp at g4; omega
 have hcv:ZE ⟨⟨⟨c0,c1⟩,c2,c3,c4,c5⟩,⟨c6,c7,c8⟩,c9,c10,c11,c12⟩=((c9.all fun r=>ZFj r&&decide (r.conf.epoch≤c6))&&((c11.all fun m=>decide (m.epoch≤c6))&&ZW c12)):=by
  simp only[ZE,g1,g2,g3',g4',g5,decide_true,Bool.and_true,Bool.true_and,Bool.and_assoc]
 rw [hcv]
 refine Zjc (fun (i:Nat) st=>st.s 1=.t (.sc (.ptr (.loc 1 0) 0 0))∧st.o (.loc 1 0)=some (.box [.u (.str c0),.u (.str c1),.u (.sl 2 (c2.map Yl.u)),.u (.sl 3 (c3.map Yr.u)),.u (.bool c4),.u (.str c5),.u (.int .i64 c6),.u (.sl 1 (c7.map iU)),.u (.bool c8),.u (.sl 5 (c9.map Yo.u)),.u (.sl 1 (c10.map bU)),.u (.sl 7 (c11.map Yk.u)),.u (.sl 7 (c12.map Ya.u))])∧st.s 36=DU (.sl 5 (c9.map Yo.u))∧st.s 37=DI c9.length∧st.s 38=DI i) (fun i=>c9.length - i) (fun i=>ok1 (B (((c9.drop i).all fun r=>ZFj r&&decide (r.conf.epoch≤c6))&&((c11.all fun m=>decide (m.epoch≤c6))&&ZW c12)))) ?_ 0 (by and_intros<;>first|omega|rfl|(simp only[↓xP,xT,rL,rB,rA,rS]<;>first|done|rfl|omega))
 rintro i st ⟨h1,ho,h36,h37,h38⟩ ih
 by_cases hi:i<c9.length
 ·obtain ⟨⟨⟨e,ms,f⟩,rd,lg⟩,hx⟩:∃ x,c9[i]?=some x:=⟨_,List.getElem?_eq_getElem hi⟩
  have hw:=w_succ (i:=i) (by omega)
  have hsx:=hnd.2 _ (List.mem_of_getElem? hx)
  have hr:=ZIZ e ms f rd lg (by have:=hsx.1.1.1; simp only at this; omega) (by have:=hsx.2.1.1; simp only at this; omega)
  simp only[↓xP,xT,rL,rB,rA,rS,h1,ho,h36,h37,h38,hi,hx,hw,Yo.u,hr]
  rw [ZX hx,List.all_cons]
  refine ZiE (fun h=>?_) (fun q1=>?_)
  ·rw [Bool.not_eq_true'] at h; simp [h]
  refine ZiE (fun h=>?_) (fun q2=>?_)
  ·have:¬e≤c6:=by simp at h; omega
   simp [this]
  rw [Bool.not_eq_false'] at q1
  have q2':e≤c6:=by simp at q2; omega
  rw [ih (i+1) _ (by omega) (by and_intros<;>first|omega|rfl|(simp only[↓xP,xT,rL,rB,rA,rS,h1,ho,h36,h37]<;>first|done|rfl|omega))]
  simp [q1,q2']
 simp only[↓xP,xT,rL,rB,rA,rS,h1,ho,h36,h37,h38,hi]
 rw [List.drop_of_length_le (by omega),List.all_nil,Bool.true_and]
 refine Zjc (fun (i:Nat) st=>st.s 1=.t (.sc (.ptr (.loc 1 0) 0 0))∧st.o (.loc 1 0)=some (.box [.u (.str c0),.u (.str c1),.u (.sl 2 (c2.map Yl.u)),.u (.sl 3 (c3.map Yr.u)),.u (.bool c4),.u (.str c5),.u (.int .i64 c6),.u (.sl 1 (c7.map iU)),.u (.bool c8),.u (.sl 5 (c9.map Yo.u)),.u (.sl 1 (c10.map bU)),.u (.sl 7 (c11.map Yk.u)),.u (.sl 7 (c12.map Ya.u))])∧st.s 56=DU (.sl 7 (c11.map Yk.u))∧st.s 57=DI c11.length∧st.s 58=DI i) (fun i=>c11.length - i) (fun i=>ok1 (B (((c11.drop i).all fun m=>decide (m.epoch≤c6))&&ZW c12))) ?_ 0 (by and_intros<;>first|omega|rfl|(simp only[↓xP,xT,rL,rB,rA,rS,h1,ho]<;>first|done|rfl|omega))
 clear h1 ho h36 h37 h38 hi ih
 rintro i st ⟨h1,ho,h36,h37,h38⟩ ih
 by_cases hi:i<c11.length
 ·obtain ⟨⟨k,t,ep,⟨e,ms,f⟩,lg⟩,hx⟩:∃ x,c11[i]?=some x:=⟨_,List.getElem?_eq_getElem hi⟩
  have hw:=w_succ (i:=i) (by omega)
  simp only[↓xP,xT,rL,rB,rA,rS,h1,ho,h36,h37,h38,hi,hx,hw,Yk.u]
  rw [ZX hx,List.all_cons]
  refine ZiE (fun h=>?_) (fun q2=>?_)
  ·have:¬ep≤c6:=by simp at h; omega
   simp [this]
  have q2':ep≤c6:=by simp at q2; omega
  rw [ih (i+1) _ (by omega) (by and_intros<;>first|omega|rfl|(simp only[↓xP,xT,rL,rB,rA,rS,h1,ho,h36,h37]<;>first|done|rfl|omega))]
  simp [q2']
 simp only[↓xP,xT,rL,rB,rA,rS,h1,ho,h36,h37,h38,hi,a4]
 rw [List.drop_of_length_le (by omega),List.all_nil,Bool.true_and]
end Go.Proofs.YtfajcehhcjmofaaGreatV
