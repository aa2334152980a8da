/- Lemmas of functions that the law FnExactClusterSafe reaches. No conditions but those that the lemmas state. -/
import Derived.Test.YtfajcehhcjmofaaGreatJ
import Derived.Test.YtfajcehhcjmofaaGreatS7
import Derived.Test.YtfajcehhcjmofaaGreatS8
import Derived.Test.YtfajcehhcjmofaaGreatV28
namespace Go.Proofs.YtfajcehhcjmofaaGreatV
open Go Go.RowKit
open Nat renaming reduceLT → rL, reduceAdd → rA, reduceSub → rS, reduceBEq → rB
open IOp (dst isF args)
set_option linter.unusedVariables false
set_option linter.unusedSimpArgs false
set_option maxRecDepth 4000
abbrev Str:=List UInt8
abbrev B (b:Bool):T:=.sc (.u (.bool b))
abbrev S (b:Str):T:=.sc (.u (.str b))
abbrev I (n:Int):T:=.sc (.u (.int .i64 n))
abbrev L (z:Nat) (r:List (List U)):T:=.sc (.u (.sl z r))
abbrev ok1 (t:T):Option Ret:=some ⟨[t],[],[]⟩
def iU (n:Int):List U:=[.int .i64 n]
def bU (b:Bool):List U:=[.bool b]
def ZFc (x:Int):Prop:=-9223372036854775808≤x∧x≤9223372036854775807
theorem UT.int_of {u:U} (h:UT (.i .i64) u):∃ n,u=.int .i64 n∧ZFc n:=by
 cases h with
 | i k n h=>exact ⟨n,rfl,bounds_i64 h⟩
theorem UT.u8_of {u:U} (h:UT (.i .u8) u):∃ n,u=.int .u8 n∧0≤n∧n≤255:=by
 cases h with
 | i k n h=>exact ⟨n,rfl,bounds_u8 h⟩
theorem UT.bool_of {u:U} (h:UT .b u):∃ b,u=.bool b:=by
 cases h with
 | b x=>exact ⟨x,rfl⟩
theorem UT.str_of {u:U} (h:UT .s u):∃ s,u=.str s∧s.length≤9223372036854775807:=by
 cases h with
 | s x h=>exact ⟨x,rfl,h⟩
theorem ZNl {α:Type} {f:α→List U} {p:α→Prop}:∀ {rows:List (List U)},(∀ row,row∈rows→∃ x,row=f x∧p x)→∃ l:List α,rows=l.map f∧∀ y,y∈l→p y
 | [],_=>⟨[],rfl,fun y h=>by cases h⟩
 | r::rs,h=>by
  obtain ⟨x,hx,px⟩:=h r (List.mem_cons_self ..)
  obtain ⟨l,hl,pl⟩:=ZNl (rows:=rs) (fun row hr=>h row (List.mem_cons_of_mem _ hr))
  refine ⟨x::l,by rw [hx,hl]; rfl,fun y hy=>?_⟩
  rcases List.mem_cons.1 hy with rfl|hy
  ·exact px
  ·exact pl y hy
theorem UT.sl_of {fs:List Ty} {u:U} (h:UT (.sl fs) u) {α:Type} {f:α→List U} {p:α→Prop} (he:∀ us:List U,us.length=fs.length→(∀ (j:Nat) ty u,fs[j]?=some ty→us[j]?=some u→UT ty u)→∃ x,us=f x∧p x) :
  ∃ l:List α,u=.sl fs.length (l.map f)∧l.length≤9223372036854775807∧∀ y,y∈l→p y:=by
 cases h with
 | sl _ rows hl hr hc=>
  obtain ⟨l,rfl,hp⟩:=ZNl (f:=f) (p:=p) (rows:=rows) (fun row hrow=>he row (hr row hrow) (fun j ty u hj hu=>by
   obtain ⟨i,hi⟩:=List.mem_iff_getElem?.1 hrow
   exact hc i j row ty u hi hj hu))
  have hm:maxLen=9223372036854775807:=by decide
  rw [hm,List.length_map] at hl
  exact ⟨l,rfl,hl,hp⟩
theorem ZMc (us:List U) (hl:us.length=1) (ht:∀ (j:Nat) ty u,[Ty.i .i64][j]?=some ty→us[j]?=some u→UT ty u):∃ x,us=iU x∧ZFc x:=by
 match us,hl with
 | [a],_=>obtain ⟨n,rfl,h⟩:=(ht 0 _ a rfl rfl).int_of; exact ⟨n,rfl,h⟩
theorem ZOw (us:List U) (hl:us.length=1) (ht:∀ (j:Nat) ty u,[Ty.b][j]?=some ty→us[j]?=some u→UT ty u):∃ x,us=bU x∧True:=by
 match us,hl with
 | [a],_=>obtain ⟨n,rfl⟩:=(ht 0 _ a rfl rfl).bool_of; exact ⟨n,rfl,trivial⟩
structure Yj where
 low:Str
 high:Str
def Yj.u (x:Yj):List U:=[.str x.low,.str x.high]
def Yj.Fit (x:Yj):Prop:=x.low.length≤9223372036854775807∧x.high.length≤9223372036854775807
theorem Yj.of (us:List U) (hl:us.length=2) (ht:∀ (j:Nat) ty u,[Ty.s,.s][j]?=some ty→us[j]?=some u→UT ty u):∃ x,us=Yj.u x∧Yj.Fit x:=by
 match us,hl with
 | [c0,c1],_=>
  obtain ⟨x0,rfl,f0⟩:=(ht 0 _ c0 rfl rfl).str_of
  obtain ⟨x1,rfl,f1⟩:=(ht 1 _ c1 rfl rfl).str_of
  exact ⟨⟨x0,x1⟩,rfl,⟨f0,f1⟩⟩
structure Yl where
 key:Str
 value:Int
def Yl.u (x:Yl):List U:=[.str x.key,.int .i64 x.value]
def Yl.Fit (x:Yl):Prop:=x.key.length≤9223372036854775807∧ZFc x.value
theorem Yl.of (us:List U) (hl:us.length=2) (ht:∀ (j:Nat) ty u,[Ty.s,.i .i64][j]?=some ty→us[j]?=some u→UT ty u):∃ x,us=Yl.u x∧Yl.Fit x:=by
 match us,hl with
 | [c0,c1],_=>
  obtain ⟨x0,rfl,f0⟩:=(ht 0 _ c0 rfl rfl).str_of
  obtain ⟨x1,rfl,f1⟩:=(ht 1 _ c1 rfl rfl).int_of
  exact ⟨⟨x0,x1⟩,rfl,⟨f0,f1⟩⟩
structure Ye where
 kind:Int
 key:Str
 value:Int
 old:Int
def Ye.u (x:Ye):List U:=[.int .i64 x.kind,.str x.key,.int .i64 x.value,.int .i64 x.old]
def Ye.Fit (x:Ye):Prop:=ZFc x.kind∧x.key.length≤9223372036854775807∧ZFc x.value∧ZFc x.old
theorem Ye.of (us:List U) (hl:us.length=4) (ht:∀ (j:Nat) ty u,[Ty.i .i64,.s,.i .i64,.i .i64][j]?=some ty→us[j]?=some u→UT ty u):∃ x,us=Ye.u x∧Ye.Fit x:=by
 match us,hl with
 | [c0,c1,c2,c3],_=>
  obtain ⟨x0,rfl,f0⟩:=(ht 0 _ c0 rfl rfl).int_of
  obtain ⟨x1,rfl,f1⟩:=(ht 1 _ c1 rfl rfl).str_of
  obtain ⟨x2,rfl,f2⟩:=(ht 2 _ c2 rfl rfl).int_of
  obtain ⟨x3,rfl,f3⟩:=(ht 3 _ c3 rfl rfl).int_of
  exact ⟨⟨x0,x1,x2,x3⟩,rfl,⟨f0,f1,f2,f3⟩⟩
structure Yr where
 client:Int
 seq:Int
 reply:Int
def Yr.u (x:Yr):List U:=[.int .i64 x.client,.int .i64 x.seq,.int .i64 x.reply]
def Yr.Fit (x:Yr):Prop:=ZFc x.client∧ZFc x.seq∧ZFc x.reply
theorem Yr.of (us:List U) (hl:us.length=3) (ht:∀ (j:Nat) ty u,[Ty.i .i64,.i .i64,.i .i64][j]?=some ty→us[j]?=some u→UT ty u):∃ x,us=Yr.u x∧Yr.Fit x:=by
 match us,hl with
 | [c0,c1,c2],_=>
  obtain ⟨x0,rfl,f0⟩:=(ht 0 _ c0 rfl rfl).int_of
  obtain ⟨x1,rfl,f1⟩:=(ht 1 _ c1 rfl rfl).int_of
  obtain ⟨x2,rfl,f2⟩:=(ht 2 _ c2 rfl rfl).int_of
  exact ⟨⟨x0,x1,x2⟩,rfl,⟨f0,f1,f2⟩⟩
structure Yh where
 client:Int
 seq:Int
 cmd:Ye
def Yh.u (x:Yh):List U:=[.int .i64 x.client,.int .i64 x.seq,.int .i64 x.cmd.kind,.str x.cmd.key,.int .i64 x.cmd.value,.int .i64 x.cmd.old]
def Yh.Fit (x:Yh):Prop:=ZFc x.client∧ZFc x.seq∧Ye.Fit x.cmd
theorem Yh.of (us:List U) (hl:us.length=6) (ht:∀ (j:Nat) ty u,[Ty.i .i64,.i .i64,.i .i64,.s,.i .i64,.i .i64][j]?=some ty→us[j]?=some u→UT ty u):∃ x,us=Yh.u x∧Yh.Fit x:=by
 match us,hl with
 | [c0,c1,c2,c3,c4,c5],_=>
  obtain ⟨x0,rfl,f0⟩:=(ht 0 _ c0 rfl rfl).int_of
  obtain ⟨x1,rfl,f1⟩:=(ht 1 _ c1 rfl rfl).int_of
  obtain ⟨x2,rfl,f2⟩:=(ht 2 _ c2 rfl rfl).int_of
  obtain ⟨x3,rfl,f3⟩:=(ht 3 _ c3 rfl rfl).str_of
  obtain ⟨x4,rfl,f4⟩:=(ht 4 _ c4 rfl rfl).int_of
  obtain ⟨x5,rfl,f5⟩:=(ht 5 _ c5 rfl rfl).int_of
  exact ⟨⟨x0,x1,⟨x2,x3,x4,x5⟩⟩,rfl,⟨f0,f1,⟨f2,f3,f4,f5⟩⟩⟩
structure Ya where
 asked:Yh
 reply:Int
def Ya.u (x:Ya):List U:=[.int .i64 x.asked.client,.int .i64 x.asked.seq,.int .i64 x.asked.cmd.kind,.str x.asked.cmd.key,.int .i64 x.asked.cmd.value,.int .i64 x.asked.cmd.old,.int .i64 x.reply]
def Ya.Fit (x:Ya):Prop:=Yh.Fit x.asked∧ZFc x.reply
theorem Ya.of (us:List U) (hl:us.length=7) (ht:∀ (j:Nat) ty u,[Ty.i .i64,.i .i64,.i .i64,.s,.i .i64,.i .i64,.i .i64][j]?=some ty→us[j]?=some u→UT ty u):∃ x,us=Ya.u x∧Ya.Fit x:=by
 match us,hl with
 | [c0,c1,c2,c3,c4,c5,c6],_=>
  obtain ⟨x0,rfl,f0⟩:=(ht 0 _ c0 rfl rfl).int_of
  obtain ⟨x1,rfl,f1⟩:=(ht 1 _ c1 rfl rfl).int_of
  obtain ⟨x2,rfl,f2⟩:=(ht 2 _ c2 rfl rfl).int_of
  obtain ⟨x3,rfl,f3⟩:=(ht 3 _ c3 rfl rfl).str_of
  obtain ⟨x4,rfl,f4⟩:=(ht 4 _ c4 rfl rfl).int_of
  obtain ⟨x5,rfl,f5⟩:=(ht 5 _ c5 rfl rfl).int_of
  obtain ⟨x6,rfl,f6⟩:=(ht 6 _ c6 rfl rfl).int_of
  exact ⟨⟨⟨x0,x1,⟨x2,x3,x4,x5⟩⟩,x6⟩,rfl,⟨⟨f0,f1,⟨f2,f3,f4,f5⟩⟩,f6⟩⟩
structure Yt where
 span:Yj
 pairs:(List Yl)
 known:(List Yr)
 sealed:Bool
 cut:Str
def Yt.u (x:Yt):List U:=[.str x.span.low,.str x.span.high,.sl 2 (x.pairs.map Yl.u),.sl 3 (x.known.map Yr.u),.bool x.sealed,.str x.cut]
def Yt.Fit (x:Yt):Prop:=Yj.Fit x.span∧(x.pairs.length≤9223372036854775807∧∀ y,y∈x.pairs→Yl.Fit y)∧(x.known.length≤9223372036854775807∧∀ y,y∈x.known→Yr.Fit y)∧True∧x.cut.length≤9223372036854775807
theorem Yt.of (us:List U) (hl:us.length=6) (ht:∀ (j:Nat) ty u,[Ty.s,.s,.sl [.s,.i .i64],.sl [.i .i64,.i .i64,.i .i64],.b,.s][j]?=some ty→us[j]?=some u→UT ty u):∃ x,us=Yt.u x∧Yt.Fit x:=by
 match us,hl with
 | [c0,c1,c2,c3,c4,c5],_=>
  obtain ⟨x0,rfl,f0⟩:=(ht 0 _ c0 rfl rfl).str_of
  obtain ⟨x1,rfl,f1⟩:=(ht 1 _ c1 rfl rfl).str_of
  obtain ⟨x2,rfl,f2⟩:=(ht 2 _ c2 rfl rfl).sl_of Yl.of
  obtain ⟨x3,rfl,f3⟩:=(ht 3 _ c3 rfl rfl).sl_of Yr.of
  obtain ⟨x4,rfl⟩:=(ht 4 _ c4 rfl rfl).bool_of
  obtain ⟨x5,rfl,f5⟩:=(ht 5 _ c5 rfl rfl).str_of
  exact ⟨⟨⟨x0,x1⟩,x2,x3,x4,x5⟩,rfl,⟨⟨f0,f1⟩,f2,f3,trivial,f5⟩⟩
structure Ym where
 span:Yj
 pairs:(List Yl)
def Ym.u (x:Ym):List U:=[.str x.span.low,.str x.span.high,.sl 2 (x.pairs.map Yl.u)]
def Ym.Fit (x:Ym):Prop:=Yj.Fit x.span∧(x.pairs.length≤9223372036854775807∧∀ y,y∈x.pairs→Yl.Fit y)
theorem Ym.of (us:List U) (hl:us.length=3) (ht:∀ (j:Nat) ty u,[Ty.s,.s,.sl [.s,.i .i64]][j]?=some ty→us[j]?=some u→UT ty u):∃ x,us=Ym.u x∧Ym.Fit x:=by
 match us,hl with
 | [c0,c1,c2],_=>
  obtain ⟨x0,rfl,f0⟩:=(ht 0 _ c0 rfl rfl).str_of
  obtain ⟨x1,rfl,f1⟩:=(ht 1 _ c1 rfl rfl).str_of
  obtain ⟨x2,rfl,f2⟩:=(ht 2 _ c2 rfl rfl).sl_of Yl.of
  exact ⟨⟨⟨x0,x1⟩,x2⟩,rfl,⟨⟨f0,f1⟩,f2⟩⟩
structure Yf where
 epoch:Int
 members:(List Int)
 fresh:Bool
def Yf.u (x:Yf):List U:=[.int .i64 x.epoch,.sl 1 (x.members.map iU),.bool x.fresh]
def Yf.Fit (x:Yf):Prop:=ZFc x.epoch∧(x.members.length≤9223372036854775807∧∀ y,y∈x.members→ZFc y)∧True
theorem Yf.of (us:List U) (hl:us.length=3) (ht:∀ (j:Nat) ty u,[Ty.i .i64,.sl [.i .i64],.b][j]?=some ty→us[j]?=some u→UT ty u):∃ x,us=Yf.u x∧Yf.Fit x:=by
 match us,hl with
 | [c0,c1,c2],_=>
  obtain ⟨x0,rfl,f0⟩:=(ht 0 _ c0 rfl rfl).int_of
  obtain ⟨x1,rfl,f1⟩:=(ht 1 _ c1 rfl rfl).sl_of ZMc
  obtain ⟨x2,rfl⟩:=(ht 2 _ c2 rfl rfl).bool_of
  exact ⟨⟨x0,x1,x2⟩,rfl,⟨f0,f1,trivial⟩⟩
structure Yi where
 kind:Int
 node:Int
 place:Int
 sent:Yh
def Yi.u (x:Yi):List U:=[.int .i64 x.kind,.int .i64 x.node,.int .i64 x.place,.int .i64 x.sent.client,.int .i64 x.sent.seq,.int .i64 x.sent.cmd.kind,.str x.sent.cmd.key,.int .i64 x.sent.cmd.value,.int .i64 x.sent.cmd.old]
def Yi.Fit (x:Yi):Prop:=ZFc x.kind∧ZFc x.node∧ZFc x.place∧Yh.Fit x.sent
theorem Yi.of (us:List U) (hl:us.length=9) (ht:∀ (j:Nat) ty u,[Ty.i .i64,.i .i64,.i .i64,.i .i64,.i .i64,.i .i64,.s,.i .i64,.i .i64][j]?=some ty→us[j]?=some u→UT ty u):∃ x,us=Yi.u x∧Yi.Fit x:=by
 match us,hl with
 | [c0,c1,c2,c3,c4,c5,c6,c7,c8],_=>
  obtain ⟨x0,rfl,f0⟩:=(ht 0 _ c0 rfl rfl).int_of
  obtain ⟨x1,rfl,f1⟩:=(ht 1 _ c1 rfl rfl).int_of
  obtain ⟨x2,rfl,f2⟩:=(ht 2 _ c2 rfl rfl).int_of
  obtain ⟨x3,rfl,f3⟩:=(ht 3 _ c3 rfl rfl).int_of
  obtain ⟨x4,rfl,f4⟩:=(ht 4 _ c4 rfl rfl).int_of
  obtain ⟨x5,rfl,f5⟩:=(ht 5 _ c5 rfl rfl).int_of
  obtain ⟨x6,rfl,f6⟩:=(ht 6 _ c6 rfl rfl).str_of
  obtain ⟨x7,rfl,f7⟩:=(ht 7 _ c7 rfl rfl).int_of
  obtain ⟨x8,rfl,f8⟩:=(ht 8 _ c8 rfl rfl).int_of
  exact ⟨⟨x0,x1,x2,⟨x3,x4,⟨x5,x6,x7,x8⟩⟩⟩,rfl,⟨f0,f1,f2,⟨f3,f4,⟨f5,f6,f7,f8⟩⟩⟩⟩
structure Yn where
 kind:Int
 first:Int
 second:Int
 key:Str
 from_:Int
 to_:Int
 step:Int
def Yn.u (x:Yn):List U:=[.int .i64 x.kind,.int .i64 x.first,.int .i64 x.second,.str x.key,.int .i64 x.from_,.int .i64 x.to_,.int .i64 x.step]
def Yn.Fit (x:Yn):Prop:=ZFc x.kind∧ZFc x.first∧ZFc x.second∧x.key.length≤9223372036854775807∧ZFc x.from_∧ZFc x.to_∧ZFc x.step
theorem Yn.of (us:List U) (hl:us.length=7) (ht:∀ (j:Nat) ty u,[Ty.i .i64,.i .i64,.i .i64,.s,.i .i64,.i .i64,.i .i64][j]?=some ty→us[j]?=some u→UT ty u):∃ x,us=Yn.u x∧Yn.Fit x:=by
 match us,hl with
 | [c0,c1,c2,c3,c4,c5,c6],_=>
  obtain ⟨x0,rfl,f0⟩:=(ht 0 _ c0 rfl rfl).int_of
  obtain ⟨x1,rfl,f1⟩:=(ht 1 _ c1 rfl rfl).int_of
  obtain ⟨x2,rfl,f2⟩:=(ht 2 _ c2 rfl rfl).int_of
  obtain ⟨x3,rfl,f3⟩:=(ht 3 _ c3 rfl rfl).str_of
  obtain ⟨x4,rfl,f4⟩:=(ht 4 _ c4 rfl rfl).int_of
  obtain ⟨x5,rfl,f5⟩:=(ht 5 _ c5 rfl rfl).int_of
  obtain ⟨x6,rfl,f6⟩:=(ht 6 _ c6 rfl rfl).int_of
  exact ⟨⟨x0,x1,x2,x3,x4,x5,x6⟩,rfl,⟨f0,f1,f2,f3,f4,f5,f6⟩⟩
structure Yg where
 kind:Int
 who:Int
 node:Int
 number:Int
 wish:Ye
 inner:Yi
 work:Yn
def Yg.u (x:Yg):List U:=[.int .i64 x.kind,.int .i64 x.who,.int .i64 x.node,.int .i64 x.number,.int .i64 x.wish.kind,.str x.wish.key,.int .i64 x.wish.value,.int .i64 x.wish.old,.int .i64 x.inner.kind,.int .i64 x.inner.node,.int .i64 x.inner.place,.int .i64 x.inner.sent.client,.int .i64 x.inner.sent.seq,.int .i64 x.inner.sent.cmd.kind,.str x.inner.sent.cmd.key,.int .i64 x.inner.sent.cmd.value,.int .i64 x.inner.sent.cmd.old,.int .i64 x.work.kind,.int .i64 x.work.first,.int .i64 x.work.second,.str x.work.key,.int .i64 x.work.from_,.int .i64 x.work.to_,.int .i64 x.work.step]
def Yg.Fit (x:Yg):Prop:=ZFc x.kind∧ZFc x.who∧ZFc x.node∧ZFc x.number∧Ye.Fit x.wish∧Yi.Fit x.inner∧Yn.Fit x.work
theorem Yg.of (us:List U) (hl:us.length=24) (ht:∀ (j:Nat) ty u,[Ty.i .i64,.i .i64,.i .i64,.i .i64,.i .i64,.s,.i .i64,.i .i64,.i .i64,.i .i64,.i .i64,.i .i64,.i .i64,.i .i64,.s,.i .i64,.i .i64,.i .i64,.i .i64,.i .i64,.s,.i .i64,.i .i64,.i .i64][j]?=some ty→us[j]?=some u→UT ty u):∃ x,us=Yg.u x∧Yg.Fit x:=by
 match us,hl with
 | [c0,c1,c2,c3,c4,c5,c6,c7,c8,c9,c10,c11,c12,c13,c14,c15,c16,c17,c18,c19,c20,c21,c22,c23],_=>
  obtain ⟨x0,rfl,f0⟩:=(ht 0 _ c0 rfl rfl).int_of
  obtain ⟨x1,rfl,f1⟩:=(ht 1 _ c1 rfl rfl).int_of
  obtain ⟨x2,rfl,f2⟩:=(ht 2 _ c2 rfl rfl).int_of
  obtain ⟨x3,rfl,f3⟩:=(ht 3 _ c3 rfl rfl).int_of
  obtain ⟨x4,rfl,f4⟩:=(ht 4 _ c4 rfl rfl).int_of
  obtain ⟨x5,rfl,f5⟩:=(ht 5 _ c5 rfl rfl).str_of
  obtain ⟨x6,rfl,f6⟩:=(ht 6 _ c6 rfl rfl).int_of
  obtain ⟨x7,rfl,f7⟩:=(ht 7 _ c7 rfl rfl).int_of
  obtain ⟨x8,rfl,f8⟩:=(ht 8 _ c8 rfl rfl).int_of
  obtain ⟨x9,rfl,f9⟩:=(ht 9 _ c9 rfl rfl).int_of
  obtain ⟨x10,rfl,f10⟩:=(ht 10 _ c10 rfl rfl).int_of
  obtain ⟨x11,rfl,f11⟩:=(ht 11 _ c11 rfl rfl).int_of
  obtain ⟨x12,rfl,f12⟩:=(ht 12 _ c12 rfl rfl).int_of
  obtain ⟨x13,rfl,f13⟩:=(ht 13 _ c13 rfl rfl).int_of
  obtain ⟨x14,rfl,f14⟩:=(ht 14 _ c14 rfl rfl).str_of
  obtain ⟨x15,rfl,f15⟩:=(ht 15 _ c15 rfl rfl).int_of
  obtain ⟨x16,rfl,f16⟩:=(ht 16 _ c16 rfl rfl).int_of
  obtain ⟨x17,rfl,f17⟩:=(ht 17 _ c17 rfl rfl).int_of
  obtain ⟨x18,rfl,f18⟩:=(ht 18 _ c18 rfl rfl).int_of
  obtain ⟨x19,rfl,f19⟩:=(ht 19 _ c19 rfl rfl).int_of
  obtain ⟨x20,rfl,f20⟩:=(ht 20 _ c20 rfl rfl).str_of
  obtain ⟨x21,rfl,f21⟩:=(ht 21 _ c21 rfl rfl).int_of
  obtain ⟨x22,rfl,f22⟩:=(ht 22 _ c22 rfl rfl).int_of
  obtain ⟨x23,rfl,f23⟩:=(ht 23 _ c23 rfl rfl).int_of
  exact ⟨⟨x0,x1,x2,x3,⟨x4,x5,x6,x7⟩,⟨x8,x9,x10,⟨x11,x12,⟨x13,x14,x15,x16⟩⟩⟩,⟨x17,x18,x19,x20,x21,x22,x23⟩⟩,rfl,⟨f0,f1,f2,f3,⟨f4,f5,f6,f7⟩,⟨f8,f9,f10,⟨f11,f12,⟨f13,f14,f15,f16⟩⟩⟩,⟨f17,f18,f19,f20,f21,f22,f23⟩⟩⟩
structure Yo where
 conf:Yf
 ready:Bool
 log:(List Yh)
def Yo.u (x:Yo):List U:=[.int .i64 x.conf.epoch,.sl 1 (x.conf.members.map iU),.bool x.conf.fresh,.bool x.ready,.sl 6 (x.log.map Yh.u)]
def Yo.Fit (x:Yo):Prop:=Yf.Fit x.conf∧True∧(x.log.length≤9223372036854775807∧∀ y,y∈x.log→Yh.Fit y)
theorem Yo.of (us:List U) (hl:us.length=5) (ht:∀ (j:Nat) ty u,[Ty.i .i64,.sl [.i .i64],.b,.b,.sl [.i .i64,.i .i64,.i .i64,.s,.i .i64,.i .i64]][j]?=some ty→us[j]?=some u→UT ty u):∃ x,us=Yo.u x∧Yo.Fit x:=by
 match us,hl with
 | [c0,c1,c2,c3,c4],_=>
  obtain ⟨x0,rfl,f0⟩:=(ht 0 _ c0 rfl rfl).int_of
  obtain ⟨x1,rfl,f1⟩:=(ht 1 _ c1 rfl rfl).sl_of ZMc
  obtain ⟨x2,rfl⟩:=(ht 2 _ c2 rfl rfl).bool_of
  obtain ⟨x3,rfl⟩:=(ht 3 _ c3 rfl rfl).bool_of
  obtain ⟨x4,rfl,f4⟩:=(ht 4 _ c4 rfl rfl).sl_of Yh.of
  exact ⟨⟨⟨x0,x1,x2⟩,x3,x4⟩,rfl,⟨⟨f0,f1,trivial⟩,trivial,f4⟩⟩
structure Yk where
 kind:Int
 to_:Int
 epoch:Int
 conf:Yf
 log:(List Yh)
def Yk.u (x:Yk):List U:=[.int .i64 x.kind,.int .i64 x.to_,.int .i64 x.epoch,.int .i64 x.conf.epoch,.sl 1 (x.conf.members.map iU),.bool x.conf.fresh,.sl 6 (x.log.map Yh.u)]
def Yk.Fit (x:Yk):Prop:=ZFc x.kind∧ZFc x.to_∧ZFc x.epoch∧Yf.Fit x.conf∧(x.log.length≤9223372036854775807∧∀ y,y∈x.log→Yh.Fit y)
theorem Yk.of (us:List U) (hl:us.length=7) (ht:∀ (j:Nat) ty u,[Ty.i .i64,.i .i64,.i .i64,.i .i64,.sl [.i .i64],.b,.sl [.i .i64,.i .i64,.i .i64,.s,.i .i64,.i .i64]][j]?=some ty→us[j]?=some u→UT ty u):∃ x,us=Yk.u x∧Yk.Fit x:=by
 match us,hl with
 | [c0,c1,c2,c3,c4,c5,c6],_=>
  obtain ⟨x0,rfl,f0⟩:=(ht 0 _ c0 rfl rfl).int_of
  obtain ⟨x1,rfl,f1⟩:=(ht 1 _ c1 rfl rfl).int_of
  obtain ⟨x2,rfl,f2⟩:=(ht 2 _ c2 rfl rfl).int_of
  obtain ⟨x3,rfl,f3⟩:=(ht 3 _ c3 rfl rfl).int_of
  obtain ⟨x4,rfl,f4⟩:=(ht 4 _ c4 rfl rfl).sl_of ZMc
  obtain ⟨x5,rfl⟩:=(ht 5 _ c5 rfl rfl).bool_of
  obtain ⟨x6,rfl,f6⟩:=(ht 6 _ c6 rfl rfl).sl_of Yh.of
  exact ⟨⟨x0,x1,x2,⟨x3,x4,x5⟩,x6⟩,rfl,⟨f0,f1,f2,⟨f3,f4,trivial⟩,f6⟩⟩
structure Yc where
 base:Yt
 conf:Yf
 nodes:(List Yo)
 up:(List Bool)
 bag:(List Yk)
 answers:(List Ya)
def Yc.u (x:Yc):List U:=[.str x.base.span.low,.str x.base.span.high,.sl 2 (x.base.pairs.map Yl.u),.sl 3 (x.base.known.map Yr.u),.bool x.base.sealed,.str x.base.cut,.int .i64 x.conf.epoch,.sl 1 (x.conf.members.map iU),.bool x.conf.fresh,.sl 5 (x.nodes.map Yo.u),.sl 1 (x.up.map bU),.sl 7 (x.bag.map Yk.u),.sl 7 (x.answers.map Ya.u)]
def Yc.Fit (x:Yc):Prop:=Yt.Fit x.base∧Yf.Fit x.conf∧(x.nodes.length≤9223372036854775807∧∀ y,y∈x.nodes→Yo.Fit y)∧(x.up.length≤9223372036854775807∧∀ y,y∈x.up→True)∧(x.bag.length≤9223372036854775807∧∀ y,y∈x.bag→Yk.Fit y)∧(x.answers.length≤9223372036854775807∧∀ y,y∈x.answers→Ya.Fit y)
theorem Yc.of (us:List U) (hl:us.length=13) (ht:∀ (j:Nat) ty u,[Ty.s,.s,.sl [.s,.i .i64],.sl [.i .i64,.i .i64,.i .i64],.b,.s,.i .i64,.sl [.i .i64],.b,.sl [.i .i64,.sl [.i .i64],.b,.b,.sl [.i .i64,.i .i64,.i .i64,.s,.i .i64,.i .i64]],.sl [.b],.sl [.i .i64,.i .i64,.i .i64,.i .i64,.sl [.i .i64],.b,.sl [.i .i64,.i .i64,.i .i64,.s,.i .i64,.i .i64]],.sl [.i .i64,.i .i64,.i .i64,.s,.i .i64,.i .i64,.i .i64]][j]?=some ty→us[j]?=some u→UT ty u):∃ x,us=Yc.u x∧Yc.Fit x:=by
 match us,hl with
 | [c0,c1,c2,c3,c4,c5,c6,c7,c8,c9,c10,c11,c12],_=>
  obtain ⟨x0,rfl,f0⟩:=(ht 0 _ c0 rfl rfl).str_of
  obtain ⟨x1,rfl,f1⟩:=(ht 1 _ c1 rfl rfl).str_of
  obtain ⟨x2,rfl,f2⟩:=(ht 2 _ c2 rfl rfl).sl_of Yl.of
  obtain ⟨x3,rfl,f3⟩:=(ht 3 _ c3 rfl rfl).sl_of Yr.of
  obtain ⟨x4,rfl⟩:=(ht 4 _ c4 rfl rfl).bool_of
  obtain ⟨x5,rfl,f5⟩:=(ht 5 _ c5 rfl rfl).str_of
  obtain ⟨x6,rfl,f6⟩:=(ht 6 _ c6 rfl rfl).int_of
  obtain ⟨x7,rfl,f7⟩:=(ht 7 _ c7 rfl rfl).sl_of ZMc
  obtain ⟨x8,rfl⟩:=(ht 8 _ c8 rfl rfl).bool_of
  obtain ⟨x9,rfl,f9⟩:=(ht 9 _ c9 rfl rfl).sl_of Yo.of
  obtain ⟨x10,rfl,f10⟩:=(ht 10 _ c10 rfl rfl).sl_of ZOw
  obtain ⟨x11,rfl,f11⟩:=(ht 11 _ c11 rfl rfl).sl_of Yk.of
  obtain ⟨x12,rfl,f12⟩:=(ht 12 _ c12 rfl rfl).sl_of Ya.of
  exact ⟨⟨⟨⟨x0,x1⟩,x2,x3,x4,x5⟩,⟨x6,x7,x8⟩,x9,x10,x11,x12⟩,rfl,⟨⟨⟨f0,f1⟩,f2,f3,trivial,f5⟩,⟨f6,f7,trivial⟩,f9,f10,f11,f12⟩⟩
structure Yq where
 number:Int
 span:Yj
def Yq.u (x:Yq):List U:=[.int .i64 x.number,.str x.span.low,.str x.span.high]
def Yq.Fit (x:Yq):Prop:=ZFc x.number∧Yj.Fit x.span
theorem Yq.of (us:List U) (hl:us.length=3) (ht:∀ (j:Nat) ty u,[Ty.i .i64,.s,.s][j]?=some ty→us[j]?=some u→UT ty u):∃ x,us=Yq.u x∧Yq.Fit x:=by
 match us,hl with
 | [c0,c1,c2],_=>
  obtain ⟨x0,rfl,f0⟩:=(ht 0 _ c0 rfl rfl).int_of
  obtain ⟨x1,rfl,f1⟩:=(ht 1 _ c1 rfl rfl).str_of
  obtain ⟨x2,rfl,f2⟩:=(ht 2 _ c2 rfl rfl).str_of
  exact ⟨⟨x0,⟨x1,x2⟩⟩,rfl,⟨f0,⟨f1,f2⟩⟩⟩
structure Yb where
 cache:(List Yq)
 seq:Int
 busy:Bool
 wish:Ye
 called:Int
def Yb.u (x:Yb):List U:=[.sl 3 (x.cache.map Yq.u),.int .i64 x.seq,.bool x.busy,.int .i64 x.wish.kind,.str x.wish.key,.int .i64 x.wish.value,.int .i64 x.wish.old,.int .i64 x.called]
def Yb.Fit (x:Yb):Prop:=(x.cache.length≤9223372036854775807∧∀ y,y∈x.cache→Yq.Fit y)∧ZFc x.seq∧True∧Ye.Fit x.wish∧ZFc x.called
theorem Yb.of (us:List U) (hl:us.length=8) (ht:∀ (j:Nat) ty u,[Ty.sl [.i .i64,.s,.s],.i .i64,.b,.i .i64,.s,.i .i64,.i .i64,.i .i64][j]?=some ty→us[j]?=some u→UT ty u):∃ x,us=Yb.u x∧Yb.Fit x:=by
 match us,hl with
 | [c0,c1,c2,c3,c4,c5,c6,c7],_=>
  obtain ⟨x0,rfl,f0⟩:=(ht 0 _ c0 rfl rfl).sl_of Yq.of
  obtain ⟨x1,rfl,f1⟩:=(ht 1 _ c1 rfl rfl).int_of
  obtain ⟨x2,rfl⟩:=(ht 2 _ c2 rfl rfl).bool_of
  obtain ⟨x3,rfl,f3⟩:=(ht 3 _ c3 rfl rfl).int_of
  obtain ⟨x4,rfl,f4⟩:=(ht 4 _ c4 rfl rfl).str_of
  obtain ⟨x5,rfl,f5⟩:=(ht 5 _ c5 rfl rfl).int_of
  obtain ⟨x6,rfl,f6⟩:=(ht 6 _ c6 rfl rfl).int_of
  obtain ⟨x7,rfl,f7⟩:=(ht 7 _ c7 rfl rfl).int_of
  exact ⟨⟨x0,x1,x2,⟨x3,x4,x5,x6⟩,x7⟩,rfl,⟨f0,f1,trivial,⟨f3,f4,f5,f6⟩,f7⟩⟩
structure Yp where
 client:Int
 seq:Int
 wish:Ye
 reply:Int
 called:Int
 returned:Int
def Yp.u (x:Yp):List U:=[.int .i64 x.client,.int .i64 x.seq,.int .i64 x.wish.kind,.str x.wish.key,.int .i64 x.wish.value,.int .i64 x.wish.old,.int .i64 x.reply,.int .i64 x.called,.int .i64 x.returned]
def Yp.Fit (x:Yp):Prop:=ZFc x.client∧ZFc x.seq∧Ye.Fit x.wish∧ZFc x.reply∧ZFc x.called∧ZFc x.returned
theorem Yp.of (us:List U) (hl:us.length=9) (ht:∀ (j:Nat) ty u,[Ty.i .i64,.i .i64,.i .i64,.s,.i .i64,.i .i64,.i .i64,.i .i64,.i .i64][j]?=some ty→us[j]?=some u→UT ty u):∃ x,us=Yp.u x∧Yp.Fit x:=by
 match us,hl with
 | [c0,c1,c2,c3,c4,c5,c6,c7,c8],_=>
  obtain ⟨x0,rfl,f0⟩:=(ht 0 _ c0 rfl rfl).int_of
  obtain ⟨x1,rfl,f1⟩:=(ht 1 _ c1 rfl rfl).int_of
  obtain ⟨x2,rfl,f2⟩:=(ht 2 _ c2 rfl rfl).int_of
  obtain ⟨x3,rfl,f3⟩:=(ht 3 _ c3 rfl rfl).str_of
  obtain ⟨x4,rfl,f4⟩:=(ht 4 _ c4 rfl rfl).int_of
  obtain ⟨x5,rfl,f5⟩:=(ht 5 _ c5 rfl rfl).int_of
  obtain ⟨x6,rfl,f6⟩:=(ht 6 _ c6 rfl rfl).int_of
  obtain ⟨x7,rfl,f7⟩:=(ht 7 _ c7 rfl rfl).int_of
  obtain ⟨x8,rfl,f8⟩:=(ht 8 _ c8 rfl rfl).int_of
  exact ⟨⟨x0,x1,⟨x2,x3,x4,x5⟩,x6,x7,x8⟩,rfl,⟨f0,f1,⟨f2,f3,f4,f5⟩,f6,f7,f8⟩⟩
structure Ys where
 live:Bool
 group:Yc
def Ys.u (x:Ys):List U:=[.bool x.live,.str x.group.base.span.low,.str x.group.base.span.high,.sl 2 (x.group.base.pairs.map Yl.u),.sl 3 (x.group.base.known.map Yr.u),.bool x.group.base.sealed,.str x.group.base.cut,.int .i64 x.group.conf.epoch,.sl 1 (x.group.conf.members.map iU),.bool x.group.conf.fresh,.sl 5 (x.group.nodes.map Yo.u),.sl 1 (x.group.up.map bU),.sl 7 (x.group.bag.map Yk.u),.sl 7 (x.group.answers.map Ya.u)]
def Ys.Fit (x:Ys):Prop:=True∧Yc.Fit x.group
theorem Ys.of (us:List U) (hl:us.length=14) (ht:∀ (j:Nat) ty u,[Ty.b,.s,.s,.sl [.s,.i .i64],.sl [.i .i64,.i .i64,.i .i64],.b,.s,.i .i64,.sl [.i .i64],.b,.sl [.i .i64,.sl [.i .i64],.b,.b,.sl [.i .i64,.i .i64,.i .i64,.s,.i .i64,.i .i64]],.sl [.b],.sl [.i .i64,.i .i64,.i .i64,.i .i64,.sl [.i .i64],.b,.sl [.i .i64,.i .i64,.i .i64,.s,.i .i64,.i .i64]],.sl [.i .i64,.i .i64,.i .i64,.s,.i .i64,.i .i64,.i .i64]][j]?=some ty→us[j]?=some u→UT ty u):∃ x,us=Ys.u x∧Ys.Fit x:=by
 match us,hl with
 | [c0,c1,c2,c3,c4,c5,c6,c7,c8,c9,c10,c11,c12,c13],_=>
  obtain ⟨x0,rfl⟩:=(ht 0 _ c0 rfl rfl).bool_of
  obtain ⟨x1,rfl,f1⟩:=(ht 1 _ c1 rfl rfl).str_of
  obtain ⟨x2,rfl,f2⟩:=(ht 2 _ c2 rfl rfl).str_of
  obtain ⟨x3,rfl,f3⟩:=(ht 3 _ c3 rfl rfl).sl_of Yl.of
  obtain ⟨x4,rfl,f4⟩:=(ht 4 _ c4 rfl rfl).sl_of Yr.of
  obtain ⟨x5,rfl⟩:=(ht 5 _ c5 rfl rfl).bool_of
  obtain ⟨x6,rfl,f6⟩:=(ht 6 _ c6 rfl rfl).str_of
  obtain ⟨x7,rfl,f7⟩:=(ht 7 _ c7 rfl rfl).int_of
  obtain ⟨x8,rfl,f8⟩:=(ht 8 _ c8 rfl rfl).sl_of ZMc
  obtain ⟨x9,rfl⟩:=(ht 9 _ c9 rfl rfl).bool_of
  obtain ⟨x10,rfl,f10⟩:=(ht 10 _ c10 rfl rfl).sl_of Yo.of
  obtain ⟨x11,rfl,f11⟩:=(ht 11 _ c11 rfl rfl).sl_of ZOw
  obtain ⟨x12,rfl,f12⟩:=(ht 12 _ c12 rfl rfl).sl_of Yk.of
  obtain ⟨x13,rfl,f13⟩:=(ht 13 _ c13 rfl rfl).sl_of Ya.of
  exact ⟨⟨x0,⟨⟨⟨x1,x2⟩,x3,x4,x5,x6⟩,⟨x7,x8,x9⟩,x10,x11,x12,x13⟩⟩,rfl,⟨trivial,⟨⟨⟨f1,f2⟩,f3,f4,trivial,f6⟩,⟨f7,f8,trivial⟩,f10,f11,f12,f13⟩⟩⟩
structure Yd where
 shards:(List Ys)
 clients:(List Yb)
 results:(List Yp)
 work:Yn
 turn:Int
 clock:Int
def Yd.u (x:Yd):List U:=[.sl 14 (x.shards.map Ys.u),.sl 8 (x.clients.map Yb.u),.sl 9 (x.results.map Yp.u),.int .i64 x.work.kind,.int .i64 x.work.first,.int .i64 x.work.second,.str x.work.key,.int .i64 x.work.from_,.int .i64 x.work.to_,.int .i64 x.work.step,.int .i64 x.turn,.int .i64 x.clock]
def Yd.Fit (x:Yd):Prop:=(x.shards.length≤9223372036854775807∧∀ y,y∈x.shards→Ys.Fit y)∧(x.clients.length≤9223372036854775807∧∀ y,y∈x.clients→Yb.Fit y)∧(x.results.length≤9223372036854775807∧∀ y,y∈x.results→Yp.Fit y)∧Yn.Fit x.work∧ZFc x.turn∧ZFc x.clock
theorem Yd.of (us:List U) (hl:us.length=12) (ht:∀ (j:Nat) ty u,[Ty.sl [.b,.s,.s,.sl [.s,.i .i64],.sl [.i .i64,.i .i64,.i .i64],.b,.s,.i .i64,.sl [.i .i64],.b,.sl [.i .i64,.sl [.i .i64],.b,.b,.sl [.i .i64,.i .i64,.i .i64,.s,.i .i64,.i .i64]],.sl [.b],.sl [.i .i64,.i .i64,.i .i64,.i .i64,.sl [.i .i64],.b,.sl [.i .i64,.i .i64,.i .i64,.s,.i .i64,.i .i64]],.sl [.i .i64,.i .i64,.i .i64,.s,.i .i64,.i .i64,.i .i64]],.sl [.sl [.i .i64,.s,.s],.i .i64,.b,.i .i64,.s,.i .i64,.i .i64,.i .i64],.sl [.i .i64,.i .i64,.i .i64,.s,.i .i64,.i .i64,.i .i64,.i .i64,.i .i64],.i .i64,.i .i64,.i .i64,.s,.i .i64,.i .i64,.i .i64,.i .i64,.i .i64][j]?=some ty→us[j]?=some u→UT ty u):∃ x,us=Yd.u x∧Yd.Fit x:=by
 match us,hl with
 | [c0,c1,c2,c3,c4,c5,c6,c7,c8,c9,c10,c11],_=>
  obtain ⟨x0,rfl,f0⟩:=(ht 0 _ c0 rfl rfl).sl_of Ys.of
  obtain ⟨x1,rfl,f1⟩:=(ht 1 _ c1 rfl rfl).sl_of Yb.of
  obtain ⟨x2,rfl,f2⟩:=(ht 2 _ c2 rfl rfl).sl_of Yp.of
  obtain ⟨x3,rfl,f3⟩:=(ht 3 _ c3 rfl rfl).int_of
  obtain ⟨x4,rfl,f4⟩:=(ht 4 _ c4 rfl rfl).int_of
  obtain ⟨x5,rfl,f5⟩:=(ht 5 _ c5 rfl rfl).int_of
  obtain ⟨x6,rfl,f6⟩:=(ht 6 _ c6 rfl rfl).str_of
  obtain ⟨x7,rfl,f7⟩:=(ht 7 _ c7 rfl rfl).int_of
  obtain ⟨x8,rfl,f8⟩:=(ht 8 _ c8 rfl rfl).int_of
  obtain ⟨x9,rfl,f9⟩:=(ht 9 _ c9 rfl rfl).int_of
  obtain ⟨x10,rfl,f10⟩:=(ht 10 _ c10 rfl rfl).int_of
  obtain ⟨x11,rfl,f11⟩:=(ht 11 _ c11 rfl rfl).int_of
  exact ⟨⟨x0,x1,x2,⟨x3,x4,x5,x6,x7,x8,x9⟩,x10,x11⟩,rfl,⟨f0,f1,f2,⟨f3,f4,f5,f6,f7,f8,f9⟩,f10,f11⟩⟩
theorem ZMa:(∀ l:List Yl,ZcG (l.map Yl.u)=true)∧(∀ l:List Yr,ZcG (l.map Yr.u)=true)∧(∀ l:List Int,ZcG (l.map iU)=true)∧(∀ l:List Ya,ZcG (l.map Ya.u)=true)∧(∀ l:List Yh,ZcG (l.map Yh.u)=true)∧(∀ l:List Bool,ZcG (l.map bU)=true)∧(∀ l:List Yq,ZcG (l.map Yq.u)=true)∧(∀ l:List Yp,ZcG (l.map Yp.u)=true)∧(∀ l:List Yj,ZcG (l.map Yj.u)=true)∧(∀ (b:Bool) (x:List Id),sel b x x=x)∧
  (∀ (st:St) d res x0 x1 x2 x3 x4 x5 x6,St.ofRet st d ⟨res,[x0,x1,x2,x3,x4,x5,x6],[]⟩=(((((((st.obj (.loc d 0) (some x0)).obj (.loc d 1) (some x1)).obj (.loc d 2) (some x2)).obj (.loc d 3) (some x3)).obj (.loc d 4) (some x4)).obj (.loc d 5) (some x5)).obj (.loc d 6) (some x6)).put d (retD (res.map (T.mapC (C.ren (Zah d))))))∧List.range 7=[0,1,2,3,4,5,6]∧
  (∀ l:List Yl,Zbi (l.map Yl.u)=true)∧(∀ l:List Yr,Zbi (l.map Yr.u)=true)∧(∀ l:List Int,Zbi (l.map iU)=true)∧(∀ l:List Ya,Zbi (l.map Ya.u)=true)∧(∀ l:List Yh,Zbi (l.map Yh.u)=true)∧(∀ l:List Bool,Zbi (l.map bU)=true)∧(∀ l:List Yq,Zbi (l.map Yq.u)=true)∧(∀ l:List Yp,Zbi (l.map Yp.u)=true)∧(∀ l:List Yj,Zbi (l.map Yj.u)=true):=
 ⟨Zi4 fun _=>rfl,Zi4 fun _=>rfl,Zi4 fun _=>rfl,Zi4 fun _=>rfl,Zi4 fun _=>rfl,Zi4 fun _=>rfl,Zi4 fun _=>rfl,Zi4 fun _=>rfl,Zi4 fun _=>rfl,fun b x=>by cases b<;>rfl,fun st d res x0 x1 x2 x3 x4 x5 x6=>rfl,rfl,Zjd fun _=>rfl,Zjd fun _=>rfl,Zjd fun _=>rfl,Zjd fun _=>rfl,Zjd fun _=>rfl,Zjd fun _=>rfl,Zjd fun _=>rfl,Zjd fun _=>rfl,Zjd fun _=>rfl⟩
theorem xT:(type_of% xQ)∧(type_of% xR)∧(type_of% xS)∧(type_of% ZMa):=⟨xQ,xR,xS,ZMa⟩
theorem xU:(type_of% xQ)∧(type_of% xR)∧(type_of% xD)∧(type_of% ZMa):=⟨xQ,xR,xD,ZMa⟩
def offZ (left:Int) (n:Nat) (k:Int→Int):Int:=if IntKind.i64.wrap (left - n)<0 then -1 else k (IntKind.i64.wrap (left - n))
def chkZ (a:Int) (k:Int→Int):Int:=if a<0 then -1 else k a
def allZ {α:Type} (g:α→Int→Int):List α→Int→Int
 | [],a=>a
 | x::xs,a=>chkZ (g x a) (allZ g xs)
theorem ZGV {α:Type} {g:α→Int→Int} {l:List α} {i:Nat} {x:α} (h:l[i]?=some x) (a:Int):allZ g (l.drop i) a=chkZ (g x a) (allZ g (l.drop (i+1))):=by
 have hi:=(List.getElem?_eq_some_iff.1 h).1
 have he:=(List.getElem?_eq_some_iff.1 h).2
 rw [List.drop_eq_getElem_cons hi,he]; rfl
def LeZ (g:Int→Int) (P:Prop):Prop:=∀ a,0≤a→a≤1048576→g a≤a∧(0≤g a→P)
theorem LeZ.id:LeZ (fun a=>a) True:=fun a _ _=>⟨Int.le_refl _,fun _=>trivial⟩
theorem LeZ.off {n:Nat} {k:Int→Int} {P:Prop} (hn:n≤9223372036854775807) (hk:LeZ k P):LeZ (fun a=>offZ a n k) (n≤1048576∧P):=by
 intro a h0 h1
 simp only[offZ]
 rw [w64 (by omega) (by omega)]
 split
 ·exact ⟨by omega,fun h=>by omega⟩
 ·obtain ⟨h2,h3⟩:=hk (a - n) (by omega) (by omega)
  exact ⟨by omega,fun h=>⟨by omega,h3 h⟩⟩
theorem LeZ.chk {g k:Int→Int} {P Q:Prop} (hg:LeZ g P) (hk:LeZ k Q):LeZ (fun a=>chkZ (g a) k) (P∧Q):=by
 intro a h0 h1
 obtain ⟨h2,h3⟩:=hg a h0 h1
 simp only[chkZ]
 split
 ·exact ⟨by omega,fun h=>by omega⟩
 ·obtain ⟨h4,h5⟩:=hk (g a) (by omega) (by omega)
  exact ⟨by omega,fun h=>⟨h3 (by omega),h5 h⟩⟩
theorem LeZ.all {α:Type} {g:α→Int→Int} {P:α→Prop}:∀ {l:List α},(∀ x,x∈l→LeZ (g x) (P x))→LeZ (allZ g l) (∀ x,x∈l→P x)
 | [],_=>fun a _ _=>⟨Int.le_refl _,fun _ x h=>by cases h⟩
 | x::xs,h=>by
  have h1:=(h x (List.mem_cons_self ..)).chk (LeZ.all (l:=xs) (fun y hy=>h y (List.mem_cons_of_mem _ hy)))
  intro a h0 h2
  obtain ⟨h3,h4⟩:=h1 a h0 h2
  refine ⟨h3,fun h y hy=>?_⟩
  rcases List.mem_cons.1 hy with rfl|hy
  ·exact (h4 h).1
  ·exact (h4 h).2 y hy
theorem ZFQ {α:Type} {f:α→List U} {z:List U} {l:List α} {i:Nat} {x:α} (h:l[i]?=some x):((l.take i).map f++List.replicate (l.length - i) z).set i (f x)=(l.take (i+1)).map f++List.replicate (l.length - (i+1)) z:=by
 have hi:=(List.getElem?_eq_some_iff.1 h).1
 have he:=(List.getElem?_eq_some_iff.1 h).2
 have h1:((l.take i).map f).length=i:=by simp; omega
 rw [List.set_append_right _ _ (by omega),h1,Nat.sub_self,show l.length - i=(l.length - (i+1))+1 by omega,List.replicate_succ,List.set_cons_zero,List.take_succ_eq_append_getElem hi,List.map_append,List.append_assoc,he]
 rfl
theorem ZFP {α:Type} {f:α→List U} {z:List U} {l:List α} {i:Nat} (hi:i<l.length):((l.take i).map f++List.replicate (l.length - i) z)[i]?=some z:=by
 have h1:((l.take i).map f).length=i:=by simp; omega
 rw [List.getElem?_append_right (by omega),h1,Nat.sub_self,show l.length - i=(l.length - (i+1))+1 by omega,List.replicate_succ]
 rfl
theorem ZFO {α:Type} {f:α→List U} {z:List U} {l:List α}:(l.take l.length).map f++List.replicate (l.length - l.length) z=l.map f:=by simp
theorem ZJE (st:St) (d n:Nat) (zero:List U) (bytes:Nat) (h:n*bytes≤140737488355328):stMk st d (DI (n:Int)) (DI (n:Int)) zero bytes=some (((st.cool (.loc d 0)).obj (.loc d 0) (some (.row zero.length (List.replicate n zero)))).put d (.t (.sc (.own (.loc d 0) n)))):=by
 simp [stMk,D.int?,h]
theorem ZLy (st:St) (d n:Nat) (zero:List U) (bytes:Nat) (h:n*bytes≤140737488355328) (hz:zero.all U.zed=true):Zhg st d (DI (n:Int)) (DI (n:Int)) zero bytes=some (((st.cool (.loc d 0)).obj (.loc d 0) (some (.deep zero.length (List.replicate n zero)))).put d (.t (.sc (.down (.loc d 0) n)))):=by
 simp only[List.all_eq_true] at hz
 simp only[Zhg,D.int?,Option.bind_some,List.all_eq_true]
 rw [if_pos ⟨by omega,by omega,by simpa using h,hz⟩]
 simp
def ZIi (l:(List Int)):Prop:=l.length≤1048576∧True
def ZJ8 (l:(List Int)) (left:Int):Int:=offZ left l.length fun a=>a
theorem ZNQ (l:(List Int)) (left:Int):EE F 301 [L 1 (l.map iU),I left] []=ok1 (I (ZJ8 l left)):=by
 rw [R301,b301]
 simp only[↓xP,xU,rB,rA,rS]
 refine ZiE (fun h=>?_) (fun h=>?_)<;>(simp only[decide_eq_true_eq,decide_eq_false_iff_not] at h; simp [ZJ8,offZ,h])
theorem ZNP (l:(List Int)) (hf:(l.length≤9223372036854775807∧∀ y,y∈l→ZFc y)):LeZ (ZJ8 l) (ZIi l):=LeZ.off hf.1 (LeZ.id)
theorem ZNV (l:(List Int)) (hs:ZIi l):EE F 308 [L 1 (l.map iU)] []=some ⟨[.sc (.own (.par 0) l.length)],[.row 1 (l.map iU)],[]⟩:=by
 have hl:=hs.1
 rw [R308,b308]
 simp only[↓xP,xU,rB,rA,rS,ZJE _ 7 l.length [.int .i64 0] 8 (by omega)]
 refine (Zjc (fun (i:Nat) st=>i≤l.length∧st.s 0=DU (.sl 1 (l.map iU))∧st.s 4=DI i∧st.s 3=.t (.sc (.own (.loc 7 0) l.length))∧st.o (.loc 7 0)=some (.row 1 ((l.take i).map iU++List.replicate (l.length - i) [.int .i64 0]))) (fun i=>l.length - i) (fun i=>some ⟨[.sc (.own (.par 0) l.length)],[.row 1 (l.map iU)],[]⟩) ?_ 0 ⟨by omega,by simp only[↓xP,xU,rB,rA,rS],by simp only[↓xP,xU,rB,rA,rS]; rfl,by simp only[↓xP,xU,rB,rA,rS],by simp only[↓xP,xU,rB,rA,rS,Nat.sub_zero]⟩)
 rintro i st ⟨hle,h0,h4,h3,ho⟩ ih
 by_cases hi:i<l.length
 ·obtain ⟨x,hx⟩:∃ x,l[i]?=some x:=⟨_,List.getElem?_eq_getElem hi⟩
  have hw:=w_succ (i:=i) (by omega)
  have hg:=ZFP (f:=iU) (z:=[.int .i64 0]) hi
  have hf:=ZFQ (f:=iU) (z:=[.int .i64 0]) hx
  simp only[iU] at hf
  simp only[↓xP,xU,rB,rA,rS,h0,h4,h3,ho,hi,hx,hw,hg,hf,iU]
  exact ih (i+1) _ (by omega) ⟨by omega,by simp only[↓xP,xU,rB,rA,rS,h0],by simp only[↓xP,xU,rB,rA,rS],by simp only[↓xP,xU,rB,rA,rS,h3],by simp only[↓xP,xU,rB,rA,rS,iU]⟩
 ·have:i=l.length:=by omega
  subst this
  rw [ZFO] at ho
  simp only[↓xP,xU,rB,rA,rS,h0,h4,h3,ho,hi]
theorem ZNy (l:(List Int)) (hs:ZIi l):EE F 317 [L 1 (l.map iU),L 1 (l.map iU)] []=ok1 (B true):=by
 have hl:=hs.1
 rw [R317,b317]
 simp only[↓xP,xU,rB,rA,rS,ne_eq,not_true_eq_false]
 refine (Zjc (fun (i:Nat) st=>st.s 0=DU (.sl 1 (l.map iU))∧st.s 1=DU (.sl 1 (l.map iU))∧st.s 5=DI i) (fun i=>l.length - i) (fun i=>ok1 (B true)) ?_ 0 ⟨by simp only[↓xP,xU,rB,rA,rS],by simp only[↓xP,xU,rB,rA,rS],by simp only[↓xP,xU,rB,rA,rS]; rfl⟩)
 rintro i st ⟨h0,h1,h5⟩ ih
 by_cases hi:i<l.length
 ·obtain ⟨x,hx⟩:∃ x,l[i]?=some x:=⟨_,List.getElem?_eq_getElem hi⟩
  have hw:=w_succ (i:=i) (by omega)
  simp only[↓xP,xU,rB,rA,rS,h0,h1,h5,hi,hx,hw,iU,ne_eq,not_true_eq_false]
  exact ih (i+1) _ (by omega) ⟨by simp only[↓xP,xU,rB,rA,rS,h0],by simp only[↓xP,xU,rB,rA,rS,h1],by simp only[↓xP,xU,rB,rA,rS]⟩
 ·simp only[↓xP,xU,rB,rA,rS,h0,h1,h5,hi]
def ZHz (l:(List Bool)):Prop:=l.length≤1048576∧True
def ZI8 (l:(List Bool)) (left:Int):Int:=offZ left l.length fun a=>a
theorem ZM0 (l:(List Bool)) (left:Int):EE F 255 [L 1 (l.map bU),I left] []=ok1 (I (ZI8 l left)):=by
 rw [R255,b255]
 simp only[↓xP,xU,rB,rA,rS]
 refine ZiE (fun h=>?_) (fun h=>?_)<;>(simp only[decide_eq_true_eq,decide_eq_false_iff_not] at h; simp [ZI8,offZ,h])
theorem ZMZ (l:(List Bool)) (hf:(l.length≤9223372036854775807∧∀ y,y∈l→True)):LeZ (ZI8 l) (ZHz l):=LeZ.off hf.1 (LeZ.id)
theorem ZNb (l:(List Bool)) (hs:ZHz l):EE F 265 [L 1 (l.map bU)] []=some ⟨[.sc (.own (.par 0) l.length)],[.row 1 (l.map bU)],[]⟩:=by
 have hl:=hs.1
 rw [R265,b265]
 simp only[↓xP,xU,rB,rA,rS,ZJE _ 7 l.length [.bool false] 1 (by omega)]
 refine (Zjc (fun (i:Nat) st=>i≤l.length∧st.s 0=DU (.sl 1 (l.map bU))∧st.s 4=DI i∧st.s 3=.t (.sc (.own (.loc 7 0) l.length))∧st.o (.loc 7 0)=some (.row 1 ((l.take i).map bU++List.replicate (l.length - i) [.bool false]))) (fun i=>l.length - i) (fun i=>some ⟨[.sc (.own (.par 0) l.length)],[.row 1 (l.map bU)],[]⟩) ?_ 0 ⟨by omega,by simp only[↓xP,xU,rB,rA,rS],by simp only[↓xP,xU,rB,rA,rS]; rfl,by simp only[↓xP,xU,rB,rA,rS],by simp only[↓xP,xU,rB,rA,rS,Nat.sub_zero]⟩)
 rintro i st ⟨hle,h0,h4,h3,ho⟩ ih
 by_cases hi:i<l.length
 ·obtain ⟨x,hx⟩:∃ x,l[i]?=some x:=⟨_,List.getElem?_eq_getElem hi⟩
  have hw:=w_succ (i:=i) (by omega)
  have hg:=ZFP (f:=bU) (z:=[.bool false]) hi
  have hf:=ZFQ (f:=bU) (z:=[.bool false]) hx
  simp only[bU] at hf
  simp only[↓xP,xU,rB,rA,rS,h0,h4,h3,ho,hi,hx,hw,hg,hf,bU]
  exact ih (i+1) _ (by omega) ⟨by omega,by simp only[↓xP,xU,rB,rA,rS,h0],by simp only[↓xP,xU,rB,rA,rS],by simp only[↓xP,xU,rB,rA,rS,h3],by simp only[↓xP,xU,rB,rA,rS,bU]⟩
 ·have:i=l.length:=by omega
  subst this
  rw [ZFO] at ho
  simp only[↓xP,xU,rB,rA,rS,h0,h4,h3,ho,hi]
theorem ZMI (l:(List Bool)) (hs:ZHz l):EE F 278 [L 1 (l.map bU),L 1 (l.map bU)] []=ok1 (B true):=by
 have hl:=hs.1
 rw [R278,b278]
 simp only[↓xP,xU,rB,rA,rS,ne_eq,not_true_eq_false]
 refine (Zjc (fun (i:Nat) st=>st.s 0=DU (.sl 1 (l.map bU))∧st.s 1=DU (.sl 1 (l.map bU))∧st.s 5=DI i) (fun i=>l.length - i) (fun i=>ok1 (B true)) ?_ 0 ⟨by simp only[↓xP,xU,rB,rA,rS],by simp only[↓xP,xU,rB,rA,rS],by simp only[↓xP,xU,rB,rA,rS]; rfl⟩)
 rintro i st ⟨h0,h1,h5⟩ ih
 by_cases hi:i<l.length
 ·obtain ⟨x,hx⟩:∃ x,l[i]?=some x:=⟨_,List.getElem?_eq_getElem hi⟩
  have hw:=w_succ (i:=i) (by omega)
  simp only[↓xP,xU,rB,rA,rS,h0,h1,h5,hi,hx,hw,bU,ne_eq,not_true_eq_false]
  exact ih (i+1) _ (by omega) ⟨by simp only[↓xP,xU,rB,rA,rS,h0],by simp only[↓xP,xU,rB,rA,rS,h1],by simp only[↓xP,xU,rB,rA,rS]⟩
 ·simp only[↓xP,xU,rB,rA,rS,h0,h1,h5,hi]
def Yj.Small (x:Yj):Prop:=x.low.length≤1048576∧x.high.length≤1048576∧True
def ZGH (x:Yj) (a:Int):Int:=offZ a x.low.length fun a=>offZ a x.high.length fun a=>a
theorem ZIv (c0:Str) (c1:Str) (left:Int):EE F 16 [.ag [.u (.str c0),.u (.str c1)],I left] []=ok1 (I (ZGH ⟨c0,c1⟩ left)):=by
 rw [R16,b16]
 simp only[↓xP,xU,rB,rA,rS]
 repeat' (refine ZiE (fun h=>?_) (fun h=>?_))
 all_goals (simp only[decide_eq_true_eq,decide_eq_false_iff_not] at *; simp [ZGH,offZ,chkZ, *])
theorem ZIu (x:Yj) (hf:Yj.Fit x):LeZ (ZGH x) (Yj.Small x):=LeZ.off hf.1 (LeZ.off hf.2 LeZ.id)
theorem ZIw (c0:Str) (c1:Str):EE F 18 [.ag [.u (.str c0),.u (.str c1)]] []=ok1 (.ag [.u (.str c0),.u (.str c1)]):=by
 rw [R18,b18]
 simp only[↓xP,xU,rB,rA,rS]
theorem ZIn (c0:Str) (c1:Str):EE F 151 [.ag [.u (.str c0),.u (.str c1)],.ag [.u (.str c0),.u (.str c1)]] []=ok1 (B true):=by
 rw [R151,b151]
 simp only[↓xP,xU,rB,rA,rS,ne_eq,not_true_eq_false]
def Yl.Small (x:Yl):Prop:=x.key.length≤1048576∧True
def ZIm (x:Yl) (a:Int):Int:=offZ a x.key.length fun a=>a
theorem ZNS (c0:Str) (c1:Int) (left:Int):EE F 336 [.ag [.u (.str c0),.u (.int .i64 c1)],I left] []=ok1 (I (ZIm ⟨c0,c1⟩ left)):=by
 rw [R336,b336]
 simp only[↓xP,xU,rB,rA,rS]
 repeat' (refine ZiE (fun h=>?_) (fun h=>?_))
 all_goals (simp only[decide_eq_true_eq,decide_eq_false_iff_not] at *; simp [ZIm,offZ,chkZ, *])
theorem ZNR (x:Yl) (hf:Yl.Fit x):LeZ (ZIm x) (Yl.Small x):=LeZ.off hf.1 LeZ.id
theorem ZNW (c0:Str) (c1:Int):EE F 339 [.ag [.u (.str c0),.u (.int .i64 c1)]] []=ok1 (.ag [.u (.str c0),.u (.int .i64 c1)]):=by
 rw [R339,b339]
 simp only[↓xP,xU,rB,rA,rS]
theorem ZNz (c0:Str) (c1:Int):EE F 230 [.ag [.u (.str c0),.u (.int .i64 c1)],.ag [.u (.str c0),.u (.int .i64 c1)]] []=ok1 (B true):=by
 rw [R230,b230]
 simp only[↓xP,xU,rB,rA,rS,ne_eq,not_true_eq_false]
def ZG3 (l:(List Yl)):Prop:=l.length≤1048576∧∀ y,y∈l→Yl.Small y
def ZIe (l:(List Yl)) (left:Int):Int:=offZ left l.length fun a=>allZ ZIm l a
theorem ZM4 (l:(List Yl)) (hf:(l.length≤9223372036854775807∧∀ y,y∈l→Yl.Fit y)) (left:Int):EE F 299 [L 2 (l.map Yl.u),I left] []=ok1 (I (ZIe l left)):=by
 have hl:=hf.1
 rw [R299,b299]
 simp only[↓xP,xU,rB,rA,rS]
 refine ZiE (fun h=>?_) (fun h=>?_)
 ·simp only[decide_eq_true_eq] at h
  simp [ZIe,offZ,h]
 ·refine (Zjc (fun (a:Nat×Int) st=>st.s 0=DU (.sl 2 (l.map Yl.u))∧st.s 5=DI a.1∧st.s 1=DI a.2) (fun a=>l.length - a.1) (fun a=>ok1 (I (allZ ZIm (l.drop a.1) a.2))) ?_ (0,IntKind.i64.wrap (left - l.length)) ⟨by simp only[↓xP,xU,rB,rA,rS],by simp only[↓xP,xU,rB,rA,rS]; rfl,by simp only[↓xP,xU,rB,rA,rS]⟩).trans ?_
  ·rintro ⟨i,a⟩ st ⟨h0,h5,h1⟩ ih
   dsimp only at h0 h5 h1 ih ⊢
   by_cases hi:i<l.length
   ·obtain ⟨⟨c0,c1⟩,hx⟩:∃ x,l[i]?=some x:=⟨_,List.getElem?_eq_getElem hi⟩
    have hw:=w_succ (i:=i) (by omega)
    have hfx:=hf.2 _ (List.mem_of_getElem? hx)
    simp only[↓xP,xU,rB,rA,rS,h0,h5,h1,hi,hx,hw,Yl.u,ZNS]
    rw [ZGV hx,chkZ]
    refine ZiE (fun h=>?_) (fun h=>?_)
    ·simp only[decide_eq_true_eq] at h
     simp [h]
    ·rw [ih (i+1,ZIm ⟨c0,c1⟩ a) _ (by dsimp only; omega) ⟨by simp only[↓xP,xU,rB,rA,rS,h0],by simp only[↓xP,xU,rB,rA,rS],by simp only[↓xP,xU,rB,rA,rS]⟩]
     simp only[decide_eq_false_iff_not] at h
     simp [h]
   ·simp only[↓xP,xU,rB,rA,rS,h0,h5,h1,hi]
    rw [List.drop_of_length_le (by omega)]; rfl
  ·simp only[decide_eq_false_iff_not] at h
   simp [ZIe,offZ,h]
theorem ZM3 (l:(List Yl)) (hf:(l.length≤9223372036854775807∧∀ y,y∈l→Yl.Fit y)):LeZ (ZIe l) (ZG3 l):=LeZ.off hf.1 (LeZ.all fun x hx=>ZNR x (hf.2 x hx))
theorem ZNd (l:(List Yl)) (hs:ZG3 l):EE F 306 [L 2 (l.map Yl.u)] []=some ⟨[.sc (.own (.par 0) l.length)],[.row 2 (l.map Yl.u)],[]⟩:=by
 have hl:=hs.1
 rw [R306,b306]
 simp only[↓xP,xU,rB,rA,rS,ZJE _ 7 l.length [.str [],.int .i64 0] 24 (by omega)]
 refine (Zjc (fun (i:Nat) st=>i≤l.length∧st.s 0=DU (.sl 2 (l.map Yl.u))∧st.s 4=DI i∧st.s 3=.t (.sc (.own (.loc 7 0) l.length))∧st.o (.loc 7 0)=some (.row 2 ((l.take i).map Yl.u++List.replicate (l.length - i) [.str [],.int .i64 0]))) (fun i=>l.length - i) (fun i=>some ⟨[.sc (.own (.par 0) l.length)],[.row 2 (l.map Yl.u)],[]⟩) ?_ 0 ⟨by omega,by simp only[↓xP,xU,rB,rA,rS],by simp only[↓xP,xU,rB,rA,rS]; rfl,by simp only[↓xP,xU,rB,rA,rS],by simp only[↓xP,xU,rB,rA,rS,Nat.sub_zero]⟩)
 rintro i st ⟨hle,h0,h4,h3,ho⟩ ih
 by_cases hi:i<l.length
 ·obtain ⟨⟨c0,c1⟩,hx⟩:∃ x,l[i]?=some x:=⟨_,List.getElem?_eq_getElem hi⟩
  have hw:=w_succ (i:=i) (by omega)
  have hg:=ZFP (f:=Yl.u) (z:=[.str [],.int .i64 0]) hi
  have hf:=ZFQ (f:=Yl.u) (z:=[.str [],.int .i64 0]) hx
  simp only[Yl.u] at hf
  simp only[↓xP,xU,rB,rA,rS,h0,h4,h3,ho,hi,hx,hw,hg,hf,Yl.u,ZNW]
  exact ih (i+1) _ (by omega) ⟨by omega,by simp only[↓xP,xU,rB,rA,rS,h0],by simp only[↓xP,xU,rB,rA,rS],by simp only[↓xP,xU,rB,rA,rS,h3],by simp only[↓xP,xU,rB,rA,rS,Yl.u]⟩
 ·have:i=l.length:=by omega
  subst this
  rw [ZFO] at ho
  simp only[↓xP,xU,rB,rA,rS,h0,h4,h3,ho,hi]
theorem ZMK (l:(List Yl)) (hs:ZG3 l):EE F 152 [L 2 (l.map Yl.u),L 2 (l.map Yl.u)] []=ok1 (B true):=by
 have hl:=hs.1
 rw [R152,b152]
 simp only[↓xP,xU,rB,rA,rS,ne_eq,not_true_eq_false]
 refine (Zjc (fun (i:Nat) st=>st.s 0=DU (.sl 2 (l.map Yl.u))∧st.s 1=DU (.sl 2 (l.map Yl.u))∧st.s 5=DI i) (fun i=>l.length - i) (fun i=>ok1 (B true)) ?_ 0 ⟨by simp only[↓xP,xU,rB,rA,rS],by simp only[↓xP,xU,rB,rA,rS],by simp only[↓xP,xU,rB,rA,rS]; rfl⟩)
 rintro i st ⟨h0,h1,h5⟩ ih
 by_cases hi:i<l.length
 ·obtain ⟨⟨c0,c1⟩,hx⟩:∃ x,l[i]?=some x:=⟨_,List.getElem?_eq_getElem hi⟩
  have hw:=w_succ (i:=i) (by omega)
  simp only[↓xP,xU,rB,rA,rS,h0,h1,h5,hi,hx,hw,Yl.u,ZNz,ne_eq,not_true_eq_false]
  exact ih (i+1) _ (by omega) ⟨by simp only[↓xP,xU,rB,rA,rS,h0],by simp only[↓xP,xU,rB,rA,rS,h1],by simp only[↓xP,xU,rB,rA,rS]⟩
 ·simp only[↓xP,xU,rB,rA,rS,h0,h1,h5,hi]
def Ye.Small (x:Ye):Prop:=x.key.length≤1048576∧True
def ZGy (x:Ye) (a:Int):Int:=offZ a x.key.length fun a=>a
theorem ZHL (c0:Int) (c1:Str) (c2:Int) (c3:Int) (left:Int):EE F 199 [.ag [.u (.int .i64 c0),.u (.str c1),.u (.int .i64 c2),.u (.int .i64 c3)],I left] []=ok1 (I (ZGy ⟨c0,c1,c2,c3⟩ left)):=by
 rw [R199,b199]
 simp only[↓xP,xU,rB,rA,rS]
 repeat' (refine ZiE (fun h=>?_) (fun h=>?_))
 all_goals (simp only[decide_eq_true_eq,decide_eq_false_iff_not] at *; simp [ZGy,offZ,chkZ, *])
theorem ZHK (x:Ye) (hf:Ye.Fit x):LeZ (ZGy x) (Ye.Small x):=LeZ.off hf.2.1 LeZ.id
theorem ZHN (c0:Int) (c1:Str) (c2:Int) (c3:Int):EE F 210 [.ag [.u (.int .i64 c0),.u (.str c1),.u (.int .i64 c2),.u (.int .i64 c3)]] []=ok1 (.ag [.u (.int .i64 c0),.u (.str c1),.u (.int .i64 c2),.u (.int .i64 c3)]):=by
 rw [R210,b210]
 simp only[↓xP,xU,rB,rA,rS]
theorem ZHA (c0:Int) (c1:Str) (c2:Int) (c3:Int):EE F 223 [.ag [.u (.int .i64 c0),.u (.str c1),.u (.int .i64 c2),.u (.int .i64 c3)],.ag [.u (.int .i64 c0),.u (.str c1),.u (.int .i64 c2),.u (.int .i64 c3)]] []=ok1 (B true):=by
 rw [R223,b223]
 simp only[↓xP,xU,rB,rA,rS,ne_eq,not_true_eq_false]
theorem ZLY (c0:Int) (c1:Int) (c2:Int):EE F 340 [.ag [.u (.int .i64 c0),.u (.int .i64 c1),.u (.int .i64 c2)]] []=ok1 (.ag [.u (.int .i64 c0),.u (.int .i64 c1),.u (.int .i64 c2)]):=by
 rw [R340,b340]
 simp only[↓xP,xU,rB,rA,rS]
theorem ZLs (c0:Int) (c1:Int) (c2:Int):EE F 344 [.ag [.u (.int .i64 c0),.u (.int .i64 c1),.u (.int .i64 c2)],.ag [.u (.int .i64 c0),.u (.int .i64 c1),.u (.int .i64 c2)]] []=ok1 (B true):=by
 rw [R344,b344]
 simp only[↓xP,xU,rB,rA,rS,ne_eq,not_true_eq_false]
def ZGC (l:(List Yr)):Prop:=l.length≤1048576∧True
def ZHi (l:(List Yr)) (left:Int):Int:=offZ left l.length fun a=>a
theorem ZK0 (l:(List Yr)) (left:Int):EE F 300 [L 3 (l.map Yr.u),I left] []=ok1 (I (ZHi l left)):=by
 rw [R300,b300]
 simp only[↓xP,xU,rB,rA,rS]
 refine ZiE (fun h=>?_) (fun h=>?_)<;>(simp only[decide_eq_true_eq,decide_eq_false_iff_not] at h; simp [ZHi,offZ,h])
theorem ZKZ (l:(List Yr)) (hf:(l.length≤9223372036854775807∧∀ y,y∈l→Yr.Fit y)):LeZ (ZHi l) (ZGC l):=LeZ.off hf.1 (LeZ.id)
theorem ZK3 (l:(List Yr)) (hs:ZGC l):EE F 307 [L 3 (l.map Yr.u)] []=some ⟨[.sc (.own (.par 0) l.length)],[.row 3 (l.map Yr.u)],[]⟩:=by
 have hl:=hs.1
 rw [R307,b307]
 simp only[↓xP,xU,rB,rA,rS,ZJE _ 7 l.length [.int .i64 0,.int .i64 0,.int .i64 0] 24 (by omega)]
 refine (Zjc (fun (i:Nat) st=>i≤l.length∧st.s 0=DU (.sl 3 (l.map Yr.u))∧st.s 4=DI i∧st.s 3=.t (.sc (.own (.loc 7 0) l.length))∧st.o (.loc 7 0)=some (.row 3 ((l.take i).map Yr.u++List.replicate (l.length - i) [.int .i64 0,.int .i64 0,.int .i64 0]))) (fun i=>l.length - i) (fun i=>some ⟨[.sc (.own (.par 0) l.length)],[.row 3 (l.map Yr.u)],[]⟩) ?_ 0 ⟨by omega,by simp only[↓xP,xU,rB,rA,rS],by simp only[↓xP,xU,rB,rA,rS]; rfl,by simp only[↓xP,xU,rB,rA,rS],by simp only[↓xP,xU,rB,rA,rS,Nat.sub_zero]⟩)
 rintro i st ⟨hle,h0,h4,h3,ho⟩ ih
 by_cases hi:i<l.length
 ·obtain ⟨⟨c0,c1,c2⟩,hx⟩:∃ x,l[i]?=some x:=⟨_,List.getElem?_eq_getElem hi⟩
  have hw:=w_succ (i:=i) (by omega)
  have hg:=ZFP (f:=Yr.u) (z:=[.int .i64 0,.int .i64 0,.int .i64 0]) hi
  have hf:=ZFQ (f:=Yr.u) (z:=[.int .i64 0,.int .i64 0,.int .i64 0]) hx
  simp only[Yr.u] at hf
  simp only[↓xP,xU,rB,rA,rS,h0,h4,h3,ho,hi,hx,hw,hg,hf,Yr.u,ZLY]
  exact ih (i+1) _ (by omega) ⟨by omega,by simp only[↓xP,xU,rB,rA,rS,h0],by simp only[↓xP,xU,rB,rA,rS],by simp only[↓xP,xU,rB,rA,rS,h3],by simp only[↓xP,xU,rB,rA,rS,Yr.u]⟩
 ·have:i=l.length:=by omega
  subst this
  rw [ZFO] at ho
  simp only[↓xP,xU,rB,rA,rS,h0,h4,h3,ho,hi]
theorem ZKO (l:(List Yr)) (hs:ZGC l):EE F 316 [L 3 (l.map Yr.u),L 3 (l.map Yr.u)] []=ok1 (B true):=by
 have hl:=hs.1
 rw [R316,b316]
 simp only[↓xP,xU,rB,rA,rS,ne_eq,not_true_eq_false]
 refine (Zjc (fun (i:Nat) st=>st.s 0=DU (.sl 3 (l.map Yr.u))∧st.s 1=DU (.sl 3 (l.map Yr.u))∧st.s 5=DI i) (fun i=>l.length - i) (fun i=>ok1 (B true)) ?_ 0 ⟨by simp only[↓xP,xU,rB,rA,rS],by simp only[↓xP,xU,rB,rA,rS],by simp only[↓xP,xU,rB,rA,rS]; rfl⟩)
 rintro i st ⟨h0,h1,h5⟩ ih
 by_cases hi:i<l.length
 ·obtain ⟨⟨c0,c1,c2⟩,hx⟩:∃ x,l[i]?=some x:=⟨_,List.getElem?_eq_getElem hi⟩
  have hw:=w_succ (i:=i) (by omega)
  simp only[↓xP,xU,rB,rA,rS,h0,h1,h5,hi,hx,hw,Yr.u,ZLs,ne_eq,not_true_eq_false]
  exact ih (i+1) _ (by omega) ⟨by simp only[↓xP,xU,rB,rA,rS,h0],by simp only[↓xP,xU,rB,rA,rS,h1],by simp only[↓xP,xU,rB,rA,rS]⟩
 ·simp only[↓xP,xU,rB,rA,rS,h0,h1,h5,hi]
def Yh.Small (x:Yh):Prop:=Ye.Small x.cmd∧True
def ZG9 (x:Yh) (a:Int):Int:=chkZ (ZGy x.cmd a) fun a=>a
theorem ZKF (c0:Int) (c1:Int) (c2:Int) (c3:Str) (c4:Int) (c5:Int) (left:Int):EE F 338 [.ag [.u (.int .i64 c0),.u (.int .i64 c1),.u (.int .i64 c2),.u (.str c3),.u (.int .i64 c4),.u (.int .i64 c5)],I left] []=ok1 (I (ZG9 ⟨c0,c1,⟨c2,c3,c4,c5⟩⟩ left)):=by
 rw [R338,b338]
 simp only[↓xP,xU,rB,rA,rS,ZHL]
 repeat' (refine ZiE (fun h=>?_) (fun h=>?_))
 all_goals (simp only[decide_eq_true_eq,decide_eq_false_iff_not] at *; simp [ZG9,offZ,chkZ, *])
theorem ZKE (x:Yh) (hf:Yh.Fit x):LeZ (ZG9 x) (Yh.Small x):=LeZ.chk (ZHK _ hf.2.2) LeZ.id
theorem ZKG (c0:Int) (c1:Int) (c2:Int) (c3:Str) (c4:Int) (c5:Int):EE F 342 [.ag [.u (.int .i64 c0),.u (.int .i64 c1),.u (.int .i64 c2),.u (.str c3),.u (.int .i64 c4),.u (.int .i64 c5)]] []=ok1 (.ag [.u (.int .i64 c0),.u (.int .i64 c1),.u (.int .i64 c2),.u (.str c3),.u (.int .i64 c4),.u (.int .i64 c5)]):=by
 rw [R342,b342]
 simp only[↓xP,xU,rB,rA,rS,ZHN]
theorem ZKi (c0:Int) (c1:Int) (c2:Int) (c3:Str) (c4:Int) (c5:Int):EE F 346 [.ag [.u (.int .i64 c0),.u (.int .i64 c1),.u (.int .i64 c2),.u (.str c3),.u (.int .i64 c4),.u (.int .i64 c5)],.ag [.u (.int .i64 c0),.u (.int .i64 c1),.u (.int .i64 c2),.u (.str c3),.u (.int .i64 c4),.u (.int .i64 c5)]] []=ok1 (B true):=by
 rw [R346,b346]
 simp only[↓xP,xU,rB,rA,rS,ZHA,ne_eq,not_true_eq_false]
def ZGF (l:(List Yh)):Prop:=l.length≤1048576∧∀ y,y∈l→Yh.Small y
def ZG0 (l:(List Yh)) (left:Int):Int:=offZ left l.length fun a=>allZ ZG9 l a
theorem ZJL (l:(List Yh)) (hf:(l.length≤9223372036854775807∧∀ y,y∈l→Yh.Fit y)) (left:Int):EE F 337 [L 6 (l.map Yh.u),I left] []=ok1 (I (ZG0 l left)):=by
 have hl:=hf.1
 rw [R337,b337]
 simp only[↓xP,xU,rB,rA,rS]
 refine ZiE (fun h=>?_) (fun h=>?_)
 ·simp only[decide_eq_true_eq] at h
  simp [ZG0,offZ,h]
 ·refine (Zjc (fun (a:Nat×Int) st=>st.s 0=DU (.sl 6 (l.map Yh.u))∧st.s 5=DI a.1∧st.s 1=DI a.2) (fun a=>l.length - a.1) (fun a=>ok1 (I (allZ ZG9 (l.drop a.1) a.2))) ?_ (0,IntKind.i64.wrap (left - l.length)) ⟨by simp only[↓xP,xU,rB,rA,rS],by simp only[↓xP,xU,rB,rA,rS]; rfl,by simp only[↓xP,xU,rB,rA,rS]⟩).trans ?_
  ·rintro ⟨i,a⟩ st ⟨h0,h5,h1⟩ ih
   dsimp only at h0 h5 h1 ih ⊢
   by_cases hi:i<l.length
   ·obtain ⟨⟨c0,c1,⟨c2,c3,c4,c5⟩⟩,hx⟩:∃ x,l[i]?=some x:=⟨_,List.getElem?_eq_getElem hi⟩
    have hw:=w_succ (i:=i) (by omega)
    have hfx:=hf.2 _ (List.mem_of_getElem? hx)
    simp only[↓xP,xU,rB,rA,rS,h0,h5,h1,hi,hx,hw,Yh.u,ZKF]
    rw [ZGV hx,chkZ]
    refine ZiE (fun h=>?_) (fun h=>?_)
    ·simp only[decide_eq_true_eq] at h
     simp [h]
    ·rw [ih (i+1,ZG9 ⟨c0,c1,⟨c2,c3,c4,c5⟩⟩ a) _ (by dsimp only; omega) ⟨by simp only[↓xP,xU,rB,rA,rS,h0],by simp only[↓xP,xU,rB,rA,rS],by simp only[↓xP,xU,rB,rA,rS]⟩]
     simp only[decide_eq_false_iff_not] at h
     simp [h]
   ·simp only[↓xP,xU,rB,rA,rS,h0,h5,h1,hi]
    rw [List.drop_of_length_le (by omega)]; rfl
  ·simp only[decide_eq_false_iff_not] at h
   simp [ZG0,offZ,h]
theorem ZJK (l:(List Yh)) (hf:(l.length≤9223372036854775807∧∀ y,y∈l→Yh.Fit y)):LeZ (ZG0 l) (ZGF l):=LeZ.off hf.1 (LeZ.all fun x hx=>ZKE x (hf.2 x hx))
theorem ZJM (l:(List Yh)) (hs:ZGF l):EE F 341 [L 6 (l.map Yh.u)] []=some ⟨[.sc (.own (.par 0) l.length)],[.row 6 (l.map Yh.u)],[]⟩:=by
 have hl:=hs.1
 rw [R341,b341]
 simp only[↓xP,xU,rB,rA,rS,ZJE _ 7 l.length [.int .i64 0,.int .i64 0,.int .i64 0,.str [],.int .i64 0,.int .i64 0] 56 (by omega)]
 refine (Zjc (fun (i:Nat) st=>i≤l.length∧st.s 0=DU (.sl 6 (l.map Yh.u))∧st.s 4=DI i∧st.s 3=.t (.sc (.own (.loc 7 0) l.length))∧st.o (.loc 7 0)=some (.row 6 ((l.take i).map Yh.u++List.replicate (l.length - i) [.int .i64 0,.int .i64 0,.int .i64 0,.str [],.int .i64 0,.int .i64 0]))) (fun i=>l.length - i) (fun i=>some ⟨[.sc (.own (.par 0) l.length)],[.row 6 (l.map Yh.u)],[]⟩) ?_ 0 ⟨by omega,by simp only[↓xP,xU,rB,rA,rS],by simp only[↓xP,xU,rB,rA,rS]; rfl,by simp only[↓xP,xU,rB,rA,rS],by simp only[↓xP,xU,rB,rA,rS,Nat.sub_zero]⟩)
 rintro i st ⟨hle,h0,h4,h3,ho⟩ ih
 by_cases hi:i<l.length
 ·obtain ⟨⟨c0,c1,⟨c2,c3,c4,c5⟩⟩,hx⟩:∃ x,l[i]?=some x:=⟨_,List.getElem?_eq_getElem hi⟩
  have hw:=w_succ (i:=i) (by omega)
  have hg:=ZFP (f:=Yh.u) (z:=[.int .i64 0,.int .i64 0,.int .i64 0,.str [],.int .i64 0,.int .i64 0]) hi
  have hf:=ZFQ (f:=Yh.u) (z:=[.int .i64 0,.int .i64 0,.int .i64 0,.str [],.int .i64 0,.int .i64 0]) hx
  simp only[Yh.u] at hf
  simp only[↓xP,xU,rB,rA,rS,h0,h4,h3,ho,hi,hx,hw,hg,hf,Yh.u,ZKG]
  exact ih (i+1) _ (by omega) ⟨by omega,by simp only[↓xP,xU,rB,rA,rS,h0],by simp only[↓xP,xU,rB,rA,rS],by simp only[↓xP,xU,rB,rA,rS,h3],by simp only[↓xP,xU,rB,rA,rS,Yh.u]⟩
 ·have:i=l.length:=by omega
  subst this
  rw [ZFO] at ho
  simp only[↓xP,xU,rB,rA,rS,h0,h4,h3,ho,hi]
theorem ZJA (l:(List Yh)) (hs:ZGF l):EE F 345 [L 6 (l.map Yh.u),L 6 (l.map Yh.u)] []=ok1 (B true):=by
 have hl:=hs.1
 rw [R345,b345]
 simp only[↓xP,xU,rB,rA,rS,ne_eq,not_true_eq_false]
 refine (Zjc (fun (i:Nat) st=>st.s 0=DU (.sl 6 (l.map Yh.u))∧st.s 1=DU (.sl 6 (l.map Yh.u))∧st.s 5=DI i) (fun i=>l.length - i) (fun i=>ok1 (B true)) ?_ 0 ⟨by simp only[↓xP,xU,rB,rA,rS],by simp only[↓xP,xU,rB,rA,rS],by simp only[↓xP,xU,rB,rA,rS]; rfl⟩)
 rintro i st ⟨h0,h1,h5⟩ ih
 by_cases hi:i<l.length
 ·obtain ⟨⟨c0,c1,⟨c2,c3,c4,c5⟩⟩,hx⟩:∃ x,l[i]?=some x:=⟨_,List.getElem?_eq_getElem hi⟩
  have hw:=w_succ (i:=i) (by omega)
  simp only[↓xP,xU,rB,rA,rS,h0,h1,h5,hi,hx,hw,Yh.u,ZKi,ne_eq,not_true_eq_false]
  exact ih (i+1) _ (by omega) ⟨by simp only[↓xP,xU,rB,rA,rS,h0],by simp only[↓xP,xU,rB,rA,rS,h1],by simp only[↓xP,xU,rB,rA,rS]⟩
 ·simp only[↓xP,xU,rB,rA,rS,h0,h1,h5,hi]
def Ya.Small (x:Ya):Prop:=Yh.Small x.asked∧True
def ZGX (x:Ya) (a:Int):Int:=chkZ (ZG9 x.asked a) fun a=>a
theorem ZMt (c0:Int) (c1:Int) (c2:Int) (c3:Str) (c4:Int) (c5:Int) (c6:Int) (left:Int):EE F 304 [.ag [.u (.int .i64 c0),.u (.int .i64 c1),.u (.int .i64 c2),.u (.str c3),.u (.int .i64 c4),.u (.int .i64 c5),.u (.int .i64 c6)],I left] []=ok1 (I (ZGX ⟨⟨c0,c1,⟨c2,c3,c4,c5⟩⟩,c6⟩ left)):=by
 rw [R304,b304]
 simp only[↓xP,xU,rB,rA,rS,ZKF]
 repeat' (refine ZiE (fun h=>?_) (fun h=>?_))
 all_goals (simp only[decide_eq_true_eq,decide_eq_false_iff_not] at *; simp [ZGX,offZ,chkZ, *])
theorem ZMs (x:Ya) (hf:Ya.Fit x):LeZ (ZGX x) (Ya.Small x):=LeZ.chk (ZKE _ hf.1) LeZ.id
theorem ZMC (c0:Int) (c1:Int) (c2:Int) (c3:Str) (c4:Int) (c5:Int) (c6:Int):EE F 311 [.ag [.u (.int .i64 c0),.u (.int .i64 c1),.u (.int .i64 c2),.u (.str c3),.u (.int .i64 c4),.u (.int .i64 c5),.u (.int .i64 c6)]] []=ok1 (.ag [.u (.int .i64 c0),.u (.int .i64 c1),.u (.int .i64 c2),.u (.str c3),.u (.int .i64 c4),.u (.int .i64 c5),.u (.int .i64 c6)]):=by
 rw [R311,b311]
 simp only[↓xP,xU,rB,rA,rS,ZKG]
theorem ZL3 (c0:Int) (c1:Int) (c2:Int) (c3:Str) (c4:Int) (c5:Int) (c6:Int):EE F 320 [.ag [.u (.int .i64 c0),.u (.int .i64 c1),.u (.int .i64 c2),.u (.str c3),.u (.int .i64 c4),.u (.int .i64 c5),.u (.int .i64 c6)],.ag [.u (.int .i64 c0),.u (.int .i64 c1),.u (.int .i64 c2),.u (.str c3),.u (.int .i64 c4),.u (.int .i64 c5),.u (.int .i64 c6)]] []=ok1 (B true):=by
 rw [R320,b320]
 simp only[↓xP,xU,rB,rA,rS,ZKi,ne_eq,not_true_eq_false]
def ZGS (l:(List Ya)):Prop:=l.length≤1048576∧∀ y,y∈l→Ya.Small y
def ZG7 (l:(List Ya)) (left:Int):Int:=offZ left l.length fun a=>allZ ZGX l a
theorem ZLH (l:(List Ya)) (hf:(l.length≤9223372036854775807∧∀ y,y∈l→Ya.Fit y)) (left:Int):EE F 257 [L 7 (l.map Ya.u),I left] []=ok1 (I (ZG7 l left)):=by
 have hl:=hf.1
 rw [R257,b257]
 simp only[↓xP,xU,rB,rA,rS]
 refine ZiE (fun h=>?_) (fun h=>?_)
 ·simp only[decide_eq_true_eq] at h
  simp [ZG7,offZ,h]
 ·refine (Zjc (fun (a:Nat×Int) st=>st.s 0=DU (.sl 7 (l.map Ya.u))∧st.s 5=DI a.1∧st.s 1=DI a.2) (fun a=>l.length - a.1) (fun a=>ok1 (I (allZ ZGX (l.drop a.1) a.2))) ?_ (0,IntKind.i64.wrap (left - l.length)) ⟨by simp only[↓xP,xU,rB,rA,rS],by simp only[↓xP,xU,rB,rA,rS]; rfl,by simp only[↓xP,xU,rB,rA,rS]⟩).trans ?_
  ·rintro ⟨i,a⟩ st ⟨h0,h5,h1⟩ ih
   dsimp only at h0 h5 h1 ih ⊢
   by_cases hi:i<l.length
   ·obtain ⟨⟨⟨c0,c1,⟨c2,c3,c4,c5⟩⟩,c6⟩,hx⟩:∃ x,l[i]?=some x:=⟨_,List.getElem?_eq_getElem hi⟩
    have hw:=w_succ (i:=i) (by omega)
    have hfx:=hf.2 _ (List.mem_of_getElem? hx)
    simp only[↓xP,xU,rB,rA,rS,h0,h5,h1,hi,hx,hw,Ya.u,ZMt]
    rw [ZGV hx,chkZ]
    refine ZiE (fun h=>?_) (fun h=>?_)
    ·simp only[decide_eq_true_eq] at h
     simp [h]
    ·rw [ih (i+1,ZGX ⟨⟨c0,c1,⟨c2,c3,c4,c5⟩⟩,c6⟩ a) _ (by dsimp only; omega) ⟨by simp only[↓xP,xU,rB,rA,rS,h0],by simp only[↓xP,xU,rB,rA,rS],by simp only[↓xP,xU,rB,rA,rS]⟩]
     simp only[decide_eq_false_iff_not] at h
     simp [h]
   ·simp only[↓xP,xU,rB,rA,rS,h0,h5,h1,hi]
    rw [List.drop_of_length_le (by omega)]; rfl
  ·simp only[decide_eq_false_iff_not] at h
   simp [ZG7,offZ,h]
theorem ZLG (l:(List Ya)) (hf:(l.length≤9223372036854775807∧∀ y,y∈l→Ya.Fit y)):LeZ (ZG7 l) (ZGS l):=LeZ.off hf.1 (LeZ.all fun x hx=>ZMs x (hf.2 x hx))
theorem ZLS (l:(List Ya)) (hs:ZGS l):EE F 267 [L 7 (l.map Ya.u)] []=some ⟨[.sc (.own (.par 0) l.length)],[.row 7 (l.map Ya.u)],[]⟩:=by
 have hl:=hs.1
 rw [R267,b267]
 simp only[↓xP,xU,rB,rA,rS,ZJE _ 7 l.length [.int .i64 0,.int .i64 0,.int .i64 0,.str [],.int .i64 0,.int .i64 0,.int .i64 0] 64 (by omega)]
 refine (Zjc (fun (i:Nat) st=>i≤l.length∧st.s 0=DU (.sl 7 (l.map Ya.u))∧st.s 4=DI i∧st.s 3=.t (.sc (.own (.loc 7 0) l.length))∧st.o (.loc 7 0)=some (.row 7 ((l.take i).map Ya.u++List.replicate (l.length - i) [.int .i64 0,.int .i64 0,.int .i64 0,.str [],.int .i64 0,.int .i64 0,.int .i64 0]))) (fun i=>l.length - i) (fun i=>some ⟨[.sc (.own (.par 0) l.length)],[.row 7 (l.map Ya.u)],[]⟩) ?_ 0 ⟨by omega,by simp only[↓xP,xU,rB,rA,rS],by simp only[↓xP,xU,rB,rA,rS]; rfl,by simp only[↓xP,xU,rB,rA,rS],by simp only[↓xP,xU,rB,rA,rS,Nat.sub_zero]⟩)
 rintro i st ⟨hle,h0,h4,h3,ho⟩ ih
 by_cases hi:i<l.length
 ·obtain ⟨⟨⟨c0,c1,⟨c2,c3,c4,c5⟩⟩,c6⟩,hx⟩:∃ x,l[i]?=some x:=⟨_,List.getElem?_eq_getElem hi⟩
  have hw:=w_succ (i:=i) (by omega)
  have hg:=ZFP (f:=Ya.u) (z:=[.int .i64 0,.int .i64 0,.int .i64 0,.str [],.int .i64 0,.int .i64 0,.int .i64 0]) hi
  have hf:=ZFQ (f:=Ya.u) (z:=[.int .i64 0,.int .i64 0,.int .i64 0,.str [],.int .i64 0,.int .i64 0,.int .i64 0]) hx
  simp only[Ya.u] at hf
  simp only[↓xP,xU,rB,rA,rS,h0,h4,h3,ho,hi,hx,hw,hg,hf,Ya.u,ZMC]
  exact ih (i+1) _ (by omega) ⟨by omega,by simp only[↓xP,xU,rB,rA,rS,h0],by simp only[↓xP,xU,rB,rA,rS],by simp only[↓xP,xU,rB,rA,rS,h3],by simp only[↓xP,xU,rB,rA,rS,Ya.u]⟩
 ·have:i=l.length:=by omega
  subst this
  rw [ZFO] at ho
  simp only[↓xP,xU,rB,rA,rS,h0,h4,h3,ho,hi]
theorem ZLm (l:(List Ya)) (hs:ZGS l):EE F 280 [L 7 (l.map Ya.u),L 7 (l.map Ya.u)] []=ok1 (B true):=by
 have hl:=hs.1
 rw [R280,b280]
 simp only[↓xP,xU,rB,rA,rS,ne_eq,not_true_eq_false]
 refine (Zjc (fun (i:Nat) st=>st.s 0=DU (.sl 7 (l.map Ya.u))∧st.s 1=DU (.sl 7 (l.map Ya.u))∧st.s 5=DI i) (fun i=>l.length - i) (fun i=>ok1 (B true)) ?_ 0 ⟨by simp only[↓xP,xU,rB,rA,rS],by simp only[↓xP,xU,rB,rA,rS],by simp only[↓xP,xU,rB,rA,rS]; rfl⟩)
 rintro i st ⟨h0,h1,h5⟩ ih
 by_cases hi:i<l.length
 ·obtain ⟨⟨⟨c0,c1,⟨c2,c3,c4,c5⟩⟩,c6⟩,hx⟩:∃ x,l[i]?=some x:=⟨_,List.getElem?_eq_getElem hi⟩
  have hw:=w_succ (i:=i) (by omega)
  simp only[↓xP,xU,rB,rA,rS,h0,h1,h5,hi,hx,hw,Ya.u,ZL3,ne_eq,not_true_eq_false]
  exact ih (i+1) _ (by omega) ⟨by simp only[↓xP,xU,rB,rA,rS,h0],by simp only[↓xP,xU,rB,rA,rS,h1],by simp only[↓xP,xU,rB,rA,rS]⟩
 ·simp only[↓xP,xU,rB,rA,rS,h0,h1,h5,hi]
def Yt.Small (x:Yt):Prop:=Yj.Small x.span∧ZG3 x.pairs∧ZGC x.known∧x.cut.length≤1048576∧True
def ZJa (x:Yt) (a:Int):Int:=chkZ (ZGH x.span a) fun a=>chkZ (ZIe x.pairs a) fun a=>chkZ (ZHi x.known a) fun a=>offZ a x.cut.length fun a=>a
theorem ZNa (c0:Str) (c1:Str) (c2:(List Yl)) (c3:(List Yr)) (c4:Bool) (c5:Str) (hf:Yt.Fit ⟨⟨c0,c1⟩,c2,c3,c4,c5⟩) (left:Int):EE F 252 [.ag [.u (.str c0),.u (.str c1),.u (.sl 2 (c2.map Yl.u)),.u (.sl 3 (c3.map Yr.u)),.u (.bool c4),.u (.str c5)],I left] []=ok1 (I (ZJa ⟨⟨c0,c1⟩,c2,c3,c4,c5⟩ left)):=by
 rw [R252,b252]
 simp only[↓xP,xU,rB,rA,rS,ZIv,ZM4 c2 hf.2.1,ZK0]
 repeat' (refine ZiE (fun h=>?_) (fun h=>?_))
 all_goals (simp only[decide_eq_true_eq,decide_eq_false_iff_not] at *; simp [ZJa,offZ,chkZ, *])
theorem ZM9 (x:Yt) (hf:Yt.Fit x):LeZ (ZJa x) (Yt.Small x):=LeZ.chk (ZIu _ hf.1) (LeZ.chk (ZM3 _ hf.2.1) (LeZ.chk (ZKZ _ hf.2.2.1) (LeZ.off hf.2.2.2.2 LeZ.id)))
theorem ZNg (c0:Str) (c1:Str) (c2:(List Yl)) (c3:(List Yr)) (c4:Bool) (c5:Str) (hs:Yt.Small ⟨⟨c0,c1⟩,c2,c3,c4,c5⟩):EE F 262 [.ag [.u (.str c0),.u (.str c1),.u (.sl 2 (c2.map Yl.u)),.u (.sl 3 (c3.map Yr.u)),.u (.bool c4),.u (.str c5)]] []=some ⟨[.ag [.u (.str c0),.u (.str c1),.own (.par 0) c2.length,.own (.par 1) c3.length,.u (.bool c4),.u (.str c5)]],[.row 2 (c2.map Yl.u),.row 3 (c3.map Yr.u)],[]⟩:=by
 rw [R262,b262]
 simp only[↓xP,xU,rB,rA,rS,ZIw,ZNd c2 hs.2.1,ZK3 c3 hs.2.2.1]
theorem ZMN (c0:Str) (c1:Str) (c2:(List Yl)) (c3:(List Yr)) (c4:Bool) (c5:Str) (hs:Yt.Small ⟨⟨c0,c1⟩,c2,c3,c4,c5⟩):EE F 275 [.ag [.u (.str c0),.u (.str c1),.u (.sl 2 (c2.map Yl.u)),.u (.sl 3 (c3.map Yr.u)),.u (.bool c4),.u (.str c5)],.ag [.u (.str c0),.u (.str c1),.u (.sl 2 (c2.map Yl.u)),.u (.sl 3 (c3.map Yr.u)),.u (.bool c4),.u (.str c5)]] []=ok1 (B true):=by
 rw [R275,b275]
 simp only[↓xP,xU,rB,rA,rS,ZIn,ZMK c2 hs.2.1,ZKO c3 hs.2.2.1,ne_eq,not_true_eq_false]
def Ym.Small (x:Ym):Prop:=Yj.Small x.span∧ZG3 x.pairs∧True
def Yf.Small (x:Yf):Prop:=ZIi x.members∧True
def ZGZ (x:Yf) (a:Int):Int:=chkZ (ZJ8 x.members a) fun a=>a
theorem ZId (c0:Int) (c1:(List Int)) (c2:Bool) (left:Int):EE F 253 [.ag [.u (.int .i64 c0),.u (.sl 1 (c1.map iU)),.u (.bool c2)],I left] []=ok1 (I (ZGZ ⟨c0,c1,c2⟩ left)):=by
 rw [R253,b253]
 simp only[↓xP,xU,rB,rA,rS,ZNQ]
 repeat' (refine ZiE (fun h=>?_) (fun h=>?_))
 all_goals (simp only[decide_eq_true_eq,decide_eq_false_iff_not] at *; simp [ZGZ,offZ,chkZ, *])
theorem ZIc (x:Yf) (hf:Yf.Fit x):LeZ (ZGZ x) (Yf.Small x):=LeZ.chk (ZNP _ hf.2.1) LeZ.id
theorem ZIf (c0:Int) (c1:(List Int)) (c2:Bool) (hs:Yf.Small ⟨c0,c1,c2⟩):EE F 263 [.ag [.u (.int .i64 c0),.u (.sl 1 (c1.map iU)),.u (.bool c2)]] []=some ⟨[.ag [.u (.int .i64 c0),.own (.par 0) c1.length,.u (.bool c2)]],[.row 1 (c1.map iU)],[]⟩:=by
 rw [R263,b263]
 simp only[↓xP,xU,rB,rA,rS,ZNV c1 hs.1]
theorem ZHY (c0:Int) (c1:(List Int)) (c2:Bool) (hs:Yf.Small ⟨c0,c1,c2⟩):EE F 276 [.ag [.u (.int .i64 c0),.u (.sl 1 (c1.map iU)),.u (.bool c2)],.ag [.u (.int .i64 c0),.u (.sl 1 (c1.map iU)),.u (.bool c2)]] []=ok1 (B true):=by
 rw [R276,b276]
 simp only[↓xP,xU,rB,rA,rS,ZNy c1 hs.1,ne_eq,not_true_eq_false]
def Yi.Small (x:Yi):Prop:=Yh.Small x.sent∧True
def Yn.Small (x:Yn):Prop:=x.key.length≤1048576∧True
def ZJ9 (x:Yn) (a:Int):Int:=offZ a x.key.length fun a=>a
theorem ZNU (c0:Int) (c1:Int) (c2:Int) (c3:Str) (c4:Int) (c5:Int) (c6:Int) (left:Int):EE F 57 [.ag [.u (.int .i64 c0),.u (.int .i64 c1),.u (.int .i64 c2),.u (.str c3),.u (.int .i64 c4),.u (.int .i64 c5),.u (.int .i64 c6)],I left] []=ok1 (I (ZJ9 ⟨c0,c1,c2,c3,c4,c5,c6⟩ left)):=by
 rw [R57,b57]
 simp only[↓xP,xU,rB,rA,rS]
 repeat' (refine ZiE (fun h=>?_) (fun h=>?_))
 all_goals (simp only[decide_eq_true_eq,decide_eq_false_iff_not] at *; simp [ZJ9,offZ,chkZ, *])
theorem ZNT (x:Yn) (hf:Yn.Fit x):LeZ (ZJ9 x) (Yn.Small x):=LeZ.off hf.2.2.2.1 LeZ.id
theorem ZNX (c0:Int) (c1:Int) (c2:Int) (c3:Str) (c4:Int) (c5:Int) (c6:Int):EE F 65 [.ag [.u (.int .i64 c0),.u (.int .i64 c1),.u (.int .i64 c2),.u (.str c3),.u (.int .i64 c4),.u (.int .i64 c5),.u (.int .i64 c6)]] []=ok1 (.ag [.u (.int .i64 c0),.u (.int .i64 c1),.u (.int .i64 c2),.u (.str c3),.u (.int .i64 c4),.u (.int .i64 c5),.u (.int .i64 c6)]):=by
 rw [R65,b65]
 simp only[↓xP,xU,rB,rA,rS]
theorem ZNA (c0:Int) (c1:Int) (c2:Int) (c3:Str) (c4:Int) (c5:Int) (c6:Int):EE F 73 [.ag [.u (.int .i64 c0),.u (.int .i64 c1),.u (.int .i64 c2),.u (.str c3),.u (.int .i64 c4),.u (.int .i64 c5),.u (.int .i64 c6)],.ag [.u (.int .i64 c0),.u (.int .i64 c1),.u (.int .i64 c2),.u (.str c3),.u (.int .i64 c4),.u (.int .i64 c5),.u (.int .i64 c6)]] []=ok1 (B true):=by
 rw [R73,b73]
 simp only[↓xP,xU,rB,rA,rS,ne_eq,not_true_eq_false]
def Yg.Small (x:Yg):Prop:=Ye.Small x.wish∧Yi.Small x.inner∧Yn.Small x.work∧True
def Yo.Small (x:Yo):Prop:=Yf.Small x.conf∧ZGF x.log∧True
def ZGA (x:Yo) (a:Int):Int:=chkZ (ZGZ x.conf a) fun a=>chkZ (ZG0 x.log a) fun a=>a
theorem ZLP (c0:Int) (c1:(List Int)) (c2:Bool) (c3:Bool) (c4:(List Yh)) (hf:Yo.Fit ⟨⟨c0,c1,c2⟩,c3,c4⟩) (left:Int):EE F 302 [.ag [.u (.int .i64 c0),.u (.sl 1 (c1.map iU)),.u (.bool c2),.u (.bool c3),.u (.sl 6 (c4.map Yh.u))],I left] []=ok1 (I (ZGA ⟨⟨c0,c1,c2⟩,c3,c4⟩ left)):=by
 rw [R302,b302]
 simp only[↓xP,xU,rB,rA,rS,ZId,ZJL c4 hf.2.2]
 repeat' (refine ZiE (fun h=>?_) (fun h=>?_))
 all_goals (simp only[decide_eq_true_eq,decide_eq_false_iff_not] at *; simp [ZGA,offZ,chkZ, *])
theorem ZLO (x:Yo) (hf:Yo.Fit x):LeZ (ZGA x) (Yo.Small x):=LeZ.chk (ZIc _ hf.1) (LeZ.chk (ZJK _ hf.2.2) LeZ.id)
theorem ZLW (c0:Int) (c1:(List Int)) (c2:Bool) (c3:Bool) (c4:(List Yh)) (hs:Yo.Small ⟨⟨c0,c1,c2⟩,c3,c4⟩):EE F 309 [.ag [.u (.int .i64 c0),.u (.sl 1 (c1.map iU)),.u (.bool c2),.u (.bool c3),.u (.sl 6 (c4.map Yh.u))]] []=some ⟨[.ag [.u (.int .i64 c0),.own (.par 0) c1.length,.u (.bool c2),.u (.bool c3),.own (.par 1) c4.length]],[.row 1 (c1.map iU),.row 6 (c4.map Yh.u)],[]⟩:=by
 rw [R309,b309]
 simp only[↓xP,xU,rB,rA,rS,ZIf c0 c1 c2 hs.1,ZJM c4 hs.2.1]
theorem ZLq (c0:Int) (c1:(List Int)) (c2:Bool) (c3:Bool) (c4:(List Yh)) (hs:Yo.Small ⟨⟨c0,c1,c2⟩,c3,c4⟩):EE F 318 [.ag [.u (.int .i64 c0),.u (.sl 1 (c1.map iU)),.u (.bool c2),.u (.bool c3),.u (.sl 6 (c4.map Yh.u))],.ag [.u (.int .i64 c0),.u (.sl 1 (c1.map iU)),.u (.bool c2),.u (.bool c3),.u (.sl 6 (c4.map Yh.u))]] []=ok1 (B true):=by
 rw [R318,b318]
 simp only[↓xP,xU,rB,rA,rS,ZHY c0 c1 c2 hs.1,ZJA c4 hs.2.1,ne_eq,not_true_eq_false]
def ZGB (l:(List Yo)):Prop:=l.length≤1048576∧∀ y,y∈l→Yo.Small y
def ZGJ (l:(List Yo)) (left:Int):Int:=offZ left l.length fun a=>allZ ZGA l a
theorem ZKY (l:(List Yo)) (hf:(l.length≤9223372036854775807∧∀ y,y∈l→Yo.Fit y)) (left:Int):EE F 254 [L 5 (l.map Yo.u),I left] []=ok1 (I (ZGJ l left)):=by
 have hl:=hf.1
 rw [R254,b254]
 simp only[↓xP,xU,rB,rA,rS]
 refine ZiE (fun h=>?_) (fun h=>?_)
 ·simp only[decide_eq_true_eq] at h
  simp [ZGJ,offZ,h]
 ·refine (Zjc (fun (a:Nat×Int) st=>st.s 0=DU (.sl 5 (l.map Yo.u))∧st.s 5=DI a.1∧st.s 1=DI a.2) (fun a=>l.length - a.1) (fun a=>ok1 (I (allZ ZGA (l.drop a.1) a.2))) ?_ (0,IntKind.i64.wrap (left - l.length)) ⟨by simp only[↓xP,xU,rB,rA,rS],by simp only[↓xP,xU,rB,rA,rS]; rfl,by simp only[↓xP,xU,rB,rA,rS]⟩).trans ?_
  ·rintro ⟨i,a⟩ st ⟨h0,h5,h1⟩ ih
   dsimp only at h0 h5 h1 ih ⊢
   by_cases hi:i<l.length
   ·obtain ⟨⟨⟨c0,c1,c2⟩,c3,c4⟩,hx⟩:∃ x,l[i]?=some x:=⟨_,List.getElem?_eq_getElem hi⟩
    have hw:=w_succ (i:=i) (by omega)
    have hfx:=hf.2 _ (List.mem_of_getElem? hx)
    simp only[↓xP,xU,rB,rA,rS,h0,h5,h1,hi,hx,hw,Yo.u,ZLP c0 c1 c2 c3 c4 hfx]
    rw [ZGV hx,chkZ]
    refine ZiE (fun h=>?_) (fun h=>?_)
    ·simp only[decide_eq_true_eq] at h
     simp [h]
    ·rw [ih (i+1,ZGA ⟨⟨c0,c1,c2⟩,c3,c4⟩ a) _ (by dsimp only; omega) ⟨by simp only[↓xP,xU,rB,rA,rS,h0],by simp only[↓xP,xU,rB,rA,rS],by simp only[↓xP,xU,rB,rA,rS]⟩]
     simp only[decide_eq_false_iff_not] at h
     simp [h]
   ·simp only[↓xP,xU,rB,rA,rS,h0,h5,h1,hi]
    rw [List.drop_of_length_le (by omega)]; rfl
  ·simp only[decide_eq_false_iff_not] at h
   simp [ZGJ,offZ,h]
theorem ZKX (l:(List Yo)) (hf:(l.length≤9223372036854775807∧∀ y,y∈l→Yo.Fit y)):LeZ (ZGJ l) (ZGB l):=LeZ.off hf.1 (LeZ.all fun x hx=>ZLO x (hf.2 x hx))
theorem ZK2 (l:(List Yo)) (hs:ZGB l):EE F 264 [L 5 (l.map Yo.u)] []=some ⟨[.sc (.down (.par 0) l.length)],[.deep 5 (l.map Yo.u)],[]⟩:=by
 have hl:=hs.1
 rw [R264,b264]
 simp only[↓xP,xU,rB,rA,rS,ZLy _ 7 l.length [.int .i64 0,.sl 1 [],.bool false,.bool false,.sl 6 []] 72 (by omega) rfl]
 refine (Zjc (fun (i:Nat) st=>i≤l.length∧st.s 0=DU (.sl 5 (l.map Yo.u))∧st.s 4=DI i∧st.s 3=.t (.sc (.down (.loc 7 0) l.length))∧st.o (.loc 7 0)=some (.deep 5 ((l.take i).map Yo.u++List.replicate (l.length - i) [.int .i64 0,.sl 1 [],.bool false,.bool false,.sl 6 []]))) (fun i=>l.length - i) (fun i=>some ⟨[.sc (.down (.par 0) l.length)],[.deep 5 (l.map Yo.u)],[]⟩) ?_ 0 ⟨by omega,by simp only[↓xP,xU,rB,rA,rS],by simp only[↓xP,xU,rB,rA,rS]; rfl,by simp only[↓xP,xU,rB,rA,rS],by simp only[↓xP,xU,rB,rA,rS,Nat.sub_zero]⟩)
 rintro i st ⟨hle,h0,h4,h3,ho⟩ ih
 by_cases hi:i<l.length
 ·obtain ⟨⟨⟨c0,c1,c2⟩,c3,c4⟩,hx⟩:∃ x,l[i]?=some x:=⟨_,List.getElem?_eq_getElem hi⟩
  have hw:=w_succ (i:=i) (by omega)
  have hg:=ZFP (f:=Yo.u) (z:=[.int .i64 0,.sl 1 [],.bool false,.bool false,.sl 6 []]) hi
  have hf:=ZFQ (f:=Yo.u) (z:=[.int .i64 0,.sl 1 [],.bool false,.bool false,.sl 6 []]) hx
  simp only[Yo.u] at hf
  have hsx:=hs.2 _ (List.mem_of_getElem? hx)
  simp only[↓xP,xU,rB,rA,rS,h0,h4,h3,ho,hi,hx,hw,hg,hf,Yo.u,ZLW c0 c1 c2 c3 c4 hsx]
  exact ih (i+1) _ (by omega) ⟨by omega,by simp only[↓xP,xU,rB,rA,rS,h0],by simp only[↓xP,xU,rB,rA,rS],by simp only[↓xP,xU,rB,rA,rS,h3],by simp only[↓xP,xU,rB,rA,rS,Yo.u]⟩
 ·have:i=l.length:=by omega
  subst this
  rw [ZFO] at ho
  simp only[↓xP,xU,rB,rA,rS,h0,h4,h3,ho,hi]
theorem ZKN (l:(List Yo)) (hs:ZGB l):EE F 277 [L 5 (l.map Yo.u),L 5 (l.map Yo.u)] []=ok1 (B true):=by
 have hl:=hs.1
 rw [R277,b277]
 simp only[↓xP,xU,rB,rA,rS,ne_eq,not_true_eq_false]
 refine (Zjc (fun (i:Nat) st=>st.s 0=DU (.sl 5 (l.map Yo.u))∧st.s 1=DU (.sl 5 (l.map Yo.u))∧st.s 5=DI i) (fun i=>l.length - i) (fun i=>ok1 (B true)) ?_ 0 ⟨by simp only[↓xP,xU,rB,rA,rS],by simp only[↓xP,xU,rB,rA,rS],by simp only[↓xP,xU,rB,rA,rS]; rfl⟩)
 rintro i st ⟨h0,h1,h5⟩ ih
 by_cases hi:i<l.length
 ·obtain ⟨⟨⟨c0,c1,c2⟩,c3,c4⟩,hx⟩:∃ x,l[i]?=some x:=⟨_,List.getElem?_eq_getElem hi⟩
  have hw:=w_succ (i:=i) (by omega)
  have hsx:=hs.2 _ (List.mem_of_getElem? hx)
  simp only[↓xP,xU,rB,rA,rS,h0,h1,h5,hi,hx,hw,Yo.u,ZLq c0 c1 c2 c3 c4 hsx,ne_eq,not_true_eq_false]
  exact ih (i+1) _ (by omega) ⟨by simp only[↓xP,xU,rB,rA,rS,h0],by simp only[↓xP,xU,rB,rA,rS,h1],by simp only[↓xP,xU,rB,rA,rS]⟩
 ·simp only[↓xP,xU,rB,rA,rS,h0,h1,h5,hi]
def Yk.Small (x:Yk):Prop:=Yf.Small x.conf∧ZGF x.log∧True
def ZGz (x:Yk) (a:Int):Int:=chkZ (ZGZ x.conf a) fun a=>chkZ (ZG0 x.log a) fun a=>a
theorem ZLN (c0:Int) (c1:Int) (c2:Int) (c3:Int) (c4:(List Int)) (c5:Bool) (c6:(List Yh)) (hf:Yk.Fit ⟨c0,c1,c2,⟨c3,c4,c5⟩,c6⟩) (left:Int):EE F 303 [.ag [.u (.int .i64 c0),.u (.int .i64 c1),.u (.int .i64 c2),.u (.int .i64 c3),.u (.sl 1 (c4.map iU)),.u (.bool c5),.u (.sl 6 (c6.map Yh.u))],I left] []=ok1 (I (ZGz ⟨c0,c1,c2,⟨c3,c4,c5⟩,c6⟩ left)):=by
 rw [R303,b303]
 simp only[↓xP,xU,rB,rA,rS,ZId,ZJL c6 hf.2.2.2.2]
 repeat' (refine ZiE (fun h=>?_) (fun h=>?_))
 all_goals (simp only[decide_eq_true_eq,decide_eq_false_iff_not] at *; simp [ZGz,offZ,chkZ, *])
theorem ZLM (x:Yk) (hf:Yk.Fit x):LeZ (ZGz x) (Yk.Small x):=LeZ.chk (ZIc _ hf.2.2.2.1) (LeZ.chk (ZJK _ hf.2.2.2.2) LeZ.id)
theorem ZLV (c0:Int) (c1:Int) (c2:Int) (c3:Int) (c4:(List Int)) (c5:Bool) (c6:(List Yh)) (hs:Yk.Small ⟨c0,c1,c2,⟨c3,c4,c5⟩,c6⟩):EE F 310 [.ag [.u (.int .i64 c0),.u (.int .i64 c1),.u (.int .i64 c2),.u (.int .i64 c3),.u (.sl 1 (c4.map iU)),.u (.bool c5),.u (.sl 6 (c6.map Yh.u))]] []=some ⟨[.ag [.u (.int .i64 c0),.u (.int .i64 c1),.u (.int .i64 c2),.u (.int .i64 c3),.own (.par 0) c4.length,.u (.bool c5),.own (.par 1) c6.length]],[.row 1 (c4.map iU),.row 6 (c6.map Yh.u)],[]⟩:=by
 rw [R310,b310]
 simp only[↓xP,xU,rB,rA,rS,ZIf c3 c4 c5 hs.1,ZJM c6 hs.2.1]
theorem ZLp (c0:Int) (c1:Int) (c2:Int) (c3:Int) (c4:(List Int)) (c5:Bool) (c6:(List Yh)) (hs:Yk.Small ⟨c0,c1,c2,⟨c3,c4,c5⟩,c6⟩):EE F 319 [.ag [.u (.int .i64 c0),.u (.int .i64 c1),.u (.int .i64 c2),.u (.int .i64 c3),.u (.sl 1 (c4.map iU)),.u (.bool c5),.u (.sl 6 (c6.map Yh.u))],.ag [.u (.int .i64 c0),.u (.int .i64 c1),.u (.int .i64 c2),.u (.int .i64 c3),.u (.sl 1 (c4.map iU)),.u (.bool c5),.u (.sl 6 (c6.map Yh.u))]] []=ok1 (B true):=by
 rw [R319,b319]
 simp only[↓xP,xU,rB,rA,rS,ZHY c3 c4 c5 hs.1,ZJA c6 hs.2.1,ne_eq,not_true_eq_false]
def ZFV (l:(List Yk)):Prop:=l.length≤1048576∧∀ y,y∈l→Yk.Small y
def ZGI (l:(List Yk)) (left:Int):Int:=offZ left l.length fun a=>allZ ZGz l a
theorem ZKW (l:(List Yk)) (hf:(l.length≤9223372036854775807∧∀ y,y∈l→Yk.Fit y)) (left:Int):EE F 256 [L 7 (l.map Yk.u),I left] []=ok1 (I (ZGI l left)):=by
 have hl:=hf.1
 rw [R256,b256]
 simp only[↓xP,xU,rB,rA,rS]
 refine ZiE (fun h=>?_) (fun h=>?_)
 ·simp only[decide_eq_true_eq] at h
  simp [ZGI,offZ,h]
 ·refine (Zjc (fun (a:Nat×Int) st=>st.s 0=DU (.sl 7 (l.map Yk.u))∧st.s 5=DI a.1∧st.s 1=DI a.2) (fun a=>l.length - a.1) (fun a=>ok1 (I (allZ ZGz (l.drop a.1) a.2))) ?_ (0,IntKind.i64.wrap (left - l.length)) ⟨by simp only[↓xP,xU,rB,rA,rS],by simp only[↓xP,xU,rB,rA,rS]; rfl,by simp only[↓xP,xU,rB,rA,rS]⟩).trans ?_
  ·rintro ⟨i,a⟩ st ⟨h0,h5,h1⟩ ih
   dsimp only at h0 h5 h1 ih ⊢
   by_cases hi:i<l.length
   ·obtain ⟨⟨c0,c1,c2,⟨c3,c4,c5⟩,c6⟩,hx⟩:∃ x,l[i]?=some x:=⟨_,List.getElem?_eq_getElem hi⟩
    have hw:=w_succ (i:=i) (by omega)
    have hfx:=hf.2 _ (List.mem_of_getElem? hx)
    simp only[↓xP,xU,rB,rA,rS,h0,h5,h1,hi,hx,hw,Yk.u,ZLN c0 c1 c2 c3 c4 c5 c6 hfx]
    rw [ZGV hx,chkZ]
    refine ZiE (fun h=>?_) (fun h=>?_)
    ·simp only[decide_eq_true_eq] at h
     simp [h]
    ·rw [ih (i+1,ZGz ⟨c0,c1,c2,⟨c3,c4,c5⟩,c6⟩ a) _ (by dsimp only; omega) ⟨by simp only[↓xP,xU,rB,rA,rS,h0],by simp only[↓xP,xU,rB,rA,rS],by simp only[↓xP,xU,rB,rA,rS]⟩]
     simp only[decide_eq_false_iff_not] at h
     simp [h]
   ·simp only[↓xP,xU,rB,rA,rS,h0,h5,h1,hi]
    rw [List.drop_of_length_le (by omega)]; rfl
  ·simp only[decide_eq_false_iff_not] at h
   simp [ZGI,offZ,h]
theorem ZKV (l:(List Yk)) (hf:(l.length≤9223372036854775807∧∀ y,y∈l→Yk.Fit y)):LeZ (ZGI l) (ZFV l):=LeZ.off hf.1 (LeZ.all fun x hx=>ZLM x (hf.2 x hx))
theorem ZK1 (l:(List Yk)) (hs:ZFV l):EE F 266 [L 7 (l.map Yk.u)] []=some ⟨[.sc (.down (.par 0) l.length)],[.deep 7 (l.map Yk.u)],[]⟩:=by
 have hl:=hs.1
 rw [R266,b266]
 simp only[↓xP,xU,rB,rA,rS,ZLy _ 7 l.length [.int .i64 0,.int .i64 0,.int .i64 0,.int .i64 0,.sl 1 [],.bool false,.sl 6 []] 88 (by omega) rfl]
 refine (Zjc (fun (i:Nat) st=>i≤l.length∧st.s 0=DU (.sl 7 (l.map Yk.u))∧st.s 4=DI i∧st.s 3=.t (.sc (.down (.loc 7 0) l.length))∧st.o (.loc 7 0)=some (.deep 7 ((l.take i).map Yk.u++List.replicate (l.length - i) [.int .i64 0,.int .i64 0,.int .i64 0,.int .i64 0,.sl 1 [],.bool false,.sl 6 []]))) (fun i=>l.length - i) (fun i=>some ⟨[.sc (.down (.par 0) l.length)],[.deep 7 (l.map Yk.u)],[]⟩) ?_ 0 ⟨by omega,by simp only[↓xP,xU,rB,rA,rS],by simp only[↓xP,xU,rB,rA,rS]; rfl,by simp only[↓xP,xU,rB,rA,rS],by simp only[↓xP,xU,rB,rA,rS,Nat.sub_zero]⟩)
 rintro i st ⟨hle,h0,h4,h3,ho⟩ ih
 by_cases hi:i<l.length
 ·obtain ⟨⟨c0,c1,c2,⟨c3,c4,c5⟩,c6⟩,hx⟩:∃ x,l[i]?=some x:=⟨_,List.getElem?_eq_getElem hi⟩
  have hw:=w_succ (i:=i) (by omega)
  have hg:=ZFP (f:=Yk.u) (z:=[.int .i64 0,.int .i64 0,.int .i64 0,.int .i64 0,.sl 1 [],.bool false,.sl 6 []]) hi
  have hf:=ZFQ (f:=Yk.u) (z:=[.int .i64 0,.int .i64 0,.int .i64 0,.int .i64 0,.sl 1 [],.bool false,.sl 6 []]) hx
  simp only[Yk.u] at hf
  have hsx:=hs.2 _ (List.mem_of_getElem? hx)
  simp only[↓xP,xU,rB,rA,rS,h0,h4,h3,ho,hi,hx,hw,hg,hf,Yk.u,ZLV c0 c1 c2 c3 c4 c5 c6 hsx]
  exact ih (i+1) _ (by omega) ⟨by omega,by simp only[↓xP,xU,rB,rA,rS,h0],by simp only[↓xP,xU,rB,rA,rS],by simp only[↓xP,xU,rB,rA,rS,h3],by simp only[↓xP,xU,rB,rA,rS,Yk.u]⟩
 ·have:i=l.length:=by omega
  subst this
  rw [ZFO] at ho
  simp only[↓xP,xU,rB,rA,rS,h0,h4,h3,ho,hi]
theorem ZKM (l:(List Yk)) (hs:ZFV l):EE F 279 [L 7 (l.map Yk.u),L 7 (l.map Yk.u)] []=ok1 (B true):=by
 have hl:=hs.1
 rw [R279,b279]
 simp only[↓xP,xU,rB,rA,rS,ne_eq,not_true_eq_false]
 refine (Zjc (fun (i:Nat) st=>st.s 0=DU (.sl 7 (l.map Yk.u))∧st.s 1=DU (.sl 7 (l.map Yk.u))∧st.s 5=DI i) (fun i=>l.length - i) (fun i=>ok1 (B true)) ?_ 0 ⟨by simp only[↓xP,xU,rB,rA,rS],by simp only[↓xP,xU,rB,rA,rS],by simp only[↓xP,xU,rB,rA,rS]; rfl⟩)
 rintro i st ⟨h0,h1,h5⟩ ih
 by_cases hi:i<l.length
 ·obtain ⟨⟨c0,c1,c2,⟨c3,c4,c5⟩,c6⟩,hx⟩:∃ x,l[i]?=some x:=⟨_,List.getElem?_eq_getElem hi⟩
  have hw:=w_succ (i:=i) (by omega)
  have hsx:=hs.2 _ (List.mem_of_getElem? hx)
  simp only[↓xP,xU,rB,rA,rS,h0,h1,h5,hi,hx,hw,Yk.u,ZLp c0 c1 c2 c3 c4 c5 c6 hsx,ne_eq,not_true_eq_false]
  exact ih (i+1) _ (by omega) ⟨by simp only[↓xP,xU,rB,rA,rS,h0],by simp only[↓xP,xU,rB,rA,rS,h1],by simp only[↓xP,xU,rB,rA,rS]⟩
 ·simp only[↓xP,xU,rB,rA,rS,h0,h1,h5,hi]
def Yc.Small (x:Yc):Prop:=Yt.Small x.base∧Yf.Small x.conf∧ZGB x.nodes∧ZHz x.up∧ZFV x.bag∧ZGS x.answers∧True
def ZI9 (x:Yc) (a:Int):Int:=chkZ (ZJa x.base a) fun a=>chkZ (ZGZ x.conf a) fun a=>chkZ (ZGJ x.nodes a) fun a=>chkZ (ZI8 x.up a) fun a=>chkZ (ZGI x.bag a) fun a=>chkZ (ZG7 x.answers a) fun a=>a
theorem ZM2 (c0:Str) (c1:Str) (c2:(List Yl)) (c3:(List Yr)) (c4:Bool) (c5:Str) (c6:Int) (c7:(List Int)) (c8:Bool) (c9:(List Yo)) (c10:(List Bool)) (c11:(List Yk)) (c12:(List Ya)) (hf:Yc.Fit ⟨⟨⟨c0,c1⟩,c2,c3,c4,c5⟩,⟨c6,c7,c8⟩,c9,c10,c11,c12⟩) (left:Int):EE F 197 [.ag [.u (.str c0),.u (.str c1),.u (.sl 2 (c2.map Yl.u)),.u (.sl 3 (c3.map Yr.u)),.u (.bool c4),.u (.str c5),.u (.int .i64 c6),.u (.sl 1 (c7.map iU)),.u (.bool c8),.u (.sl 5 (c9.map Yo.u)),.u (.sl 1 (c10.map bU)),.u (.sl 7 (c11.map Yk.u)),.u (.sl 7 (c12.map Ya.u))],I left] []=ok1 (I (ZI9 ⟨⟨⟨c0,c1⟩,c2,c3,c4,c5⟩,⟨c6,c7,c8⟩,c9,c10,c11,c12⟩ left)):=by
 rw [R197,b197]
 simp only[↓xP,xU,rB,rA,rS,ZNa c0 c1 c2 c3 c4 c5 hf.1,ZId,ZKY c9 hf.2.2.1,ZM0,ZKW c11 hf.2.2.2.2.1,ZLH c12 hf.2.2.2.2.2]
 repeat' (refine ZiE (fun h=>?_) (fun h=>?_))
 all_goals (simp only[decide_eq_true_eq,decide_eq_false_iff_not] at *; simp [ZI9,offZ,chkZ, *])
theorem ZM1 (x:Yc) (hf:Yc.Fit x):LeZ (ZI9 x) (Yc.Small x):=LeZ.chk (ZM9 _ hf.1) (LeZ.chk (ZIc _ hf.2.1) (LeZ.chk (ZKX _ hf.2.2.1) (LeZ.chk (ZMZ _ hf.2.2.2.1) (LeZ.chk (ZKV _ hf.2.2.2.2.1) (LeZ.chk (ZLG _ hf.2.2.2.2.2) LeZ.id)))))
theorem ZNc (c0:Str) (c1:Str) (c2:(List Yl)) (c3:(List Yr)) (c4:Bool) (c5:Str) (c6:Int) (c7:(List Int)) (c8:Bool) (c9:(List Yo)) (c10:(List Bool)) (c11:(List Yk)) (c12:(List Ya)) (hs:Yc.Small ⟨⟨⟨c0,c1⟩,c2,c3,c4,c5⟩,⟨c6,c7,c8⟩,c9,c10,c11,c12⟩):EE F 208 [.ag [.u (.str c0),.u (.str c1),.u (.sl 2 (c2.map Yl.u)),.u (.sl 3 (c3.map Yr.u)),.u (.bool c4),.u (.str c5),.u (.int .i64 c6),.u (.sl 1 (c7.map iU)),.u (.bool c8),.u (.sl 5 (c9.map Yo.u)),.u (.sl 1 (c10.map bU)),.u (.sl 7 (c11.map Yk.u)),.u (.sl 7 (c12.map Ya.u))]] []=some ⟨[.ag [.u (.str c0),.u (.str c1),.own (.par 0) c2.length,.own (.par 1) c3.length,.u (.bool c4),.u (.str c5),.u (.int .i64 c6),.own (.par 2) c7.length,.u (.bool c8),.down (.par 3) c9.length,.own (.par 4) c10.length,.down (.par 5) c11.length,.own (.par 6) c12.length]],[.row 2 (c2.map Yl.u),.row 3 (c3.map Yr.u),.row 1 (c7.map iU),.deep 5 (c9.map Yo.u),.row 1 (c10.map bU),.deep 7 (c11.map Yk.u),.row 7 (c12.map Ya.u)],[]⟩:=by
 rw [R208,b208]
 simp only[↓xP,xU,rB,rA,rS,ZNg c0 c1 c2 c3 c4 c5 hs.1,ZIf c6 c7 c8 hs.2.1,ZK2 c9 hs.2.2.1,ZNb c10 hs.2.2.2.1,ZK1 c11 hs.2.2.2.2.1,ZLS c12 hs.2.2.2.2.2.1]
theorem ZMJ (c0:Str) (c1:Str) (c2:(List Yl)) (c3:(List Yr)) (c4:Bool) (c5:Str) (c6:Int) (c7:(List Int)) (c8:Bool) (c9:(List Yo)) (c10:(List Bool)) (c11:(List Yk)) (c12:(List Ya)) (hs:Yc.Small ⟨⟨⟨c0,c1⟩,c2,c3,c4,c5⟩,⟨c6,c7,c8⟩,c9,c10,c11,c12⟩):EE F 221 [.ag [.u (.str c0),.u (.str c1),.u (.sl 2 (c2.map Yl.u)),.u (.sl 3 (c3.map Yr.u)),.u (.bool c4),.u (.str c5),.u (.int .i64 c6),.u (.sl 1 (c7.map iU)),.u (.bool c8),.u (.sl 5 (c9.map Yo.u)),.u (.sl 1 (c10.map bU)),.u (.sl 7 (c11.map Yk.u)),.u (.sl 7 (c12.map Ya.u))],.ag [.u (.str c0),.u (.str c1),.u (.sl 2 (c2.map Yl.u)),.u (.sl 3 (c3.map Yr.u)),.u (.bool c4),.u (.str c5),.u (.int .i64 c6),.u (.sl 1 (c7.map iU)),.u (.bool c8),.u (.sl 5 (c9.map Yo.u)),.u (.sl 1 (c10.map bU)),.u (.sl 7 (c11.map Yk.u)),.u (.sl 7 (c12.map Ya.u))]] []=ok1 (B true):=by
 rw [R221,b221]
 simp only[↓xP,xU,rB,rA,rS,ZMN c0 c1 c2 c3 c4 c5 hs.1,ZHY c6 c7 c8 hs.2.1,ZKN c9 hs.2.2.1,ZMI c10 hs.2.2.2.1,ZKM c11 hs.2.2.2.2.1,ZLm c12 hs.2.2.2.2.2.1,ne_eq,not_true_eq_false]
def Yq.Small (x:Yq):Prop:=Yj.Small x.span∧True
def ZHv (x:Yq) (a:Int):Int:=chkZ (ZGH x.span a) fun a=>a
theorem ZM6 (c0:Int) (c1:Str) (c2:Str) (left:Int):EE F 258 [.ag [.u (.int .i64 c0),.u (.str c1),.u (.str c2)],I left] []=ok1 (I (ZHv ⟨c0,⟨c1,c2⟩⟩ left)):=by
 rw [R258,b258]
 simp only[↓xP,xU,rB,rA,rS,ZIv]
 repeat' (refine ZiE (fun h=>?_) (fun h=>?_))
 all_goals (simp only[decide_eq_true_eq,decide_eq_false_iff_not] at *; simp [ZHv,offZ,chkZ, *])
theorem ZM5 (x:Yq) (hf:Yq.Fit x):LeZ (ZHv x) (Yq.Small x):=LeZ.chk (ZIu _ hf.2) LeZ.id
theorem ZNe (c0:Int) (c1:Str) (c2:Str):EE F 268 [.ag [.u (.int .i64 c0),.u (.str c1),.u (.str c2)]] []=ok1 (.ag [.u (.int .i64 c0),.u (.str c1),.u (.str c2)]):=by
 rw [R268,b268]
 simp only[↓xP,xU,rB,rA,rS,ZIw]
theorem ZML (c0:Int) (c1:Str) (c2:Str):EE F 281 [.ag [.u (.int .i64 c0),.u (.str c1),.u (.str c2)],.ag [.u (.int .i64 c0),.u (.str c1),.u (.str c2)]] []=ok1 (B true):=by
 rw [R281,b281]
 simp only[↓xP,xU,rB,rA,rS,ZIn,ne_eq,not_true_eq_false]
def ZHb (l:(List Yq)):Prop:=l.length≤1048576∧∀ y,y∈l→Yq.Small y
def ZHw (l:(List Yq)) (left:Int):Int:=offZ left l.length fun a=>allZ ZHv l a
theorem ZMz (l:(List Yq)) (hf:(l.length≤9223372036854775807∧∀ y,y∈l→Yq.Fit y)) (left:Int):EE F 198 [L 3 (l.map Yq.u),I left] []=ok1 (I (ZHw l left)):=by
 have hl:=hf.1
 rw [R198,b198]
 simp only[↓xP,xU,rB,rA,rS]
 refine ZiE (fun h=>?_) (fun h=>?_)
 ·simp only[decide_eq_true_eq] at h
  simp [ZHw,offZ,h]
 ·refine (Zjc (fun (a:Nat×Int) st=>st.s 0=DU (.sl 3 (l.map Yq.u))∧st.s 5=DI a.1∧st.s 1=DI a.2) (fun a=>l.length - a.1) (fun a=>ok1 (I (allZ ZHv (l.drop a.1) a.2))) ?_ (0,IntKind.i64.wrap (left - l.length)) ⟨by simp only[↓xP,xU,rB,rA,rS],by simp only[↓xP,xU,rB,rA,rS]; rfl,by simp only[↓xP,xU,rB,rA,rS]⟩).trans ?_
  ·rintro ⟨i,a⟩ st ⟨h0,h5,h1⟩ ih
   dsimp only at h0 h5 h1 ih ⊢
   by_cases hi:i<l.length
   ·obtain ⟨⟨c0,⟨c1,c2⟩⟩,hx⟩:∃ x,l[i]?=some x:=⟨_,List.getElem?_eq_getElem hi⟩
    have hw:=w_succ (i:=i) (by omega)
    have hfx:=hf.2 _ (List.mem_of_getElem? hx)
    simp only[↓xP,xU,rB,rA,rS,h0,h5,h1,hi,hx,hw,Yq.u,ZM6]
    rw [ZGV hx,chkZ]
    refine ZiE (fun h=>?_) (fun h=>?_)
    ·simp only[decide_eq_true_eq] at h
     simp [h]
    ·rw [ih (i+1,ZHv ⟨c0,⟨c1,c2⟩⟩ a) _ (by dsimp only; omega) ⟨by simp only[↓xP,xU,rB,rA,rS,h0],by simp only[↓xP,xU,rB,rA,rS],by simp only[↓xP,xU,rB,rA,rS]⟩]
     simp only[decide_eq_false_iff_not] at h
     simp [h]
   ·simp only[↓xP,xU,rB,rA,rS,h0,h5,h1,hi]
    rw [List.drop_of_length_le (by omega)]; rfl
  ·simp only[decide_eq_false_iff_not] at h
   simp [ZHw,offZ,h]
theorem ZMy (l:(List Yq)) (hf:(l.length≤9223372036854775807∧∀ y,y∈l→Yq.Fit y)):LeZ (ZHw l) (ZHb l):=LeZ.off hf.1 (LeZ.all fun x hx=>ZM5 x (hf.2 x hx))
theorem ZMF (l:(List Yq)) (hs:ZHb l):EE F 209 [L 3 (l.map Yq.u)] []=some ⟨[.sc (.own (.par 0) l.length)],[.row 3 (l.map Yq.u)],[]⟩:=by
 have hl:=hs.1
 rw [R209,b209]
 simp only[↓xP,xU,rB,rA,rS,ZJE _ 7 l.length [.int .i64 0,.str [],.str []] 40 (by omega)]
 refine (Zjc (fun (i:Nat) st=>i≤l.length∧st.s 0=DU (.sl 3 (l.map Yq.u))∧st.s 4=DI i∧st.s 3=.t (.sc (.own (.loc 7 0) l.length))∧st.o (.loc 7 0)=some (.row 3 ((l.take i).map Yq.u++List.replicate (l.length - i) [.int .i64 0,.str [],.str []]))) (fun i=>l.length - i) (fun i=>some ⟨[.sc (.own (.par 0) l.length)],[.row 3 (l.map Yq.u)],[]⟩) ?_ 0 ⟨by omega,by simp only[↓xP,xU,rB,rA,rS],by simp only[↓xP,xU,rB,rA,rS]; rfl,by simp only[↓xP,xU,rB,rA,rS],by simp only[↓xP,xU,rB,rA,rS,Nat.sub_zero]⟩)
 rintro i st ⟨hle,h0,h4,h3,ho⟩ ih
 by_cases hi:i<l.length
 ·obtain ⟨⟨c0,⟨c1,c2⟩⟩,hx⟩:∃ x,l[i]?=some x:=⟨_,List.getElem?_eq_getElem hi⟩
  have hw:=w_succ (i:=i) (by omega)
  have hg:=ZFP (f:=Yq.u) (z:=[.int .i64 0,.str [],.str []]) hi
  have hf:=ZFQ (f:=Yq.u) (z:=[.int .i64 0,.str [],.str []]) hx
  simp only[Yq.u] at hf
  simp only[↓xP,xU,rB,rA,rS,h0,h4,h3,ho,hi,hx,hw,hg,hf,Yq.u,ZNe]
  exact ih (i+1) _ (by omega) ⟨by omega,by simp only[↓xP,xU,rB,rA,rS,h0],by simp only[↓xP,xU,rB,rA,rS],by simp only[↓xP,xU,rB,rA,rS,h3],by simp only[↓xP,xU,rB,rA,rS,Yq.u]⟩
 ·have:i=l.length:=by omega
  subst this
  rw [ZFO] at ho
  simp only[↓xP,xU,rB,rA,rS,h0,h4,h3,ho,hi]
theorem ZL7 (l:(List Yq)) (hs:ZHb l):EE F 222 [L 3 (l.map Yq.u),L 3 (l.map Yq.u)] []=ok1 (B true):=by
 have hl:=hs.1
 rw [R222,b222]
 simp only[↓xP,xU,rB,rA,rS,ne_eq,not_true_eq_false]
 refine (Zjc (fun (i:Nat) st=>st.s 0=DU (.sl 3 (l.map Yq.u))∧st.s 1=DU (.sl 3 (l.map Yq.u))∧st.s 5=DI i) (fun i=>l.length - i) (fun i=>ok1 (B true)) ?_ 0 ⟨by simp only[↓xP,xU,rB,rA,rS],by simp only[↓xP,xU,rB,rA,rS],by simp only[↓xP,xU,rB,rA,rS]; rfl⟩)
 rintro i st ⟨h0,h1,h5⟩ ih
 by_cases hi:i<l.length
 ·obtain ⟨⟨c0,⟨c1,c2⟩⟩,hx⟩:∃ x,l[i]?=some x:=⟨_,List.getElem?_eq_getElem hi⟩
  have hw:=w_succ (i:=i) (by omega)
  simp only[↓xP,xU,rB,rA,rS,h0,h1,h5,hi,hx,hw,Yq.u,ZML,ne_eq,not_true_eq_false]
  exact ih (i+1) _ (by omega) ⟨by simp only[↓xP,xU,rB,rA,rS,h0],by simp only[↓xP,xU,rB,rA,rS,h1],by simp only[↓xP,xU,rB,rA,rS]⟩
 ·simp only[↓xP,xU,rB,rA,rS,h0,h1,h5,hi]
def Yb.Small (x:Yb):Prop:=ZHb x.cache∧Ye.Small x.wish∧True
def ZGY (x:Yb) (a:Int):Int:=chkZ (ZHw x.cache a) fun a=>chkZ (ZGy x.wish a) fun a=>a
theorem ZMv (c0:(List Yq)) (c1:Int) (c2:Bool) (c3:Int) (c4:Str) (c5:Int) (c6:Int) (c7:Int) (hf:Yb.Fit ⟨c0,c1,c2,⟨c3,c4,c5,c6⟩,c7⟩) (left:Int):EE F 123 [.ag [.u (.sl 3 (c0.map Yq.u)),.u (.int .i64 c1),.u (.bool c2),.u (.int .i64 c3),.u (.str c4),.u (.int .i64 c5),.u (.int .i64 c6),.u (.int .i64 c7)],I left] []=ok1 (I (ZGY ⟨c0,c1,c2,⟨c3,c4,c5,c6⟩,c7⟩ left)):=by
 rw [R123,b123]
 simp only[↓xP,xU,rB,rA,rS,ZMz c0 hf.1,ZHL]
 repeat' (refine ZiE (fun h=>?_) (fun h=>?_))
 all_goals (simp only[decide_eq_true_eq,decide_eq_false_iff_not] at *; simp [ZGY,offZ,chkZ, *])
theorem ZMu (x:Yb) (hf:Yb.Fit x):LeZ (ZGY x) (Yb.Small x):=LeZ.chk (ZMy _ hf.1) (LeZ.chk (ZHK _ hf.2.2.2.1) LeZ.id)
theorem ZMD (c0:(List Yq)) (c1:Int) (c2:Bool) (c3:Int) (c4:Str) (c5:Int) (c6:Int) (c7:Int) (hs:Yb.Small ⟨c0,c1,c2,⟨c3,c4,c5,c6⟩,c7⟩):EE F 135 [.ag [.u (.sl 3 (c0.map Yq.u)),.u (.int .i64 c1),.u (.bool c2),.u (.int .i64 c3),.u (.str c4),.u (.int .i64 c5),.u (.int .i64 c6),.u (.int .i64 c7)]] []=some ⟨[.ag [.own (.par 0) c0.length,.u (.int .i64 c1),.u (.bool c2),.u (.int .i64 c3),.u (.str c4),.u (.int .i64 c5),.u (.int .i64 c6),.u (.int .i64 c7)]],[.row 3 (c0.map Yq.u)],[]⟩:=by
 rw [R135,b135]
 simp only[↓xP,xU,rB,rA,rS,ZMF c0 hs.1,ZHN]
theorem ZL4 (c0:(List Yq)) (c1:Int) (c2:Bool) (c3:Int) (c4:Str) (c5:Int) (c6:Int) (c7:Int) (hs:Yb.Small ⟨c0,c1,c2,⟨c3,c4,c5,c6⟩,c7⟩):EE F 145 [.ag [.u (.sl 3 (c0.map Yq.u)),.u (.int .i64 c1),.u (.bool c2),.u (.int .i64 c3),.u (.str c4),.u (.int .i64 c5),.u (.int .i64 c6),.u (.int .i64 c7)],.ag [.u (.sl 3 (c0.map Yq.u)),.u (.int .i64 c1),.u (.bool c2),.u (.int .i64 c3),.u (.str c4),.u (.int .i64 c5),.u (.int .i64 c6),.u (.int .i64 c7)]] []=ok1 (B true):=by
 rw [R145,b145]
 simp only[↓xP,xU,rB,rA,rS,ZL7 c0 hs.1,ZHA,ne_eq,not_true_eq_false]
def ZGT (l:(List Yb)):Prop:=l.length≤1048576∧∀ y,y∈l→Yb.Small y
def ZG8 (l:(List Yb)) (left:Int):Int:=offZ left l.length fun a=>allZ ZGY l a
theorem ZLJ (l:(List Yb)) (hf:(l.length≤9223372036854775807∧∀ y,y∈l→Yb.Fit y)) (left:Int):EE F 55 [L 8 (l.map Yb.u),I left] []=ok1 (I (ZG8 l left)):=by
 have hl:=hf.1
 rw [R55,b55]
 simp only[↓xP,xU,rB,rA,rS]
 refine ZiE (fun h=>?_) (fun h=>?_)
 ·simp only[decide_eq_true_eq] at h
  simp [ZG8,offZ,h]
 ·refine (Zjc (fun (a:Nat×Int) st=>st.s 0=DU (.sl 8 (l.map Yb.u))∧st.s 5=DI a.1∧st.s 1=DI a.2) (fun a=>l.length - a.1) (fun a=>ok1 (I (allZ ZGY (l.drop a.1) a.2))) ?_ (0,IntKind.i64.wrap (left - l.length)) ⟨by simp only[↓xP,xU,rB,rA,rS],by simp only[↓xP,xU,rB,rA,rS]; rfl,by simp only[↓xP,xU,rB,rA,rS]⟩).trans ?_
  ·rintro ⟨i,a⟩ st ⟨h0,h5,h1⟩ ih
   dsimp only at h0 h5 h1 ih ⊢
   by_cases hi:i<l.length
   ·obtain ⟨⟨c0,c1,c2,⟨c3,c4,c5,c6⟩,c7⟩,hx⟩:∃ x,l[i]?=some x:=⟨_,List.getElem?_eq_getElem hi⟩
    have hw:=w_succ (i:=i) (by omega)
    have hfx:=hf.2 _ (List.mem_of_getElem? hx)
    simp only[↓xP,xU,rB,rA,rS,h0,h5,h1,hi,hx,hw,Yb.u,ZMv c0 c1 c2 c3 c4 c5 c6 c7 hfx]
    rw [ZGV hx,chkZ]
    refine ZiE (fun h=>?_) (fun h=>?_)
    ·simp only[decide_eq_true_eq] at h
     simp [h]
    ·rw [ih (i+1,ZGY ⟨c0,c1,c2,⟨c3,c4,c5,c6⟩,c7⟩ a) _ (by dsimp only; omega) ⟨by simp only[↓xP,xU,rB,rA,rS,h0],by simp only[↓xP,xU,rB,rA,rS],by simp only[↓xP,xU,rB,rA,rS]⟩]
     simp only[decide_eq_false_iff_not] at h
     simp [h]
   ·simp only[↓xP,xU,rB,rA,rS,h0,h5,h1,hi]
    rw [List.drop_of_length_le (by omega)]; rfl
  ·simp only[decide_eq_false_iff_not] at h
   simp [ZG8,offZ,h]
theorem ZLI (l:(List Yb)) (hf:(l.length≤9223372036854775807∧∀ y,y∈l→Yb.Fit y)):LeZ (ZG8 l) (ZGT l):=LeZ.off hf.1 (LeZ.all fun x hx=>ZMu x (hf.2 x hx))
theorem ZLT (l:(List Yb)) (hs:ZGT l):EE F 63 [L 8 (l.map Yb.u)] []=some ⟨[.sc (.down (.par 0) l.length)],[.deep 8 (l.map Yb.u)],[]⟩:=by
 have hl:=hs.1
 rw [R63,b63]
 simp only[↓xP,xU,rB,rA,rS,ZLy _ 7 l.length [.sl 3 [],.int .i64 0,.bool false,.int .i64 0,.str [],.int .i64 0,.int .i64 0,.int .i64 0] 88 (by omega) rfl]
 refine (Zjc (fun (i:Nat) st=>i≤l.length∧st.s 0=DU (.sl 8 (l.map Yb.u))∧st.s 4=DI i∧st.s 3=.t (.sc (.down (.loc 7 0) l.length))∧st.o (.loc 7 0)=some (.deep 8 ((l.take i).map Yb.u++List.replicate (l.length - i) [.sl 3 [],.int .i64 0,.bool false,.int .i64 0,.str [],.int .i64 0,.int .i64 0,.int .i64 0]))) (fun i=>l.length - i) (fun i=>some ⟨[.sc (.down (.par 0) l.length)],[.deep 8 (l.map Yb.u)],[]⟩) ?_ 0 ⟨by omega,by simp only[↓xP,xU,rB,rA,rS],by simp only[↓xP,xU,rB,rA,rS]; rfl,by simp only[↓xP,xU,rB,rA,rS],by simp only[↓xP,xU,rB,rA,rS,Nat.sub_zero]⟩)
 rintro i st ⟨hle,h0,h4,h3,ho⟩ ih
 by_cases hi:i<l.length
 ·obtain ⟨⟨c0,c1,c2,⟨c3,c4,c5,c6⟩,c7⟩,hx⟩:∃ x,l[i]?=some x:=⟨_,List.getElem?_eq_getElem hi⟩
  have hw:=w_succ (i:=i) (by omega)
  have hg:=ZFP (f:=Yb.u) (z:=[.sl 3 [],.int .i64 0,.bool false,.int .i64 0,.str [],.int .i64 0,.int .i64 0,.int .i64 0]) hi
  have hf:=ZFQ (f:=Yb.u) (z:=[.sl 3 [],.int .i64 0,.bool false,.int .i64 0,.str [],.int .i64 0,.int .i64 0,.int .i64 0]) hx
  simp only[Yb.u] at hf
  have hsx:=hs.2 _ (List.mem_of_getElem? hx)
  simp only[↓xP,xU,rB,rA,rS,h0,h4,h3,ho,hi,hx,hw,hg,hf,Yb.u,ZMD c0 c1 c2 c3 c4 c5 c6 c7 hsx]
  exact ih (i+1) _ (by omega) ⟨by omega,by simp only[↓xP,xU,rB,rA,rS,h0],by simp only[↓xP,xU,rB,rA,rS],by simp only[↓xP,xU,rB,rA,rS,h3],by simp only[↓xP,xU,rB,rA,rS,Yb.u]⟩
 ·have:i=l.length:=by omega
  subst this
  rw [ZFO] at ho
  simp only[↓xP,xU,rB,rA,rS,h0,h4,h3,ho,hi]
theorem ZLn (l:(List Yb)) (hs:ZGT l):EE F 71 [L 8 (l.map Yb.u),L 8 (l.map Yb.u)] []=ok1 (B true):=by
 have hl:=hs.1
 rw [R71,b71]
 simp only[↓xP,xU,rB,rA,rS,ne_eq,not_true_eq_false]
 refine (Zjc (fun (i:Nat) st=>st.s 0=DU (.sl 8 (l.map Yb.u))∧st.s 1=DU (.sl 8 (l.map Yb.u))∧st.s 5=DI i) (fun i=>l.length - i) (fun i=>ok1 (B true)) ?_ 0 ⟨by simp only[↓xP,xU,rB,rA,rS],by simp only[↓xP,xU,rB,rA,rS],by simp only[↓xP,xU,rB,rA,rS]; rfl⟩)
 rintro i st ⟨h0,h1,h5⟩ ih
 by_cases hi:i<l.length
 ·obtain ⟨⟨c0,c1,c2,⟨c3,c4,c5,c6⟩,c7⟩,hx⟩:∃ x,l[i]?=some x:=⟨_,List.getElem?_eq_getElem hi⟩
  have hw:=w_succ (i:=i) (by omega)
  have hsx:=hs.2 _ (List.mem_of_getElem? hx)
  simp only[↓xP,xU,rB,rA,rS,h0,h1,h5,hi,hx,hw,Yb.u,ZL4 c0 c1 c2 c3 c4 c5 c6 c7 hsx,ne_eq,not_true_eq_false]
  exact ih (i+1) _ (by omega) ⟨by simp only[↓xP,xU,rB,rA,rS,h0],by simp only[↓xP,xU,rB,rA,rS,h1],by simp only[↓xP,xU,rB,rA,rS]⟩
 ·simp only[↓xP,xU,rB,rA,rS,h0,h1,h5,hi]
def Yp.Small (x:Yp):Prop:=Ye.Small x.wish∧True
def ZG1 (x:Yp) (a:Int):Int:=chkZ (ZGy x.wish a) fun a=>a
theorem ZMx (c0:Int) (c1:Int) (c2:Int) (c3:Str) (c4:Int) (c5:Int) (c6:Int) (c7:Int) (c8:Int) (left:Int):EE F 124 [.ag [.u (.int .i64 c0),.u (.int .i64 c1),.u (.int .i64 c2),.u (.str c3),.u (.int .i64 c4),.u (.int .i64 c5),.u (.int .i64 c6),.u (.int .i64 c7),.u (.int .i64 c8)],I left] []=ok1 (I (ZG1 ⟨c0,c1,⟨c2,c3,c4,c5⟩,c6,c7,c8⟩ left)):=by
 rw [R124,b124]
 simp only[↓xP,xU,rB,rA,rS,ZHL]
 repeat' (refine ZiE (fun h=>?_) (fun h=>?_))
 all_goals (simp only[decide_eq_true_eq,decide_eq_false_iff_not] at *; simp [ZG1,offZ,chkZ, *])
theorem ZMw (x:Yp) (hf:Yp.Fit x):LeZ (ZG1 x) (Yp.Small x):=LeZ.chk (ZHK _ hf.2.2.1) LeZ.id
theorem ZME (c0:Int) (c1:Int) (c2:Int) (c3:Str) (c4:Int) (c5:Int) (c6:Int) (c7:Int) (c8:Int):EE F 136 [.ag [.u (.int .i64 c0),.u (.int .i64 c1),.u (.int .i64 c2),.u (.str c3),.u (.int .i64 c4),.u (.int .i64 c5),.u (.int .i64 c6),.u (.int .i64 c7),.u (.int .i64 c8)]] []=ok1 (.ag [.u (.int .i64 c0),.u (.int .i64 c1),.u (.int .i64 c2),.u (.str c3),.u (.int .i64 c4),.u (.int .i64 c5),.u (.int .i64 c6),.u (.int .i64 c7),.u (.int .i64 c8)]):=by
 rw [R136,b136]
 simp only[↓xP,xU,rB,rA,rS,ZHN]
theorem ZL6 (c0:Int) (c1:Int) (c2:Int) (c3:Str) (c4:Int) (c5:Int) (c6:Int) (c7:Int) (c8:Int):EE F 146 [.ag [.u (.int .i64 c0),.u (.int .i64 c1),.u (.int .i64 c2),.u (.str c3),.u (.int .i64 c4),.u (.int .i64 c5),.u (.int .i64 c6),.u (.int .i64 c7),.u (.int .i64 c8)],.ag [.u (.int .i64 c0),.u (.int .i64 c1),.u (.int .i64 c2),.u (.str c3),.u (.int .i64 c4),.u (.int .i64 c5),.u (.int .i64 c6),.u (.int .i64 c7),.u (.int .i64 c8)]] []=ok1 (B true):=by
 rw [R146,b146]
 simp only[↓xP,xU,rB,rA,rS,ZHA,ne_eq,not_true_eq_false]
def ZGU (l:(List Yp)):Prop:=l.length≤1048576∧∀ y,y∈l→Yp.Small y
def ZHa (l:(List Yp)) (left:Int):Int:=offZ left l.length fun a=>allZ ZG1 l a
theorem ZLR (l:(List Yp)) (hf:(l.length≤9223372036854775807∧∀ y,y∈l→Yp.Fit y)) (left:Int):EE F 56 [L 9 (l.map Yp.u),I left] []=ok1 (I (ZHa l left)):=by
 have hl:=hf.1
 rw [R56,b56]
 simp only[↓xP,xU,rB,rA,rS]
 refine ZiE (fun h=>?_) (fun h=>?_)
 ·simp only[decide_eq_true_eq] at h
  simp [ZHa,offZ,h]
 ·refine (Zjc (fun (a:Nat×Int) st=>st.s 0=DU (.sl 9 (l.map Yp.u))∧st.s 5=DI a.1∧st.s 1=DI a.2) (fun a=>l.length - a.1) (fun a=>ok1 (I (allZ ZG1 (l.drop a.1) a.2))) ?_ (0,IntKind.i64.wrap (left - l.length)) ⟨by simp only[↓xP,xU,rB,rA,rS],by simp only[↓xP,xU,rB,rA,rS]; rfl,by simp only[↓xP,xU,rB,rA,rS]⟩).trans ?_
  ·rintro ⟨i,a⟩ st ⟨h0,h5,h1⟩ ih
   dsimp only at h0 h5 h1 ih ⊢
   by_cases hi:i<l.length
   ·obtain ⟨⟨c0,c1,⟨c2,c3,c4,c5⟩,c6,c7,c8⟩,hx⟩:∃ x,l[i]?=some x:=⟨_,List.getElem?_eq_getElem hi⟩
    have hw:=w_succ (i:=i) (by omega)
    have hfx:=hf.2 _ (List.mem_of_getElem? hx)
    simp only[↓xP,xU,rB,rA,rS,h0,h5,h1,hi,hx,hw,Yp.u,ZMx]
    rw [ZGV hx,chkZ]
    refine ZiE (fun h=>?_) (fun h=>?_)
    ·simp only[decide_eq_true_eq] at h
     simp [h]
    ·rw [ih (i+1,ZG1 ⟨c0,c1,⟨c2,c3,c4,c5⟩,c6,c7,c8⟩ a) _ (by dsimp only; omega) ⟨by simp only[↓xP,xU,rB,rA,rS,h0],by simp only[↓xP,xU,rB,rA,rS],by simp only[↓xP,xU,rB,rA,rS]⟩]
     simp only[decide_eq_false_iff_not] at h
     simp [h]
   ·simp only[↓xP,xU,rB,rA,rS,h0,h5,h1,hi]
    rw [List.drop_of_length_le (by omega)]; rfl
  ·simp only[decide_eq_false_iff_not] at h
   simp [ZHa,offZ,h]
theorem ZLQ (l:(List Yp)) (hf:(l.length≤9223372036854775807∧∀ y,y∈l→Yp.Fit y)):LeZ (ZHa l) (ZGU l):=LeZ.off hf.1 (LeZ.all fun x hx=>ZMw x (hf.2 x hx))
theorem ZLX (l:(List Yp)) (hs:ZGU l):EE F 64 [L 9 (l.map Yp.u)] []=some ⟨[.sc (.own (.par 0) l.length)],[.row 9 (l.map Yp.u)],[]⟩:=by
 have hl:=hs.1
 rw [R64,b64]
 simp only[↓xP,xU,rB,rA,rS,ZJE _ 7 l.length [.int .i64 0,.int .i64 0,.int .i64 0,.str [],.int .i64 0,.int .i64 0,.int .i64 0,.int .i64 0,.int .i64 0] 80 (by omega)]
 refine (Zjc (fun (i:Nat) st=>i≤l.length∧st.s 0=DU (.sl 9 (l.map Yp.u))∧st.s 4=DI i∧st.s 3=.t (.sc (.own (.loc 7 0) l.length))∧st.o (.loc 7 0)=some (.row 9 ((l.take i).map Yp.u++List.replicate (l.length - i) [.int .i64 0,.int .i64 0,.int .i64 0,.str [],.int .i64 0,.int .i64 0,.int .i64 0,.int .i64 0,.int .i64 0]))) (fun i=>l.length - i) (fun i=>some ⟨[.sc (.own (.par 0) l.length)],[.row 9 (l.map Yp.u)],[]⟩) ?_ 0 ⟨by omega,by simp only[↓xP,xU,rB,rA,rS],by simp only[↓xP,xU,rB,rA,rS]; rfl,by simp only[↓xP,xU,rB,rA,rS],by simp only[↓xP,xU,rB,rA,rS,Nat.sub_zero]⟩)
 rintro i st ⟨hle,h0,h4,h3,ho⟩ ih
 by_cases hi:i<l.length
 ·obtain ⟨⟨c0,c1,⟨c2,c3,c4,c5⟩,c6,c7,c8⟩,hx⟩:∃ x,l[i]?=some x:=⟨_,List.getElem?_eq_getElem hi⟩
  have hw:=w_succ (i:=i) (by omega)
  have hg:=ZFP (f:=Yp.u) (z:=[.int .i64 0,.int .i64 0,.int .i64 0,.str [],.int .i64 0,.int .i64 0,.int .i64 0,.int .i64 0,.int .i64 0]) hi
  have hf:=ZFQ (f:=Yp.u) (z:=[.int .i64 0,.int .i64 0,.int .i64 0,.str [],.int .i64 0,.int .i64 0,.int .i64 0,.int .i64 0,.int .i64 0]) hx
  simp only[Yp.u] at hf
  simp only[↓xP,xU,rB,rA,rS,h0,h4,h3,ho,hi,hx,hw,hg,hf,Yp.u,ZME]
  exact ih (i+1) _ (by omega) ⟨by omega,by simp only[↓xP,xU,rB,rA,rS,h0],by simp only[↓xP,xU,rB,rA,rS],by simp only[↓xP,xU,rB,rA,rS,h3],by simp only[↓xP,xU,rB,rA,rS,Yp.u]⟩
 ·have:i=l.length:=by omega
  subst this
  rw [ZFO] at ho
  simp only[↓xP,xU,rB,rA,rS,h0,h4,h3,ho,hi]
theorem ZLr (l:(List Yp)) (hs:ZGU l):EE F 72 [L 9 (l.map Yp.u),L 9 (l.map Yp.u)] []=ok1 (B true):=by
 have hl:=hs.1
 rw [R72,b72]
 simp only[↓xP,xU,rB,rA,rS,ne_eq,not_true_eq_false]
 refine (Zjc (fun (i:Nat) st=>st.s 0=DU (.sl 9 (l.map Yp.u))∧st.s 1=DU (.sl 9 (l.map Yp.u))∧st.s 5=DI i) (fun i=>l.length - i) (fun i=>ok1 (B true)) ?_ 0 ⟨by simp only[↓xP,xU,rB,rA,rS],by simp only[↓xP,xU,rB,rA,rS],by simp only[↓xP,xU,rB,rA,rS]; rfl⟩)
 rintro i st ⟨h0,h1,h5⟩ ih
 by_cases hi:i<l.length
 ·obtain ⟨⟨c0,c1,⟨c2,c3,c4,c5⟩,c6,c7,c8⟩,hx⟩:∃ x,l[i]?=some x:=⟨_,List.getElem?_eq_getElem hi⟩
  have hw:=w_succ (i:=i) (by omega)
  simp only[↓xP,xU,rB,rA,rS,h0,h1,h5,hi,hx,hw,Yp.u,ZL6,ne_eq,not_true_eq_false]
  exact ih (i+1) _ (by omega) ⟨by simp only[↓xP,xU,rB,rA,rS,h0],by simp only[↓xP,xU,rB,rA,rS,h1],by simp only[↓xP,xU,rB,rA,rS]⟩
 ·simp only[↓xP,xU,rB,rA,rS,h0,h1,h5,hi]
def Ys.Small (x:Ys):Prop:=Yc.Small x.group∧True
def ZHx (x:Ys) (a:Int):Int:=chkZ (ZI9 x.group a) fun a=>a
theorem ZM8 (c0:Bool) (c1:Str) (c2:Str) (c3:(List Yl)) (c4:(List Yr)) (c5:Bool) (c6:Str) (c7:Int) (c8:(List Int)) (c9:Bool) (c10:(List Yo)) (c11:(List Bool)) (c12:(List Yk)) (c13:(List Ya)) (hf:Ys.Fit ⟨c0,⟨⟨⟨c1,c2⟩,c3,c4,c5,c6⟩,⟨c7,c8,c9⟩,c10,c11,c12,c13⟩⟩) (left:Int):EE F 122 [.ag [.u (.bool c0),.u (.str c1),.u (.str c2),.u (.sl 2 (c3.map Yl.u)),.u (.sl 3 (c4.map Yr.u)),.u (.bool c5),.u (.str c6),.u (.int .i64 c7),.u (.sl 1 (c8.map iU)),.u (.bool c9),.u (.sl 5 (c10.map Yo.u)),.u (.sl 1 (c11.map bU)),.u (.sl 7 (c12.map Yk.u)),.u (.sl 7 (c13.map Ya.u))],I left] []=ok1 (I (ZHx ⟨c0,⟨⟨⟨c1,c2⟩,c3,c4,c5,c6⟩,⟨c7,c8,c9⟩,c10,c11,c12,c13⟩⟩ left)):=by
 rw [R122,b122]
 simp only[↓xP,xU,rB,rA,rS,ZM2 c1 c2 c3 c4 c5 c6 c7 c8 c9 c10 c11 c12 c13 hf.2]
 repeat' (refine ZiE (fun h=>?_) (fun h=>?_))
 all_goals (simp only[decide_eq_true_eq,decide_eq_false_iff_not] at *; simp [ZHx,offZ,chkZ, *])
theorem ZM7 (x:Ys) (hf:Ys.Fit x):LeZ (ZHx x) (Ys.Small x):=LeZ.chk (ZM1 _ hf.2) LeZ.id
theorem ZNf (c0:Bool) (c1:Str) (c2:Str) (c3:(List Yl)) (c4:(List Yr)) (c5:Bool) (c6:Str) (c7:Int) (c8:(List Int)) (c9:Bool) (c10:(List Yo)) (c11:(List Bool)) (c12:(List Yk)) (c13:(List Ya)) (hs:Ys.Small ⟨c0,⟨⟨⟨c1,c2⟩,c3,c4,c5,c6⟩,⟨c7,c8,c9⟩,c10,c11,c12,c13⟩⟩):EE F 134 [.ag [.u (.bool c0),.u (.str c1),.u (.str c2),.u (.sl 2 (c3.map Yl.u)),.u (.sl 3 (c4.map Yr.u)),.u (.bool c5),.u (.str c6),.u (.int .i64 c7),.u (.sl 1 (c8.map iU)),.u (.bool c9),.u (.sl 5 (c10.map Yo.u)),.u (.sl 1 (c11.map bU)),.u (.sl 7 (c12.map Yk.u)),.u (.sl 7 (c13.map Ya.u))]] []=some ⟨[.ag [.u (.bool c0),.u (.str c1),.u (.str c2),.own (.par 0) c3.length,.own (.par 1) c4.length,.u (.bool c5),.u (.str c6),.u (.int .i64 c7),.own (.par 2) c8.length,.u (.bool c9),.down (.par 3) c10.length,.own (.par 4) c11.length,.down (.par 5) c12.length,.own (.par 6) c13.length]],[.row 2 (c3.map Yl.u),.row 3 (c4.map Yr.u),.row 1 (c8.map iU),.deep 5 (c10.map Yo.u),.row 1 (c11.map bU),.deep 7 (c12.map Yk.u),.row 7 (c13.map Ya.u)],[]⟩:=by
 rw [R134,b134]
 simp only[↓xP,xU,rB,rA,rS,ZNc c1 c2 c3 c4 c5 c6 c7 c8 c9 c10 c11 c12 c13 hs.1]
theorem ZMM (c0:Bool) (c1:Str) (c2:Str) (c3:(List Yl)) (c4:(List Yr)) (c5:Bool) (c6:Str) (c7:Int) (c8:(List Int)) (c9:Bool) (c10:(List Yo)) (c11:(List Bool)) (c12:(List Yk)) (c13:(List Ya)) (hs:Ys.Small ⟨c0,⟨⟨⟨c1,c2⟩,c3,c4,c5,c6⟩,⟨c7,c8,c9⟩,c10,c11,c12,c13⟩⟩):EE F 144 [.ag [.u (.bool c0),.u (.str c1),.u (.str c2),.u (.sl 2 (c3.map Yl.u)),.u (.sl 3 (c4.map Yr.u)),.u (.bool c5),.u (.str c6),.u (.int .i64 c7),.u (.sl 1 (c8.map iU)),.u (.bool c9),.u (.sl 5 (c10.map Yo.u)),.u (.sl 1 (c11.map bU)),.u (.sl 7 (c12.map Yk.u)),.u (.sl 7 (c13.map Ya.u))],.ag [.u (.bool c0),.u (.str c1),.u (.str c2),.u (.sl 2 (c3.map Yl.u)),.u (.sl 3 (c4.map Yr.u)),.u (.bool c5),.u (.str c6),.u (.int .i64 c7),.u (.sl 1 (c8.map iU)),.u (.bool c9),.u (.sl 5 (c10.map Yo.u)),.u (.sl 1 (c11.map bU)),.u (.sl 7 (c12.map Yk.u)),.u (.sl 7 (c13.map Ya.u))]] []=ok1 (B true):=by
 rw [R144,b144]
 simp only[↓xP,xU,rB,rA,rS,ZMJ c1 c2 c3 c4 c5 c6 c7 c8 c9 c10 c11 c12 c13 hs.1,ne_eq,not_true_eq_false]
def ZHc (l:(List Ys)):Prop:=l.length≤1048576∧∀ y,y∈l→Ys.Small y
def ZHy (l:(List Ys)) (left:Int):Int:=offZ left l.length fun a=>allZ ZHx l a
theorem ZMB (l:(List Ys)) (hf:(l.length≤9223372036854775807∧∀ y,y∈l→Ys.Fit y)) (left:Int):EE F 54 [L 14 (l.map Ys.u),I left] []=ok1 (I (ZHy l left)):=by
 have hl:=hf.1
 rw [R54,b54]
 simp only[↓xP,xU,rB,rA,rS]
 refine ZiE (fun h=>?_) (fun h=>?_)
 ·simp only[decide_eq_true_eq] at h
  simp [ZHy,offZ,h]
 ·refine (Zjc (fun (a:Nat×Int) st=>st.s 0=DU (.sl 14 (l.map Ys.u))∧st.s 5=DI a.1∧st.s 1=DI a.2) (fun a=>l.length - a.1) (fun a=>ok1 (I (allZ ZHx (l.drop a.1) a.2))) ?_ (0,IntKind.i64.wrap (left - l.length)) ⟨by simp only[↓xP,xU,rB,rA,rS],by simp only[↓xP,xU,rB,rA,rS]; rfl,by simp only[↓xP,xU,rB,rA,rS]⟩).trans ?_
  ·rintro ⟨i,a⟩ st ⟨h0,h5,h1⟩ ih
   dsimp only at h0 h5 h1 ih ⊢
   by_cases hi:i<l.length
   ·obtain ⟨⟨c0,⟨⟨⟨c1,c2⟩,c3,c4,c5,c6⟩,⟨c7,c8,c9⟩,c10,c11,c12,c13⟩⟩,hx⟩:∃ x,l[i]?=some x:=⟨_,List.getElem?_eq_getElem hi⟩
    have hw:=w_succ (i:=i) (by omega)
    have hfx:=hf.2 _ (List.mem_of_getElem? hx)
    simp only[↓xP,xU,rB,rA,rS,h0,h5,h1,hi,hx,hw,Ys.u,ZM8 c0 c1 c2 c3 c4 c5 c6 c7 c8 c9 c10 c11 c12 c13 hfx]
    rw [ZGV hx,chkZ]
    refine ZiE (fun h=>?_) (fun h=>?_)
    ·simp only[decide_eq_true_eq] at h
     simp [h]
    ·rw [ih (i+1,ZHx ⟨c0,⟨⟨⟨c1,c2⟩,c3,c4,c5,c6⟩,⟨c7,c8,c9⟩,c10,c11,c12,c13⟩⟩ a) _ (by dsimp only; omega) ⟨by simp only[↓xP,xU,rB,rA,rS,h0],by simp only[↓xP,xU,rB,rA,rS],by simp only[↓xP,xU,rB,rA,rS]⟩]
     simp only[decide_eq_false_iff_not] at h
     simp [h]
   ·simp only[↓xP,xU,rB,rA,rS,h0,h5,h1,hi]
    rw [List.drop_of_length_le (by omega)]; rfl
  ·simp only[decide_eq_false_iff_not] at h
   simp [ZHy,offZ,h]
theorem ZMA (l:(List Ys)) (hf:(l.length≤9223372036854775807∧∀ y,y∈l→Ys.Fit y)):LeZ (ZHy l) (ZHc l):=LeZ.off hf.1 (LeZ.all fun x hx=>ZM7 x (hf.2 x hx))
theorem ZMG (l:(List Ys)) (hs:ZHc l):EE F 62 [L 14 (l.map Ys.u)] []=some ⟨[.sc (.down (.par 0) l.length)],[.deep 14 (l.map Ys.u)],[]⟩:=by
 have hl:=hs.1
 rw [R62,b62]
 simp only[↓xP,xU,rB,rA,rS,ZLy _ 7 l.length [.bool false,.str [],.str [],.sl 2 [],.sl 3 [],.bool false,.str [],.int .i64 0,.sl 1 [],.bool false,.sl 5 [],.sl 1 [],.sl 7 [],.sl 7 []] 248 (by omega) rfl]
 refine (Zjc (fun (i:Nat) st=>i≤l.length∧st.s 0=DU (.sl 14 (l.map Ys.u))∧st.s 4=DI i∧st.s 3=.t (.sc (.down (.loc 7 0) l.length))∧st.o (.loc 7 0)=some (.deep 14 ((l.take i).map Ys.u++List.replicate (l.length - i) [.bool false,.str [],.str [],.sl 2 [],.sl 3 [],.bool false,.str [],.int .i64 0,.sl 1 [],.bool false,.sl 5 [],.sl 1 [],.sl 7 [],.sl 7 []]))) (fun i=>l.length - i) (fun i=>some ⟨[.sc (.down (.par 0) l.length)],[.deep 14 (l.map Ys.u)],[]⟩) ?_ 0 ⟨by omega,by simp only[↓xP,xU,rB,rA,rS],by simp only[↓xP,xU,rB,rA,rS]; rfl,by simp only[↓xP,xU,rB,rA,rS],by simp only[↓xP,xU,rB,rA,rS,Nat.sub_zero]⟩)
 rintro i st ⟨hle,h0,h4,h3,ho⟩ ih
 by_cases hi:i<l.length
 ·obtain ⟨⟨c0,⟨⟨⟨c1,c2⟩,c3,c4,c5,c6⟩,⟨c7,c8,c9⟩,c10,c11,c12,c13⟩⟩,hx⟩:∃ x,l[i]?=some x:=⟨_,List.getElem?_eq_getElem hi⟩
  have hw:=w_succ (i:=i) (by omega)
  have hg:=ZFP (f:=Ys.u) (z:=[.bool false,.str [],.str [],.sl 2 [],.sl 3 [],.bool false,.str [],.int .i64 0,.sl 1 [],.bool false,.sl 5 [],.sl 1 [],.sl 7 [],.sl 7 []]) hi
  have hf:=ZFQ (f:=Ys.u) (z:=[.bool false,.str [],.str [],.sl 2 [],.sl 3 [],.bool false,.str [],.int .i64 0,.sl 1 [],.bool false,.sl 5 [],.sl 1 [],.sl 7 [],.sl 7 []]) hx
  simp only[Ys.u] at hf
  have hsx:=hs.2 _ (List.mem_of_getElem? hx)
  simp only[↓xP,xU,rB,rA,rS,h0,h4,h3,ho,hi,hx,hw,hg,hf,Ys.u,ZNf c0 c1 c2 c3 c4 c5 c6 c7 c8 c9 c10 c11 c12 c13 hsx]
  exact ih (i+1) _ (by omega) ⟨by omega,by simp only[↓xP,xU,rB,rA,rS,h0],by simp only[↓xP,xU,rB,rA,rS],by simp only[↓xP,xU,rB,rA,rS,h3],by simp only[↓xP,xU,rB,rA,rS,Ys.u]⟩
 ·have:i=l.length:=by omega
  subst this
  rw [ZFO] at ho
  simp only[↓xP,xU,rB,rA,rS,h0,h4,h3,ho,hi]
theorem ZL8 (l:(List Ys)) (hs:ZHc l):EE F 70 [L 14 (l.map Ys.u),L 14 (l.map Ys.u)] []=ok1 (B true):=by
 have hl:=hs.1
 rw [R70,b70]
 simp only[↓xP,xU,rB,rA,rS,ne_eq,not_true_eq_false]
 refine (Zjc (fun (i:Nat) st=>st.s 0=DU (.sl 14 (l.map Ys.u))∧st.s 1=DU (.sl 14 (l.map Ys.u))∧st.s 5=DI i) (fun i=>l.length - i) (fun i=>ok1 (B true)) ?_ 0 ⟨by simp only[↓xP,xU,rB,rA,rS],by simp only[↓xP,xU,rB,rA,rS],by simp only[↓xP,xU,rB,rA,rS]; rfl⟩)
 rintro i st ⟨h0,h1,h5⟩ ih
 by_cases hi:i<l.length
 ·obtain ⟨⟨c0,⟨⟨⟨c1,c2⟩,c3,c4,c5,c6⟩,⟨c7,c8,c9⟩,c10,c11,c12,c13⟩⟩,hx⟩:∃ x,l[i]?=some x:=⟨_,List.getElem?_eq_getElem hi⟩
  have hw:=w_succ (i:=i) (by omega)
  have hsx:=hs.2 _ (List.mem_of_getElem? hx)
  simp only[↓xP,xU,rB,rA,rS,h0,h1,h5,hi,hx,hw,Ys.u,ZMM c0 c1 c2 c3 c4 c5 c6 c7 c8 c9 c10 c11 c12 c13 hsx,ne_eq,not_true_eq_false]
  exact ih (i+1) _ (by omega) ⟨by simp only[↓xP,xU,rB,rA,rS,h0],by simp only[↓xP,xU,rB,rA,rS,h1],by simp only[↓xP,xU,rB,rA,rS]⟩
 ·simp only[↓xP,xU,rB,rA,rS,h0,h1,h5,hi]
def Yd.Small (x:Yd):Prop:=ZHc x.shards∧ZGT x.clients∧ZGU x.results∧Yn.Small x.work∧True
def ZII (x:Yd) (a:Int):Int:=chkZ (ZHy x.shards a) fun a=>chkZ (ZG8 x.clients a) fun a=>chkZ (ZHa x.results a) fun a=>chkZ (ZJ9 x.work a) fun a=>a
theorem ZLL (c0:(List Ys)) (c1:(List Yb)) (c2:(List Yp)) (c3:Int) (c4:Int) (c5:Int) (c6:Str) (c7:Int) (c8:Int) (c9:Int) (c10:Int) (c11:Int) (hf:Yd.Fit ⟨c0,c1,c2,⟨c3,c4,c5,c6,c7,c8,c9⟩,c10,c11⟩) (left:Int):EE F 11 [.ag [.u (.sl 14 (c0.map Ys.u)),.u (.sl 8 (c1.map Yb.u)),.u (.sl 9 (c2.map Yp.u)),.u (.int .i64 c3),.u (.int .i64 c4),.u (.int .i64 c5),.u (.str c6),.u (.int .i64 c7),.u (.int .i64 c8),.u (.int .i64 c9),.u (.int .i64 c10),.u (.int .i64 c11)],I left] []=ok1 (I (ZII ⟨c0,c1,c2,⟨c3,c4,c5,c6,c7,c8,c9⟩,c10,c11⟩ left)):=by
 rw [R11,b11]
 simp only[↓xP,xU,rB,rA,rS,ZMB c0 hf.1,ZLJ c1 hf.2.1,ZLR c2 hf.2.2.1,ZNU]
 repeat' (refine ZiE (fun h=>?_) (fun h=>?_))
 all_goals (simp only[decide_eq_true_eq,decide_eq_false_iff_not] at *; simp [ZII,offZ,chkZ, *])
theorem ZLK (x:Yd) (hf:Yd.Fit x):LeZ (ZII x) (Yd.Small x):=LeZ.chk (ZMA _ hf.1) (LeZ.chk (ZLI _ hf.2.1) (LeZ.chk (ZLQ _ hf.2.2.1) (LeZ.chk (ZNT _ hf.2.2.2.1) LeZ.id)))
theorem ZLU (c0:(List Ys)) (c1:(List Yb)) (c2:(List Yp)) (c3:Int) (c4:Int) (c5:Int) (c6:Str) (c7:Int) (c8:Int) (c9:Int) (c10:Int) (c11:Int) (hs:Yd.Small ⟨c0,c1,c2,⟨c3,c4,c5,c6,c7,c8,c9⟩,c10,c11⟩):EE F 13 [.ag [.u (.sl 14 (c0.map Ys.u)),.u (.sl 8 (c1.map Yb.u)),.u (.sl 9 (c2.map Yp.u)),.u (.int .i64 c3),.u (.int .i64 c4),.u (.int .i64 c5),.u (.str c6),.u (.int .i64 c7),.u (.int .i64 c8),.u (.int .i64 c9),.u (.int .i64 c10),.u (.int .i64 c11)]] []=some ⟨[.ag [.down (.par 0) c0.length,.down (.par 1) c1.length,.own (.par 2) c2.length,.u (.int .i64 c3),.u (.int .i64 c4),.u (.int .i64 c5),.u (.str c6),.u (.int .i64 c7),.u (.int .i64 c8),.u (.int .i64 c9),.u (.int .i64 c10),.u (.int .i64 c11)]],[.deep 14 (c0.map Ys.u),.deep 8 (c1.map Yb.u),.row 9 (c2.map Yp.u)],[]⟩:=by
 rw [R13,b13]
 simp only[↓xP,xU,rB,rA,rS,ZMG c0 hs.1,ZLT c1 hs.2.1,ZLX c2 hs.2.2.1,ZNX]
theorem ZLo (c0:(List Ys)) (c1:(List Yb)) (c2:(List Yp)) (c3:Int) (c4:Int) (c5:Int) (c6:Str) (c7:Int) (c8:Int) (c9:Int) (c10:Int) (c11:Int) (hs:Yd.Small ⟨c0,c1,c2,⟨c3,c4,c5,c6,c7,c8,c9⟩,c10,c11⟩):EE F 15 [.ag [.u (.sl 14 (c0.map Ys.u)),.u (.sl 8 (c1.map Yb.u)),.u (.sl 9 (c2.map Yp.u)),.u (.int .i64 c3),.u (.int .i64 c4),.u (.int .i64 c5),.u (.str c6),.u (.int .i64 c7),.u (.int .i64 c8),.u (.int .i64 c9),.u (.int .i64 c10),.u (.int .i64 c11)],.ag [.u (.sl 14 (c0.map Ys.u)),.u (.sl 8 (c1.map Yb.u)),.u (.sl 9 (c2.map Yp.u)),.u (.int .i64 c3),.u (.int .i64 c4),.u (.int .i64 c5),.u (.str c6),.u (.int .i64 c7),.u (.int .i64 c8),.u (.int .i64 c9),.u (.int .i64 c10),.u (.int .i64 c11)]] []=ok1 (B true):=by
 rw [R15,b15]
 simp only[↓xP,xU,rB,rA,rS,ZL8 c0 hs.1,ZLn c1 hs.2.1,ZLr c2 hs.2.2.1,ZNA,ne_eq,not_true_eq_false]
def allF (n:Nat) (p:Nat→Bool) (i:Nat):Bool:=if i<n then p i&&allF n p (i+1) else true
termination_by n - i
theorem ZF1 {n:Nat} {p:Nat→Bool} {i:Nat} (h:i<n):allF n p i=(p i&&allF n p (i+1)):=by rw [allF,if_pos h]
theorem ZF0 {n:Nat} {p:Nat→Bool} {i:Nat} (h:¬i<n):allF n p i=true:=by rw [allF,if_neg h]
theorem ZFp {n:Nat} {p:Nat→Bool}:∀ (k i:Nat),n - i=k→(allF n p i=true↔∀ j,i≤j→j<n→p j=true)
 | 0,i,h=>by
  rw [ZF0 (by omega)]
  exact ⟨fun _ j h1 h2=>by omega,fun _=>rfl⟩
 | k+1,i,h=>by
  rw [ZF1 (by omega),Bool.and_eq_true,ZFp k (i+1) (by omega)]
  refine ⟨fun ⟨h1,h2⟩ j hj hn=>?_,fun h1=>⟨h1 i (Nat.le_refl _) (by omega),fun j hj hn=>h1 j (by omega) hn⟩⟩
  by_cases e:j=i
  ·subst e; exact h1
  ·exact h2 j (by omega) hn
def inR (n a b:Int):Bool:=decide (a≤n)&&decide (n≤b)
theorem Z1 (n a b:Int):EE F 93 [I n,I a,I b] []=ok1 (B (inR n a b)):=by
 rw [R93,b93]
 simp only[↓xP,xT,rL,rB,rA,rS]
 repeat' (refine ZiE (fun h=>?_) (fun h=>?_))
 all_goals (simp_all [inR]<;>(intros; omega))
theorem ZFz (n:Int):EE F 116 [I n] []=ok1 (B (inR n 0 999)):=by
 rw [R116,b116]
 simp only[↓xP,xT,rL,rB,rA,rS]
 repeat' (refine ZiE (fun h=>?_) (fun h=>?_))
 all_goals (simp_all [inR]<;>(intros; omega))
def ZH0 (c:UInt8):Bool:=decide (97≤(c.toNat:Int))&&decide ((c.toNat:Int)≤122)
def Z3 (s:Str):Bool:=decide (1≤s.length)&&decide (s.length≤4)&&s.all ZH0
theorem cut1 (n:Nat):vcut (n+1) (some (DI 1)) none=some (1,n+1):=by
 have:(1:Int)≤(n:Int)+1:=by omega
 simp [vcut,D.int?,this]
theorem ZH1:∀ s:Str,EE F 194 [S s] []=ok1 (B (s.all ZH0))
 | []=>by
  rw [R194,b194]
  simp only[↓xP,xT,rL,rB,rA,rS]
 | c::s=>by
  have h2:(List.take (s.length+1) (c::s)).drop 1=s:=by simp
  rw [R194,b194]
  simp only[↓xP,xT,rL,rB,rA,rS,cut1,ZH1 s,reduceCtorEq,ZH0,List.take_of_length_le]
  repeat' (refine ZiE (fun h=>?_) (fun h=>?_))
  all_goals (simp_all<;>(intros; omega))
theorem ZFy (s:Str):EE F 115 [S s] []=ok1 (B (Z3 s)):=by
 rw [R115,b115]
 simp only[↓xP,xT,rL,rB,rA,rS,ZH1]
 repeat' (refine ZiE (fun h=>?_) (fun h=>?_))
 all_goals (simp_all [Z3]<;>(intros; omega))
theorem ZFo (s:Str):EE F 203 [S s] []=ok1 (B (Z3 s)):=by
 rw [R203,b203]
 simp only[↓xP,xT,rL,rB,rA,rS,Z1]
 refine ZiE (fun h=>?_) (fun h=>?_)
 ·simp_all [Z3,inR]
  omega
 ·simp only[Bool.not_eq_false',inR,Bool.and_eq_true,decide_eq_true_eq] at h
  refine (Zjc (fun (i:Nat) st=>i≤s.length∧st.s 0=DU (.str s)∧st.s 3=DI i) (fun i=>s.length - i) (fun i=>ok1 (B ((s.drop i).all ZH0))) ?_ 0 ⟨by omega,by simp only[↓xP,xQ,rB],by simp only[↓xP,xQ,rB]; rfl⟩).trans ?_
  ·rintro i st ⟨hle,h0,h3⟩ ih
   by_cases hi:i<s.length
   ·have hc:s[i]?=some s[i]:=List.getElem?_eq_getElem hi
    have hd:s.drop i=s[i]::s.drop (i+1):=List.drop_eq_getElem_cons hi
    have hw:=w_succ (i:=i) (by omega)
    simp only[↓xP,xT,rL,rB,rA,rS,h0,h3,hi,hc,hw]
    rw [hd]
    generalize s[i]=c
    repeat' (refine ZiE (fun h=>?_) (fun h=>?_))
    ·simp_all [ZH0]
     omega
    ·simp_all [ZH0]
     omega
    ·rw [ih (i+1) _ (by omega) ⟨by omega,by simp only[↓xP,xQ,rB,h0],by simp only[↓xP,xQ,rB]⟩]
     simp_all [ZH0]
   ·simp only[↓xP,xT,rL,rB,rA,rS,h0,h3,hi]
    rw [List.drop_of_length_le (by omega)]; rfl
  ·simp [Z3]
   omega
theorem ZKr (s:Str):ZaZ [] s=decide (s≠[]):=by cases s<;>simp [ZaZ,Op.bytesLess]
theorem ZLx (s:Str):ZaZ s []=false:=by cases s<;>simp [ZaZ,Op.bytesLess]
theorem ZIX (a b:UInt8) (s t:Str):ZaZ (a::s) (b::t)=(decide (a<b)||(a==b&&ZaZ s t)):=rfl
theorem ZGg:∀ s:Str,ZaZ s s=false
 | []=>rfl
 | a::s=>by rw [ZIX,ZGg s]; simp
theorem lt_trans:∀ {s t u:Str},ZaZ s t=true→ZaZ t u=true→ZaZ s u=true
 | _,[],_,h,_=>by rw [ZLx] at h; cases h
 | _,b::t,[],_,h=>by rw [ZLx] at h; cases h
 | [],b::t,c::u,_,_=>by rw [ZKr]; simp
 | a :: s,b::t,c::u,h1,h2=>by
  rw [ZIX] at h1 h2 ⊢
  simp only[Bool.or_eq_true,Bool.and_eq_true,decide_eq_true_eq,beq_iff_eq] at h1 h2 ⊢
  rcases h1 with h1|⟨rfl,h1⟩
  ·rcases h2 with h2|⟨rfl,h2⟩
   ·exact .inl (UInt8.lt_trans h1 h2)
   ·exact .inl h1
  ·rcases h2 with h2|⟨rfl,h2⟩
   ·exact .inl h2
   ·exact .inr ⟨rfl,lt_trans h1 h2⟩
theorem ZIW {s t:Str} (h:ZaZ s t=true):ZaZ t s=false:=by
 cases hq:ZaZ t s with
 | false=>rfl
 | true=>have:=lt_trans h hq; rw [ZGg] at this; cases this
theorem ZH2:∀ (s t:Str),ZaZ s t=true∨s=t∨ZaZ t s=true
 | [],[]=>.inr (.inl rfl)
 | [],b::t=>.inl (by rw [ZKr]; simp)
 | a::s,[]=>.inr (.inr (by rw [ZKr]; simp))
 | a :: s,b::t=>by
  rw [ZIX,ZIX]
  simp only[Bool.or_eq_true,Bool.and_eq_true,decide_eq_true_eq,beq_iff_eq,List.cons.injEq]
  rcases Nat.lt_trichotomy a.toNat b.toNat with h|h|h
  ·exact .inl (.inl (UInt8.lt_iff_toNat_lt.2 h))
  rotate_left
  ·exact .inr (.inr (.inl (UInt8.lt_iff_toNat_lt.2 h)))
  ·have h:=UInt8.toNat_inj.1 h
   subst h
   rcases ZH2 s t with h|h|h
   ·exact .inl (.inr ⟨rfl,h⟩)
   ·exact .inr (.inl ⟨rfl,h⟩)
   ·exact .inr (.inr (.inr ⟨rfl,h⟩))
theorem ZJi (s t:Str):(ZaZ s t||decide (s=t))=!ZaZ t s:=by
 rcases ZH2 s t with h|h|h
 ·simp [h,ZIW h]
 ·subst h; simp [ZGg]
 ·have h1:=ZIW h
  have h2:¬s=t:=fun e=>by subst e; rw [ZGg] at h; cases h
  simp [h,h1,h2]
def ZH (v:Yj):Bool:=(decide (v.low=[])||Z3 v.low)&&(decide (v.high=[])||Z3 v.high)&&(decide (v.high=[])||ZaZ (if v.low=[] then [97] else v.low) v.high)
theorem ZLw (lo hi:Str):EE F 118 [.ag [.u (.str lo),.u (.str hi)]] []=ok1 (S (if lo=[] then [97] else lo)):=by
 rw [R118,b118]
 simp only[↓xP,xT,rL,rB,rA,rS]
 repeat' (refine ZiE (fun h=>?_) (fun h=>?_))
 all_goals simp_all
theorem ZZ (lo hi:Str):EE F 51 [.ag [.u (.str lo),.u (.str hi)]] []=ok1 (B (ZH ⟨lo,hi⟩)):=by
 rw [R51,b51]
 simp only[↓xP,xT,rL,rB,rA,rS,ZFy,ZLw]
 repeat' (refine ZiE (fun h=>?_) (fun h=>?_))
 all_goals simp_all [ZH]
theorem lt_a {s:Str} (h:Z3 s=true):ZaZ [97] s=decide (s≠[97]):=by
 match s,h with
 | [],h=>simp [Z3] at h
 | c :: t,h=>
  simp only[Z3,ZH0,List.all_cons,Bool.and_eq_true,decide_eq_true_eq] at h
  have hc:97≤c.toNat:=by omega
  rw [ZIX,ZKr]
  by_cases e:c=97
  ·subst e; simp
  ·have h1:(97:UInt8)<c:=by
    rw [UInt8.lt_iff_toNat_lt]
    have:c.toNat≠97:=fun q=>e (UInt8.toNat_inj.1 q)
    show 97<c.toNat
    omega
   simp [h1,e]
theorem ZFj (lo hi:Str):EE F 224 [.ag [.u (.str lo),.u (.str hi)]] []=ok1 (B (ZH ⟨lo,hi⟩)):=by
 rw [R224,b224]
 simp only[↓xP,xT,rL,rB,rA,rS,ZFo]
 repeat' (refine ZiE (fun h=>?_) (fun h=>?_))
 all_goals simp_all [ZH,ZKr,lt_a]
def ZFm (v:Yj) (key:Str):Bool:=!ZaZ key v.low&&(decide (v.high=[])||ZaZ key v.high)
theorem ZK9 (lo hi key:Str):EE F 109 [.ag [.u (.str lo),.u (.str hi)],S key] []=ok1 (B (ZFm ⟨lo,hi⟩ key)):=by
 rw [R109,b109]
 simp only[↓xP,xT,rL,rB,rA,rS,ZJi]
 repeat' (refine ZiE (fun h=>?_) (fun h=>?_))
 all_goals simp_all [ZFm]
def ZFI (v:Yj) (key:Str):Bool:=ZH v&&Z3 key&&ZFm v key
theorem ZFF (lo hi key:Str):EE F 226 [.ag [.u (.str lo),.u (.str hi)],S key] []=ok1 (B (ZFI ⟨lo,hi⟩ key)):=by
 rw [R226,b226]
 simp only[↓xP,xT,rL,rB,rA,rS,ZFj,ZFo]
 repeat' (refine ZiE (fun h=>?_) (fun h=>?_))
 all_goals simp_all [ZFI,ZFm]
def ZFr (l:List Yl) (i:Nat):Bool:=match l[i]? with
 | some p=>Z3 p.key&&inR p.value 0 999&&(decide (i=0)||(match l[i - 1]? with
  | some q=>ZaZ q.key p.key
  | none=>true))
 | none=>true
def ZC (l:List Yl):Bool:=decide (l.length≤48)&&allF l.length (ZFr l) 0
theorem ZFT (l:List Yl):EE F 48 [L 2 (l.map Yl.u)] []=ok1 (B (ZC l)):=by
 rw [R48,b48]
 simp only[↓xP,xT,rL,rB,rA,rS]
 refine ZiE (fun h=>?_) (fun h=>?_)
 ·simp only[decide_eq_true_eq] at h
  simp [ZC,show ¬l.length≤48 by omega]
 ·simp only[decide_eq_false_iff_not] at h
  refine (Zjc (fun (i:Nat) st=>st.s 0=DU (.sl 2 (l.map Yl.u))∧st.s 8=DU (.sl 2 (l.map Yl.u))∧st.s 9=DI l.length∧st.s 10=DI i) (fun i=>l.length - i) (fun i=>ok1 (B (allF l.length (ZFr l) i))) ?_ 0 ⟨by simp only[↓xP,xT,rL,rB,rA,rS],by simp only[↓xP,xT,rL,rB,rA,rS],by simp only[↓xP,xT,rL,rB,rA,rS],by simp only[↓xP,xT,rL,rB,rA,rS]; rfl⟩).trans ?_
  ·rintro i st ⟨h0,h8,h9,h10⟩ ih
   by_cases hi:i<l.length
   ·obtain ⟨⟨pk,pv⟩,hp⟩:∃ p,l[i]?=some p:=⟨_,List.getElem?_eq_getElem hi⟩
    have hw:=w_succ (i:=i) (by omega)
    rw [ZF1 hi]
    by_cases hz:i=0
    ·have h01:¬(0:Int)<(i:Int):=by omega
     simp only[↓xP,xT,rL,rB,rA,rS,h0,h8,h9,h10,hi,hp,hw,h01,Yl.u,ZFy,ZFz]
     repeat' (refine ZiE (fun h=>?_) (fun h=>?_))
     ·simp_all [ZFr]
     ·simp_all [ZFr]
     ·rw [ih (i+1) _ (by omega) ⟨by simp only[↓xP,xT,rL,rB,rA,rS,h0],by simp only[↓xP,xT,rL,rB,rA,rS,h8],by simp only[↓xP,xT,rL,rB,rA,rS,h9],by simp only[↓xP,xT,rL,rB,rA,rS]⟩]
      simp_all [ZFr]
    ·obtain ⟨⟨qk,qv⟩,hq⟩:∃ q,l[i - 1]?=some q:=⟨_,List.getElem?_eq_getElem (by omega)⟩
     have hw2:IntKind.i64.wrap ((i:Int) - 1)=((i - 1:Nat):Int):=by rw [w64 (by omega) (by omega)]; omega
     have h01:(0:Int)<(i:Int):=by omega
     simp only[↓xP,xT,rL,rB,rA,rS,h0,h8,h9,h10,hi,hp,hw,hw2,hq,h01,Yl.u,ZFy,ZFz]
     repeat' (refine ZiE (fun h=>?_) (fun h=>?_))
     ·simp_all [ZFr]
     ·simp_all [ZFr]
     ·simp_all [ZFr]
     ·rw [ih (i+1) _ (by omega) ⟨by simp only[↓xP,xT,rL,rB,rA,rS,h0],by simp only[↓xP,xT,rL,rB,rA,rS,h8],by simp only[↓xP,xT,rL,rB,rA,rS,h9],by simp only[↓xP,xT,rL,rB,rA,rS]⟩]
      simp_all [ZFr]
   ·simp only[↓xP,xT,rL,rB,rA,rS,h0,h8,h9,h10,hi]
    rw [ZF0 hi]
  ·simp [ZC,show l.length≤48 by omega]
theorem Z0 (l:List Yl):EE F 128 [L 2 (l.map Yl.u)] []=ok1 (B (ZC l)):=by
  rw [R128,b128]
  simp only[↓xP,xT,rL,rB,rA,rS]
  refine ZiE (fun h=>?_) (fun h=>?_)
  · simp only[decide_eq_true_eq] at h
    simp [ZC,show ¬l.length≤48 by omega]
  · simp only[decide_eq_false_iff_not] at h
    refine (Zjc (fun (i:Nat) st=>st.s 0=DU (.sl 2 (l.map Yl.u))∧st.s 3=DI i) (fun i=>l.length - i) (fun i=>ok1 (B (allF l.length (ZFr l) i))) ?_ 0 ⟨by simp only[↓xP,xT,rL,rB,rA,rS],by simp only[↓xP,xT,rL,rB,rA,rS]; rfl⟩).trans ?_
    · rintro i st ⟨h0,h3⟩ ih
      by_cases hi:i<l.length
      · obtain ⟨⟨pk,pv⟩,hp⟩:∃ p,l[i]?=some p:=⟨_,List.getElem?_eq_getElem hi⟩
        have hw:=w_succ (i:=i) (by omega)
        rw [ZF1 hi]
        by_cases hz:i=0
        · have h01:¬(0:Int)<(i:Int):=by omega
          simp only[↓xP,xT,rL,rB,rA,rS,h0,h3,hi,hp,hw,h01,Yl.u,ZFo,Z1]
          repeat' (refine ZiE (fun h=>?_) (fun h=>?_))
          · simp_all [ZFr]
          · simp_all [ZFr]
          · rw [ih (i+1) _ (by omega) ⟨by simp only[↓xP,xT,rL,rB,rA,rS,h0],by simp only[↓xP,xT,rL,rB,rA,rS]⟩]
            simp_all [ZFr]
        · obtain ⟨⟨qk,qv⟩,hq⟩:∃ q,l[i - 1]?=some q:=⟨_,List.getElem?_eq_getElem (by omega)⟩
          have hw2:IntKind.i64.wrap ((i:Int) - 1)=((i - 1:Nat):Int):=by rw [w64 (by omega) (by omega)]; omega
          have h01:(0:Int)<(i:Int):=by omega
          simp only[↓xP,xT,rL,rB,rA,rS,h0,h3,hi,hp,hw,hw2,hq,h01,Yl.u,ZFo,Z1,ZJi]
          repeat' (refine ZiE (fun h=>?_) (fun h=>?_))
          · simp_all [ZFr]
          · simp_all [ZFr]
          · simp_all [ZFr]
          · rw [ih (i+1) _ (by omega) ⟨by simp only[↓xP,xT,rL,rB,rA,rS,h0],by simp only[↓xP,xT,rL,rB,rA,rS]⟩]
            simp_all [ZFr]
      · simp only[↓xP,xT,rL,rB,rA,rS,h0,h3,hi]
        rw [ZF0 hi]
    · simp [ZC,show l.length≤48 by omega]
theorem ZIr {l:List Yl} (h:ZC l=true) {i:Nat} {p:Yl} (hp:l[i]?=some p):Z3 p.key=true∧inR p.value 0 999=true:=by
 simp only[ZC,Bool.and_eq_true,decide_eq_true_eq] at h
 have:=(ZFp _ 0 rfl).1 h.2 i (by omega) (List.getElem?_eq_some_iff.1 hp).1
 simp only[ZFr,hp,Bool.and_eq_true] at this
 exact this.1
theorem ZJT (n:Int):EE F 174 [I n] []=ok1 (B (inR n 1 3)):=by
 rw [R174,b174]
 simp only[↓xP,xT,rL,rB,rA,rS]
 repeat' (refine ZiE (fun h=>?_) (fun h=>?_))
 all_goals (simp_all [inR]<;>(intros; omega))
theorem ZHD (n:Int):EE F 178 [I n] []=ok1 (B (inR n 0 4)):=by
 rw [R178,b178]
 simp only[↓xP,xT,rL,rB,rA,rS]
 repeat' (refine ZiE (fun h=>?_) (fun h=>?_))
 all_goals (simp_all [inR]<;>(intros; omega))
theorem ZGr (n:Int):EE F 177 [I n] []=ok1 (B (inR n 0 7)):=by
 rw [R177,b177]
 simp only[↓xP,xT,rL,rB,rA,rS]
 repeat' (refine ZiE (fun h=>?_) (fun h=>?_))
 all_goals (simp_all [inR]<;>(intros; omega))
theorem ZHg (n:Int):EE F 175 [I n] []=ok1 (B (inR n 1 999)):=by
 rw [R175,b175]
 simp only[↓xP,xT,rL,rB,rA,rS]
 repeat' (refine ZiE (fun h=>?_) (fun h=>?_))
 all_goals (simp_all [inR]<;>(intros; omega))
def Z5 (c:Ye):Bool:=(Z3 c.key||decide (c.kind=5)&&decide (c.key=[])) &&
 ((decide (c.kind=1)||decide (c.kind=3)||decide (c.kind=5))&&decide (c.value=0)&&decide (c.old=0)||decide (c.kind=2)&&inR c.value 0 999&&decide (c.old=0)||decide (c.kind=4)&&inR c.value 0 999&&inR c.old (-1) 999)
theorem ZL0 (k:Int):k=1∨k=2∨k=3∨k=4∨k=5∨(k<1∧¬5<k∧¬k=1∧¬k=2∧¬k=3∧¬k=4∧¬k=5)∨(¬k<1∧5<k∧¬k=1∧¬k=2∧¬k=3∧¬k=4∧¬k=5):=by omega
theorem ZGo (k:Int) (key:Str) (v o:Int):EE F 200 [.ag [.u (.int .i64 k),.u (.str key),.u (.int .i64 v),.u (.int .i64 o)]] []=ok1 (B (Z5 ⟨k,key,v,o⟩)):=by
 rw [R200,b200]
 rcases ZL0 k with h|h|h|h|h|h|h<;>(try subst h)<;>(try obtain ⟨_,_,_,_,_,_,_⟩:=h)<;>simp only[↓xP,xT,rL,rB,rA,rS,ZFo,Z1, *]<;>
  repeat' (refine ZiE (fun h=>?_) (fun h=>?_))
 all_goals (simp_all [Z5]<;>(intros; omega))
theorem ZGn (k:Int) (key:Str) (v o:Int):EE F 216 [.ag [.u (.int .i64 k),.u (.str key),.u (.int .i64 v),.u (.int .i64 o)]] []=ok1 (B (Z5 ⟨k,key,v,o⟩)):=by
 rw [R216,b216]
 rcases ZL0 k with h|h|h|h|h|h|h<;>(try subst h)<;>(try obtain ⟨_,_,_,_,_,_,_⟩:=h)<;>simp only[↓xP,xT,rL,rB,rA,rS,ZFy,ZFz, *]<;>
  repeat' (refine ZiE (fun h=>?_) (fun h=>?_))
 all_goals first|(simp_all [Z5,inR]; done)|(simp_all [Z5,inR]<;>(intros; omega))|(simp_all [Z5,inR]; rw [Bool.eq_iff_iff]; simp; omega)
def ZG2 (c:Ye):Bool:=Z5 c&&!decide (c.kind=5)
theorem ZKo (k:Int) (key:Str) (v o:Int):EE F 187 [.ag [.u (.int .i64 k),.u (.str key),.u (.int .i64 v),.u (.int .i64 o)]] []=ok1 (B (ZG2 ⟨k,key,v,o⟩)):=by
 rw [R187,b187]
 simp only[↓xP,xT,rL,rB,rA,rS,ZGo]
 repeat' (refine ZiE (fun h=>?_) (fun h=>?_))
 all_goals (simp_all [ZG2])
theorem ZJc (k:Int) (key:Str) (v o:Int):EE F 173 [.ag [.u (.int .i64 k),.u (.str key),.u (.int .i64 v),.u (.int .i64 o)]] []=ok1 (B (ZG2 ⟨k,key,v,o⟩)):=by
 rw [R173,b173]
 simp only[↓xP,xT,rL,rB,rA,rS,ZGn]
 repeat' (refine ZiE (fun h=>?_) (fun h=>?_))
 all_goals (simp_all [ZG2])
def ZO (e:Yh):Bool:=inR e.client 0 3&&inR e.seq 1 999&&Z5 e.cmd
theorem ZFN (c s k:Int) (key:Str) (v o:Int):EE F 125 [.ag [.u (.int .i64 c),.u (.int .i64 s),.u (.int .i64 k),.u (.str key),.u (.int .i64 v),.u (.int .i64 o)]] []=ok1 (B (ZO ⟨c,s,⟨k,key,v,o⟩⟩)):=by
 rw [R125,b125]
 simp only[↓xP,xT,rL,rB,rA,rS,ZGo,Z1]
 repeat' (refine ZiE (fun h=>?_) (fun h=>?_))
 all_goals (simp_all [ZO])
theorem ZGb (c s k:Int) (key:Str) (v o:Int):EE F 141 [.ag [.u (.int .i64 c),.u (.int .i64 s),.u (.int .i64 k),.u (.str key),.u (.int .i64 v),.u (.int .i64 o)]] []=ok1 (B (ZO ⟨c,s,⟨k,key,v,o⟩⟩)):=by
 rw [R141,b141]
 simp only[↓xP,xT,rL,rB,rA,rS,ZGn,ZHg]
 repeat' (refine ZiE (fun h=>?_) (fun h=>?_))
 all_goals first|(simp_all [ZO,inR]; done)|(simp_all [ZO,inR]<;>(intros; omega))|(simp_all [ZO,inR]; rw [Bool.eq_iff_iff]; simp; omega)
def ZFG (p:Yn):Bool:=inR p.first 0 7&&(decide (p.kind=1)&&Z3 p.key&&decide (p.second=0)&&decide (p.from_=0)&&decide (p.to_=0)&&decide (p.step=0) ||
 decide (p.kind=2)&&inR p.second 0 7&&!decide (p.second=p.first)&&decide (p.key=[])&&decide (p.from_=0)&&decide (p.to_=0)&&decide (p.step=0) ||
 decide (p.kind=3)&&inR p.from_ 0 4&&inR p.to_ 0 4&&!decide (p.from_=p.to_)&&inR p.step 0 1&&decide (p.second=0)&&decide (p.key=[]))
theorem ZLf (k:Int):k=1∨k=2∨k=3∨(¬k=1∧¬k=2∧¬k=3):=by omega
theorem ZKz (k f s:Int) (key:Str) (a b c:Int):EE F 182 [.ag [.u (.int .i64 k),.u (.int .i64 f),.u (.int .i64 s),.u (.str key),.u (.int .i64 a),.u (.int .i64 b),.u (.int .i64 c)]] []=ok1 (B (ZFG ⟨k,f,s,key,a,b,c⟩)):=by
 rw [R182,b182]
 rcases ZLf k with h|h|h|h<;>(try subst h)<;>(try obtain ⟨_,_,_⟩:=h)<;>simp only[↓xP,xT,rL,rB,rA,rS,ZFo,Z1, *]<;>
  repeat' (refine ZiE (fun h=>?_) (fun h=>?_))
 all_goals first|(simp_all [ZFG]; done)|(simp_all [ZFG]<;>(intros; omega))|(simp_all [ZFG]; rw [Bool.eq_iff_iff]; simp; omega)
theorem ZKy (k f s:Int) (key:Str) (a b c:Int):EE F 89 [.ag [.u (.int .i64 k),.u (.int .i64 f),.u (.int .i64 s),.u (.str key),.u (.int .i64 a),.u (.int .i64 b),.u (.int .i64 c)]] []=ok1 (B (ZFG ⟨k,f,s,key,a,b,c⟩)):=by
 rw [R89,b89]
 rcases ZLf k with h|h|h|h<;>(try subst h)<;>(try obtain ⟨_,_,_⟩:=h)<;>simp only[↓xP,xT,rL,rB,rA,rS,ZFy,ZGr,ZHD, *]<;>
  repeat' (refine ZiE (fun h=>?_) (fun h=>?_))
 all_goals first|(simp_all [ZFG]; done)|(simp_all [ZFG,inR]<;>(intros; omega))|(simp_all [ZFG,Bool.and_assoc]; done)|(simp_all [ZFG,inR]; rw [Bool.eq_iff_iff]; simp; omega)
def ZHX (v:Yj) (key:Str):Bool:=ZH v&&Z3 key&&ZH ⟨v.low,key⟩&&ZH ⟨key,v.high⟩
def ZHj (v:Yj) (key:Str):Option Ret:=sel (ZHX v key) (some ⟨[.ag [.u (.str v.low),.u (.str key)],.ag [.u (.str key),.u (.str v.high)],B true],[],[]⟩) (some ⟨[.ag [.u (.str []),.u (.str [])],.ag [.u (.str []),.u (.str [])],B false],[],[]⟩)
theorem ZHq (lo hi key:Str):EE F 227 [.ag [.u (.str lo),.u (.str hi)],S key] []=ZHj ⟨lo,hi⟩ key:=by
 rw [R227,b227]
 simp only[↓xP,xT,rL,rB,rA,rS,ZFj,ZFo]
 repeat' (refine ZiE (fun h=>?_) (fun h=>?_))
 all_goals simp_all [ZHX,ZHj,sel]
theorem ZGt (lo hi key:Str):EE F 110 [.ag [.u (.str lo),.u (.str hi)],S key] []=ZHj ⟨lo,hi⟩ key:=by
 rw [R110,b110]
 simp only[↓xP,xT,rL,rB,rA,rS,ZZ,ZFy]
 repeat' (refine ZiE (fun h=>?_) (fun h=>?_))
 all_goals simp_all [ZHX,ZHj,sel]
def ZGO (a b:Yj):Bool:=ZH a&&ZH b&&!decide (a.high=[])&&decide (a.high=b.low)
def ZIk (a b:Yj):Option Ret:=sel (ZGO a b) (some ⟨[.ag [.u (.str a.low),.u (.str b.high)],B true],[],[]⟩) (some ⟨[.ag [.u (.str []),.u (.str [])],B false],[],[]⟩)
theorem ZIS (al ah bl bh:Str):EE F 250 [.ag [.u (.str al),.u (.str ah)],.ag [.u (.str bl),.u (.str bh)]] []=ZIk ⟨al,ah⟩ ⟨bl,bh⟩:=by
 rw [R250,b250]
 simp only[↓xP,xT,rL,rB,rA,rS,ZFj]
 repeat' (refine ZiE (fun h=>?_) (fun h=>?_))
 all_goals simp_all [ZGO,ZIk,sel]
theorem ZIR (al ah bl bh:Str):EE F 120 [.ag [.u (.str al),.u (.str ah)],.ag [.u (.str bl),.u (.str bh)]] []=ZIk ⟨al,ah⟩ ⟨bl,bh⟩:=by
 rw [R120,b120]
 simp only[↓xP,xT,rL,rB,rA,rS,ZZ]
 repeat' (refine ZiE (fun h=>?_) (fun h=>?_))
 all_goals simp_all [ZGO,ZIk,sel]
def Z7 (l:List Yr) (i:Nat):Bool:=match l[i]? with
 | none=>true
 | some s=>inR s.client 0 3&&inR s.seq 1 999&&inR s.reply (-2) 999&&(decide (i=0)||(match l[i - 1]? with
  | some r=>decide (r.client<s.client)
  | none=>true))
def ZJ (l:List Yr):Bool:=allF l.length (Z7 l) 0
theorem ZFL (l:List Yr) (hn:l.length≤4611686018427387904):EE F 225 [L 3 (l.map Yr.u)] []=ok1 (B (ZJ l)):=by
 rw [R225,b225]
 simp only[↓xP,xT,rL,rB,rA,rS]
 refine (Zjc (fun (i:Nat) st=>st.s 0=DU (.sl 3 (l.map Yr.u))∧st.s 3=DI i) (fun i=>l.length - i) (fun i=>ok1 (B (allF l.length (Z7 l) i))) ?_ 0 ⟨by simp only[↓xP,xT,rL,rB,rA,rS],by simp only[↓xP,xT,rL,rB,rA,rS]; rfl⟩).trans ?_
 ·rintro i st ⟨h0,h3⟩ ih
  by_cases hi:i<l.length
  ·obtain ⟨⟨c,s,r⟩,hp⟩:∃ p,l[i]?=some p:=⟨_,List.getElem?_eq_getElem hi⟩
   have hw:=w_succ (i:=i) (by omega)
   rw [ZF1 hi]
   by_cases hz:i=0
   ·have h01:¬(0:Int)<(i:Int):=by omega
    simp only[↓xP,xT,rL,rB,rA,rS,h0,h3,hi,hp,hw,h01,Yr.u,Z1]
    repeat' (refine ZiE (fun h=>?_) (fun h=>?_))
    all_goals first|(rw [ih (i+1) _ (by omega) ⟨by simp only[↓xP,xT,rL,rB,rA,rS,h0],by simp only[↓xP,xT,rL,rB,rA,rS]⟩]; simp_all [Z7]; done)|(simp_all [Z7]; done)
   ·obtain ⟨⟨qc,qs,qr⟩,hq⟩:∃ q,l[i - 1]?=some q:=⟨_,List.getElem?_eq_getElem (by omega)⟩
    have hw2:IntKind.i64.wrap ((i:Int) - 1)=((i - 1:Nat):Int):=by rw [w64 (by omega) (by omega)]; omega
    have h01:(0:Int)<(i:Int):=by omega
    simp only[↓xP,xT,rL,rB,rA,rS,h0,h3,hi,hp,hw,hw2,hq,h01,Yr.u,Z1]
    repeat' (refine ZiE (fun h=>?_) (fun h=>?_))
    all_goals first|(rw [ih (i+1) _ (by omega) ⟨by simp only[↓xP,xT,rL,rB,rA,rS,h0],by simp only[↓xP,xT,rL,rB,rA,rS]⟩]; simp_all [Z7]; done)|(simp_all [Z7]; done)|(simp_all [Z7]<;>(intros; omega))
  ·simp only[↓xP,xT,rL,rB,rA,rS,h0,h3,hi]
   rw [ZF0 hi]
 ·rfl
theorem ZGf (l:List Yr) (hn:l.length≤4611686018427387904):EE F 108 [L 3 (l.map Yr.u)] []=ok1 (B (ZJ l)):=by
 rw [R108,b108]
 simp only[↓xP,xT,rL,rB,rA,rS]
 refine (Zjc (fun (i:Nat) st=>st.s 0=DU (.sl 3 (l.map Yr.u))∧st.s 5=DU (.sl 3 (l.map Yr.u))∧st.s 6=DI l.length∧st.s 7=DI i) (fun i=>l.length - i) (fun i=>ok1 (B (allF l.length (Z7 l) i))) ?_ 0 ⟨by simp only[↓xP,xT,rL,rB,rA,rS],by simp only[↓xP,xT,rL,rB,rA,rS],by simp only[↓xP,xT,rL,rB,rA,rS],by simp only[↓xP,xT,rL,rB,rA,rS]; rfl⟩).trans ?_
 ·rintro i st ⟨h0,h5,h6,h7⟩ ih
  by_cases hi:i<l.length
  ·obtain ⟨⟨c,s,r⟩,hp⟩:∃ p,l[i]?=some p:=⟨_,List.getElem?_eq_getElem hi⟩
   have hw:=w_succ (i:=i) (by omega)
   rw [ZF1 hi]
   by_cases hz:i=0
   ·have h01:¬(0:Int)<(i:Int):=by omega
    simp only[↓xP,xT,rL,rB,rA,rS,h0,h5,h6,h7,hi,hp,hw,h01,Yr.u,ZHg]
    repeat' (refine ZiE (fun h=>?_) (fun h=>?_))
    all_goals first|(rw [ih (i+1) _ (by omega) ⟨by simp only[↓xP,xT,rL,rB,rA,rS,h0],by simp only[↓xP,xT,rL,rB,rA,rS,h5],by simp only[↓xP,xT,rL,rB,rA,rS,h6],by simp only[↓xP,xT,rL,rB,rA,rS]⟩]; simp_all [Z7,inR]; done)|(rw [ih (i+1) _ (by omega) ⟨by simp only[↓xP,xT,rL,rB,rA,rS,h0],by simp only[↓xP,xT,rL,rB,rA,rS,h5],by simp only[↓xP,xT,rL,rB,rA,rS,h6],by simp only[↓xP,xT,rL,rB,rA,rS]⟩]; simp_all [Z7,inR]<;>(intros; omega))|(simp_all [Z7,inR]; done)|(simp_all [Z7,inR]<;>(intros; omega))
   ·obtain ⟨⟨qc,qs,qr⟩,hq⟩:∃ q,l[i - 1]?=some q:=⟨_,List.getElem?_eq_getElem (by omega)⟩
    have hw2:IntKind.i64.wrap ((i:Int) - 1)=((i - 1:Nat):Int):=by rw [w64 (by omega) (by omega)]; omega
    have h01:(0:Int)<(i:Int):=by omega
    simp only[↓xP,xT,rL,rB,rA,rS,h0,h5,h6,h7,hi,hp,hw,hw2,hq,h01,Yr.u,ZHg]
    repeat' (refine ZiE (fun h=>?_) (fun h=>?_))
    all_goals first|(rw [ih (i+1) _ (by omega) ⟨by simp only[↓xP,xT,rL,rB,rA,rS,h0],by simp only[↓xP,xT,rL,rB,rA,rS,h5],by simp only[↓xP,xT,rL,rB,rA,rS,h6],by simp only[↓xP,xT,rL,rB,rA,rS]⟩]; simp_all [Z7,inR]; done)|(rw [ih (i+1) _ (by omega) ⟨by simp only[↓xP,xT,rL,rB,rA,rS,h0],by simp only[↓xP,xT,rL,rB,rA,rS,h5],by simp only[↓xP,xT,rL,rB,rA,rS,h6],by simp only[↓xP,xT,rL,rB,rA,rS]⟩]; simp_all [Z7,inR]<;>(intros; omega))|(simp_all [Z7,inR]; done)|(simp_all [Z7,inR]<;>(intros; omega))
  ·simp only[↓xP,xT,rL,rB,rA,rS,h0,h5,h6,h7,hi]
   rw [ZF0 hi]
 ·rfl
def ZD (s:Yt):Bool:=ZH s.span&&ZC s.pairs&&ZJ s.known&&(s.pairs.all fun q=>ZFm s.span q.key)&&(decide (s.cut=[])||s.sealed&&ZHX s.span s.cut)
theorem ZU {l:List Yl} (h:ZC l=true):l.length≤48:=by
 simp only[ZC,Bool.and_eq_true,decide_eq_true_eq] at h; exact h.1
theorem ZGc (lo hi:Str) (l:List Yl) (k:List Yr) (se:Bool) (cut:Str) (hn:k.length≤4611686018427387904):EE F 41 [.ag [.u (.str lo),.u (.str hi),.u (.sl 2 (l.map Yl.u)),.u (.sl 3 (k.map Yr.u)),.u (.bool se),.u (.str cut)]] []=ok1 (B (ZD ⟨⟨lo,hi⟩,l,k,se,cut⟩)):=by
 rw [R41,b41]
 simp only[↓xP,xT,rL,rB,rA,rS,ZZ,ZFT,ZGf k hn]
 refine ZiE (fun h=>?_) (fun h=>?_)
 ·simp_all [ZD]
 refine ZiE (fun h2=>?_) (fun h2=>?_)
 ·simp_all [ZD]
 refine ZiE (fun h3=>?_) (fun h3=>?_)
 ·simp_all [ZD]
 simp only[Bool.not_eq_false'] at h h2 h3
 have hlen:=ZU h2
 refine (Zjc (fun (i:Nat) st=>st.s 1=.t (.sc (.ptr (.loc 1 0) 0 0))∧st.o (.loc 1 0)=some (.box [.u (.str lo),.u (.str hi),.u (.sl 2 (l.map Yl.u)),.u (.sl 3 (k.map Yr.u)),.u (.bool se),.u (.str cut)])∧st.s 25=DU (.sl 2 (l.map Yl.u))∧st.s 26=DI l.length∧st.s 27=DI i) (fun i=>l.length - i) (fun i=>ok1 (B (((l.drop i).all fun q=>ZFm ⟨lo,hi⟩ q.key)&&(decide (cut=[])||se&&ZHX ⟨lo,hi⟩ cut)))) ?_ 0 ⟨by simp only[↓xP,xT,rL,rB,rA,rS],by simp only[↓xP,xT,rL,rB,rA,rS],by simp only[↓xP,xT,rL,rB,rA,rS],by simp only[↓xP,xT,rL,rB,rA,rS],by simp only[↓xP,xT,rL,rB,rA,rS]; rfl⟩).trans ?_
 ·rintro i st ⟨h1,ho,h25,h26,h27⟩ ih
  by_cases hi':i<l.length
  ·obtain ⟨⟨pk,pv⟩,hp⟩:∃ p,l[i]?=some p:=⟨_,List.getElem?_eq_getElem hi'⟩
   have hd:l.drop i=⟨pk,pv⟩::l.drop (i+1):=by rw [List.drop_eq_getElem_cons hi',(List.getElem?_eq_some_iff.1 hp).2]
   have hw:=w_succ (i:=i) (by omega)
   simp only[↓xP,xT,rL,rB,rA,rS,h1,ho,h25,h26,h27,hi',hp,hw,Yl.u,ZK9]
   rw [hd]
   refine ZiE (fun h=>?_) (fun h=>?_)
   ·simp_all
   ·rw [ih (i+1) _ (by omega) ⟨by simp only[↓xP,xT,rL,rB,rA,rS,h1],by simp only[↓xP,xT,rL,rB,rA,rS,ho],by simp only[↓xP,xT,rL,rB,rA,rS,h25],by simp only[↓xP,xT,rL,rB,rA,rS,h26],by simp only[↓xP,xT,rL,rB,rA,rS]⟩]
    simp_all
  ·simp only[↓xP,xT,rL,rB,rA,rS,h1,ho,h25,h26,h27,hi',ZGt]
   rw [List.drop_of_length_le (by omega)]
   refine ZiE (fun h=>?_) (fun h=>?_)
   ·simp_all
   cases hc:ZHX ⟨lo,hi⟩ cut<;>simp only[↓xP,xT,rL,rB,rA,rS,ZHj,hc,h1,ho]
   all_goals repeat' (refine ZiE (fun h=>?_) (fun h=>?_))
   all_goals simp_all
 ·simp [ZD,h,h2,h3]
theorem ZGd (lo hi:Str) (l:List Yl) (k:List Yr) (se:Bool) (cut:Str) (hn:k.length≤4611686018427387904):EE F 148 [.ag [.u (.str lo),.u (.str hi),.u (.sl 2 (l.map Yl.u)),.u (.sl 3 (k.map Yr.u)),.u (.bool se),.u (.str cut)]] []=ok1 (B (ZD ⟨⟨lo,hi⟩,l,k,se,cut⟩)):=by
 rw [R148,b148]
 simp only[↓xP,xT,rL,rB,rA,rS,ZFj,Z0,ZFL k hn]
 refine ZiE (fun h=>?_) (fun h=>?_)
 ·simp_all [ZD]
 refine ZiE (fun h2=>?_) (fun h2=>?_)
 ·simp_all [ZD]
 refine ZiE (fun h3=>?_) (fun h3=>?_)
 ·simp_all [ZD]
 simp only[Bool.not_eq_false'] at h h2 h3
 have hlen:=ZU h2
 refine (Zjc (fun (i:Nat) st=>st.s 1=.t (.sc (.ptr (.loc 1 0) 0 0))∧st.o (.loc 1 0)=some (.box [.u (.str lo),.u (.str hi),.u (.sl 2 (l.map Yl.u)),.u (.sl 3 (k.map Yr.u)),.u (.bool se),.u (.str cut)])∧st.s 3=DI i) (fun i=>l.length - i) (fun i=>ok1 (B (((l.drop i).all fun q=>ZFm ⟨lo,hi⟩ q.key)&&(decide (cut=[])||se&&ZHX ⟨lo,hi⟩ cut)))) ?_ 0 ⟨by simp only[↓xP,xT,rL,rB,rA,rS],by simp only[↓xP,xT,rL,rB,rA,rS],by simp only[↓xP,xT,rL,rB,rA,rS]; rfl⟩).trans ?_
 ·rintro i st ⟨h1,ho,h3'⟩ ih
  by_cases hi':i<l.length
  ·obtain ⟨⟨pk,pv⟩,hp⟩:∃ p,l[i]?=some p:=⟨_,List.getElem?_eq_getElem hi'⟩
   have hd:l.drop i=⟨pk,pv⟩::l.drop (i+1):=by rw [List.drop_eq_getElem_cons hi',(List.getElem?_eq_some_iff.1 hp).2]
   have hw:=w_succ (i:=i) (by omega)
   have hk:=(ZIr h2 hp).1
   simp only[↓xP,xT,rL,rB,rA,rS,h1,ho,h3',hi',hp,hw,Yl.u,ZFF]
   rw [hd]
   refine ZiE (fun h=>?_) (fun h=>?_)
   ·simp_all [ZFI]
   ·rw [ih (i+1) _ (by omega) ⟨by simp only[↓xP,xT,rL,rB,rA,rS,h1],by simp only[↓xP,xT,rL,rB,rA,rS,ho],by simp only[↓xP,xT,rL,rB,rA,rS]⟩]
    simp_all [ZFI]
  ·simp only[↓xP,xT,rL,rB,rA,rS,h1,ho,h3',hi',ZHq]
   rw [List.drop_of_length_le (by omega)]
   cases hc:ZHX ⟨lo,hi⟩ cut<;>simp only[↓xP,xT,rL,rB,rA,rS,ZHj,hc,h1,ho]
   all_goals repeat' (refine ZiE (fun h=>?_) (fun h=>?_))
   all_goals simp_all
 ·simp [ZD,h,h2,h3]
def cmpS (a b:Str):Int:=if ZaZ a b=true then -1 else if ZaZ b a=true then 1 else 0
theorem ZOp (s:Str):EE F 247 [S s] []=ok1 (B false):=by
 rw [R247,b247]
 simp only[↓xP,xT,rL,rB,rA,rS,ne_eq,not_true_eq_false,decide_false]
theorem ZK7 (a b:Str):EE F 181 [S a,S b] []=ok1 (I (cmpS a b)):=by
 rw [R181,b181]
 simp only[↓xP,xT,rL,rB,rA,rS,ZOp,ZJi]
 repeat' (refine ZiE (fun h=>?_) (fun h=>?_))
 all_goals simp_all [cmpS]
theorem ZLC (p:Str) (v:Int) (key:Str):EE F 193 [.ag [.u (.str p),.u (.int .i64 v)],S key] []=ok1 (I (cmpS p key)):=by
 rw [R193,b193]
 simp only[↓xP,xT,rL,rB,rA,rS,ZK7]
def place (key:Str):List Yl→Nat
 | []=>0
 | p::l=>if ZaZ p.key key=true then place key l+1 else 0
theorem ZGG (key:Str):∀ l,place key l≤l.length
 | []=>Nat.le_refl _
 | p::l=>by simp only[place]; split; simpa using ZGG key l; simp
theorem ZH5 (key:Str):∀ (l:List Yl) (i:Nat),i≤l.length→(∀ t p,t<i→l[t]?=some p→ZaZ p.key key=true)→(∀ p,l[i]?=some p→ZaZ p.key key=false)→place key l=i
 | [],i,hi,_,_=>by simp at hi; simp [place,hi]
 | p::l,0,_,_,h2=>by simp [place,h2 p rfl]
 | p::l,i+1,hi,h1,h2=>by
  have:=h1 0 p (by omega) rfl
  simp only[place,this,if_true]
  rw [ZH5 key l i (by simpa using hi) (fun t q ht hq=>h1 (t+1) q (by omega) hq) (fun q hq=>h2 q hq)]
def Asc (l:List Yl):Prop:=∀ (s t:Nat) p q,s<t→l[s]?=some p→l[t]?=some q→ZaZ p.key q.key=true
theorem ZHT {l:List Yl} (h:ZC l=true):Asc l:=by
 have hc:∀ (t:Nat) p q,l[t]?=some p→l[t+1]?=some q→ZaZ p.key q.key=true:=by
  intro t p q hp hq
  simp only[ZC,Bool.and_eq_true,decide_eq_true_eq] at h
  have:=(ZFp _ 0 rfl).1 h.2 (t+1) (by omega) (List.getElem?_eq_some_iff.1 hq).1
  simp only[ZFr,hq,Nat.add_sub_cancel,hp] at this
  simp_all
 intro s t p q hst hp hq
 induction t generalizing q with
 | zero=>omega
 | succ t ih=>
  obtain ⟨r,hr⟩:∃ r,l[t]?=some r:=⟨_,List.getElem?_eq_getElem (by have:=(List.getElem?_eq_some_iff.1 hq).1; omega)⟩
  by_cases e:s=t
  ·subst e; exact hc _ _ _ hp hq
  ·exact lt_trans (ih r (by omega) hr) (hc _ _ _ hr hq)
theorem ZOx {i j:Nat} (h:i+j<9223372036854775808):IntKind.i64.wrap ((IntKind.u64.wrap (IntKind.i64.wrap ((i:Int) + (j:Int)))).fdiv (2 ^ min (Int.toNat 1) IntKind.u64.bits))=(((i+j) / 2:Nat):Int):=by
 rw [show (2:Int) ^ min (Int.toNat 1) IntKind.u64.bits=2 from rfl]
 rw [show IntKind.i64.wrap ((i:Int) + (j:Int))=(i:Int)+j from w64 (by omega) (by omega)]
 have:IntKind.u64.wrap ((i:Int)+j)=(i:Int)+j:=by rw [IntKind.wrap_u64]; omega
 rw [this,Int.fdiv_eq_ediv_of_nonneg _ (by omega),w64 (by omega) (by omega)]
 omega
def ZKj (key:Str) (l:List Yl):Bool:=match l[place key l]? with
 | some p=>decide (p.key=key)
 | none=>false
theorem ZNN (l:List Yl) (key:Str) (ha:Asc l) (hn:l.length≤1048576):EE F 192 [L 2 (l.map Yl.u),S key,.sc (.u (.fn 193 []))] []=some ⟨[I (place key l),B (ZKj key l)],[],[]⟩:=by
 rw [R192,b192]
 simp only[↓xP,xT,rL,rB,rA,rS]
 refine (Zjc (fun (a:Nat×Nat) st=>a.1≤a.2∧a.2≤l.length∧(∀ t p,t<a.1→l[t]?=some p→ZaZ p.key key=true)∧(∀ t p,a.2≤t→l[t]?=some p→ZaZ p.key key=false)∧
  st.s 0=DU (.sl 2 (l.map Yl.u))∧st.s 1=DS key∧st.s 2=.t (.sc (.u (.fn 193 [])))∧st.s 8=DI l.length∧st.s 9=DI a.1∧st.s 10=DI a.2) (fun a=>a.2 - a.1) (fun a=>some ⟨[I (place key l),B (ZKj key l)],[],[]⟩) ?_ (0,l.length) ⟨by omega,by dsimp only; omega,by omega,?_,by simp only[↓xP,xT,rL,rB,rA,rS],by simp only[↓xP,xT,rL,rB,rA,rS],by simp only[↓xP,xT,rL,rB,rA,rS],by simp only[↓xP,xT,rL,rB,rA,rS],by simp only[↓xP,xT,rL,rB,rA,rS]; rfl,by simp only[↓xP,xT,rL,rB,rA,rS]⟩).trans rfl
 ·rintro ⟨i,j⟩ st ⟨hij,hj,hlo,hhi,h0,h1,h2,h8,h9,h10⟩ ih
  dsimp only at hij hj hlo hhi h9 h10 ih
  by_cases h:i<j
  ·obtain ⟨⟨pk,pv⟩,hp⟩:∃ p,l[(i+j) / 2]?=some p:=⟨_,List.getElem?_eq_getElem (by omega)⟩
   have hm:=ZOx (i:=i) (j:=j) (by omega)
   have hw:=w_succ (i:=(i+j) / 2) (by omega)
   have hb:¬(1:Int)<0:=by omega
   by_cases hc:ZaZ pk key=true
   ·have hs:cmpS pk key = -1:=by simp [cmpS,hc]
    have hn1:(-1:Int)<0:=by omega
    simp only[↓xP,xT,rL,rB,rA,rS,h0,h1,h2,h8,h9,h10,h,hb,hm,hp,hw,Yl.u,ZLC,hs,hn1]
    refine ih ((i+j) / 2+1,j) _ (by dsimp only; omega) ⟨by dsimp only; omega,hj,fun t q ht hq=>?_,hhi,by simp only[↓xP,xT,rL,rB,rA,rS,h0],by simp only[↓xP,xT,rL,rB,rA,rS,h1],by simp only[↓xP,xT,rL,rB,rA,rS,h2],by simp only[↓xP,xT,rL,rB,rA,rS,h8],by simp only[↓xP,xT,rL,rB,rA,rS],by simp only[↓xP,xT,rL,rB,rA,rS,h10]⟩
    dsimp only at ht
    by_cases e:t=(i+j) / 2
    ·subst e; rw [hp] at hq; cases hq; exact hc
    ·exact lt_trans (ha t _ _ _ (by omega) hq hp) hc
   ·have hs:¬cmpS pk key<0:=by unfold cmpS; rw [if_neg hc]; split<;>omega
    simp only[↓xP,xT,rL,rB,rA,rS,h0,h1,h2,h8,h9,h10,h,hb,hm,hp,hw,Yl.u,ZLC,hs]
    refine ih (i,(i+j) / 2) _ (by dsimp only; omega) ⟨by dsimp only; omega,by dsimp only; omega,hlo,fun t q ht hq=>?_,by simp only[↓xP,xT,rL,rB,rA,rS,h0],by simp only[↓xP,xT,rL,rB,rA,rS,h1],by simp only[↓xP,xT,rL,rB,rA,rS,h2],by simp only[↓xP,xT,rL,rB,rA,rS,h8],by simp only[↓xP,xT,rL,rB,rA,rS,h9],by simp only[↓xP,xT,rL,rB,rA,rS]⟩
    dsimp only at ht
    rw [Bool.eq_false_iff]
    intro h3
    by_cases e:t=(i+j) / 2
    ·subst e; rw [hp] at hq; cases hq; exact hc h3
    ·exact hc (lt_trans (ha _ t _ _ (by omega) hp hq) h3)
  ·have hpl:place key l=i:=ZH5 key l i (by omega) hlo (fun p hp=>hhi i p (by omega) hp)
   by_cases hi:i<l.length
   ·obtain ⟨⟨pk,pv⟩,hp⟩:∃ p,l[i]?=some p:=⟨_,List.getElem?_eq_getElem hi⟩
    have h3:=hhi i _ (by omega) hp
    simp only[↓xP,xT,rL,rB,rA,rS,h0,h1,h2,h8,h9,h10,h,hi,hp,Yl.u,ZLC,ZKj,hpl]
    have:decide (cmpS pk key=0)=decide (pk=key):=by
     simp only at h3
     rcases ZH2 pk key with h4|h4|h4
     ·rw [h3] at h4; cases h4
     ·subst h4; simp [cmpS,ZGg]
     ·have:pk≠key:=fun e=>by subst e; simp [ZGg] at h4
      simp [cmpS,h3,h4,this]
    rw [this]
   ·have hp:l[i]?=none:=List.getElem?_eq_none (by omega)
    simp only[↓xP,xT,rL,rB,rA,rS,h0,h1,h2,h8,h9,h10,h,hi,ZKj,hpl,hp]
 ·intro t p ht hp
  have:=(List.getElem?_eq_some_iff.1 hp).1
  dsimp only at ht
  omega
theorem ZHE (l:List Yl) (key:Str) (ha:Asc l) (hn:l.length≤1048576):EE F 114 [L 2 (l.map Yl.u),S key] []=some ⟨[I (place key l),B (ZKj key l)],[],[]⟩:=by
 rw [R114,b114]
 simp only[↓xP,xT,rL,rB,rA,rS,ZNN l key ha hn]
theorem ZMm {key:Str}:∀ {l:List Yl} {t:Nat} {p:Yl},t<place key l→l[t]?=some p→ZaZ p.key key=true
 | [],t,p,ht,hp=>by simp at hp
 | q :: l,t,p,ht,hp=>by
  simp only[place] at ht
  split at ht
  ·rename_i hq
   cases t with
   | zero=>cases hp; exact hq
   | succ t=>exact ZMm (l:=l) (t:=t) (by omega) hp
  ·omega
theorem ZKx {key:Str}:∀ {l:List Yl} {p:Yl},l[place key l]?=some p→ZaZ p.key key=false
 | [],p,hp=>by simp at hp
 | q::l,p,hp=>by
  simp only[place] at hp
  split at hp
  ·exact ZKx (l:=l) hp
  ·rename_i hq; cases hp; simpa using hq
theorem ZOe {key:Str} {l:List Yl} (ha:Asc l) {t:Nat} {p:Yl} (ht:place key l≤t) (hp:l[t]?=some p):ZaZ p.key key=false:=by
 obtain ⟨q,hq⟩:∃ q,l[place key l]?=some q:=⟨_,List.getElem?_eq_getElem (by have:=(List.getElem?_eq_some_iff.1 hp).1; omega)⟩
 have h1:=ZKx hq
 by_cases e:place key l=t
 ·subst e; rw [hq] at hp; cases hp; exact h1
 ·rw [Bool.eq_false_iff]
  intro h2
  rw [lt_trans (ha _ t _ _ (by omega) hq hp) h2] at h1
  cases h1
theorem ZHf (l:List Yl) (hn:l.length≤1048576):EE F 196 [L 2 (l.map Yl.u)] []=some ⟨[.sc (.own (.par 0) l.length)],[.row 2 (l.map Yl.u)],[]⟩:=by
 rw [R196,b196]
 have h1:l.length≤maxLen:=by simp [maxLen]; omega
 have h2:l.length*24≤140737488355328:=by omega
 simp only[↓xP,xT,rL,rB,rA,rS,h1,h2]
def idxI (l:List Int) (x:Int):Int:=if x∈l then (l.idxOf x:Int) else -1
theorem ZOl {x:Int} {l:List Int}:idxI (x::l) x=0:=by simp [idxI]
theorem ZOn {x y:Int} {l:List Int} (h:y≠x):idxI (y::l) x=if x∈l then idxI l x+1 else -1:=by
 have h':x≠y:=fun e=>h e.symm
 simp only[idxI,List.mem_cons,h',false_or]
 by_cases hm:x∈l
 ·simp only[hm,if_true]
  have:(y==x)=false:=by simpa using h
  simp [List.idxOf_cons,this]
 ·simp [hm]
theorem ZN5 {l:List Int} {x:Int}:idxI l x<0↔x∉l:=by
 unfold idxI
 split<;>simp_all
theorem ZOm {l:List Int} {x:Int}:0≤idxI l x↔x∈l:=by
 have:=ZN5 (l:=l) (x:=x)
 constructor
 ·intro h; by_cases hm:x∈l
  ·exact hm
  ·have:=this.2 hm; omega
 ·intro h
  by_cases hq:idxI l x<0
  ·exact absurd h (this.1 hq)
  ·omega
def idxF (l:List Int) (x:Int) (i:Nat):Int:=if x∈l.drop i then (i:Int)+idxI (l.drop i) x else -1
theorem ZOA (l:List Int) (x:Int):idxF l x 0=idxI l x:=by
 simp only[idxF,List.drop_zero,idxI]
 split<;>simp
theorem ZN3 (l:List Int) (x:Int) {i:Nat} (h:¬i<l.length):idxF l x i = -1:=by
 simp [idxF,List.drop_of_length_le (show l.length≤i by omega)]
theorem ZN4 {l:List Int} {x:Int} {i:Nat} (h:l[i]?=some x):idxF l x i=i:=by
 obtain ⟨hi,hx⟩:=List.getElem?_eq_some_iff.1 h
 simp [idxF,List.drop_eq_getElem_cons hi,hx,ZOl]
theorem ZNE {l:List Int} {x y:Int} {i:Nat} (h:l[i]?=some y) (hn:y≠x):idxF l x i=idxF l x (i+1):=by
 obtain ⟨hi,hx⟩:=List.getElem?_eq_some_iff.1 h
 have hn':x≠y:=fun e=>hn e.symm
 simp only[idxF,List.drop_eq_getElem_cons hi,hx,List.mem_cons,hn',false_or,ZOn hn]
 by_cases hm:x∈l.drop (i+1)
 ·simp only[hm,if_true]; omega
 ·simp [hm]
theorem ZNF (l:List Int) (x:Int) (hn:l.length≤4611686018427387904):EE F 296 [L 1 (l.map iU),I x] []=ok1 (I (idxI l x)):=by
 rw [R296,b296]
 simp only[↓xP,xT,rL,rB,rA,rS]
 refine (Zjc (fun (i:Nat) st=>i≤l.length∧st.s 0=DU (.sl 1 (l.map iU))∧st.s 1=DI x∧st.s 7=DI l.length∧st.s 8=DI i) (fun i=>l.length - i) (fun i=>ok1 (I (idxF l x i))) ?_ 0 (by and_intros<;>first|omega|rfl|(simp only[↓xP,xT,rL,rB,rA,rS]<;>first|done|rfl|omega))).trans (by rw [ZOA])
 rintro i st ⟨hle,h0,h1,h7,h8⟩ ih
 by_cases hi:i<l.length
 ·obtain ⟨y,hy⟩:∃ y,l[i]?=some y:=⟨_,List.getElem?_eq_getElem hi⟩
  have hw:=w_succ (i:=i) (by omega)
  simp only[↓xP,xT,rL,rB,rA,rS,h0,h1,h7,h8,hi,hy,hw,iU]
  refine ZiE (fun h=>?_) (fun h=>?_)
  ·simp only[decide_eq_true_eq] at h
   rw [ZN4 (by rw [hy,h])]
  ·simp only[decide_eq_false_iff_not] at h
   rw [ZNE hy (fun e=>h e.symm)]
   exact ih (i+1) _ (by omega) (by and_intros<;>first|omega|rfl|(simp only[↓xP,xT,rL,rB,rA,rS,h0,h1,h7]<;>first|done|rfl|omega))
 ·simp only[↓xP,xT,rL,rB,rA,rS,h0,h1,h7,h8,hi]
  rw [ZN3 l x hi]
theorem ZLl (l:List Int) (x:Int) (hn:l.length≤4611686018427387904):EE F 243 [L 1 (l.map iU),I x] []=ok1 (B (decide (x∈l))):=by
 rw [R243,b243]
 simp only[↓xP,xT,rL,rB,rA,rS,ZNF l x hn,ge_iff_le,ZOm]
theorem ZKg (l:List Int) (hn:l.length≤1048576):EE F 211 [L 1 (l.map iU)] []=some ⟨[.sc (.own (.par 0) l.length)],[.row 1 (l.map iU)],[]⟩:=by
 rw [R211,b211]
 have h1:l.length≤maxLen:=by simp [maxLen]; omega
 have h2:l.length*8≤140737488355328:=by omega
 simp only[↓xP,xT,rL,rB,rA,rS,h1,h2]
def okAt (l:List Int) (k:Nat):Bool:=match l[k]? with
 | some x=>inR x 0 4&&!decide (x∈l.take k)
 | none=>true
def ZK (c:Yf):Bool:=decide (1≤c.epoch)&&decide (c.epoch≤60)&&decide (1≤c.members.length)&&decide (c.members.length≤4)&&!(c.fresh&&decide (c.members.length<2))&&allF c.members.length (okAt c.members) 0
theorem ZHt {l:List Int} {k:Nat} {x:Int} (h:l[k]?=some x):okAt l k=(inR x 0 4&&!decide (x∈l.take k)):=by simp [okAt,h]
theorem ZHQ {c:Yf} (h:ZK c=true):1≤c.members.length∧c.members.length≤4:=by
 simp only[ZK,Bool.and_eq_true,decide_eq_true_eq] at h; exact ⟨h.1.1.1.2,h.1.1.2⟩
theorem ZHk {n:Nat} {i:Nat} (h:i≤n):vcut n none (some (DI (i:Int)))=some (0,i):=by
 simp [vcut,D.int?]
 omega
theorem ZF2 (e:Int) (l:List Int) (f:Bool) (hn:l.length≤4611686018427387904):EE F 168 [.ag [.u (.int .i64 e),.u (.sl 1 (l.map iU)),.u (.bool f)]] []=ok1 (B (ZK ⟨e,l,f⟩)):=by
 rw [R168,b168]
 simp only[↓xP,xT,rL,rB,rA,rS]
 by_cases hg:(decide (1≤e)&&decide (e≤60)&&decide (1≤l.length)&&decide (l.length≤4)&&!(f&&decide (l.length<2)))=true
 ·have e1:ZK ⟨e,l,f⟩=allF l.length (okAt l) 0:=by simp only[ZK,hg,Bool.true_and]
  rw [e1]
  simp only[Bool.and_eq_true,decide_eq_true_eq,Bool.not_eq_true',Bool.and_eq_false_iff,decide_eq_false_iff_not] at hg
  obtain ⟨⟨⟨⟨h1,h2⟩,h3⟩,h4⟩,h5⟩:=hg
  have g1:¬e<1:=by omega
  have g2:¬60<e:=by omega
  have g3:¬(l.length:Int)<1:=by omega
  have g4:¬(4:Int)<(l.length:Int):=by omega
  simp only[g1,g2,g3,g4,gt_iff_lt,decide_false,↓xP,xT,rL,rB,rA,rS]
  repeat' (refine ZiE (fun h=>?_) (fun h=>?_))
  all_goals (try (exfalso; simp only[decide_eq_true_eq] at *; simp_all; omega))
  all_goals
   refine (Zjc (fun (i:Nat) st=>i≤l.length∧st.s 1=.t (.sc (.ptr (.loc 1 0) 0 0))∧st.o (.loc 1 0)=some (.box [.u (.int .i64 e),.u (.sl 1 (l.map iU)),.u (.bool f)])∧st.s 34=DU (.sl 1 (l.map iU))∧st.s 35=DI l.length∧st.s 36=DI i) (fun i=>l.length - i) (fun i=>ok1 (B (allF l.length (okAt l) i))) ?_ 0 (by and_intros<;>first|omega|rfl|(simp only[↓xP,xT,rL,rB,rA,rS]<;>first|done|rfl|omega))).trans rfl
   rintro i st ⟨hle,hb,ho,h34,h35,h36⟩ ih
   by_cases hi:i<l.length
   ·obtain ⟨y,hy⟩:∃ y,l[i]?=some y:=⟨_,List.getElem?_eq_getElem hi⟩
    have hw:=w_succ (i:=i) (by omega)
    have hct:=ZHk (n:=l.length) hle
    have hlt:(l.take i).length≤4611686018427387904:=by simp; omega
    have hct2:=ZLl (l.take i) y hlt
    simp only[↓xP,xT,rL,rB,rA,rS,hb,ho,h34,h35,h36,hi,hy,hw,iU,ZHD,List.length_map,hct,List.drop_zero,←List.map_take,hct2]
    rw [ZF1 hi,ZHt hy]
    repeat' (refine ZiE (fun h=>?_) (fun h=>?_))
    all_goals first
     | (simp_all; done)
     | (rw [ih (i+1) _ (by omega) (by and_intros<;>first|omega|rfl|(simp only[↓xP,xT,rL,rB,rA,rS,hb,ho,h34,h35]<;>first|done|rfl|omega))]; simp_all)
   ·simp only[↓xP,xT,rL,rB,rA,rS,hb,ho,h34,h35,h36,hi]
    rw [ZF0 hi]
 ·have hg2:=hg
  rw [Bool.not_eq_true] at hg2
  have e1:ZK ⟨e,l,f⟩=false:=by simp only[ZK,hg2,Bool.false_and]
  clear hg2
  rw [e1]
  repeat' (refine ZiE (fun h=>?_) (fun h=>?_))
  all_goals first
   | rfl
   | (exfalso; apply hg; simp only[decide_eq_true_eq,decide_eq_false_iff_not] at *; simp_all; omega)
theorem ZF3 (e:Int) (l:List Int) (f:Bool) (hn:l.length≤4611686018427387904):EE F 183 [.ag [.u (.int .i64 e),.u (.sl 1 (l.map iU)),.u (.bool f)]] []=ok1 (B (ZK ⟨e,l,f⟩)):=by
 rw [R183,b183]
 simp only[↓xP,xT,rL,rB,rA,rS,Z1]
 by_cases hg:(decide (1≤e)&&decide (e≤60)&&decide (1≤l.length)&&decide (l.length≤4)&&!(f&&decide (l.length<2)))=true
 ·have e1 : ZK ⟨e,l,f⟩=allF l.length (okAt l) 0:=by simp only[ZK,hg,Bool.true_and]
  rw [e1]
  simp only[Bool.and_eq_true,decide_eq_true_eq,Bool.not_eq_true',Bool.and_eq_false_iff,decide_eq_false_iff_not] at hg
  obtain ⟨⟨⟨⟨h1,h2⟩,h3⟩,h4⟩,h5⟩:=hg
  have g1:inR e 1 60=true:=by simp [inR,h1,h2]
  have g2:inR (l.length:Int) 1 4=true:=by simp [inR]; omega
  simp only[g1,g2,↓xP,xT,rL,rB,rA,rS]
  repeat' (refine ZiE (fun h=>?_) (fun h=>?_))
  all_goals (try (exfalso; simp only[decide_eq_true_eq] at *; simp_all; omega))
  all_goals
   refine (Zjc (fun (i:Nat) st=>i≤l.length∧st.s 1=.t (.sc (.ptr (.loc 1 0) 0 0))∧st.o (.loc 1 0)=some (.box [.u (.int .i64 e),.u (.sl 1 (l.map iU)),.u (.bool f)])∧st.s 3=DI i) (fun i=>l.length - i) (fun i=>ok1 (B (allF l.length (okAt l) i))) ?_ 0 (by and_intros<;>first|omega|rfl|(simp only[↓xP,xT,rL,rB,rA,rS]<;>first|done|rfl|omega))).trans rfl
   rintro i st ⟨hle,hb,ho,h3⟩ ih
   by_cases hi:i<l.length
   ·obtain ⟨y,hy⟩:∃ y,l[i]?=some y:=⟨_,List.getElem?_eq_getElem hi⟩
    have hw:=w_succ (i:=i) (by omega)
    simp only[↓xP,xT,rL,rB,rA,rS,hb,ho,h3,hi,hy,iU,Z1]
    rw [ZF1 hi,ZHt hy]
    refine ZiE (fun h=>?_) (fun h=>?_)
    ·simp_all
    refine (Zjc (fun (j:Nat) st=>j≤i∧st.s 1=.t (.sc (.ptr (.loc 1 0) 0 0))∧st.o (.loc 1 0)=some (.box [.u (.int .i64 e),.u (.sl 1 (l.map iU)),.u (.bool f)])∧st.s 3=DI i∧st.s 4=DI j) (fun j=>i - j) (fun j=>ok1 (B (!decide (y∈(l.take i).drop j)&&allF l.length (okAt l) (i+1)))) ?_ 0 (by and_intros<;>first|omega|rfl|(simp only[↓xP,xT,rL,rB,rA,rS,hb,ho,h3]<;>first|done|rfl|omega))).trans (by simp_all)
    rintro j st ⟨hlj,hb,ho,h3,h4⟩ ihj
    by_cases hj:j<i
    ·obtain ⟨z,hz⟩:∃ z,l[j]?=some z:=⟨_,List.getElem?_eq_getElem (by omega)⟩
     have hwj:=w_succ (i:=j) (by omega)
     have hd:(l.take i).drop j=z::(l.take i).drop (j+1):=by
      rw [List.drop_eq_getElem_cons (by simp; omega)]
      simp [(List.getElem?_eq_some_iff.1 hz).2]
     simp only[↓xP,xT,rL,rB,rA,rS,hb,ho,h3,h4,hj,hz,hy,iU,hwj]
     rw [hd]
     refine ZiE (fun h=>?_) (fun h=>?_)
     ·simp_all
     ·rw [ihj (j+1) _ (by omega) (by and_intros<;>first|omega|rfl|(simp only[↓xP,xT,rL,rB,rA,rS,hb,ho,h3]<;>first|done|rfl|omega))]
      simp only[decide_eq_false_iff_not] at h
      have h':¬y=z:=fun e=>h e.symm
      simp [h']
    ·simp only[↓xP,xT,rL,rB,rA,rS,hb,ho,h3,h4,hj,hw]
     rw [List.drop_of_length_le (by simp; omega)]
     rw [ih (i+1) _ (by omega) (by and_intros<;>first|omega|rfl|(simp only[↓xP,xT,rL,rB,rA,rS,hb,ho]<;>first|done|rfl|omega))]
     simp
   ·simp only[↓xP,xT,rL,rB,rA,rS,hb,ho,h3,hi]
    rw [ZF0 hi]
 ·have hg2:=hg
  rw [Bool.not_eq_true] at hg2
  have e1:ZK ⟨e,l,f⟩=false:=by simp only[ZK,hg2,Bool.false_and]
  clear hg2
  rw [e1]
  repeat' (refine ZiE (fun h=>?_) (fun h=>?_))
  all_goals first
   | rfl
   | (exfalso; apply hg; simp only[decide_eq_true_eq,decide_eq_false_iff_not,inR] at *; simp_all; omega)
theorem ZR {n k:Nat} (h:n≤1048576) (hk:k≤100000000):n≤maxLen∧n*k≤140737488355328:=by
 refine ⟨by simp [maxLen]; omega,?_⟩
 have:=Nat.mul_le_mul h hk
 omega
def ZFa (c:Yf):List Int:=if ZK c=true then (if c.fresh=true then c.members.take (c.members.length - 1) else c.members) else []
theorem ZL1 {n:Nat} (h1:1≤n) (h2:n≤1048576):IntKind.i64.wrap ((n:Int) - 1)=((n - 1:Nat):Int):=by rw [w64 (by omega) (by omega)]; omega
theorem ZHV (e:Int) (l:List Int) (f:Bool) (hn:l.length≤1048576):EE F 130 [.ag [.u (.int .i64 e),.u (.sl 1 (l.map iU)),.u (.bool f)]] []=some ⟨[.sc (.own (.par 0) (ZFa ⟨e,l,f⟩).length)],[.row 1 ((ZFa ⟨e,l,f⟩).map iU)],[]⟩:=by
 rw [R130,b130]
 obtain ⟨h1,h2⟩:=ZR (k:=8) hn (by omega)
 simp only[↓xP,xT,rL,rB,rA,rS,ZF3 e l f (by omega)]
 refine ZiE (fun h=>?_) (fun h=>?_)
 ·simp_all [ZFa]
 simp only[Bool.not_eq_false'] at h
 have hl:=ZHQ h
 dsimp only at hl
 have hc:=ZL1 hl.1 hn
 have hct:=ZHk (n:=l.length) (i:=l.length - 1) (by omega)
 have h3:l.length - 1≤maxLen:=by omega
 have h4:(l.length - 1)*8≤140737488355328:=by omega
 have hm:min (l.length - 1) l.length=l.length - 1:=by omega
 cases f<;>simp only[↓xP,xT,rL,rB,rA,rS,h1,h2,h3,h4,List.length_map,List.nil_append,Nat.zero_add,hc,hct,ZFa,h,List.length_take,List.drop_zero,←List.map_take,if_true,if_false,Bool.false_eq_true,hm]
 done
def rep {α:Type} (l:List α) (a m:Nat) (b:List α):List α:=l.take a++b++l.drop (a+m)
theorem ZHH {α:Type} {l:List α} {a m:Nat} {b:List α} (h:a+m≤l.length):(rep l a m b).length=l.length - m+b.length:=by
 simp [rep]; omega
def zero_Pair:List U:=[.str [],.int .i64 0]
def zero_Session:List U:=[.int .i64 0,.int .i64 0,.int .i64 0]
theorem ZOd (st:St) (d c:Nat) (zero:List U) (bytes:Nat) (h:c*bytes≤140737488355328):stMk st d (DI 0) (DI (c:Int)) zero bytes=some (((st.cool (.loc d 0)).obj (.loc d 0) (some (.row zero.length []))).put d (.t (.sc (.own (.loc d 0) 0)))):=by
 have h0:(0:Int)≤(c:Int):=by omega
 simp [stMk,D.int?,h,h0]
theorem ZHp {n i:Nat} (h:i≤n):vcut n (some (DI (i:Int))) none=some (i,n):=by
 simp [vcut,D.int?]
 omega
theorem ZB {α β:Type} (f:α→β) (l:List α):List.take l.length (List.map f l)=List.map f l:=List.take_of_length_le (by simp)
theorem ZHn (l b:List Yl) (a m:Nat) (h:a+m≤l.length) (hn:l.length+b.length≤1048576):EE F 274 [L 2 (l.map Yl.u),I a,I m,L 2 (b.map Yl.u)] []=some ⟨[.sc (.own (.par 0) (rep l a m b).length)],[.row 2 ((rep l a m b).map Yl.u)],[]⟩:=by
 rw [R274,b274]
 have w1:IntKind.i64.wrap ((l.length:Int) - (m:Int))=((l.length - m:Nat):Int):=by rw [w64 (by omega) (by omega)]; omega
 have w2:IntKind.i64.wrap (((l.length - m:Nat):Int) + (b.length:Int))=((l.length - m+b.length:Nat):Int):=by rw [w64 (by omega) (by omega)]; omega
 have w3:IntKind.i64.wrap ((a:Int) + (m:Int))=((a+m:Nat):Int):=by rw [w64 (by omega) (by omega)]; omega
 have c1:=ZHk (n:=l.length) (i:=a) (by omega)
 have c2:=ZHp (n:=l.length) (i:=a+m) h
 have k0:=fun st d=>ZOd st d (l.length - m+b.length) (Go.Proofs.YtfajcehhcjmofaaGreatV.zero_Pair) 24 (by omega)
 have ha:min a l.length=a:=by omega
 have q1:a≤maxLen∧a*24≤140737488355328:=ZR (by omega) (by omega)
 have q2:a+b.length≤maxLen∧(a+b.length)*24≤140737488355328:=ZR (by omega) (by omega)
 have q3:a+b.length + (l.length - (a+m))≤maxLen∧(a+b.length + (l.length - (a+m)))*24≤140737488355328:=ZR (by omega) (by omega)
 simp only[zero_Pair] at k0
 simp only[↓xP,xT,rL,rB,rA,rS,w1,w2,w3,k0,c1,c2,List.drop_zero,List.length_map,List.length_take,List.length_drop,List.length_append,List.length_nil,Nat.zero_add,List.nil_append,ha,q1.1,q1.2,q2.1,q2.2,q3.1,q3.2,ZB,rep,List.map_append,List.map_take,List.map_drop]
theorem ZHu (l b:List Yr) (a m:Nat) (h:a+m≤l.length) (hn:l.length+b.length≤1048576):EE F 315 [L 3 (l.map Yr.u),I a,I m,L 3 (b.map Yr.u)] []=some ⟨[.sc (.own (.par 0) (rep l a m b).length)],[.row 3 ((rep l a m b).map Yr.u)],[]⟩:=by
 rw [R315,b315]
 have w1:IntKind.i64.wrap ((l.length:Int) - (m:Int))=((l.length - m:Nat):Int):=by rw [w64 (by omega) (by omega)]; omega
 have w2:IntKind.i64.wrap (((l.length - m:Nat):Int) + (b.length:Int))=((l.length - m+b.length:Nat):Int):=by rw [w64 (by omega) (by omega)]; omega
 have w3:IntKind.i64.wrap ((a:Int) + (m:Int))=((a+m:Nat):Int):=by rw [w64 (by omega) (by omega)]; omega
 have c1:=ZHk (n:=l.length) (i:=a) (by omega)
 have c2:=ZHp (n:=l.length) (i:=a+m) h
 have k0:=fun st d=>ZOd st d (l.length - m+b.length) (Go.Proofs.YtfajcehhcjmofaaGreatV.zero_Session) 24 (by omega)
 have ha:min a l.length=a:=by omega
 have q1:a≤maxLen∧a*24≤140737488355328:=ZR (by omega) (by omega)
 have q2:a+b.length≤maxLen∧(a+b.length)*24≤140737488355328:=ZR (by omega) (by omega)
 have q3:a+b.length + (l.length - (a+m))≤maxLen∧(a+b.length + (l.length - (a+m)))*24≤140737488355328:=ZR (by omega) (by omega)
 simp only[zero_Session] at k0
 simp only[↓xP,xT,rL,rB,rA,rS,w1,w2,w3,k0,c1,c2,List.drop_zero,List.length_map,List.length_take,List.length_drop,List.length_append,List.length_nil,Nat.zero_add,List.nil_append,ha,q1.1,q1.2,q2.1,q2.2,q3.1,q3.2,ZB,rep,List.map_append,List.map_take,List.map_drop]
theorem ZNM (l:List Int):allF l.length (okAt l) 0=true↔(∀ y,y∈l→inR y 0 4=true)∧l.Nodup:=by
 rw [ZFp l.length 0 (by omega)]
 constructor
 ·intro h
  refine ⟨fun y hy=>?_,List.pairwise_iff_getElem.2 (fun i j hi hj hij=>?_)⟩
  ·obtain ⟨k,hk⟩:=List.mem_iff_getElem?.1 hy
   have:=h k (by omega) (List.getElem?_eq_some_iff.1 hk).1
   rw [ZHt hk,Bool.and_eq_true] at this
   exact this.1
  ·have:=h j (by omega) hj
   rw [ZHt (List.getElem?_eq_getElem hj),Bool.and_eq_true,Bool.not_eq_true',decide_eq_false_iff_not] at this
   intro e
   apply this.2
   rw [←e]
   exact List.mem_iff_getElem?.2 ⟨i,by rw [List.getElem?_take,if_pos hij]; exact List.getElem?_eq_getElem hi⟩
 ·rintro ⟨h1,h2⟩ j _ hj
  rw [ZHt (List.getElem?_eq_getElem hj),Bool.and_eq_true,Bool.not_eq_true',decide_eq_false_iff_not]
  refine ⟨h1 _ (List.getElem_mem hj),fun hm=>?_⟩
  obtain ⟨i,hi⟩:=List.mem_iff_getElem?.1 hm
  rw [List.getElem?_take] at hi
  split at hi
  ·rename_i hij
   obtain ⟨hi2,hi3⟩:=List.getElem?_eq_some_iff.1 hi
   exact List.pairwise_iff_getElem.1 h2 i j hi2 hj hij hi3
  ·cases hi
theorem ZHP (c:Yf):ZK c=true↔1≤c.epoch∧c.epoch≤60∧1≤c.members.length∧c.members.length≤4∧(c.fresh=true→2≤c.members.length)∧(∀ y,y∈c.members→inR y 0 4=true)∧c.members.Nodup:=by
 simp only[ZK,Bool.and_eq_true,decide_eq_true_eq,ZNM,Bool.not_eq_true',Bool.and_eq_false_iff,decide_eq_false_iff_not]
 constructor
 ·rintro ⟨⟨⟨⟨⟨h1,h2⟩,h3⟩,h4⟩,h5⟩,h6,h7⟩
  exact ⟨h1,h2,h3,h4,fun hf=>by rcases h5 with h|h; rw [hf] at h; cases h; omega,h6,h7⟩
 ·rintro ⟨h1,h2,h3,h4,h5,h6,h7⟩
  refine ⟨⟨⟨⟨⟨h1,h2⟩,h3⟩,h4⟩,?_⟩,h6,h7⟩
  cases hf:c.fresh with
  | false=>exact .inl rfl
  | true=>have:=h5 hf; exact .inr (by omega)
def hit (key:Str) (l:List Yl):Option Yl:=match l[place key l]? with
 | some p=>if p.key=key then some p else none
 | none=>none
def ZX (l:List Yl) (key:Str):Int:=if ZC l=true then (match hit key l with
 | some p=>p.value
 | none=>-1) else -1
def ZV (l:List Yl) (key:Str) (v:Int):List Yl×Bool:=
 if ZC l=true∧Z3 key=true∧inR v 0 999=true then
  (if (hit key l).isSome=true then (rep l (place key l) 1 [⟨key,v⟩],true) else if 48≤l.length then (l,false) else (rep l (place key l) 0 [⟨key,v⟩],true))
 else ([],false)
def Z4 (l:List Yl) (key:Str):List Yl×Bool:=
 if ZC l=true then (if (hit key l).isSome=true then (rep l (place key l) 1 [],true) else (l,false)) else ([],false)
def Z2 (u:Yl→List U) (sz:Nat) (r:List Yl×Bool):Option Ret:=some ⟨[.sc (.own (.par 0) r.1.length),B r.2],[.row sz (r.1.map u)],[]⟩
theorem ZJh {key:Str} {l:List Yl}:ZKj key l=(hit key l).isSome:=by
 unfold ZKj hit
 cases l[place key l]? with
 | none=>rfl
 | some p=>by_cases h:p.key=key<;>simp [h]
theorem ZFS {key:Str} {l:List Yl} {p:Yl} (h:hit key l=some p):l[place key l]?=some p∧p.key=key:=by
 unfold hit at h
 split at h
 ·rename_i q hq
  split at h
  ·rename_i hk; cases h; exact ⟨hq,hk⟩
  ·cases h
 ·cases h
theorem ZIQ {key:Str} {l:List Yl} (h:hit key l=none):∀ p,l[place key l]?=some p→p.key≠key:=by
 intro p hp
 unfold hit at h
 rw [hp] at h
 simp only at h
 split at h
 ·cases h
 ·assumption
theorem ZGu (l:List Yl) (key:Str) (hn:l.length≤4611686018427387904):EE F 204 [L 2 (l.map Yl.u),S key] []=ok1 (I (place key l)):=by
 rw [R204,b204]
 simp only[↓xP,xT,rL,rB,rA,rS]
 refine (Zjc (fun (i:Nat) st=>i≤l.length∧(∀ t p,t<i→l[t]?=some p→ZaZ p.key key=true)∧st.s 0=DU (.sl 2 (l.map Yl.u))∧st.s 1=DS key∧st.s 5=DI i) (fun i=>l.length - i) (fun i=>ok1 (I (place key l))) ?_ 0 ⟨by omega,fun t p ht=>by omega,(by and_intros<;>first|omega|rfl|(simp only[↓xP,xT,rL,rB,rA,rS]<;>first|done|rfl|omega))⟩).trans rfl
 rintro i st ⟨hle,hlo,h0,h1,h5⟩ ih
 by_cases hi:i<l.length
 ·obtain ⟨⟨pk,pv⟩,hp⟩:∃ p,l[i]?=some p:=⟨_,List.getElem?_eq_getElem hi⟩
  have hw:=w_succ (i:=i) (by omega)
  simp only[↓xP,xT,rL,rB,rA,rS,h0,h1,h5,hi,hp,Yl.u]
  refine ZiE (fun h=>?_) (fun h=>?_)
  ·simp only[↓xP,xT,rL,rB,rA,rS,h0,h1,h5,hw]
   exact ih (i+1) _ (by omega) ⟨by omega,fun t p ht hq=>by
    by_cases e:t=i
    ·subst e; rw [hp] at hq; cases hq; exact h
    ·exact hlo t p (by omega) hq,(by and_intros<;>first|omega|rfl|(simp only[↓xP,xT,rL,rB,rA,rS,h0,h1]<;>first|done|rfl|omega))⟩
  ·have:place key l=i:=ZH5 key l i (by omega) hlo (fun p hq=>by rw [hp] at hq; cases hq; exact h)
   simp only[↓xP,xT,rL,rB,rA,rS,h0,h1,h5,this]
 ·have:place key l=i:=ZH5 key l i (by omega) hlo (fun p hq=>by have:=(List.getElem?_eq_some_iff.1 hq).1; omega)
  simp only[↓xP,xT,rL,rB,rA,rS,h0,h1,h5,hi,this]
theorem ZI0 (l:List Yl) (key:Str):EE F 47 [L 2 (l.map Yl.u),S key] []=ok1 (I (ZX l key)):=by
 rw [R47,b47]
 simp only[↓xP,xT,rL,rB,rA,rS,ZFT]
 refine ZiE (fun h=>?_) (fun h=>?_)
 ·simp_all [ZX]
 simp only[Bool.not_eq_false'] at h
 have hl:=ZU h
 simp only[↓xP,xT,rL,rB,rA,rS,ZHE l key (ZHT h) (by omega),ZJh]
 cases hh:hit key l with
 | none=>simp [ZX,h,hh,↓xP,xQ,xR,xS,ZMa,rL,rB,rA,rS]
 | some p=>
  obtain ⟨pk,pv⟩:=p
  obtain ⟨h1,h2⟩:=ZFS hh
  simp only[↓xP,xT,rL,rB,rA,rS,Option.isSome_some,h1,Yl.u,ZX,h,hh]
  try simp
theorem ZGW (l:List Yl) (key:Str) (hn:l.length≤4611686018427387904):EE F 129 [L 2 (l.map Yl.u),S key] []=ok1 (I (ZX l key)):=by
 rw [R129,b129]
 have hpl:=ZGG key l
 cases h:ZC l
 ·simp only[↓xP,xT,rL,rB,rA,rS,ZGu l key hn,Z0,h,ZX]
  try simp
 cases hh:hit key l with
 | none=>
  have hno:=ZIQ hh
  by_cases hi:place key l=l.length
  ·have hi':((place key l:Nat):Int)=(l.length:Int):=by omega
   simp only[↓xP,xT,rL,rB,rA,rS,ZGu l key hn,Z0,h,hi',ZX,hh]
   try simp
  ·obtain ⟨⟨pk,pv⟩,hp⟩:∃ p,l[place key l]?=some p:=⟨_,List.getElem?_eq_getElem (by omega)⟩
   have hi':¬((place key l:Nat):Int)=(l.length:Int):=by omega
   have hne:¬pk=key:=hno _ hp
   simp only[↓xP,xT,rL,rB,rA,rS,ZGu l key hn,Z0,h,hi',ZX,hh,hp,Yl.u,hne]
   simp [sel,hne]
 | some p=>
  obtain ⟨pk,pv⟩:=p
  obtain ⟨h1,h2⟩:=ZFS hh
  have hlt:=(List.getElem?_eq_some_iff.1 h1).1
  have hi':¬((place key l:Nat):Int)=(l.length:Int):=by omega
  dsimp only at h2
  simp only[↓xP,xT,rL,rB,rA,rS,ZGu l key hn,Z0,h,hi',ZX,hh,h1,Yl.u,h2]
  simp [sel]
def yU (n:Int):List U:=[.int .u8 n]
def rd (bs:List Int) (p:Nat):Obj:=.box [.u (.sl 1 (bs.map yU)),.u (.int .i64 p)]
theorem ZHU (e:Int) (l:List Int) (f:Bool) (hn:l.length≤1048576):EE F 138 [.ag [.u (.int .i64 e),.u (.sl 1 (l.map iU)),.u (.bool f)]] []=some ⟨[.sc (.own (.par 0) (ZFa ⟨e,l,f⟩).length)],[.row 1 ((ZFa ⟨e,l,f⟩).map iU)],[]⟩:=by
 rw [R138,b138]
 simp only[↓xP,xT,rL,rB,rA,rS,ZF2 e l f (by omega)]
 refine ZiE (fun h=>?_) (fun h=>?_)
 ·simp_all [ZFa]
 simp only[Bool.not_eq_false'] at h
 have hl:=ZHQ h
 dsimp only at hl
 have hc:=ZL1 hl.1 hn
 have hct:=ZHk (n:=l.length) (i:=l.length - 1) (by omega)
 have h1:=ZKg l hn
 have h2:=ZKg (l.take (l.length - 1)) (by simp; omega)
 cases f<;>simp only[↓xP,xT,rL,rB,rA,rS,h1,h2,List.length_map,hc,hct,ZFa,h,List.drop_zero,←List.map_take,if_true,if_false,Bool.false_eq_true]
def Gd (bs:List Int) (p c:Nat) (R:List T→List Obj→Prop) (x:Option Ret):Prop:=∃ r n q,x=some ⟨r,n,[rd bs q]⟩∧p≤q∧q≤p+c∧R r n
theorem ZNK {fin:St→Option Ret} {is:List Za} {c:IC} {α:Type} {G:Option Ret→Prop} (Inv:α→St→Prop) (μ:α→Nat)
  (h:∀ a st,Inv a st→(∀ a' st',μ a'<μ a→Inv a' st'→G (KK F fin (.inLoop c::is) st'))→G (KK F fin (.code c::.inLoop c::is) st)) {st:St} (a:α) (hI:Inv a st):G (KK F fin (.code (.loop c)::is) st):=by
 rw [ZgK]
 have all:∀ n a st,μ a<n→Inv a st→G (KK F fin (.inLoop c::is) st):=by
  intro n
  induction n with
  | zero=>intro a st h0; omega
  | succ n ih=>
   intro a st hn hI
   rw [ZfN]
   exact h a st hI (fun a' st' hm hI'=>ih a' st' (by omega) hI')
 exact all (μ a+1) a st (by omega) hI
theorem rdx:(∀ bs p,(rd bs p).data=true)∧(∀ bs p q,ZaJ (some (rd bs p)) (rd bs q)=true)∧(∀ id bs p,Obj.mapC (C.kill id) (rd bs p)=rd bs p)∧(∀ st id bs p,Obj.mapC (St.coolC st id) (rd bs p)=rd bs p):=by
 refine ⟨fun _ _=>rfl,fun _ _ _=>rfl,fun _ _ _=>rfl,fun st id bs p=>?_⟩
 have h:∀ u,st.coolC id (.u u)=.u u:=by
  intro u
  unfold St.coolC
  cases st.o id with
  | none=>rfl
  | some ob=>cases ob<;>rfl
 simp [rd,Obj.mapC,h]
theorem Gd.run {f:Nat} {a:List T} {bs:List Int} {p c:Nat} {R:List T→List Obj→Prop} {fn:IFn} (hF:Go.Proofs.YtfajcehhcjmofaaGreatV.F f=some fn) (hn:a.length=fn.np) (h:Gd bs p c R (KK F (FF fn.res 1) [.code fn.body] (ZdN 0 a (ZcQ 0 [rd bs p] S0)))):Gd bs p c R (EE F f a [rd bs p]):=by
 rw [EE_run hF hn]; exact h
theorem ZKI {i:Nat} (h:i≤1048576):IntKind.i64.wrap (((i+1:Nat):Int) - 1)=(i:Int):=by rw [w64 (by omega) (by omega)]; omega
theorem rdx2:(∀ bs p,Obj.flat (rd bs p)=(bs.map yU).isEmpty)∧(∀ bs p,Obj.data (rd bs p)=true)∧(∀ (x:Bool) (a:List Id),sel x a a=a):=by
 refine ⟨fun bs p=>?_,fun bs p=>rfl,fun x a=>by cases x<;>rfl⟩
 simp [rd,Obj.flat,C.isSl,U.flat]
def Code (code:List Int):Prop:=code.length≤9223372036854775807∧∀ b,b∈code→0≤b∧b≤255
def Ok (R:Ret→Prop) (x:Option Ret):Prop:=∃ r,x=some r∧R r
theorem Ok.run {f:Nat} {a:List T} {R:Ret→Prop} {fn:IFn} (hF:Go.Proofs.YtfajcehhcjmofaaGreatV.F f=some fn) (hn:a.length=fn.np) (h:Ok R (KK F (FF fn.res 0) [.code fn.body] (ZdN 0 a (ZcQ 0 [] S0)))):Ok R (EE F f a []):=by
 rw [EE_run hF hn]; exact h
theorem ZOH (us:List U) (hl:us.length=1) (ht:∀ (j:Nat) ty u,[Ty.i .u8][j]?=some ty→us[j]?=some u→UT ty u):∃ x,us=yU x∧(0≤x∧x≤255):=by
 match us,hl with
 | [a],_=>obtain ⟨n,rfl,h⟩:=(ht 0 _ a rfl rfl).u8_of; exact ⟨n,rfl,h⟩
theorem Code.of {u:U} (hu:UT (.sl [.i .u8]) u):∃ code:List Int,u=.sl 1 (code.map yU)∧Code code:=by
 obtain ⟨code,rfl,hl,hb⟩:=hu.sl_of ZOH
 exact ⟨code,rfl,hl,hb⟩
theorem ZIL {c:Yf} (hv:ZK c=true):1≤(ZFa c).length∧(ZFa c).length≤4:=by
 have h:=(ZHP c).1 hv
 simp only[ZFa,hv,if_true]
 split
 ·rename_i hf
  have:=h.2.2.2.2.1 hf
  rw [List.length_take]; omega
 ·omega
theorem ZOs {l:List Yl} {i:Nat} {p q:Yl} (h:l[i]?=some p):(l.map Yl.u).set i (Yl.u q)=(rep l i 1 [q]).map Yl.u:=by
 obtain ⟨hi,_⟩:=List.getElem?_eq_some_iff.1 h
 rw [←List.map_set]
 congr 1
 rw [List.set_eq_take_append_cons_drop,if_pos hi]
 simp [rep]
theorem ZMo {l:List Yl} {i:Nat} {p q:Yl} (h:l[i]?=some p):(rep l i 1 [q]).length=l.length:=by
 obtain ⟨hi,_⟩:=List.getElem?_eq_some_iff.1 h
 rw [ZHH (by omega)]
 simp; omega
theorem ZI2 (l:List Yl) (key:Str) (v:Int) (hn:l.length≤1048576):EE F 202 [L 2 (l.map Yl.u),S key,I v] []=Z2 Yl.u 2 (ZV l key v):=by
 rw [R202,b202]
 have hpl:=ZGG key l
 have hv:=Z0 l
 cases h:ZC l
 ·rw [h] at hv
  simp only[↓xP,xT,rL,rB,rA,rS,hv,ZV,h,Bool.false_eq_true,false_and,if_false,Z2,List.map_nil,List.length_nil]
 rw [h] at hv
 have hl48:=ZU h
 have hkv:=ZFo key
 cases hk:Z3 key
 ·rw [hk] at hkv
  simp only[↓xP,xT,rL,rB,rA,rS,hv,hkv,ZV,hk,Bool.false_eq_true,false_and,and_false,if_false,Z2,List.map_nil,List.length_nil]
 rw [hk] at hkv
 cases hr:inR v 0 999
 ·simp only[↓xP,xT,rL,rB,rA,rS,hv,hkv,Z1,hr,ZV,Bool.false_eq_true,false_and,and_false,if_false,Z2,List.map_nil,List.length_nil]
 have q0:l.length≤maxLen∧l.length*24≤140737488355328:=ZR hn (by omega)
 have hpl4:=ZGu l key (by omega)
 cases hh:hit key l with
 | some p=>
  obtain ⟨pk,pv⟩:=p
  obtain ⟨h1,h2⟩:=ZFS hh
  dsimp only at h2
  subst h2
  have hlt:=(List.getElem?_eq_some_iff.1 h1).1
  have hli:((place pk l:Nat):Int)<(l.length:Int):=by omega
  have hset:=ZOs (q:=⟨pk,v⟩) h1
  have hrl:=ZMo (q:=⟨pk,v⟩) h1
  simp only[Yl.u] at hset
  have hpp:ZV l pk v=(rep l (place pk l) 1 [⟨pk,v⟩],true):=by simp only[ZV,h,hk,hr,hh,Option.isSome_some,and_self,if_true]
  rw [hpp]
  simp only[↓xP,xT,rL,rB,rA,rS,hv,hkv,Z1,hr,hpl4,List.length_map,Nat.zero_add,List.nil_append,hli,h1,Yl.u,q0.1,q0.2,hset,hlt]
  simp [sel,hrl,Z2]
 | none=>
  have hno:=ZIQ hh
  have hmin:min (place key l) l.length=place key l:=by omega
  have hct:=ZHk (n:=l.length) (i:=place key l) (by omega)
  have hcf:=ZHp (n:=l.length) (i:=place key l) (by omega)
  have q1:place key l≤maxLen∧place key l*24≤140737488355328:=ZR (by omega) (by omega)
  have q2:place key l+1≤maxLen∧(place key l+1)*24≤140737488355328:=ZR (by omega) (by omega)
  have q3:place key l+1 + (l.length - place key l)≤maxLen∧(place key l+1 + (l.length - place key l))*24≤140737488355328:=ZR (by omega) (by omega)
  have hlen:(rep l (place key l) 0 [⟨key,v⟩]).length=place key l+1 + (l.length - place key l):=by rw [ZHH (by omega)]; simp; omega
  have her:List.take (place key l) (l.map Yl.u)++[[U.str key,U.int .i64 v]]++List.drop (place key l) (l.map Yl.u)=(rep l (place key l) 0 [⟨key,v⟩]).map Yl.u:=by simp [rep,List.map_take,List.map_drop,Yl.u]
  by_cases hge:(48:Int)≤(l.length:Int)
  ·have hge':48≤l.length:=by omega
   have hpp:ZV l key v=(l,false):=by simp only[ZV,h,hk,hr,hh,Option.isSome_none,Bool.false_eq_true,if_false,hge',and_self,if_true]
   rw [hpp]
   by_cases hlt:place key l<l.length
   ·obtain ⟨⟨pk,pv⟩,hp⟩:∃ p,l[place key l]?=some p:=⟨_,List.getElem?_eq_getElem (by omega)⟩
    have hli:((place key l:Nat):Int)<(l.length:Int):=by omega
    have hne:¬pk=key:=hno _ hp
    simp only[↓xP,xT,rL,rB,rA,rS,hv,hkv,Z1,hr,hpl4,List.length_map,Nat.zero_add,List.nil_append,hli,hp,Yl.u,hne,q0.1,q0.2,ge_iff_le,hge,Z2,ZB]
   ·have hli:¬((place key l:Nat):Int)<(l.length:Int):=by omega
    simp only[↓xP,xT,rL,rB,rA,rS,hv,hkv,Z1,hr,hpl4,List.length_map,Nat.zero_add,List.nil_append,hli,Yl.u,q0.1,q0.2,ge_iff_le,hge,Z2,ZB]
  ·have hge':¬48≤l.length:=by omega
   have hpp:ZV l key v=(rep l (place key l) 0 [⟨key,v⟩],true):=by simp only[ZV,h,hk,hr,hh,Option.isSome_none,Bool.false_eq_true,if_false,hge',and_self,if_true]
   rw [hpp]
   by_cases hlt:place key l<l.length
   ·obtain ⟨⟨pk,pv⟩,hp⟩:∃ p,l[place key l]?=some p:=⟨_,List.getElem?_eq_getElem (by omega)⟩
    have hli:((place key l:Nat):Int)<(l.length:Int):=by omega
    have hne:¬pk=key:=hno _ hp
    simp only[↓xP,xT,rL,rB,rA,rS,hv,hkv,Z1,hr,hpl4,List.length_map,List.length_take,List.length_drop,Nat.zero_add,List.nil_append,hli,hp,Yl.u,hne,q1.1,q1.2,q2.1,q2.2,q3.1,q3.2,ge_iff_le,hge,Z2,ZB,hct,hcf,hmin,hlen,her,List.drop_zero,List.length_append,List.length_cons,List.length_nil]
   ·have hli:¬((place key l:Nat):Int)<(l.length:Int):=by omega
    simp only[↓xP,xT,rL,rB,rA,rS,hv,hkv,Z1,hr,hpl4,List.length_map,List.length_take,List.length_drop,Nat.zero_add,List.nil_append,hli,Yl.u,q1.1,q1.2,q2.1,q2.2,q3.1,q3.2,ge_iff_le,hge,Z2,ZB,hct,hcf,hmin,hlen,her,List.drop_zero,List.length_append,List.length_cons,List.length_nil]
theorem ZMk (l:List Yl) (key:Str) (v:Int):(ZV l key v).1.length≤48:=by
 unfold ZV
 split
 ·rename_i h
  have hl:=ZU h.1
  split
  ·rename_i hs
   cases hh:hit key l with
   | none=>rw [hh] at hs; cases hs
   | some p=>rw [ZMo (ZFS hh).1]; exact hl
  ·split
   ·exact hl
   ·have:=ZGG key l
    rw [ZHH (by omega)]
    simp; omega
 ·simp
def ZNh (p:Yl):Prop:=Z3 p.key=true∧inR p.value 0 999=true
def Up (a b:Yl):Prop:=ZaZ a.key b.key=true
theorem ZFh (l:List Yl):ZC l=true↔l.length≤48∧(∀ p,p∈l→ZNh p)∧l.Pairwise Up:=by
 constructor
 ·intro h
  refine ⟨ZU h,fun p hp=>?_,?_⟩
  ·obtain ⟨i,hi⟩:=List.mem_iff_getElem?.1 hp
   exact ZIr h hi
  ·rw [List.pairwise_iff_getElem]
   intro i j hi hj hij
   exact ZHT h i j _ _ hij (List.getElem?_eq_getElem hi) (List.getElem?_eq_getElem hj)
 ·rintro ⟨h1,h2,h3⟩
  simp only[ZC,Bool.and_eq_true,decide_eq_true_eq]
  refine ⟨h1,(ZFp _ 0 rfl).2 fun j _ hj=>?_⟩
  obtain ⟨p,hp⟩:∃ p,l[j]?=some p:=⟨_,List.getElem?_eq_getElem hj⟩
  have hf:=h2 p (List.mem_of_getElem? hp)
  simp only[ZFr,hp,hf.1,hf.2,Bool.and_true,Bool.true_and,Bool.or_eq_true,decide_eq_true_eq]
  by_cases h0:j=0
  ·exact .inl h0
  ·right
   obtain ⟨q,hq⟩:∃ q,l[j - 1]?=some q:=⟨_,List.getElem?_eq_getElem (by omega)⟩
   rw [hq]
   have:=List.pairwise_iff_getElem.1 h3 (j - 1) j (by omega) hj (by omega)
   rw [(List.getElem?_eq_some_iff.1 hq).2,(List.getElem?_eq_some_iff.1 hp).2] at this
   exact this
theorem ZIq (l:List Yl) (key:Str) (hn:l.length≤1048576):EE F 201 [L 2 (l.map Yl.u),S key] []=Z2 Yl.u 2 (Z4 l key):=by
 rw [R201,b201]
 have hpl:=ZGG key l
 have hv:=Z0 l
 cases h:ZC l
 ·rw [h] at hv
  simp only[↓xP,xT,rL,rB,rA,rS,hv,Z4,h,Bool.false_eq_true,false_and,if_false,Z2,List.map_nil,List.length_nil]
 rw [h] at hv
 have q0:l.length≤maxLen∧l.length*24≤140737488355328:=ZR hn (by omega)
 have hpl4:=ZGu l key (by omega)
 cases hh:hit key l with
 | none=>
  have hno:=ZIQ hh
  have hpp:Z4 l key=(l,false):=by simp only[Z4,h,hh,Option.isSome_none,Bool.false_eq_true,if_false,if_true]
  rw [hpp]
  by_cases hi:place key l=l.length
  ·have hi':((place key l:Nat):Int)=(l.length:Int):=by omega
   simp only[↓xP,xT,rL,rB,rA,rS,hv,hpl4,List.length_map,hi',Nat.zero_add,List.nil_append,q0.1,q0.2,Z2,ZB]
  ·obtain ⟨⟨pk,pv⟩,hp⟩:∃ p,l[place key l]?=some p:=⟨_,List.getElem?_eq_getElem (by omega)⟩
   have hi':¬((place key l:Nat):Int)=(l.length:Int):=by omega
   have hne:¬pk=key:=hno _ hp
   simp only[↓xP,xT,rL,rB,rA,rS,hv,hpl4,List.length_map,hi',hp,Yl.u,hne,Nat.zero_add,List.nil_append,q0.1,q0.2,Z2,ZB,ne_eq,not_false_eq_true]
 | some p=>
  obtain ⟨pk,pv⟩:=p
  obtain ⟨h1,h2⟩:=ZFS hh
  dsimp only at h2
  subst h2
  have hlt:=(List.getElem?_eq_some_iff.1 h1).1
  have hi':¬((place pk l:Nat):Int)=(l.length:Int):=by omega
  have hmin:min (place pk l) l.length=place pk l:=by omega
  have hw:=w_succ (i:=place pk l) (by omega)
  have hct:=ZHk (n:=l.length) (i:=place pk l) (by omega)
  have hcf:=ZHp (n:=l.length) (i:=place pk l+1) (by omega)
  have q1:place pk l≤maxLen∧place pk l*24≤140737488355328:=ZR (by omega) (by omega)
  have q3:place pk l + (l.length - (place pk l+1))≤maxLen∧(place pk l + (l.length - (place pk l+1)))*24≤140737488355328:=ZR (by omega) (by omega)
  have hlen:(rep l (place pk l) 1 []).length=place pk l + (l.length - (place pk l+1)):=by rw [ZHH (by omega)]; simp; omega
  have her:List.take (place pk l) (l.map Yl.u)++List.drop (place pk l+1) (l.map Yl.u)=(rep l (place pk l) 1 []).map Yl.u:=by simp [rep,List.map_take,List.map_drop]
  have hpp:Z4 l pk=(rep l (place pk l) 1 [],true):=by simp only[Z4,h,hh,Option.isSome_some,if_true]
  rw [hpp]
  simp only[↓xP,xT,rL,rB,rA,rS,hv,hpl4,List.length_map,List.length_take,List.length_drop,hi',h1,Yl.u,Nat.zero_add,List.nil_append,hw,hct,hcf,hmin,q1.1,q1.2,q3.1,q3.2,Z2,ZB,hlen,her,List.drop_zero,ne_eq,not_true_eq_false]
def ZFf (l:List Yl) (c:Ye):List Yl×Int:=
  if ZC l=true∧Z5 c=true∧¬c.kind=5 then
    (if c.kind=1∨(c.kind=4∧¬c.old=ZX l c.key) then (l,ZX l c.key)
     else if c.kind=3 then ((Z4 l c.key).1,ZX l c.key)
     else if ZX l c.key<0∧8≤l.length then (l,-2)
     else ((ZV l c.key c.value).1,ZX l c.key))
  else ([],-3)
def ZW (r:List Yl×Int):Option Ret:=some ⟨[.sc (.own (.par 0) r.1.length),I r.2],[.row 2 (r.1.map Yl.u)],[]⟩
theorem ZIK (l:List Yl) (k:Int) (key:Str) (v o:Int) (hn:l.length≤1048576):EE F 260 [L 2 (l.map Yl.u),.ag [.u (.int .i64 k),.u (.str key),.u (.int .i64 v),.u (.int .i64 o)]] []=ZW (ZFf l ⟨k,key,v,o⟩):=by
  rw [R260,b260]
  have hv:=Z0 l
  have hcv:=ZGo k key v o
  cases h:ZC l
  · rw [h] at hv
    simp only[↓xP,xT,rL,rB,rA,rS,hv,ZFf,h,Bool.false_eq_true,false_and,if_false,ZW,List.map_nil,List.length_nil]
  rw [h] at hv
  cases h2:Z5 ⟨k,key,v,o⟩
  · rw [h2] at hcv
    simp only[↓xP,xT,rL,rB,rA,rS,hv,hcv,ZFf,h,h2,Bool.false_eq_true,false_and,and_false,if_false,ZW,List.map_nil,List.length_nil]
  rw [h2] at hcv
  by_cases h5:k=5
  · subst h5
    simp only[↓xP,xT,rL,rB,rA,rS,hv,hcv,ZFf,not_true_eq_false,and_false,if_false,ZW,List.map_nil,List.length_nil]
  have q0:l.length≤maxLen∧l.length*24≤140737488355328:=ZR hn (by omega)
  have hpg:=ZGW l key (by omega)
  have hpd:=ZIq l key hn
  have hpp:=ZI2 l key v hn
  generalize hgo:ZX l key=old at hpg
  generalize hdo:Z4 l key=dr at hpd
  generalize hpo:ZV l key v=pu at hpp
  obtain ⟨dl,db⟩:=dr
  obtain ⟨pl,pb⟩:=pu
  simp only[Z2] at hpd hpp
  by_cases h1:k=1
  · subst h1
    simp only[↓xP,xT,rL,rB,rA,rS,hv,hcv,h5,hpg,List.length_map,Nat.zero_add,List.nil_append,q0.1,q0.2,ZFf,h,h2,hgo,hdo,hpo,and_self,true_or,false_or,not_false_eq_true,if_true,ZW,ZB]
  by_cases h4:k=4
  · subst h4
    by_cases ho:o=old
    · subst ho
      have h43:¬(4:Int)=3:=by omega
      by_cases hlt:o<0
      · by_cases h8:(8:Int)≤(l.length:Int)
        · have h8':8≤l.length:=by omega
          simp only[↓xP,xT,rL,rB,rA,rS,hv,hcv,h5,h1,h43,hlt,h8,h8',hpg,List.length_map,Nat.zero_add,List.nil_append,q0.1,q0.2,ZFf,h,h2,hgo,hdo,hpo,and_self,true_or,false_or,or_self,and_false,true_and,not_true_eq_false,not_false_eq_true,if_true,if_false,ZW,ZB,ge_iff_le,ne_eq]
        · have h8':¬8≤l.length:=by omega
          simp only[↓xP,xT,rL,rB,rA,rS,hv,hcv,h5,h1,h43,hlt,h8,h8',hpg,hpp,List.length_map,Nat.zero_add,List.nil_append,q0.1,q0.2,ZFf,h,h2,hgo,hdo,hpo,and_self,true_or,false_or,or_self,and_false,true_and,not_true_eq_false,not_false_eq_true,if_true,if_false,ZW,ZB,ge_iff_le,ne_eq]
      · simp only[↓xP,xT,rL,rB,rA,rS,hv,hcv,h5,h1,h43,hlt,hpg,hpp,List.length_map,Nat.zero_add,List.nil_append,q0.1,q0.2,ZFf,h,h2,hgo,hdo,hpo,and_self,true_or,false_or,or_self,and_false,false_and,true_and,not_true_eq_false,not_false_eq_true,if_true,if_false,ZW,ZB,ge_iff_le,ne_eq]
    · simp only[↓xP,xT,rL,rB,rA,rS,hv,hcv,h5,h1,ho,hpg,List.length_map,Nat.zero_add,List.nil_append,q0.1,q0.2,ZFf,h,h2,hgo,hdo,hpo,and_self,true_or,or_true,false_or,not_false_eq_true,if_true,ZW,ZB,ne_eq]
  by_cases h3:k=3
  · subst h3
    simp only[↓xP,xT,rL,rB,rA,rS,hv,hcv,h5,h1,h4,hpg,hpd,List.length_map,Nat.zero_add,List.nil_append,q0.1,q0.2,ZFf,h,h2,hgo,hdo,hpo,and_self,true_or,false_or,or_self,false_and,not_false_eq_true,if_true,if_false,ZW,ZB]
  · by_cases hlt:old<0
    · by_cases h8:(8:Int)≤(l.length:Int)
      · have h8':8≤l.length:=by omega
        simp only[↓xP,xT,rL,rB,rA,rS,hv,hcv,h5,h1,h4,h3,hlt,h8,h8',hpg,List.length_map,Nat.zero_add,List.nil_append,q0.1,q0.2,ZFf,h,h2,hgo,hdo,hpo,and_self,true_or,false_or,or_self,and_false,false_and,true_and,not_true_eq_false,not_false_eq_true,if_true,if_false,ZW,ZB,ge_iff_le,ne_eq]
      · have h8':¬8≤l.length:=by omega
        simp only[↓xP,xT,rL,rB,rA,rS,hv,hcv,h5,h1,h4,h3,hlt,h8,h8',hpg,hpp,List.length_map,Nat.zero_add,List.nil_append,q0.1,q0.2,ZFf,h,h2,hgo,hdo,hpo,and_self,true_or,false_or,or_self,and_false,false_and,true_and,not_true_eq_false,not_false_eq_true,if_true,if_false,ZW,ZB,ge_iff_le,ne_eq]
    · simp only[↓xP,xT,rL,rB,rA,rS,hv,hcv,h5,h1,h4,h3,hlt,hpg,hpp,List.length_map,Nat.zero_add,List.nil_append,q0.1,q0.2,ZFf,h,h2,hgo,hdo,hpo,and_self,true_or,false_or,or_self,and_false,false_and,true_and,not_true_eq_false,not_false_eq_true,if_true,if_false,ZW,ZB,ge_iff_le,ne_eq]
theorem ZHW (l:List Yr) (hn:l.length≤1048576):EE F 269 [L 3 (l.map Yr.u)] []=some ⟨[.sc (.own (.par 0) l.length)],[.row 3 (l.map Yr.u)],[]⟩:=by
 rw [R269,b269]
 have h1:l.length≤maxLen:=by simp [maxLen]; omega
 have h2:l.length*24≤140737488355328:=by omega
 have h3:∀ n:Nat,¬(n:Int)<0:=fun n=>by omega
 simp only[↓xP,xT,rL,rB,rA,rS,h1,h2]
def pc (id:Id) (b:Bool) (l:List Yl):C:=match b with
 | false=>.u (.sl 2 (l.map Yl.u))
 | true=>.own id l.length
theorem ofR:(∀ (st:St) d res x y z,St.ofRet st d ⟨res,[x,y,z],[]⟩=(((st.obj (.loc d 0) (some x)).obj (.loc d 1) (some y)).obj (.loc d 2) (some z)).put d (retD (res.map (T.mapC (C.ren (Zah d))))))∧
 (∀ (st:St) d res x y z w,St.ofRet st d ⟨res,[x,y,z,w],[]⟩=((((st.obj (.loc d 0) (some x)).obj (.loc d 1) (some y)).obj (.loc d 2) (some z)).obj (.loc d 3) (some w)).put d (retD (res.map (T.mapC (C.ren (Zah d))))))∧List.range 3=[0,1,2]∧List.range 4=[0,1,2,3]:=
 ⟨fun st d res x y z=>rfl,fun st d res x y z w=>rfl,rfl,rfl⟩
def cmpI (a b:Int):Int:=if a<b then -1 else if b<a then 1 else 0
theorem ZOo (x:Int):EE F 343 [I x] []=ok1 (B false):=by
 rw [R343,b343]
 simp only[↓xP,xT,rL,rB,rA,rS,ne_eq,not_true_eq_false]
theorem ZNv (a b:Int):EE F 314 [I a,I b] []=ok1 (I (cmpI a b)):=by
 rw [R314,b314]
 simp only[↓xP,xT,rL,rB,rA,rS,ZOo]
 unfold cmpI
 by_cases h1:a<b
 ·simp only[h1,if_true,decide_true,sel]
 ·by_cases h2:b<a
  ·simp only[h1,h2,if_true,if_false,decide_true,decide_false,sel,gt_iff_lt,Bool.false_eq_true]
  ·simp only[h1,h2,if_true,if_false,decide_true,decide_false,sel,gt_iff_lt,Bool.false_eq_true]
theorem ZIH (a b c:Int) (x:Int):EE F 313 [.ag [.u (.int .i64 a),.u (.int .i64 b),.u (.int .i64 c)],I x] []=ok1 (I (cmpI a x)):=by
 rw [R313,b313]
 simp only[↓xP,xT,rL,rB,rA,rS,ZNv]
theorem ZI1 (l:List Yl) (key:Str) (v:Int) (hn:l.length≤1048576):EE F 218 [L 2 (l.map Yl.u),S key,I v] []=Z2 Yl.u 2 (ZV l key v):=by
 rw [R218,b218]
 have hv:=ZFT l
 cases h:ZC l
 ·rw [h] at hv
  simp only[↓xP,xT,rL,rB,rA,rS,hv,ZV,h,Bool.false_eq_true,false_and,if_false,Z2,List.map_nil,List.length_nil]
 rw [h] at hv
 have hl48:=ZU h
 have hkv:=ZFy key
 cases hk:Z3 key
 ·rw [hk] at hkv
  simp only[↓xP,xT,rL,rB,rA,rS,hv,hkv,ZV,hk,Bool.false_eq_true,false_and,and_false,if_false,Z2,List.map_nil,List.length_nil]
 rw [hk] at hkv
 cases hr:inR v 0 999
 ·simp only[↓xP,xT,rL,rB,rA,rS,hv,hkv,ZFz,hr,ZV,Bool.false_eq_true,false_and,and_false,if_false,Z2,List.map_nil,List.length_nil]
 have hpl:=ZHE l key (ZHT h) (by omega)
 have hple:=ZGG key l
 rw [ZJh] at hpl
 have e0:((0:Nat):Int)=0:=rfl
 have e1:((1:Nat):Int)=1:=rfl
 have hmap : [[U.str key,U.int .i64 v]]=List.map Yl.u [⟨key,v⟩]:=rfl
 cases hh:hit key l with
 | some p=>
  have h1:=(ZFS hh).1
  have hlt:=(List.getElem?_eq_some_iff.1 h1).1
  have hre:=ZHn l [⟨key,v⟩] (place key l) 1 (by omega) (by simp only[List.length_cons,List.length_nil]; omega)
  rw [e1,←hmap] at hre
  have hpp:ZV l key v=(rep l (place key l) 1 [⟨key,v⟩],true):=by simp only[ZV,h,hk,hr,hh,Option.isSome_some,and_self,if_true]
  rw [hh,Option.isSome_some] at hpl
  simp only[↓xP,xT,rL,rB,rA,rS,hv,hkv,ZFz,hr,hpl,hre,hpp,Z2]
 | none=>
  rw [hh,Option.isSome_none] at hpl
  by_cases h48:48≤l.length
  ·have h48':(48:Int)≤(l.length:Int):=by omega
   have hc:=ZHf l (by omega)
   have hpp:ZV l key v=(l,false):=by simp only[ZV,h,hk,hr,hh,Option.isSome_none,Bool.false_eq_true,if_false,h48,and_self,if_true]
   simp only[↓xP,xT,rL,rB,rA,rS,hv,hkv,ZFz,hr,hpl,List.length_map,ge_iff_le,h48',hc,hpp,Z2]
  ·have h48':¬(48:Int)≤(l.length:Int):=by omega
   have hre:=ZHn l [⟨key,v⟩] (place key l) 0 (by omega) (by simp only[List.length_cons,List.length_nil]; omega)
   rw [e0,←hmap] at hre
   have hpp:ZV l key v=(rep l (place key l) 0 [⟨key,v⟩],true):=by simp only[ZV,h,hk,hr,hh,Option.isSome_none,Bool.false_eq_true,if_false,h48,and_self,if_true]
   simp only[↓xP,xT,rL,rB,rA,rS,hv,hkv,ZFz,hr,hpl,List.length_map,ge_iff_le,h48',hre,hpp,Z2]
theorem ZIp (l:List Yl) (key:Str) (hn:l.length≤1048576):EE F 217 [L 2 (l.map Yl.u),S key] []=Z2 Yl.u 2 (Z4 l key):=by
 rw [R217,b217]
 have hv:=ZFT l
 cases h:ZC l
 ·rw [h] at hv
  simp only[↓xP,xT,rL,rB,rA,rS,hv,Z4,h,Bool.false_eq_true,false_and,if_false,Z2,List.map_nil,List.length_nil]
 rw [h] at hv
 have hl48:=ZU h
 have hpl:=ZHE l key (ZHT h) (by omega)
 have hple:=ZGG key l
 rw [ZJh] at hpl
 have e1:((1:Nat):Int)=1:=rfl
 cases hh:hit key l with
 | some p=>
  have h1:=(ZFS hh).1
  have hlt:=(List.getElem?_eq_some_iff.1 h1).1
  have hre:=ZHn l [] (place key l) 1 (by omega) (by simp only[List.length_nil]; omega)
  rw [e1,List.map_nil] at hre
  have hpp:Z4 l key=(rep l (place key l) 1 [],true):=by simp only[Z4,h,hh,Option.isSome_some,if_true]
  rw [hh,Option.isSome_some] at hpl
  simp only[↓xP,xT,rL,rB,rA,rS,hv,hpl,hre,hpp,Z2]
 | none=>
  rw [hh,Option.isSome_none] at hpl
  have hc:=ZHf l (by omega)
  have hpp:Z4 l key=(l,false):=by simp only[Z4,h,hh,Option.isSome_none,Bool.false_eq_true,if_false,if_true]
  simp only[↓xP,xT,rL,rB,rA,rS,hv,hpl,hc,hpp,Z2]
def oneA (l:List Yl) (a:Ya):Option (List Yl):=
  if a.reply = -2 then some l
  else if a.reply=ZX l a.asked.cmd.key then
    (if a.asked.cmd.kind=3 then some (Z4 l a.asked.cmd.key).1
     else if a.asked.cmd.kind=2∨(a.asked.cmd.kind=4∧a.asked.cmd.old=ZX l a.asked.cmd.key) then
       (if (ZV l a.asked.cmd.key a.asked.cmd.value).2=true then some (ZV l a.asked.cmd.key a.asked.cmd.value).1 else none)
     else some l)
  else none
def okA (a:Ya):Bool:=ZO a.asked&&!decide (a.asked.cmd.kind=5)
def runA:List Ya→List Yl→Option (List Yl)
 | [],l=>some l
 | a::as',l=>if okA a=true then (oneA l a).bind (runA as') else none
def hist (l:List Ya):Option (List Yl):=if l.length≤200 then runA l [] else none
def ZFb (x:Option (List Yl)):Option Ret:=match x with
 | some p=>some ⟨[L 2 (p.map Yl.u),B true],[],[]⟩
 | none=>some ⟨[L 2 [],B false],[],[]⟩
theorem ZMi {l l':List Yl} {a:Ya} (h:oneA l a=some l') (hl:l.length≤48):l'.length≤48:=by
 unfold oneA at h
 split at h
 ·cases h; exact hl
 ·split at h
  ·split at h
   ·cases h
    unfold Z4
    split
    ·split
     ·rename_i hs
      cases hh:hit a.asked.cmd.key l with
      | none=>rw [hh] at hs; cases hs
      | some p=>
       have:=(List.getElem?_eq_some_iff.1 (ZFS hh).1).1
       rw [ZHH (by omega)]
       simp; omega
     ·exact hl
    ·simp
   ·split at h
    ·split at h
     ·cases h; exact ZMk _ _ _
     ·cases h
    ·cases h; exact hl
  ·cases h
theorem ZLA (l:List Yl) (c s k:Int) (key:Str) (v o:Int) (r:Int):oneA l ⟨⟨c,s,⟨k,key,v,o⟩⟩,r⟩=if r = -2 then some l else if r=ZX l key then (if k=3 then some (Z4 l key).1 else if k=2∨(k=4∧o=ZX l key) then (if (ZV l key v).2=true then some (ZV l key v).1 else none) else some l) else none:=rfl
theorem ZMf (l:List Yl) (c s k:Int) (key:Str) (v o:Int) (r:Int) (hn:l.length≤1048576) (hk:1≤k∧k≤4) (hr:¬r = -2):∃ q:List Yl,EE F 142 [L 2 (l.map Yl.u),.ag [.u (.int .i64 k),.u (.str key),.u (.int .i64 v),.u (.int .i64 o)],I r] []=some ⟨[L 2 (q.map Yl.u),B (oneA l ⟨⟨c,s,⟨k,key,v,o⟩⟩,r⟩).isSome],[],[]⟩∧∀ p,oneA l ⟨⟨c,s,⟨k,key,v,o⟩⟩,r⟩=some p→q=p:=by
 have hpg:=ZI0 l key
 have hpd:=ZIp l key hn
 have hpp:=ZI1 l key v hn
 rw [ZLA]
 simp only[hr,if_false]
 by_cases hrg:r=ZX l key
 case neg=>
  refine ⟨[],?_,fun p h=>by rw [if_neg hrg] at h; cases h⟩
  rw [R142,b142]
  simp only[↓xP,xT,rL,rB,rA,rS,hpg,hrg,ne_eq,not_false_eq_true,if_false,Option.isSome_none,List.map_nil]
 rw [if_pos hrg]
 rw [←hrg] at hpg ⊢
 generalize Z4 l key=dr at *
 generalize ZV l key v=pu at *
 obtain ⟨dl,db⟩:=dr
 obtain ⟨pl,pb⟩:=pu
 simp only[Z2] at hpd hpp
 rcases (show k=1∨k=2∨k=3∨k=4 by omega) with rfl|rfl|rfl|rfl
 ·refine ⟨l,?_,fun p h=>by simpa using h⟩
  rw [R142,b142]
  simp only[↓xP,xT,rL,rB,rA,rS,hpg,ne_eq,not_true_eq_false]
  all_goals rfl
 ·refine ⟨pl,?_,fun p h=>by cases pb<;>simp at h; exact h⟩
  rw [R142,b142]
  simp only[↓xP,xT,rL,rB,rA,rS,hpg,hpp,ne_eq,not_true_eq_false,ZB]
  cases pb<;>rfl
 ·refine ⟨dl,?_,fun p h=>by simpa using h⟩
  rw [R142,b142]
  simp only[↓xP,xT,rL,rB,rA,rS,hpg,hpd,ne_eq,not_true_eq_false,ZB]
  all_goals rfl
 ·have h43:¬(4:Int)=3:=by omega
  have h42:¬(4:Int)=2:=by omega
  by_cases ho:o=r
  ·refine ⟨pl,?_,fun p h=>by cases pb<;>simp [ho] at h; exact h⟩
   rw [R142,b142]
   simp only[↓xP,xT,rL,rB,rA,rS,hpg,hpp,ho,ne_eq,not_true_eq_false,ZB]
   cases pb<;>rfl
  ·refine ⟨l,?_,fun p h=>by simpa [ho] using h⟩
   rw [R142,b142]
   simp only[↓xP,xT,rL,rB,rA,rS,hpg,ho,h43,h42,ne_eq,not_true_eq_false,ZB]
   all_goals simp
theorem ZNH (l:List Yl) (c s k:Int) (key:Str) (v o:Int) (r:Int) (hn:l.length≤1048576) (hk:1≤k∧k≤4):∃ q:List Yl,EE F 126 [L 2 (l.map Yl.u),.ag [.u (.int .i64 c),.u (.int .i64 s),.u (.int .i64 k),.u (.str key),.u (.int .i64 v),.u (.int .i64 o),.u (.int .i64 r)]] []=some ⟨[L 2 (q.map Yl.u),B (oneA l ⟨⟨c,s,⟨k,key,v,o⟩⟩,r⟩).isSome],[],[]⟩∧∀ p,oneA l ⟨⟨c,s,⟨k,key,v,o⟩⟩,r⟩=some p→q=p:=by
 have hpg:=ZGW l key (by omega)
 have hpd:=ZIq l key hn
 have hpp:=ZI2 l key v hn
 rw [ZLA]
 by_cases hr:r = -2
 ·refine ⟨l,?_,fun p h=>by simpa [hr] using h⟩
  rw [R126,b126]
  simp only[↓xP,xT,rL,rB,rA,rS,hpg,hr]
  all_goals rfl
 simp only[hr,if_false]
 by_cases hrg:r=ZX l key
 case neg=>
  refine ⟨l,?_,fun p h=>by rw [if_neg hrg] at h; cases h⟩
  rw [R126,b126]
  simp only[↓xP,xT,rL,rB,rA,rS,hpg,hr,hrg,ne_eq,not_false_eq_true,if_false,Option.isSome_none,List.map_nil]
 rw [if_pos hrg]
 rw [←hrg] at hpg ⊢
 generalize Z4 l key=dr at *
 generalize ZV l key v=pu at *
 obtain ⟨dl,db⟩:=dr
 obtain ⟨pl,pb⟩:=pu
 simp only[Z2] at hpd hpp
 rcases (show k=1∨k=2∨k=3∨k=4 by omega) with rfl|rfl|rfl|rfl
 ·refine ⟨l,?_,fun p h=>by simpa using h⟩
  rw [R126,b126]
  simp only[↓xP,xT,rL,rB,rA,rS,hpg,hr,ne_eq,not_true_eq_false]
  all_goals rfl
 ·refine ⟨pl,?_,fun p h=>by cases pb<;>simp at h; exact h⟩
  rw [R126,b126]
  simp only[↓xP,xT,rL,rB,rA,rS,hpg,hpp,hr,ne_eq,not_true_eq_false,ZB]
  cases pb<;>rfl
 ·refine ⟨dl,?_,fun p h=>by simpa using h⟩
  rw [R126,b126]
  simp only[↓xP,xT,rL,rB,rA,rS,hpg,hpd,hr,ne_eq,not_true_eq_false,ZB]
  all_goals rfl
 ·have h43:¬(4:Int)=3:=by omega
  have h42:¬(4:Int)=2:=by omega
  by_cases ho:o=r
  ·refine ⟨pl,?_,fun p h=>by cases pb<;>simp [ho] at h; exact h⟩
   rw [R126,b126]
   simp only[↓xP,xT,rL,rB,rA,rS,hpg,hpp,hr,ho,ne_eq,not_true_eq_false,ZB]
   cases pb<;>rfl
  ·refine ⟨l,?_,fun p h=>by simpa [ho] using h⟩
   rw [R126,b126]
   simp only[↓xP,xT,rL,rB,rA,rS,hpg,hr,ho,h43,h42,ne_eq,not_false_eq_true,not_true_eq_false,ZB]
   all_goals simp
theorem ZMh {a:Ya} (h:okA a=true):1≤a.asked.cmd.kind∧a.asked.cmd.kind≤4∧Z3 a.asked.cmd.key=true:=by
 simp only[okA,ZO,Bool.and_eq_true,Bool.not_eq_true',decide_eq_false_iff_not] at h
 obtain ⟨⟨_,hc⟩,h5⟩:=h
 simp only[Z5,Bool.and_eq_true,Bool.or_eq_true,decide_eq_true_eq] at hc
 obtain ⟨h1,h2⟩:=hc
 refine ⟨?_,?_,?_⟩
 ·rcases h2 with (⟨⟨h2,_⟩,_⟩|⟨⟨h2,_⟩,_⟩)|⟨⟨h2,_⟩,_⟩
  ·rcases h2 with (h2|h2)|h2<;>omega
  ·omega
  ·omega
 ·rcases h2 with (⟨⟨h2,_⟩,_⟩|⟨⟨h2,_⟩,_⟩)|⟨⟨h2,_⟩,_⟩
  ·rcases h2 with (h2|h2)|h2
   ·omega
   ·omega
   ·exact absurd h2 h5
  ·omega
  ·omega
 ·rcases h1 with h1|h1
  ·exact h1
  ·exact absurd h1.1 h5
def fcD (p:List Yl):Bool→D
 | false=>.t (.sc (.own (.loc 4 0) 0))
 | true=>DU (.sl 2 (p.map Yl.u))
def fcO (st:St) (p:List Yl):Bool→Prop
 | false=>st.o (.loc 4 0)=some (.row 2 [])∧p=[]
 | true=>True
theorem ZLz (c s k:Int) (key:Str) (v o r:Int):okA ⟨⟨c,s,⟨k,key,v,o⟩⟩,r⟩=(ZO ⟨c,s,⟨k,key,v,o⟩⟩&&!decide (k=5)):=rfl
theorem ZJq (a:Ya) (m:List Ya) (p:List Yl):runA (a::m) p=if okA a=true then (oneA p a).bind (runA m) else none:=rfl
theorem ZMq {a:Ya} (h:okA a=false):∀ (l:List Ya) (p:List Yl),a∈l→runA l p=none
 | [],p,hm=>by cases hm
 | b :: l,p,hm=>by
  rw [ZJq]
  split
  ·rename_i hb
   rcases List.mem_cons.1 hm with rfl|hm
   ·rw [h] at hb; cases hb
   ·cases oneA p b with
    | none=>rfl
    | some q=>exact ZMq h l q hm
  ·rfl
theorem ZJY (l:List Ya) (hn:l.length≤1048576):EE F 67 [L 7 (l.map Ya.u)] []=ZFb (hist l):=by
 rw [R67,b67]
 by_cases h200:(200:Int)<(l.length:Int)
 ·have:¬l.length≤200:=by omega
  simp only[↓xP,xT,rL,rB,rA,rS,List.length_map,gt_iff_lt,h200,hist,this,if_false,ZFb,List.map_nil]
 have h200':l.length≤200:=by omega
 simp only[↓xP,xT,rL,rB,rA,rS,List.length_map,gt_iff_lt,h200,hist,h200',if_true]
 refine (Zjc (fun (a:Nat×Bool×List Yl) st=>a.1≤l.length∧a.2.2.length≤48∧st.s 11=DU (.sl 7 (l.map Ya.u))∧st.s 12=DI l.length∧st.s 13=DI a.1∧st.s 4=fcD a.2.2 a.2.1∧fcO st a.2.2 a.2.1) (fun a=>l.length - a.1) (fun a=>ZFb (runA (l.drop a.1) a.2.2)) ?_ (0,false,[]) ⟨by simp,by simp,by simp only[↓xP,xT,rL,rB,rA,rS],by simp only[↓xP,xT,rL,rB,rA,rS,List.length_map],by simp only[↓xP,xT,rL,rB,rA,rS]; rfl,by simp only[↓xP,xT,rL,rB,rA,rS,fcD],by simp only[fcO]; exact ⟨by simp only[↓xP,xT,rL,rB,rA,rS],trivial⟩⟩).trans (by simp)
 rintro ⟨i,b,p⟩ st ⟨hle,hp48,h11,h12,h13,h4,ho⟩ ih
 dsimp only at *
 by_cases hi:i<l.length
 ·obtain ⟨⟨⟨c,s,⟨k,key,v,o⟩⟩,r⟩,hx⟩:∃ a,l[i]?=some a:=⟨_,List.getElem?_eq_getElem hi⟩
  have hw:=w_succ (i:=i) (by omega)
  have hd:l.drop i=⟨⟨c,s,⟨k,key,v,o⟩⟩,r⟩::l.drop (i+1):=by rw [List.drop_eq_getElem_cons hi,(List.getElem?_eq_some_iff.1 hx).2]
  rw [hd,ZJq]
  have hev:=ZGb c s k key v o
  by_cases hok:okA ⟨⟨c,s,⟨k,key,v,o⟩⟩,r⟩=true
  case neg=>
   rw [if_neg hok]
   rw [ZLz] at hok
   cases he:ZO ⟨c,s,⟨k,key,v,o⟩⟩
   ·rw [he] at hev
    simp only[↓xP,xT,rL,rB,rA,rS,h11,h12,h13,hi,hx,Ya.u,hev,ZFb,List.map_nil]
   ·rw [he] at hev hok
    have h5:k=5:=by simpa using hok
    subst h5
    simp only[↓xP,xT,rL,rB,rA,rS,h11,h12,h13,hi,hx,Ya.u,hev,ZFb,List.map_nil]
  rw [if_pos hok]
  obtain ⟨hk1,hk4,_⟩:=ZMh hok
  dsimp only at hk1 hk4
  have hok':=hok
  rw [ZLz,Bool.and_eq_true] at hok'
  have hk5:¬k=5:=by omega
  rw [hok'.1] at hev
  by_cases hr:r = -2
  ·have ho1:oneA p ⟨⟨c,s,⟨k,key,v,o⟩⟩,r⟩=some p:=by rw [ZLA,if_pos hr]
   rw [ho1,Option.bind_some]
   cases b<;>simp only[fcD,fcO] at h4 ho
   ·obtain ⟨ho,rfl⟩:=ho
    simp only[↓xP,xT,rL,rB,rA,rS,h11,h12,h13,h4,ho,hi,hx,Ya.u,hev,hk5,hr,hw]
    exact ih (i+1,false,[]) _ (by dsimp only; omega) ⟨by dsimp only; omega,hp48,by simp only[↓xP,xT,rL,rB,rA,rS,h11],by simp only[↓xP,xT,rL,rB,rA,rS,h12],by simp only[↓xP,xT,rL,rB,rA,rS,hw],by simp only[↓xP,xT,rL,rB,rA,rS,h4,fcD],by simp only[fcO]; exact ⟨by simp only[↓xP,xT,rL,rB,rA,rS,ho],trivial⟩⟩
   ·simp only[↓xP,xT,rL,rB,rA,rS,h11,h12,h13,h4,hi,hx,Ya.u,hev,hk5,hr,hw]
    exact ih (i+1,true,p) _ (by dsimp only; omega) ⟨by dsimp only; omega,hp48,by simp only[↓xP,xT,rL,rB,rA,rS,h11],by simp only[↓xP,xT,rL,rB,rA,rS,h12],by simp only[↓xP,xT,rL,rB,rA,rS,hw],by simp only[↓xP,xT,rL,rB,rA,rS,h4,fcD],trivial⟩
  ·obtain ⟨q,hq,hqp⟩:=ZMf p c s k key v o r (by omega) ⟨hk1,hk4⟩ hr
   have hl48:=fun p'=>ZMi (l:=p) (l':=p') (a:=⟨⟨c,s,⟨k,key,v,o⟩⟩,r⟩)
   cases ho1:oneA p ⟨⟨c,s,⟨k,key,v,o⟩⟩,r⟩ with
   | none=>
    rw [ho1,Option.isSome_none] at hq
    rw [Option.bind_none]
    cases b<;>simp only[fcD,fcO] at h4 ho
    ·obtain ⟨ho,rfl⟩:=ho
     rw [List.map_nil] at hq
     cases hE:(List.map Yl.u q).isEmpty<;>simp only[↓xP,xT,rL,rB,rA,rS,rdx2,hE,h11,h12,h13,h4,ho,hi,hx,Ya.u,hev,hk5,hr,hq,ZFb,List.map_nil,List.take_nil]
    ·simp only[↓xP,xT,rL,rB,rA,rS,rdx2,h11,h12,h13,h4,hi,hx,Ya.u,hev,hk5,hr,hq,ZFb,List.map_nil]
   | some p'=>
    have hqe:=hqp p' ho1
    subst hqe
    have hq48:=hl48 q ho1 hp48
    rw [ho1,Option.isSome_some] at hq
    rw [Option.bind_some]
    cases b<;>simp only[fcD,fcO] at h4 ho
    ·obtain ⟨ho,rfl⟩:=ho
     rw [List.map_nil] at hq
     cases hE:(List.map Yl.u q).isEmpty
     all_goals
      simp only[↓xP,xT,rL,rB,rA,rS,rdx2,hE,h11,h12,h13,h4,ho,hi,hx,Ya.u,hev,hk5,hr,hq,hw,List.take_nil]
      exact ih (i+1,true,q) _ (by dsimp only; omega) ⟨by dsimp only; omega,hq48,by simp only[↓xP,xT,rL,rB,rA,rS,h11],by simp only[↓xP,xT,rL,rB,rA,rS,h12],by simp only[↓xP,xT,rL,rB,rA,rS,hw],by simp only[↓xP,xT,rL,rB,rA,rS,fcD],trivial⟩
    ·simp only[↓xP,xT,rL,rB,rA,rS,rdx2,h11,h12,h13,h4,hi,hx,Ya.u,hev,hk5,hr,hq,hw]
     exact ih (i+1,true,q) _ (by dsimp only; omega) ⟨by dsimp only; omega,hq48,by simp only[↓xP,xT,rL,rB,rA,rS,h11],by simp only[↓xP,xT,rL,rB,rA,rS,h12],by simp only[↓xP,xT,rL,rB,rA,rS,hw],by simp only[↓xP,xT,rL,rB,rA,rS,fcD],trivial⟩
 ·rw [List.drop_of_length_le (by omega)]
  cases b<;>simp only[fcD,fcO] at h4 ho
  ·obtain ⟨ho,rfl⟩:=ho
   simp only[↓xP,xT,rL,rB,rA,rS,h11,h12,h13,h4,ho,hi,runA,ZFb,List.map_nil,List.take_nil]
  ·simp only[↓xP,xT,rL,rB,rA,rS,h11,h12,h13,h4,hi,runA,ZFb]
def scD (p:List Yl):Bool→D
 | false=>.t (.sc (.own (.loc 9 0) 0))
 | true=>DU (.sl 2 (p.map Yl.u))
def scO (st:St) (p:List Yl):Bool→Prop
 | false=>st.o (.loc 9 0)=some (.row 2 [])∧p=[]
 | true=>True
theorem ZJZ (l:List Ya) (hn:l.length≤1048576):EE F 58 [L 7 (l.map Ya.u)] []=ZFb (hist l):=by
 rw [R58,b58]
 simp only[↓xP,xT,rL,rB,rA,rS]
 refine (Zjc (fun (i:Nat) st=>i≤l.length∧i≤200∧(∀ j a,j<i→l[j]?=some a→okA a=true)∧st.s 0=DU (.sl 7 (l.map Ya.u))∧st.s 5=DI i∧st.s 4=.t (.sc (.own (.loc 9 0) 0))∧st.o (.loc 9 0)=some (.row 2 [])) (fun i=>l.length - i) (fun i=>ZFb (hist l)) ?_ 0 ⟨by omega,by omega,fun j a h=>by omega,(by and_intros<;>first|omega|rfl|(simp only[↓xP,xT,rL,rB,rA,rS]<;>first|done|rfl|omega))⟩).trans rfl
 rintro i st ⟨hle,hle2,hall,h0,h5,h4,ho⟩ ih
 by_cases hi:i<l.length
 ·obtain ⟨⟨⟨c,s,⟨k,key,v,o⟩⟩,r⟩,hx⟩:∃ a,l[i]?=some a:=⟨_,List.getElem?_eq_getElem hi⟩
  have hw:=w_succ (i:=i) (by omega)
  have hev:=ZFN c s k key v o
  by_cases h200:(200:Int)≤(i:Int)
  ·have hh:hist l=none:=by unfold hist; rw [if_neg (by omega)]
   rw [hh]
   simp only[↓xP,xT,rL,rB,rA,rS,h0,h5,h4,ho,List.length_map,hi,ge_iff_le,h200,ZFb,List.map_nil]
  have hbad:okA ⟨⟨c,s,⟨k,key,v,o⟩⟩,r⟩=false→hist l=none:=fun h=>by
   unfold hist
   split
   ·exact ZMq h l [] (List.mem_of_getElem? hx)
   ·rfl
  rw [ZLz] at hbad
  cases he:ZO ⟨c,s,⟨k,key,v,o⟩⟩
  ·rw [hbad (by rw [he]; rfl)]
   rw [he] at hev
   simp only[↓xP,xT,rL,rB,rA,rS,h0,h5,h4,ho,List.length_map,hi,ge_iff_le,h200,hx,Ya.u,hev,ZFb,List.map_nil]
  rw [he] at hev
  by_cases hk5:k=5
  ·rw [hbad (by rw [he,hk5]; rfl)]
   subst hk5
   simp only[↓xP,xT,rL,rB,rA,rS,h0,h5,h4,ho,List.length_map,hi,ge_iff_le,h200,hx,Ya.u,hev,ZFb,List.map_nil]
  simp only[↓xP,xT,rL,rB,rA,rS,h0,h5,h4,ho,List.length_map,hi,ge_iff_le,h200,hx,Ya.u,hev,hk5,hw]
  exact ih (i+1) _ (by omega) ⟨by omega,by omega,fun j a hj ha=>by
   by_cases e:j=i
   ·subst e; rw [hx] at ha; cases ha; rw [ZLz,he]; simp [hk5]
   ·exact hall j a (by omega) ha,(by and_intros<;>first|omega|rfl|(simp only[↓xP,xT,rL,rB,rA,rS,h0,h5,h4,ho,hw]<;>first|done|rfl|omega))⟩
 have hl:hist l=runA l []:=by unfold hist; rw [if_pos (by omega)]
 have hall':∀ (j:Nat) a,l[j]?=some a→okA a=true:=fun j a ha=>hall j a (by have:=(List.getElem?_eq_some_iff.1 ha).1; omega) ha
 rw [hl]
 simp only[↓xP,xT,rL,rB,rA,rS,h0,h5,h4,ho,List.length_map,hi]
 clear ih
 refine (Zjc (fun (a:Nat×Bool×List Yl) st=>a.1≤l.length∧a.2.2.length≤48∧st.s 0=DU (.sl 7 (l.map Ya.u))∧st.s 6=DI a.1∧st.s 4=scD a.2.2 a.2.1∧scO st a.2.2 a.2.1) (fun a=>l.length - a.1) (fun a=>ZFb (runA (l.drop a.1) a.2.2)) ?_ (0,false,[]) ⟨by simp,by simp,by simp only[↓xP,xT,rL,rB,rA,rS,h0],by simp only[↓xP,xT,rL,rB,rA,rS]; rfl,by simp only[↓xP,xT,rL,rB,rA,rS,scD,h4],by simp only[scO]; exact ⟨by simp only[↓xP,xT,rL,rB,rA,rS,ho],trivial⟩⟩).trans (by simp)
 clear h0 h5 h4 ho hi hle hle2 hall
 rintro ⟨i,b,p⟩ st ⟨hle,hp48,h0,h6,h4,ho⟩ ih
 dsimp only at *
 by_cases hi:i<l.length
 ·obtain ⟨⟨⟨c,s,⟨k,key,v,o⟩⟩,r⟩,hx⟩:∃ a,l[i]?=some a:=⟨_,List.getElem?_eq_getElem hi⟩
  have hw:=w_succ (i:=i) (by omega)
  have hd:l.drop i=⟨⟨c,s,⟨k,key,v,o⟩⟩,r⟩::l.drop (i+1):=by rw [List.drop_eq_getElem_cons hi,(List.getElem?_eq_some_iff.1 hx).2]
  have hok:=hall' i _ hx
  rw [hd,ZJq,if_pos hok]
  obtain ⟨hk1,hk4,_⟩:=ZMh hok
  dsimp only at hk1 hk4
  obtain ⟨q,hq,hqp⟩:=ZNH p c s k key v o r (by omega) ⟨hk1,hk4⟩
  have hl48:=fun p'=>ZMi (l:=p) (l':=p') (a:=⟨⟨c,s,⟨k,key,v,o⟩⟩,r⟩)
  cases ho1:oneA p ⟨⟨c,s,⟨k,key,v,o⟩⟩,r⟩ with
  | none=>
   rw [ho1,Option.isSome_none] at hq
   rw [Option.bind_none]
   cases b<;>simp only[scD,scO] at h4 ho
   ·obtain ⟨ho,rfl⟩:=ho
    rw [List.map_nil] at hq
    cases hE:(List.map Yl.u q).isEmpty<;>simp only[↓xP,xT,rL,rB,rA,rS,rdx2,hE,h0,h6,h4,ho,List.length_map,hi,hx,Ya.u,hq,ZFb,List.map_nil,List.take_nil]
   ·simp only[↓xP,xT,rL,rB,rA,rS,rdx2,h0,h6,h4,List.length_map,hi,hx,Ya.u,hq,ZFb,List.map_nil]
  | some p'=>
   have hqe:=hqp p' ho1
   subst hqe
   have hq48:=hl48 q ho1 hp48
   rw [ho1,Option.isSome_some] at hq
   rw [Option.bind_some]
   cases b<;>simp only[scD,scO] at h4 ho
   ·obtain ⟨ho,rfl⟩:=ho
    rw [List.map_nil] at hq
    cases hE:(List.map Yl.u q).isEmpty
    all_goals
     simp only[↓xP,xT,rL,rB,rA,rS,rdx2,hE,h0,h6,h4,ho,List.length_map,hi,hx,Ya.u,hq,hw,List.take_nil]
     exact ih (i+1,true,q) _ (by dsimp only; omega) ⟨by dsimp only; omega,hq48,by simp only[↓xP,xT,rL,rB,rA,rS,h0],by simp only[↓xP,xT,rL,rB,rA,rS,hw],by simp only[↓xP,xT,rL,rB,rA,rS,scD],trivial⟩
   ·simp only[↓xP,xT,rL,rB,rA,rS,rdx2,h0,h6,h4,List.length_map,hi,hx,Ya.u,hq,hw]
    exact ih (i+1,true,q) _ (by dsimp only; omega) ⟨by dsimp only; omega,hq48,by simp only[↓xP,xT,rL,rB,rA,rS,h0],by simp only[↓xP,xT,rL,rB,rA,rS,hw],by simp only[↓xP,xT,rL,rB,rA,rS,scD],trivial⟩
 ·rw [List.drop_of_length_le (by omega)]
  cases b<;>simp only[scD,scO] at h4 ho
  ·obtain ⟨ho,rfl⟩:=ho
   simp only[↓xP,xT,rL,rB,rA,rS,h0,h6,h4,ho,List.length_map,hi,runA,ZFb,List.map_nil,List.take_nil]
  ·simp only[↓xP,xT,rL,rB,rA,rS,h0,h6,h4,List.length_map,hi,runA,ZFb]
def fxl1 (d n k:Nat) (ok:Bool) (ids:List Id) (r:Option (List (List U))):Option Fx:=if ok=true∧ids=[] then r.map fun r=>⟨some d,.t (.sc (.own (.loc d 0) n)),[(.loc d 0,.row k r)],[]⟩ else none
theorem ZOF:(∀ (E:Zb) (st:St) d n zero ps,fx E st (.lit d n zero ps)=fxl1 d n zero.length (st.dead d 1) (st.partIds ps) (st.fillRows zero.length (List.replicate n zero) ps))∧
 (∀ d n k r,fxl1 d n k true [] (some r)=some ⟨some d,.t (.sc (.own (.loc d 0) n)),[(.loc d 0,.row k r)],[]⟩):=by
 refine ⟨fun E st d n zero ps=>?_,fun d n k r=>rfl⟩
 simp only[fx,fxl1]
theorem ZI {α:Type} {l:List α} {i:Nat} {x:α} (h:l[i]?=some x):l.drop i=x::l.drop (i+1):=by
 have hi:=(List.getElem?_eq_some_iff.1 h).1
 rw [List.drop_eq_getElem_cons hi,(List.getElem?_eq_some_iff.1 h).2]
def ZIG (c:Yf):Bool:=decide (c.epoch=0)&&decide (c.members.length=0)&&!c.fresh
theorem ZJF (e:Int) (l:List Int) (f:Bool):EE F 245 [.ag [.u (.int .i64 e),.u (.sl 1 (l.map iU)),.u (.bool f)]] []=ok1 (B (ZIG ⟨e,l,f⟩)):=by
 rw [R245,b245]
 simp only[↓xP,xT,rL,rB,rA,rS]
 repeat' (refine ZiE (fun h=>?_) (fun h=>?_))
 all_goals simp_all [ZIG]
theorem ZJG (e:Int) (l:List Int) (f:Bool):EE F 249 [.ag [.u (.int .i64 e),.u (.sl 1 (l.map iU)),.u (.bool f)]] []=ok1 (B (ZIG ⟨e,l,f⟩)):=by
 rw [R249,b249]
 simp only[↓xP,xT,rL,rB,rA,rS]
 repeat' (refine ZiE (fun h=>?_) (fun h=>?_))
 all_goals simp_all [ZIG]
def ZN (l:List Yh):Bool:=decide (l.length≤24)&&l.all ZO
theorem ZGp (l:List Yh) (hn:l.length≤4611686018427387904):EE F 213 [L 6 (l.map Yh.u)] []=ok1 (B (ZN l)):=by
 rw [R213,b213]
 simp only[↓xP,xT,rL,rB,rA,rS]
 refine ZiE (fun h=>?_) (fun h=>?_)
 ·have:¬l.length≤24:=by simp at h; omega
  simp [ZN,this]
 have hl:l.length≤24:=by simp at h; omega
 refine (Zjc (fun (i:Nat) st=>st.s 8=DU (.sl 6 (l.map Yh.u))∧st.s 9=DI l.length∧st.s 10=DI i) (fun i=>l.length - i) (fun i=>ok1 (B ((l.drop i).all ZO))) ?_ 0 (by and_intros<;>first|omega|rfl|(simp only[↓xP,xT,rL,rB,rA,rS]<;>first|done|rfl|omega))).trans (by simp [ZN,hl])
 rintro i st ⟨h8,h9,h10⟩ ih
 by_cases hi:i<l.length
 ·obtain ⟨⟨c,s,k,key,v,o⟩,hx⟩:∃ x,l[i]?=some x:=⟨_,List.getElem?_eq_getElem hi⟩
  have hw:=w_succ (i:=i) (by omega)
  simp only[↓xP,xT,rL,rB,rA,rS,h8,h9,h10,hi,hx,hw,Yh.u,ZGb]
  rw [ZI hx]
  refine ZiE (fun h=>?_) (fun h=>?_)
  ·simp_all
  ·rw [ih (i+1) _ (by omega) (by and_intros<;>first|omega|rfl|(simp only[↓xP,xT,rL,rB,rA,rS,h8,h9]<;>first|done|rfl|omega))]; simp_all
 ·simp only[↓xP,xT,rL,rB,rA,rS,h8,h9,h10,hi]
  rw [List.drop_of_length_le (by omega)]; rfl
theorem ZGq (l:List Yh) (hn:l.length≤4611686018427387904):EE F 205 [L 6 (l.map Yh.u)] []=ok1 (B (ZN l)):=by
 rw [R205,b205]
 simp only[↓xP,xT,rL,rB,rA,rS]
 refine (Zjc (fun (i:Nat) st=>i≤24∧i≤l.length∧st.s 0=DU (.sl 6 (l.map Yh.u))∧st.s 3=DI i) (fun i=>l.length - i) (fun i=>ok1 (B (decide (l.length≤24)&&(l.drop i).all ZO))) ?_ 0 (by and_intros<;>first|omega|rfl|(simp only[↓xP,xT,rL,rB,rA,rS]<;>first|done|rfl|omega))).trans (by simp [ZN])
 rintro i st ⟨h24,hle,h0,h3⟩ ih
 by_cases hi:i<l.length
 ·obtain ⟨⟨c,s,k,key,v,o⟩,hx⟩:∃ x,l[i]?=some x:=⟨_,List.getElem?_eq_getElem hi⟩
  have hw:=w_succ (i:=i) (by omega)
  by_cases hc:i=24
  ·have hc2:((24:Int)≤(i:Int))=True:=by simp; omega
   simp only[↓xP,xT,rL,rB,rA,rS,h0,h3,hi,hx,hw,hc2,Yh.u,ZFN]
   have:¬l.length≤24:=by omega
   simp [this]
  ·have hc2:((24:Int)≤(i:Int))=False:=by simp; omega
   simp only[↓xP,xT,rL,rB,rA,rS,h0,h3,hi,hx,hw,hc2,Yh.u,ZFN]
   rw [ZI hx]
   refine ZiE (fun h=>?_) (fun h=>?_)
   ·simp_all
   ·rw [ih (i+1) _ (by omega) (by and_intros<;>first|omega|rfl|(simp only[↓xP,xT,rL,rB,rA,rS,h0]<;>first|done|rfl|omega))]; simp_all
 ·simp only[↓xP,xT,rL,rB,rA,rS,h0,h3,hi]
  rw [List.drop_of_length_le (by omega)]
  have:l.length≤24:=by omega
  simp [this]
def ZFk (r:Yo):Bool:=if ZIG r.conf=true then !r.ready&&decide (r.log.length=0) else ZK r.conf&&ZN r.log&&(r.ready||decide (r.log.length=0))
theorem ZI3 (e:Int) (ms:List Int) (f rd:Bool) (lg:List Yh) (h1:ms.length≤4611686018427387904) (h2:lg.length≤4611686018427387904):EE F 170 [.ag [.u (.int .i64 e),.u (.sl 1 (ms.map iU)),.u (.bool f),.u (.bool rd),.u (.sl 6 (lg.map Yh.u))]] []=ok1 (B (ZFk ⟨⟨e,ms,f⟩,rd,lg⟩)):=by
 rw [R170,b170]
 have a:=ZF2 e ms f h1
 have b:=ZGp lg h2
 simp only[↓xP,xT,rL,rB,rA,rS,ZJF,a,b]
 repeat' (refine ZiE (fun h=>?_) (fun h=>?_))
 all_goals simp_all [ZFk]
theorem ZI4 (e:Int) (ms:List Int) (f rd:Bool) (lg:List Yh) (h1:ms.length≤4611686018427387904) (h2:lg.length≤4611686018427387904):EE F 185 [.ag [.u (.int .i64 e),.u (.sl 1 (ms.map iU)),.u (.bool f),.u (.bool rd),.u (.sl 6 (lg.map Yh.u))]] []=ok1 (B (ZFk ⟨⟨e,ms,f⟩,rd,lg⟩)):=by
 rw [R185,b185]
 have a:=ZF3 e ms f h1
 have b:=ZGq lg h2
 simp only[↓xP,xT,rL,rB,rA,rS,ZJG,a,b]
 repeat' (refine ZiE (fun h=>?_) (fun h=>?_))
 all_goals simp_all [ZFk]
def Z6 (m:Yk):Bool:=decide (1≤m.epoch)&&decide (m.epoch≤60)&&(if m.kind=1 then inR m.to_ 0 4&&ZK m.conf&&decide (m.conf.epoch=m.epoch)&&decide (m.log.length=0) else if m.kind=2 then inR m.to_ 0 4&&ZIG m.conf&&ZN m.log else if m.kind=3 then decide (m.to_ = -1)&&ZIG m.conf&&decide (m.log.length=0) else false)
theorem ZIY (k t ep e:Int) (ms:List Int) (f:Bool) (lg:List Yh) (h1:ms.length≤4611686018427387904) (h2:lg.length≤4611686018427387904):EE F 244 [.ag [.u (.int .i64 k),.u (.int .i64 t),.u (.int .i64 ep),.u (.int .i64 e),.u (.sl 1 (ms.map iU)),.u (.bool f),.u (.sl 6 (lg.map Yh.u))]] []=ok1 (B (Z6 ⟨k,t,ep,⟨e,ms,f⟩,lg⟩)):=by
 rw [R244,b244]
 have a:=ZF2 e ms f h1
 have b:=ZGp lg h2
 simp only[↓xP,xT,rL,rB,rA,rS,ZJF,a,b,ZHD]
 repeat' (refine ZiE (fun h=>?_) (fun h=>?_))
 all_goals first|(simp_all [Z6,inR]; done)|(simp_all [Z6,inR]; grind)|(simp_all [Z6,inR,ZK]; done)|(simp_all [Z6,inR,ZK]; grind)|skip
theorem ZIZ (k t ep e:Int) (ms:List Int) (f:Bool) (lg:List Yh) (h1:ms.length≤4611686018427387904) (h2:lg.length≤4611686018427387904):EE F 248 [.ag [.u (.int .i64 k),.u (.int .i64 t),.u (.int .i64 ep),.u (.int .i64 e),.u (.sl 1 (ms.map iU)),.u (.bool f),.u (.sl 6 (lg.map Yh.u))]] []=ok1 (B (Z6 ⟨k,t,ep,⟨e,ms,f⟩,lg⟩)):=by
 rw [R248,b248]
 have a:=ZF3 e ms f h1
 have b:=ZGq lg h2
 simp only[↓xP,xT,rL,rB,rA,rS,ZJG,a,b,Z1]
 repeat' (refine ZiE (fun h=>?_) (fun h=>?_))
 all_goals first|(simp_all [Z6,inR]; done)|(simp_all [Z6,inR]; grind)|(simp_all [Z6,inR,ZK]; done)|(simp_all [Z6,inR,ZK]; grind)|skip
def ZHo (l:List Yk):Bool:=decide (l.length≤10)&&l.all Z6
theorem ZKJ (l:List Yk) (hs:ZFV l):EE F 169 [L 7 (l.map Yk.u)] []=ok1 (B (ZHo l)):=by
 have hn:=hs.1
 rw [R169,b169]
 simp only[↓xP,xT,rL,rB,rA,rS]
 refine ZiE (fun h=>?_) (fun h=>?_)
 ·have:¬l.length≤10:=by simp at h; omega
  simp [ZHo,this]
 have hl:l.length≤10:=by simp at h; omega
 refine (Zjc (fun (i:Nat) st=>st.s 8=DU (.sl 7 (l.map Yk.u))∧st.s 9=DI l.length∧st.s 10=DI i) (fun i=>l.length - i) (fun i=>ok1 (B ((l.drop i).all Z6))) ?_ 0 (by and_intros<;>first|omega|rfl|(simp only[↓xP,xT,rL,rB,rA,rS]<;>first|done|rfl|omega))).trans (by simp [ZHo,hl])
 rintro i st ⟨h8,h9,h10⟩ ih
 by_cases hi:i<l.length
 ·obtain ⟨⟨k,t,ep,⟨e,ms,f⟩,lg⟩,hx⟩:∃ x,l[i]?=some x:=⟨_,List.getElem?_eq_getElem hi⟩
  have hw:=w_succ (i:=i) (by omega)
  have hsx:=hs.2 _ (List.mem_of_getElem? hx)
  have hm:=ZIY k t ep e ms f lg (by have:=hsx.1.1.1; simp only at this; omega) (by have:=hsx.2.1.1; simp only at this; omega)
  simp only[↓xP,xT,rL,rB,rA,rS,h8,h9,h10,hi,hx,hw,Yk.u,hm]
  rw [ZI hx]
  refine ZiE (fun h=>?_) (fun h=>?_)
  ·simp_all
  ·rw [ih (i+1) _ (by omega) (by and_intros<;>first|omega|rfl|(simp only[↓xP,xT,rL,rB,rA,rS,h8,h9]<;>first|done|rfl|omega))]; simp_all
 ·simp only[↓xP,xT,rL,rB,rA,rS,h8,h9,h10,hi]
  rw [List.drop_of_length_le (by omega)]; rfl
theorem ZKK (l:List Yk) (hs:ZFV l):EE F 184 [L 7 (l.map Yk.u)] []=ok1 (B (ZHo l)):=by
 have hn:=hs.1
 rw [R184,b184]
 simp only[↓xP,xT,rL,rB,rA,rS]
 refine (Zjc (fun (i:Nat) st=>i≤10∧i≤l.length∧st.s 0=DU (.sl 7 (l.map Yk.u))∧st.s 3=DI i) (fun i=>l.length - i) (fun i=>ok1 (B (decide (l.length≤10)&&(l.drop i).all Z6))) ?_ 0 (by and_intros<;>first|omega|rfl|(simp only[↓xP,xT,rL,rB,rA,rS]<;>first|done|rfl|omega))).trans (by simp [ZHo])
 rintro i st ⟨h24,hle,h0,h3⟩ ih
 by_cases hi:i<l.length
 ·obtain ⟨⟨k,t,ep,⟨e,ms,f⟩,lg⟩,hx⟩:∃ x,l[i]?=some x:=⟨_,List.getElem?_eq_getElem hi⟩
  have hw:=w_succ (i:=i) (by omega)
  have hsx:=hs.2 _ (List.mem_of_getElem? hx)
  have hm:=ZIZ k t ep e ms f lg (by have:=hsx.1.1.1; simp only at this; omega) (by have:=hsx.2.1.1; simp only at this; omega)
  by_cases hc:i=10
  ·have hc2:((10:Int)≤(i:Int))=True:=by simp; omega
   simp only[↓xP,xT,rL,rB,rA,rS,h0,h3,hi,hx,hw,hc2,Yk.u,hm]
   have:¬l.length≤10:=by omega
   simp [this]
  ·have hc2:((10:Int)≤(i:Int))=False:=by simp; omega
   simp only[↓xP,xT,rL,rB,rA,rS,h0,h3,hi,hx,hw,hc2,Yk.u,hm]
   rw [ZI hx]
   refine ZiE (fun h=>?_) (fun h=>?_)
   ·simp_all
   ·rw [ih (i+1) _ (by omega) (by and_intros<;>first|omega|rfl|(simp only[↓xP,xT,rL,rB,rA,rS,h0]<;>first|done|rfl|omega))]; simp_all
 ·simp only[↓xP,xT,rL,rB,rA,rS,h0,h3,hi]
  rw [List.drop_of_length_le (by omega)]
  have:l.length≤10:=by omega
  simp [this]
def ZFl (a:Ya):Bool:=ZO a.asked&&inR a.reply (-4) 999
def ZY (l:List Ya):Bool:=decide (l.length≤24)&&l.all ZFl
theorem ZJO (l:List Ya) (hn:l.length≤4611686018427387904):EE F 171 [L 7 (l.map Ya.u)] []=ok1 (B (ZY l)):=by
 rw [R171,b171]
 simp only[↓xP,xT,rL,rB,rA,rS]
 refine ZiE (fun h=>?_) (fun h=>?_)
 ·have:¬l.length≤24:=by simp at h; omega
  simp [ZY,this]
 have hl:l.length≤24:=by simp at h; omega
 refine (Zjc (fun (i:Nat) st=>st.s 8=DU (.sl 7 (l.map Ya.u))∧st.s 9=DI l.length∧st.s 10=DI i) (fun i=>l.length - i) (fun i=>ok1 (B ((l.drop i).all ZFl))) ?_ 0 (by and_intros<;>first|omega|rfl|(simp only[↓xP,xT,rL,rB,rA,rS]<;>first|done|rfl|omega))).trans (by simp [ZY,hl])
 rintro i st ⟨h8,h9,h10⟩ ih
 by_cases hi:i<l.length
 ·obtain ⟨⟨⟨c,s,k,key,v,o⟩,r⟩,hx⟩:∃ x,l[i]?=some x:=⟨_,List.getElem?_eq_getElem hi⟩
  have hw:=w_succ (i:=i) (by omega)
  simp only[↓xP,xT,rL,rB,rA,rS,h8,h9,h10,hi,hx,hw,Ya.u,ZGb]
  rw [ZI hx]
  repeat' (refine ZiE (fun h=>?_) (fun h=>?_))
  all_goals first|(rw [ih (i+1) _ (by omega) (by and_intros<;>first|omega|rfl|(simp only[↓xP,xT,rL,rB,rA,rS,h8,h9]<;>first|done|rfl|omega))]; simp_all [ZFl,inR]; done)|(simp_all [ZFl,inR]; done)|(simp_all [ZFl,inR]; grind)|skip
 ·simp only[↓xP,xT,rL,rB,rA,rS,h8,h9,h10,hi]
  rw [List.drop_of_length_le (by omega)]; rfl
def ZE (c:Yc):Bool:=ZD c.base&&ZK c.conf&&decide (c.nodes.length=5)&&decide (c.up.length=5)&&ZHo c.bag&&(c.nodes.all fun r=>ZFk r&&decide (r.conf.epoch≤c.conf.epoch))&&(c.bag.all fun m=>decide (m.epoch≤c.conf.epoch))&&ZY c.answers
theorem ZGL (c0 c1:Str) (c2:List Yl) (c3:List Yr) (c4:Bool) (c5:Str) (c6:Int) (c7:List Int) (c8:Bool) (c9:List Yo) (c10:List Bool) (c11:List Yk) (c12:List Ya) (hs:Yc.Small ⟨⟨⟨c0,c1⟩,c2,c3,c4,c5⟩,⟨c6,c7,c8⟩,c9,c10,c11,c12⟩):EE F 85 [.ag [.u (.str c0),.u (.str c1),.u (.sl 2 (c2.map Yl.u)),.u (.sl 3 (c3.map Yr.u)),.u (.bool c4),.u (.str c5),.u (.int .i64 c6),.u (.sl 1 (c7.map iU)),.u (.bool c8),.u (.sl 5 (c9.map Yo.u)),.u (.sl 1 (c10.map bU)),.u (.sl 7 (c11.map Yk.u)),.u (.sl 7 (c12.map Ya.u))]] []=ok1 (B (ZE ⟨⟨⟨c0,c1⟩,c2,c3,c4,c5⟩,⟨c6,c7,c8⟩,c9,c10,c11,c12⟩)):=by
 rw [R85,b85]
 obtain ⟨hb,hcf,hnd,hup,hbag,hans,_⟩:=hs
 have a1:=ZGc c0 c1 c2 c3 c4 c5 (by have:=hb.2.2.1.1; simp only at this; omega)
 have a2:=ZF2 c6 c7 c8 (by have:=hcf.1.1; simp only at this; omega)
 have a3:=ZKJ c11 hbag
 have a4:=ZJO c12 (by have:=hans.1; simp only at this; omega)
 have hnl:c9.length≤1048576:=hnd.1
 have hbl:c11.length≤1048576:=hbag.1
 simp only[↓xP,xT,rL,rB,rA,rS,a1,a2,a3,List.length_map,ne_eq]
 refine ZiE (fun h=>?_) (fun g1=>?_)
 ·rw [Bool.not_eq_true'] at h; simp [ZE,h]
 refine ZiE (fun h=>?_) (fun g2=>?_)
 ·rw [Bool.not_eq_true'] at h; simp [ZE,h]
 refine ZiE (fun h=>?_) (fun g3=>?_)
 ·have:¬c9.length=5:=by simp at h; omega
  simp [ZE,this]
 refine ZiE (fun h=>?_) (fun g4=>?_)
 ·have:¬c10.length=5:=by simp at h; omega
  simp [ZE,this]
 refine ZiE (fun h=>?_) (fun g5=>?_)
 ·rw [Bool.not_eq_true'] at h; simp [ZE,h]
 rw [Bool.not_eq_false'] at g1 g2 g5
 have g3':c9.length=5:=by simp at g3; omega
 have g4':c10.length=5:=by simp at g4; omega
 have hcv:ZE ⟨⟨⟨c0,c1⟩,c2,c3,c4,c5⟩,⟨c6,c7,c8⟩,c9,c10,c11,c12⟩=((c9.all fun r=>ZFk r&&decide (r.conf.epoch≤c6))&&((c11.all fun m=>decide (m.epoch≤c6))&&ZY c12)):=by
  simp only[ZE,g1,g2,g3',g4',g5,decide_true,Bool.and_true,Bool.true_and,Bool.and_assoc]
 rw [hcv]
 refine Zjc (fun (i:Nat) st=>st.s 1=.t (.sc (.ptr (.loc 1 0) 0 0))∧st.o (.loc 1 0)=some (.box [.u (.str c0),.u (.str c1),.u (.sl 2 (c2.map Yl.u)),.u (.sl 3 (c3.map Yr.u)),.u (.bool c4),.u (.str c5),.u (.int .i64 c6),.u (.sl 1 (c7.map iU)),.u (.bool c8),.u (.sl 5 (c9.map Yo.u)),.u (.sl 1 (c10.map bU)),.u (.sl 7 (c11.map Yk.u)),.u (.sl 7 (c12.map Ya.u))])∧st.s 36=DU (.sl 5 (c9.map Yo.u))∧st.s 37=DI c9.length∧st.s 38=DI i) (fun i=>c9.length - i) (fun i=>ok1 (B (((c9.drop i).all fun r=>ZFk r&&decide (r.conf.epoch≤c6))&&((c11.all fun m=>decide (m.epoch≤c6))&&ZY c12)))) ?_ 0 (by and_intros<;>first|omega|rfl|(simp only[↓xP,xT,rL,rB,rA,rS]<;>first|done|rfl|omega))
 rintro i st ⟨h1,ho,h36,h37,h38⟩ ih
 by_cases hi:i<c9.length
 ·obtain ⟨⟨⟨e,ms,f⟩,rd,lg⟩,hx⟩:∃ x,c9[i]?=some x:=⟨_,List.getElem?_eq_getElem hi⟩
  have hw:=w_succ (i:=i) (by omega)
  have hsx:=hnd.2 _ (List.mem_of_getElem? hx)
  have hr:=ZI3 e ms f rd lg (by have:=hsx.1.1.1; simp only at this; omega) (by have:=hsx.2.1.1; simp only at this; omega)
  simp only[↓xP,xT,rL,rB,rA,rS,h1,ho,h36,h37,h38,hi,hx,hw,Yo.u,hr]
  rw [ZI hx,List.all_cons]
  refine ZiE (fun h=>?_) (fun q1=>?_)
  ·rw [Bool.not_eq_true'] at h; simp [h]
  refine ZiE (fun h=>?_) (fun q2=>?_)
  ·have:¬e≤c6:=by simp at h; omega
   simp [this]
  rw [Bool.not_eq_false'] at q1
  have q2':e≤c6:=by simp at q2; omega
  rw [ih (i+1) _ (by omega) (by and_intros<;>first|omega|rfl|(simp only[↓xP,xT,rL,rB,rA,rS,h1,ho,h36,h37]<;>first|done|rfl|omega))]
  simp [q1,q2']
 simp only[↓xP,xT,rL,rB,rA,rS,h1,ho,h36,h37,h38,hi]
 rw [List.drop_of_length_le (by omega),List.all_nil,Bool.true_and]
 refine Zjc (fun (i:Nat) st=>st.s 1=.t (.sc (.ptr (.loc 1 0) 0 0))∧st.o (.loc 1 0)=some (.box [.u (.str c0),.u (.str c1),.u (.sl 2 (c2.map Yl.u)),.u (.sl 3 (c3.map Yr.u)),.u (.bool c4),.u (.str c5),.u (.int .i64 c6),.u (.sl 1 (c7.map iU)),.u (.bool c8),.u (.sl 5 (c9.map Yo.u)),.u (.sl 1 (c10.map bU)),.u (.sl 7 (c11.map Yk.u)),.u (.sl 7 (c12.map Ya.u))])∧st.s 56=DU (.sl 7 (c11.map Yk.u))∧st.s 57=DI c11.length∧st.s 58=DI i) (fun i=>c11.length - i) (fun i=>ok1 (B (((c11.drop i).all fun m=>decide (m.epoch≤c6))&&ZY c12))) ?_ 0 (by and_intros<;>first|omega|rfl|(simp only[↓xP,xT,rL,rB,rA,rS,h1,ho]<;>first|done|rfl|omega))
 clear h1 ho h36 h37 h38 hi ih
 rintro i st ⟨h1,ho,h36,h37,h38⟩ ih
 by_cases hi:i<c11.length
 ·obtain ⟨⟨k,t,ep,⟨e,ms,f⟩,lg⟩,hx⟩:∃ x,c11[i]?=some x:=⟨_,List.getElem?_eq_getElem hi⟩
  have hw:=w_succ (i:=i) (by omega)
  simp only[↓xP,xT,rL,rB,rA,rS,h1,ho,h36,h37,h38,hi,hx,hw,Yk.u]
  rw [ZI hx,List.all_cons]
  refine ZiE (fun h=>?_) (fun q2=>?_)
  ·have:¬ep≤c6:=by simp at h; omega
   simp [this]
  have q2':ep≤c6:=by simp at q2; omega
  rw [ih (i+1) _ (by omega) (by and_intros<;>first|omega|rfl|(simp only[↓xP,xT,rL,rB,rA,rS,h1,ho,h36,h37]<;>first|done|rfl|omega))]
  simp [q2']
 simp only[↓xP,xT,rL,rB,rA,rS,h1,ho,h36,h37,h38,hi,a4]
 rw [List.drop_of_length_le (by omega),List.all_nil,Bool.true_and]
end Go.Proofs.YtfajcehhcjmofaaGreatV
