/- Lemmas of functions that the law FnExactNextPlan reaches, and that it returns true for all data of its types. No conditions but those that the lemmas state. -/
import Derived.Test.YtmfjkbbmhaofbaaGreatA1
namespace Go.Proofs.YtmfjkbbmhaofbaaGreatV
open Go Go.RowKit
open Nat renaming reduceLT → rL, reduceAdd → rA, reduceSub → rS, reduceBEq → rB
open IOp (dst isF args)
set_option linter.unusedVariables false
set_option linter.unusedSimpArgs false
set_option maxRecDepth 4000
theorem ZI4 (l:List Route) (hn:l.length≤1048576):EE F 197 [L 3 (l.map Route.u)] []=ok1 (B (ZFR l)):=by
 rw [R197,b197]
 simp only[↓xP,xT,rL,rB,rA,rS,ZHf l hn,List.length_map]
 refine ZiE (fun h=>?_) (fun g1=>?_)
 ·have h8:¬l.length≤8:=by simp at h; omega
  have:ZFb l=false:=by
   cases hd:ZFb l
   ·rfl
   ·exact absurd (ZLs hd) h8
  simp [ZFR,this]
 refine ZiE (fun h=>?_) (fun g2=>?_)
 ·rw [Bool.not_eq_true'] at h; simp [ZFR,h]
 rw [Bool.not_eq_false'] at g2
 simp only[ZFR,g2,Bool.true_and]
 refine Zjc (fun (i:Nat) st=>i≤l.length∧st.s 0=DU (.sl 3 (l.map Route.u))∧st.s 13=DU (.sl 3 (l.map Route.u))∧st.s 14=DI l.length∧st.s 15=DI i) (fun i=>l.length - i) (fun i=>ok1 (B (allF l.length (ZFQ l) i))) ?_ 0 (by and_intros<;>first|omega|rfl|(simp only[↓xP,xT,rL,rB,rA,rS]<;>first|done|rfl|omega))
 rintro i st ⟨hle,h0,h13,h14,h15⟩ ih
 by_cases hi:i<l.length
 ·obtain ⟨⟨m,⟨lo,up⟩⟩,hx⟩:∃ x,l[i]?=some x:=⟨_,List.getElem?_eq_getElem hi⟩
  have hw:=w_succ (i:=i) (by omega)
  rw [ZFW hi]
  cases q1:ZG ⟨lo,up⟩
  ·have:ZFQ l i=false:=by simp [ZFQ,hx,q1]
   simp only[↓xP,xT,rL,rB,rA,rS,rdx2,h0,h13,h14,h15,hi,hx,hw,Route.u,ZW,q1]
   simp [this]
  cases i with
  | zero=>
   have hgt:(((0:Nat):Int) > 0)=False:=by simp
   have:ZFQ l 0=true:=by simp only[ZFQ,hx,q1]; cases l[0 - 1]?<;>simp
   simp only[↓xP,xT,rL,rB,rA,rS,rdx2,h0,h13,h14,h15,hi,hx,hw,Route.u,ZW,q1,hgt]
   rw [ih 1 _ (by omega) (by and_intros<;>first|omega|rfl|(simp only[↓xP,xT,rL,rB,rA,rS,h0,h13,h14,hw]<;>first|done|rfl|omega))]
   simp [this]
  | succ k=>
   have hgt:(((k+1:Nat):Int) > 0)=True:=by simp
   have hp:=ZJC (i:=k) (by omega)
   obtain ⟨⟨cm,⟨clo,chi⟩⟩,hc⟩:∃ a,l[k]?=some a:=⟨_,List.getElem?_eq_getElem (by omega)⟩
   have hsp:ZFQ l (k+1)=!(decide (chi=[])||ZHI chi lo):=by simp [ZFQ,hx,hc,q1]
   rw [hsp]
   by_cases q2:chi=[]
   ·subst q2
    simp only[↓xP,xT,rL,rB,rA,rS,rdx2,h0,h13,h14,h15,hi,hx,hc,hw,hp,Route.u,ZW,q1,hgt]
    try simp
   ·simp only[↓xP,xT,rL,rB,rA,rS,rdx2,h0,h13,h14,h15,hi,hx,hc,hw,hp,Route.u,ZW,q1,hgt,q2]
    refine ZiE (fun h=>?_) (fun h=>?_)
    ·have:ZHI chi lo=true:=by simpa [ZHI] using h
     simp [this]
    ·have:ZHI chi lo=false:=by simpa [ZHI] using h
     rw [ih (k+1+1) _ (by omega) (by and_intros<;>first|omega|rfl|(simp only[↓xP,xT,rL,rB,rA,rS,h0,h13,h14,hw]<;>first|done|rfl|omega))]
     simp [this,q2]
 ·simp only[↓xP,xT,rL,rB,rA,rS,h0,h13,h14,h15,hi]
  rw [ZFV hi]
theorem ZI5 (l:List Route) (hn:l.length≤1048576):EE F 189 [L 3 (l.map Route.u)] []=ok1 (B (ZFR l)):=by
 rw [R189,b189]
 simp only[↓xP,xT,rL,rB,rA,rS]
 have hc:ZFR l=allF l.length (fun i=>ZF4 l i&&ZFQ l i) 0:=by
  rw [Bool.eq_iff_iff,ZFR,Bool.and_eq_true,ZFb,ZFC _ 0 rfl,ZFC _ 0 rfl,ZFC _ 0 rfl]
  simp only[Bool.and_eq_true]
  exact ⟨fun h j h1 h2=>⟨h.1 j h1 h2,h.2 j h1 h2⟩,fun h=>⟨fun j h1 h2=>(h j h1 h2).1,fun j h1 h2=>(h j h1 h2).2⟩⟩
 rw [hc]
 refine Zjc (fun (i:Nat) st=>i≤l.length∧st.s 0=DU (.sl 3 (l.map Route.u))∧st.s 3=DI i) (fun i=>l.length - i) (fun i=>ok1 (B (allF l.length (fun i=>ZF4 l i&&ZFQ l i) i))) ?_ 0 (by and_intros<;>first|omega|rfl|(simp only[↓xP,xT,rL,rB,rA,rS]<;>first|done|rfl|omega))
 rintro i st ⟨hle,h0,h3⟩ ih
 by_cases hi:i<l.length
 ·obtain ⟨⟨m,⟨lo,up⟩⟩,hx⟩:∃ x,l[i]?=some x:=⟨_,List.getElem?_eq_getElem hi⟩
  have hw:=w_succ (i:=i) (by omega)
  rw [ZFW hi]
  simp only[↓xP,xT,rL,rB,rA,rS,h0,h3,hi,hx,hw,Route.u,ZFe,ZY]
  refine ZiE (fun h=>?_) (fun q1=>?_)
  ·rw [Bool.not_eq_true'] at h
   have:ZFQ l i=false:=by simp [ZFQ,hx,h]
   simp [this]
  rw [Bool.not_eq_false'] at q1
  refine ZiE (fun h=>?_) (fun q2=>?_)
  ·rw [Bool.not_eq_true'] at h
   have:ZF4 l i=false:=by simp [ZF4,hx,h]
   simp [this]
  rw [Bool.not_eq_false'] at q2
  have hna:ZF4 l i=!ZFS ((l.take i).drop 0) m:=by simp [ZF4,hx,q2]
  rw [hna]
  refine Zjc (fun (j:Nat) st=>j≤i∧st.s 0=DU (.sl 3 (l.map Route.u))∧st.s 3=DI i∧st.s 4=DI j) (fun j=>i - j) (fun j=>ok1 (B (!ZFS ((l.take i).drop j) m&&ZFQ l i&&allF l.length (fun i=>ZF4 l i&&ZFQ l i) (i+1)))) ?_ 0 (by and_intros<;>first|omega|rfl|(simp only[↓xP,xT,rL,rB,rA,rS,h0,h3]<;>first|done|rfl|omega))
  clear h0 h3
  rintro j st ⟨hle2,h0,h3,h4⟩ ih2
  by_cases hj:j<i
  ·obtain ⟨⟨k,⟨lo2,up2⟩⟩,hy⟩:∃ x,l[j]?=some x:=⟨_,List.getElem?_eq_getElem (by omega)⟩
   have hyt:(l.take i)[j]?=some ⟨k,⟨lo2,up2⟩⟩:=by rw [List.getElem?_take,if_pos hj]; exact hy
   have hw2:=w_succ (i:=j) (by omega)
   have hh:ZFS ((l.take i).drop j) m=(decide (k=m)||ZFS ((l.take i).drop (j+1)) m):=by rw [ZE hyt]; rfl
   rw [hh]
   by_cases e:k=m
   ·simp only[↓xP,xT,rL,rB,rA,rS,rdx2,h0,h3,h4,hj,hx,hy,hw2,Route.u,e]
    try simp
   ·simp only[↓xP,xT,rL,rB,rA,rS,rdx2,h0,h3,h4,hj,hx,hy,hw2,Route.u,e]
    rw [ih2 (j+1) _ (by omega) (by and_intros<;>first|omega|rfl|(simp only[↓xP,xT,rL,rB,rA,rS,h0,h3,hw2]<;>first|done|rfl|omega))]
    try simp
  have hdr:(l.take i).drop j=[]:=List.drop_of_length_le (by rw [List.length_take]; omega)
  have hnn:ZFS ([]:List Route) m=false:=rfl
  rw [hdr,hnn]
  cases i with
  | zero=>
   have hgt:(((0:Nat):Int) > 0)=False:=by simp
   have:ZFQ l 0=true:=by simp only[ZFQ,hx,q1]; cases l[0 - 1]?<;>simp
   simp only[↓xP,xT,rL,rB,rA,rS,rdx2,h0,h3,h4,hj,hx,hw,Route.u,hgt]
   rw [ih 1 _ (by omega) (by and_intros<;>first|omega|rfl|(simp only[↓xP,xT,rL,rB,rA,rS,h0,hw]<;>first|done|rfl|omega))]
   simp [this]
  | succ k=>
   have hgt:(((k+1:Nat):Int) > 0)=True:=by simp
   have hp:=ZJC (i:=k) (by omega)
   obtain ⟨⟨cm,⟨clo,chi⟩⟩,hc⟩:∃ a,l[k]?=some a:=⟨_,List.getElem?_eq_getElem (by omega)⟩
   have hsp:ZFQ l (k+1)=!(decide (chi=[])||ZHI chi lo):=by simp [ZFQ,hx,hc,q1]
   rw [hsp]
   by_cases q2:chi=[]
   ·subst q2
    simp only[↓xP,xT,rL,rB,rA,rS,rdx2,h0,h3,h4,hj,hx,hc,hw,hp,Route.u,hgt]
    try simp
   ·simp only[↓xP,xT,rL,rB,rA,rS,rdx2,h0,h3,h4,hj,hx,hc,hw,hp,Route.u,hgt,q2]
    refine ZiE (fun h=>?_) (fun h=>?_)
    ·have:ZHI chi lo=true:=by simpa [ZHI] using h
     simp [this]
    ·have:ZHI chi lo=false:=by simpa [ZHI] using h
     rw [ih (k+1+1) _ (by omega) (by and_intros<;>first|omega|rfl|(simp only[↓xP,xT,rL,rB,rA,rS,h0,hw]<;>first|done|rfl|omega))]
     simp [this,q2]
 ·simp only[↓xP,xT,rL,rB,rA,rS,h0,h3,hi]
  rw [ZFV hi]
def Z4 (l:List Route):Bool:=decide (l.length≤6)&&ZU (ZFz l)&&ZFb l
theorem ZII (l:List Route) (hn:l.length≤1048576):EE F 120 [L 3 (l.map Route.u)] []=ok1 (B (Z4 l)):=by
 rw [R120,b120]
 simp only[↓xP,xT,rL,rB,rA,rS]
 have hdef:Z4 l=(decide (l.length≤6)&&allF l.length (ZF4 l) 0&&ZU (ZFz l)):=by
  simp only[Z4,ZFb]; cases decide (l.length≤6)<;>cases ZU (ZFz l)<;>simp
 rw [hdef]
 refine Zjc (fun (i:Nat) st=>i≤6∧i≤l.length∧st.s 0=DU (.sl 3 (l.map Route.u))∧st.s 3=.t (.sc (.own (.loc 6 0) i))∧st.o (.loc 6 0)=some (.row 2 ((ZFz (l.take i)).map Interval.u))∧st.s 4=DI i) (fun i=>l.length - i) (fun i=>ok1 (B (decide (l.length≤6)&&allF l.length (ZF4 l) i&&ZU (ZFz l)))) ?_ 0 (by and_intros<;>first|omega|rfl|(simp only[↓xP,xT,rL,rB,rA,rS]<;>first|done|rfl|omega))
 rintro i st ⟨hi6,hle,h0,h3,ho,h4⟩ ih
 by_cases hi:i<l.length
 ·obtain ⟨⟨m,⟨lo,up⟩⟩,hx⟩:∃ x,l[i]?=some x:=⟨_,List.getElem?_eq_getElem hi⟩
  have hw:=w_succ (i:=i) (by omega)
  rw [ZFW hi]
  by_cases h6:i=6
  ·have hge:((6:Int)≤(i:Int))=True:=by simp; omega
   have hl:¬l.length≤6:=by omega
   simp only[↓xP,xT,rL,rB,rA,rS,h0,h3,ho,h4,hi,hx,hw,Route.u,ge_iff_le,hge]
   simp [hl]
  have hge:((6:Int)≤(i:Int))=False:=by simp; omega
  cases q2:inR m 0 7
  ·have:ZF4 l i=false:=by simp [ZF4,hx,q2]
   simp only[↓xP,xT,rL,rB,rA,rS,h0,h3,ho,h4,hi,hx,hw,Route.u,ge_iff_le,hge,ZY,q2]
   simp [this]
  simp only[↓xP,xT,rL,rB,rA,rS,h0,h3,ho,h4,hi,hx,hw,Route.u,ge_iff_le,hge,ZY,q2]
  have hna:ZF4 l i=!ZFS ((l.take i).drop 0) m:=by simp [ZF4,hx,q2]
  rw [hna]
  refine Zjc (fun (j:Nat) st=>j≤i∧st.s 0=DU (.sl 3 (l.map Route.u))∧st.s 3=.t (.sc (.own (.loc 6 0) i))∧st.o (.loc 6 0)=some (.row 2 ((ZFz (l.take i)).map Interval.u))∧st.s 4=DI i∧st.s 5=DI j) (fun j=>i - j) (fun j=>ok1 (B (decide (l.length≤6)&&(!ZFS ((l.take i).drop j) m&&allF l.length (ZF4 l) (i+1))&&ZU (ZFz l)))) ?_ 0 (by and_intros<;>first|omega|rfl|(simp only[↓xP,xT,rL,rB,rA,rS,h0,h3,ho,h4]<;>first|done|rfl|omega))
  clear h0 h3 h4 ho
  rintro j st ⟨hle2,h0,h3,ho,h4,h5⟩ ih2
  by_cases hj:j<i
  ·obtain ⟨⟨k,⟨lo2,up2⟩⟩,hy⟩:∃ x,l[j]?=some x:=⟨_,List.getElem?_eq_getElem (by omega)⟩
   have hyt:(l.take i)[j]?=some ⟨k,⟨lo2,up2⟩⟩:=by rw [List.getElem?_take,if_pos hj]; exact hy
   have hw2:=w_succ (i:=j) (by omega)
   have hh:ZFS ((l.take i).drop j) m=(decide (k=m)||ZFS ((l.take i).drop (j+1)) m):=by rw [ZE hyt]; rfl
   rw [hh]
   by_cases e:k=m
   ·simp only[↓xP,xT,rL,rB,rA,rS,rdx2,h0,h3,ho,h4,h5,hj,hx,hy,hw2,Route.u,e]
    try simp
   ·simp only[↓xP,xT,rL,rB,rA,rS,rdx2,h0,h3,ho,h4,h5,hj,hx,hy,hw2,Route.u,e]
    rw [ih2 (j+1) _ (by omega) (by and_intros<;>first|omega|rfl|(simp only[↓xP,xT,rL,rB,rA,rS,h0,h3,ho,h4,hw2]<;>first|done|rfl|omega))]
    try simp
  have hdr:(l.take i).drop j=[]:=List.drop_of_length_le (by rw [List.length_take]; omega)
  have hnn:ZFS ([]:List Route) m=false:=rfl
  rw [hdr,hnn]
  obtain ⟨q1,q2⟩:=ZP (n:=i+1) (k:=32) (by omega) (by omega)
  have hst:=ZJy hx
  have hlt:(List.map Interval.u (ZFz (List.take i l))).length=i:=by rw [List.length_map,ZFY,List.length_take]; omega
  have hta:List.take i (List.map Interval.u (ZFz (List.take i l)))=List.map Interval.u (ZFz (List.take i l)):=List.take_of_length_le (by omega)
  simp only[↓xP,xT,rL,rB,rA,rS,rdx2,h0,h3,ho,h4,h5,hj,hx,hw,Route.u,q1,q2,hlt,hta]
  rw [ih (i+1) _ (by omega) ⟨by omega,by omega,(by and_intros<;>first|omega|rfl|(simp only[↓xP,xT,rL,rB,rA,rS,h0,h3,ho,hw,hst]<;>first|done|rfl|omega))⟩]
  try simp
 ·have hp:=ZHR (ZFz l) (by rw [ZFY]; omega)
  obtain rfl:i=l.length:=by omega
  have hta:List.take l.length (List.map Interval.u (ZFz l))=List.map Interval.u (ZFz l):=List.take_of_length_le (by rw [List.length_map,ZFY]; omega)
  rw [List.take_length] at ho
  simp only[↓xP,xT,rL,rB,rA,rS,h0,h3,ho,h4,hi,hp,ZFY,hta,Nat.le_refl]
  rw [ZFV (by omega)]
  simp [hi6]
theorem ZHu (n:Int):EE F 131 [I n] []=ok1 (B (inR n 0 200)):=by
 rw [R131,b131]
 simp only[↓xP,xT,rL,rB,rA,rS]
 repeat' (refine ZiE (fun h=>?_) (fun h=>?_))
 all_goals first|(simp_all [inR]; done)|(simp_all [inR]; omega)
theorem ZJO (n:Int):EE F 201 [I n] []=ok1 (B (inR n (-4) 999)):=by
 rw [R201,b201]
 simp only[↓xP,xT,rL,rB,rA,rS]
 repeat' (refine ZiE (fun h=>?_) (fun h=>?_))
 all_goals first|(simp_all [inR]; done)|(simp_all [inR]; omega)
def ZF3 (c:Command):Bool:=decide (c.kind=0)&&decide (c.key=[])&&decide (c.value=0)&&decide (c.old=0)
def ZJ (c:Caller):Bool:=ZFR c.cache&&inR c.seq 0 999&&(if c.busy=true then decide (1≤c.seq)&&ZGM c.wish&&inR c.called 0 200 else ZF3 c.wish&&decide (c.called=0))
theorem ZIx (l:List Route) (s:Int) (bz:Bool) (k:Int) (key:Str) (v o cd:Int) (hn:l.length≤1048576):EE F 126 [.ag [.u (.sl 3 (l.map Route.u)),.u (.int .i64 s),.u (.bool bz),.u (.int .i64 k),.u (.str key),.u (.int .i64 v),.u (.int .i64 o),.u (.int .i64 cd)]] []=ok1 (B (ZJ ⟨l,s,bz,⟨k,key,v,o⟩,cd⟩)):=by
 rw [R126,b126]
 have a:=ZI4 l hn
 cases bz<;>simp only[↓xP,xT,rL,rB,rA,rS,a,ZIw,ZHu,ZY]
 all_goals repeat' (refine ZiE (fun h=>?_) (fun h=>?_))
 all_goals first|(simp_all [ZJ,ZF3,inR]; done)|(simp_all [ZJ,ZF3,inR]; grind)|skip
theorem ZIy (l:List Route) (s:Int) (bz:Bool) (k:Int) (key:Str) (v o cd:Int) (hn:l.length≤1048576):EE F 118 [.ag [.u (.sl 3 (l.map Route.u)),.u (.int .i64 s),.u (.bool bz),.u (.int .i64 k),.u (.str key),.u (.int .i64 v),.u (.int .i64 o),.u (.int .i64 cd)]] []=ok1 (B (ZJ ⟨l,s,bz,⟨k,key,v,o⟩,cd⟩)):=by
 rw [R118,b118]
 have a:=ZI5 l hn
 cases bz<;>simp only[↓xP,xT,rL,rB,rA,rS,a,ZJn,ZY,ZY]
 all_goals repeat' (refine ZiE (fun h=>?_) (fun h=>?_))
 all_goals first|(simp_all [ZJ,ZF3,inR]; done)|(simp_all [ZJ,ZF3,inR]; grind)|skip
def ZO (r:Result):Bool:=inR r.client 1 3&&inR r.seq 1 999&&ZGM r.wish&&inR r.reply (-4) 999&&inR r.returned 0 200&&decide (0≤r.called)&&decide (r.called≤r.returned)
theorem ZIF (c s k:Int) (key:Str) (v o r cd rt:Int):EE F 127 [.ag [.u (.int .i64 c),.u (.int .i64 s),.u (.int .i64 k),.u (.str key),.u (.int .i64 v),.u (.int .i64 o),.u (.int .i64 r),.u (.int .i64 cd),.u (.int .i64 rt)]] []=ok1 (B (ZO ⟨c,s,⟨k,key,v,o⟩,r,cd,rt⟩)):=by
 rw [R127,b127]
 simp only[↓xP,xT,rL,rB,rA,rS,ZI6,ZG5,ZIw,ZJO,ZHu]
 repeat' (refine ZiE (fun h=>?_) (fun h=>?_))
 all_goals first|(simp_all [ZO]; done)|(simp_all [ZO]; omega)
theorem ZIG (c s k:Int) (key:Str) (v o r cd rt:Int):EE F 119 [.ag [.u (.int .i64 c),.u (.int .i64 s),.u (.int .i64 k),.u (.str key),.u (.int .i64 v),.u (.int .i64 o),.u (.int .i64 r),.u (.int .i64 cd),.u (.int .i64 rt)]] []=ok1 (B (ZO ⟨c,s,⟨k,key,v,o⟩,r,cd,rt⟩)):=by
 rw [R119,b119]
 simp only[↓xP,xT,rL,rB,rA,rS,ZY,ZJn]
 repeat' (refine ZiE (fun h=>?_) (fun h=>?_))
 all_goals first|(simp_all [ZO]; done)|(simp_all [ZO,inR]; done)|(simp_all [ZO,inR]; grind)|skip
theorem ZK4 (l:List Route) (s:Int) (bz:Bool) (k:Int) (key:Str) (v o cd:Int):EE F 130 [.ag [.u (.sl 3 (l.map Route.u)),.u (.int .i64 s),.u (.bool bz),.u (.int .i64 k),.u (.str key),.u (.int .i64 v),.u (.int .i64 o),.u (.int .i64 cd)]] []=ok1 (B (decide (l.length=0)&&decide (s=0)&&!bz&&ZF3 ⟨k,key,v,o⟩&&decide (cd=0))):=by
 rw [R130,b130]
 simp only[↓xP,xT,rL,rB,rA,rS]
 repeat' (refine ZiE (fun h=>?_) (fun h=>?_))
 all_goals simp_all [ZF3]
def rle (a b:Route):Bool:=!ZaZ b.span.low a.span.low
def insL (l:List Route) (x:Route):List Route:=l.takeWhile (fun q=>rle q x)++x::l.dropWhile (fun q=>rle q x)
def ZGX (l:List Route):Prop:=l.Pairwise (fun a b=>rle a b=true)
def Z9 (l:List Route):List Route:=l.foldl insL []
theorem ZNe {s t:Str} (h1:ZaZ s t=false) (h2:ZaZ t s=false):s=t:=by
 have:=ZIB s t
 rw [h1,h2] at this
 simpa using this
theorem ZKd {a b c:Route} (h1:rle a b=true) (h2:rle b c=true):rle a c=true:=by
 simp only[rle,Bool.not_eq_true'] at h1 h2 ⊢
 cases h:ZaZ c.span.low a.span.low
 ·rfl
 ·cases hb:ZaZ b.span.low c.span.low
  ·have e:=ZNe hb h2
   rw [e] at h1
   rw [h1] at h; cases h
  ·have:=lt_trans hb h
   rw [h1] at this; cases this
theorem ZLD {a b:Route} (h:rle a b=false):rle b a=true:=by
 simp only[rle,Bool.not_eq_true',Bool.not_eq_false'] at h ⊢
 exact ZJq h
theorem ZL1 {a b:List Route} {x:Route} (ha:∀ q,q∈a→rle q x=true) (hb:∀ q,b.head?=some q→rle q x=false):insL (a++b) x=a++x::b:=by
 have h1:(a++b).takeWhile (fun q=>rle q x)=a:=by
  rw [List.takeWhile_append_of_pos ha]
  cases b with
  | nil=>simp
  | cons q b=>rw [List.takeWhile_cons_of_neg (by rw [hb q rfl]; simp)]; simp
 have h2:(a++b).dropWhile (fun q=>rle q x)=b:=by
  rw [List.dropWhile_append_of_pos ha]
  cases b with
  | nil=>simp
  | cons q b=>rw [List.dropWhile_cons_of_neg (by rw [hb q rfl]; simp)]
 rw [insL,h1,h2]
theorem ZJk (l:List Route) (x:Route):(insL l x).length=l.length+1:=by
 have:=congrArg List.length (List.takeWhile_append_dropWhile (p:=fun q=>rle q x) (l:=l))
 simp only[List.length_append] at this
 simp only[insL,List.length_append,List.length_cons]
 omega
theorem ZJj (p:Route→Bool):∀ (l:List Route) (q:Route),(l.dropWhile p).head?=some q→p q=false
 | [],q,h=>by simp at h
 | a :: l,q,h=>by
  by_cases e:p a=true
  ·rw [List.dropWhile_cons_of_pos e] at h; exact ZJj p l q h
  ·rw [List.dropWhile_cons_of_neg e] at h
   simp at h; subst h; simpa using e
theorem ZK2 {l:List Route} (h:ZGX l) (x:Route):ZGX (insL l x):=by
 have hs:ZGX (l.takeWhile (fun q=>rle q x)++l.dropWhile (fun q=>rle q x)):=by rw [List.takeWhile_append_dropWhile]; exact h
 simp only[ZGX,insL] at hs ⊢
 rw [List.pairwise_append] at hs ⊢
 have ht:∀ q,q∈l.takeWhile (fun q=>rle q x)→rle q x=true:=fun q hq=>by simpa using List.all_takeWhile (l:=l) (p:=fun q=>rle q x) |> List.all_eq_true.1 |> fun f=>f q hq
 have hd:∀ q,q∈l.dropWhile (fun q=>rle q x)→rle x q=true:=by
  have hh:=ZJj (fun q=>rle q x) l
  have hp:=hs.2.1
  revert hh hp
  cases l.dropWhile (fun q=>rle q x) with
  | nil=>intro _ _ q hq; cases hq
  | cons c m=>
   intro hh hp q hq
   have hc:=ZLD (hh c rfl)
   rcases List.mem_cons.1 hq with rfl|hq
   ·exact hc
   ·exact ZKd hc ((List.pairwise_cons.1 hp).1 q hq)
 refine ⟨hs.1,List.pairwise_cons.2 ⟨hd,hs.2.1⟩,?_⟩
 intro a ha b hb
 rcases List.mem_cons.1 hb with rfl|hb
 ·exact ht a ha
 ·exact hs.2.2 a ha b hb
theorem ZIe:∀ (m l:List Route),ZGX l→ZGX (m.foldl insL l)
 | [],l,h=>h
 | a::m,l,h=>ZIe m _ (ZK2 h a)
theorem ZKw (l:List Route):ZGX (Z9 l):=ZIe l [] List.Pairwise.nil
theorem ZJ4:∀ (m l:List Route),(m.foldl insL l).length=l.length+m.length
 | [],l=>by simp
 | a::m,l=>by rw [List.foldl_cons,ZJ4 m,ZJk]; simp only[List.length_cons]; omega
theorem ZF5 (l:List Route):(Z9 l).length=l.length:=by rw [Z9,ZJ4]; simp
theorem ZLF {l:List Route} {i:Nat} {x:Route} (hx:l[i]?=some x):Z9 (l.take (i+1))=insL (Z9 (l.take i)) x:=by
 rw [Z9,List.take_add_one,hx]; simp [Z9]
/-- What stands in the row when the element at i has moved down to j. -/
def midR (p r:List Route) (x:Route) (j:Nat):List Route:=p.take j++x::(p.drop j++r)
theorem ZMK {p r:List Route} {x:Route} {j:Nat} (h:j≤p.length):(midR p r x j).length=p.length+r.length+1:=by
 simp only[midR,List.length_append,List.length_cons,List.length_take,List.length_drop]; omega
theorem ZNa {p r:List Route} {x:Route} {j:Nat} (h:j≤p.length):(midR p r x j)[j]?=some x:=by
 have hl:(p.take j).length=j:=by rw [List.length_take]; omega
 rw [midR,List.getElem?_append_right (by omega),hl]; simp
theorem ZNb {p r:List Route} {x:Route} {k:Nat} (h:k+1≤p.length):(midR p r x (k+1))[k]?=p[k]?:=by
 have hl:(p.take (k+1)).length=k+1:=by rw [List.length_take]; omega
 rw [midR,List.getElem?_append_left (by omega),List.getElem?_take,if_pos (by omega)]
theorem ZMo {p r:List Route} {x y:Route} {k:Nat} (hy:p[k]?=some y):((midR p r x (k+1)).set (k+1) y).set k x=midR p r x k:=by
 have hk:k<p.length:=(List.getElem?_eq_some_iff.1 hy).1
 have hl:(p.take k).length=k:=by rw [List.length_take]; omega
 have h1:midR p r x (k+1)=p.take k++(y::x::(p.drop (k+1)++r)):=by
  rw [midR,List.take_add_one,hy]; simp
 have h2:midR p r x k=p.take k++(x::y::(p.drop (k+1)++r)):=by
  rw [midR,ZE hy]; simp
 rw [h1,h2,List.set_append_right _ _ (by omega),List.set_append_right _ _ (by omega),hl]
 have e1:k+1 - k=1:=by omega
 have e2:k - k=0:=by omega
 rw [e1,e2]; rfl
theorem ZMJ {p r:List Route} {x:Route} {j:Nat} (hs:ZGX p) (hj:j≤p.length) (hd:∀ q,q∈p.drop j→rle q x=false) (hy:j=0∨∃ y,p[j - 1]?=some y∧rle y x=true):midR p r x j=insL p x++r:=by
 have ha:∀ q,q∈p.take j→rle q x=true:=by
  intro q hq
  rcases hy with rfl|⟨y,hy,hyx⟩
  ·simp at hq
  ·obtain ⟨t,ht,rfl⟩:=List.mem_take_iff_getElem.1 hq
   by_cases e:t=j - 1
   ·subst e
    rw [List.getElem?_eq_getElem (by omega)] at hy
    cases hy; exact hyx
   ·have h1:j - 1<p.length:=by omega
    have:=List.pairwise_iff_getElem.1 hs t (j - 1) (by omega) h1 (by omega)
    rw [List.getElem?_eq_getElem h1] at hy
    cases hy
    exact ZKd this hyx
 have:=ZL1 (a:=p.take j) (b:=p.drop j) ha (fun q hq=>hd q (List.mem_of_mem_head? hq))
 rw [List.take_append_drop] at this
 rw [this,midR]; simp
theorem ZMU (a b:Str):(cmpS a b<0)=(ZaZ a b=true):=by
 unfold cmpS
 cases h:ZaZ a b
 ·cases h2:ZaZ b a<;>simp
 ·simp
theorem ZMH (F:Nat→Option IFn) (fin:St→Option Ret) (is:List Za) (gs:List (GOp×List Nat)) (o:IOp) (t:Nat) (b:Bool) (free:List Nat) (done:List Fx) (st:St):KY F fin is gs o t b free done st true=RR F (KW F fin is gs done) [] [⟨o,some (t,b)⟩] st:=by
 simp only[KY,if_true,RR,Zap,KW,KD]
 cases Zaf (EE F) st ⟨o,some (t,b)⟩ with
 | none=>rfl
 | some s=>simp only[Option.bind_some,KK,Zf0,KW,KD]
theorem ZMQ (n:Int) (a b:Str) (m:Int) (c d:Str):EE F 146 [.ag [.u (.int .i64 n),.u (.str a),.u (.str b)],.ag [.u (.int .i64 m),.u (.str c),.u (.str d)]] []=ok1 (I (cmpS a c)):=by
 rw [R146,b146]
 simp only[↓xP,xT,rL,rB,rA,rS,ZJ3]
theorem ZM2 (l:List Route) (n:Nat) (hn:n=l.length) (h8:l.length≤8):EE F 266 [.sc (.own (.par 0) n),I 0,I n,.sc (.u (.fn 146 []))] [.row 3 (l.map Route.u)]=some ⟨[],[],[.row 3 ((Z9 l).map Route.u)]⟩:=by
 refine (EE_run (fn:=i266) (by kernel_rfl) rfl).trans ?_
 simp only[i266,b266,ZdN,ZcQ,List.length_cons,List.length_nil]
 have hw0:IntKind.i64.wrap ((0:Int)+1)=((1:Nat):Int):=by decide
 simp only[↓xP,xT,rL,rB,rA,rS,hw0]
 have hF:∀ i,i<n→∃ x,l[i]?=some x:=fun i hi=>⟨_,List.getElem?_eq_getElem (by omega)⟩
 have hst1:Z9 (l.take 1)++l.drop 1=l:=by
  cases l with
  | nil=>rfl
  | cons a l=>rfl
 refine Zjc (fun (i:Nat) st=>i≤n+1∧(1≤i)∧st.s 0=.t (.sc (.own (.par 0) n))∧st.o (.par 0)=some (.row 3 ((Z9 (l.take i)++l.drop i).map Route.u))∧st.s 1=DI 0∧st.s 2=DI n∧st.s 3=DU (.fn 146 [])∧st.s 8=DI i) (fun i=>n - i) (fun _=>some ⟨[],[],[.row 3 ((Z9 l).map Route.u)]⟩) ?_ 1 (by and_intros<;>first|omega|rfl|(simp only[↓xP,xT,rL,rB,rA,rS,hst1]<;>first|done|rfl|omega))
 rintro i st ⟨hin,h1,hs0,ho,hs1,hs2,hs3,hs8⟩ ih
 by_cases hi:i<n
 ·have hw:=w_succ (i:=i) (by omega)
  obtain ⟨⟨xn,⟨xlo,xhi⟩⟩,hx⟩:=hF i hi
  have hpl:(Z9 (l.take i)).length=i:=by rw [ZF5,List.length_take]; omega
  have hsp:=ZKw (l.take i)
  have hst:=ZLF hx
  have hmid:Z9 (l.take i)++l.drop i=midR (Z9 (l.take i)) (l.drop (i+1)) ⟨xn,⟨xlo,xhi⟩⟩ i:=by
   have t1:(Z9 (l.take i)).take i=Z9 (l.take i):=List.take_of_length_le (by omega)
   have t2:(Z9 (l.take i)).drop i=[]:=List.drop_of_length_le (by omega)
   rw [ZE hx,midR,t1,t2]; rfl
  rw [hmid] at ho
  clear hmid
  obtain ⟨p,hP⟩:∃ p,p=Z9 (l.take i):=⟨_,rfl⟩
  obtain ⟨r,hRs⟩:∃ r,r=l.drop (i+1):=⟨_,rfl⟩
  rw [←hP] at hpl hsp hst
  rw [←hP,←hRs] at ho
  simp only[↓xP,xT,rL,rB,rA,rS,hs0,ho,hs1,hs2,hs3,hs8,hi]
  refine Zjc (fun (j:Nat) st=>j≤i∧(∀ q,q∈p.drop j→rle q ⟨xn,⟨xlo,xhi⟩⟩=false)∧st.s 0=.t (.sc (.own (.par 0) n))∧st.o (.par 0)=some (.row 3 ((midR p r ⟨xn,⟨xlo,xhi⟩⟩ j).map Route.u))∧st.s 1=DI 0∧st.s 2=DI n∧st.s 3=DU (.fn 146 [])∧st.s 8=DI i∧st.s 9=DI j) (fun j=>j) (fun _=>some ⟨[],[],[.row 3 ((Z9 l).map Route.u)]⟩) ?_ i ⟨by omega,(by rw [List.drop_of_length_le (by omega)]; intro q hq; cases hq),(by and_intros<;>first|omega|rfl|(simp only[↓xP,xT,rL,rB,rA,rS,hs0,ho,hs1,hs2,hs3,hs8]<;>first|done|rfl|omega))⟩
  clear hs0 ho hs1 hs2 hs3 hs8
  rintro j st ⟨hji,hdr,hs0,ho,hs1,hs2,hs3,hs8,hs9⟩ ih2
  have hml:=ZMK (p:=p) (r:=r) (x:=⟨xn,⟨xlo,xhi⟩⟩) (j:=j) (by omega)
  have hrl:p.length+r.length+1=n:=by rw [hpl,hRs,List.length_drop]; omega
  have hxm:=ZNa (p:=p) (r:=r) (x:=⟨xn,⟨xlo,xhi⟩⟩) (j:=j) (by omega)
  have hfin:(j=0∨∃ y,p[j - 1]?=some y∧rle y ⟨xn,⟨xlo,xhi⟩⟩=true)→(midR p r ⟨xn,⟨xlo,xhi⟩⟩ j)=Z9 (l.take (i+1))++l.drop (i+1):=by
   intro hy
   rw [hst,←hRs]
   exact ZMJ hsp (by omega) hdr hy
  cases j with
  | zero=>
   have hgt:(((0:Nat):Int) > 0)=False:=by simp
   have hfin2:=hfin (.inl rfl)
   simp only[↓xP,xT,rL,rB,rA,rS,rdx2,ZMH,hs0,ho,hs1,hs2,hs3,hs8,hs9,hgt]
   exact ih (i+1) _ (by omega) (by and_intros<;>first|omega|rfl|(simp only[↓xP,xT,rL,rB,rA,rS,hs0,ho,hs1,hs2,hs3,hs8,hw,hfin2]<;>first|done|rfl|omega))
  | succ k=>
   have hgt:(((k+1:Nat):Int) > 0)=True:=by simp
   have hp:=ZJC (i:=k) (by omega)
   have hkn:k+1<n:=by omega
   have hkn':k<n:=by omega
   obtain ⟨⟨yn,⟨ylo,yhi⟩⟩,hyp⟩:∃ a,p[k]?=some a:=⟨_,List.getElem?_eq_getElem (by omega)⟩
   have hy:(midR p r ⟨xn,⟨xlo,xhi⟩⟩ (k+1))[k]?=some ⟨yn,⟨ylo,yhi⟩⟩:=by rw [ZNb (by omega)]; exact hyp
   have hsw:((midR p r ⟨xn,⟨xlo,xhi⟩⟩ (k+1)).map Route.u).set (k+1) [.int .i64 yn,.str ylo,.str yhi]=((midR p r ⟨xn,⟨xlo,xhi⟩⟩ (k+1)).set (k+1) ⟨yn,⟨ylo,yhi⟩⟩).map Route.u:=by rw [List.map_set]; rfl
   have hsw2:(((midR p r ⟨xn,⟨xlo,xhi⟩⟩ (k+1)).set (k+1) ⟨yn,⟨ylo,yhi⟩⟩).map Route.u).set k [.int .i64 xn,.str xlo,.str xhi]=(midR p r ⟨xn,⟨xlo,xhi⟩⟩ k).map Route.u:=by
    have h3:=congrArg (List.map Route.u) (ZMo (r:=r) (x:=⟨xn,⟨xlo,xhi⟩⟩) hyp)
    rw [List.map_set] at h3; exact h3
   have hgk:(((midR p r ⟨xn,⟨xlo,xhi⟩⟩ (k+1)).map Route.u).set (k+1) [.int .i64 yn,.str ylo,.str yhi])[k]?=some [.int .i64 yn,.str ylo,.str yhi]:=by
    rw [List.getElem?_set_ne (by omega),List.getElem?_map,hy]; rfl
   rw [←hsw] at hsw2
   have hlen1:(midR p r ⟨xn,⟨xlo,xhi⟩⟩ (k+1)).length=n:=by omega
   have hlen2:((midR p r ⟨xn,⟨xlo,xhi⟩⟩ (k+1)).set (k+1) ⟨yn,⟨ylo,yhi⟩⟩).length=n:=by rw [List.length_set]; exact hlen1
   simp only[↓xP,xT,rL,rB,rA,rS,rdx2,ZMH,hs0,ho,hs1,hs2,hs3,hs8,hs9,hgt,hp,hxm,hy,Route.u,ZMQ,hkn,hkn',hgk,List.length_map,ZMU]
   refine ZiE (fun h=>?_) (fun h=>?_)
   ·have hlt:ZaZ xlo ylo=true:=by simpa using h
    have hdk:∀ q,q∈p.drop k→rle q ⟨xn,⟨xlo,xhi⟩⟩=false:=by
     intro q hq
     rw [ZE hyp] at hq
     rcases List.mem_cons.1 hq with rfl|hq
     ·simp [rle,hlt]
     ·exact hdr q hq
    exact ih2 k _ (by omega) ⟨by omega,hdk,(by and_intros<;>first|omega|rfl|(simp only[↓xP,xT,rL,rB,rA,rS,hs0,ho,hs1,hs2,hs3,hs8,hp,hsw2]<;>first|done|rfl|omega))⟩
   ·have hlt:ZaZ xlo ylo=false:=by simpa using h
    have hfin2:=hfin (.inr ⟨_,hyp,by simp [rle,hlt]⟩)
    exact ih (i+1) _ (by omega) (by and_intros<;>first|omega|rfl|(simp only[↓xP,xT,rL,rB,rA,rS,hs0,ho,hs1,hs2,hs3,hs8,hw,hfin2]<;>first|done|rfl|omega))
 ·have e1:l.take i=l:=List.take_of_length_le (by omega)
  have e2:l.drop i=[]:=List.drop_of_length_le (by omega)
  rw [e1,e2,List.append_nil] at ho
  simp only[↓xP,xT,rL,rB,rA,rS,hs0,ho,hs1,hs2,hs3,hs8,hi]
def Z8:List Shard→Nat→List Route
 | [],_=>[]
 | s::l,i=>if s.live=true then ⟨(i:Int),s.group.base.span⟩::Z8 l (i+1) else Z8 l (i+1)
theorem ZJ7:∀ (a b:List Shard) (i:Nat),Z8 (a++b) i=Z8 a i++Z8 b (i+a.length)
 | [],b,i=>by simp [Z8]
 | s::a,b,i=>by
  have h:=ZJ7 a b (i+1)
  have e:i+1+a.length=i + (s::a).length:=by simp only[List.length_cons]; omega
  rw [e] at h
  simp only[List.cons_append,Z8,h]
  split<;>rfl
theorem ZGg:∀ (a:List Shard) (i:Nat),(Z8 a i).length≤a.length
 | [],i=>by simp [Z8]
 | s::a,i=>by
  have h:=ZGg a (i+1)
  simp only[Z8]; split<;>simp only[List.length_cons]<;>omega
theorem ZJo {l:List Shard} {i:Nat} {s:Shard} (h:l[i]?=some s):Z8 (l.take (i+1)) 0=Z8 (l.take i) 0++(if s.live=true then [⟨(i:Int),s.group.base.span⟩] else []):=by
 have hi:=(List.getElem?_eq_some_iff.1 h).1
 have hl:(l.take i).length=i:=by rw [List.length_take]; omega
 rw [List.take_add_one,h,Option.toList_some,ZJ7,hl]
 simp [Z8]
def ZC (l:List Shard):List Route:=Z9 (Z8 l 0)
theorem ZMq (l:List Route) (n:Nat) (hn:n=l.length) (h8:l.length≤8):EE F 209 [.sc (.own (.par 0) n),I n,.sc (.u (.fn 146 []))] [.row 3 (l.map Route.u)]=some ⟨[],[],[.row 3 ((Z9 l).map Route.u)]⟩:=by
 refine (EE_run (fn:=i209) (by kernel_rfl) rfl).trans ?_
 simp only[i209,b209,ZdN,ZcQ,List.length_cons,List.length_nil]
 have hs:=ZM2 l n hn h8
 have h20:((20:Int)≤(n:Int))=False:=by simp; omega
 have h20':((20:Int)<(n:Int))=False:=by simp; omega
 simp only[↓xP,xT,rL,rB,rA,rS]
 refine Zjc (fun (_:Unit) st=>st.s 0=.t (.sc (.own (.par 0) n))∧st.o (.par 0)=some (.row 3 (l.map Route.u))∧st.s 1=DI n∧st.s 2=DU (.fn 146 [])∧st.s 6=DI 20∧st.s 7=DI 0∧st.s 8=DI 20) (fun _=>0) (fun _=>some ⟨[],[],[.row 3 ((Z9 l).map Route.u)]⟩) ?_ () (by and_intros<;>first|omega|rfl|(simp only[↓xP,xT,rL,rB,rA,rS]<;>first|done|rfl|omega))
 rintro _ st ⟨h0,ho,h1,h2,h6,h7,h8'⟩ _
 simp only[↓xP,xT,rL,rB,rA,rS,h0,ho,h1,h2,h6,h7,h8',h20,hs,ZF5,Nat.le_refl,List.length_map]
 refine Zjc (fun (_:Unit) st=>st.o (.par 0)=some (.row 3 ((Z9 l).map Route.u))∧st.s 1=DI n∧st.s 6=DI 20) (fun _=>0) (fun _=>some ⟨[],[],[.row 3 ((Z9 l).map Route.u)]⟩) ?_ () (by and_intros<;>first|omega|rfl|(simp only[↓xP,xT,rL,rB,rA,rS,h1,h6]<;>first|done|rfl|omega))
 rintro _ st ⟨ho,h1,h6⟩ _
 simp only[↓xP,xT,rL,rB,rA,rS,ho,h1,h6,h20']
theorem ZJR (l:List Route) (n:Nat) (hn:n=l.length) (h8:l.length≤8):EE F 145 [.sc (.own (.par 0) n),.sc (.u (.fn 146 []))] [.row 3 (l.map Route.u)]=some ⟨[],[],[.row 3 ((Z9 l).map Route.u)]⟩:=by
 refine (EE_run (fn:=i145) (by kernel_rfl) rfl).trans ?_
 simp only[i145,b145,ZdN,ZcQ,List.length_cons,List.length_nil]
 have hs:=ZMq l n hn h8
 simp only[↓xP,xT,rL,rB,rA,rS,hs,ZF5,Nat.le_refl,List.length_map]
def ZFm (l:List Shard):Option Ret:=some ⟨[.sc (.own (.par 0) (ZC l).length)],[.row 3 ((ZC l).map Route.u)],[]⟩
theorem ZHa (c0:List Shard) (c1:List Caller) (c2:List Result) (c3 c4 c5:Int) (c6:Str) (c7 c8 c9 c10 c11:Int) (h8:c0.length≤8):EE F 79 [.ag [.u (.sl 14 (c0.map Shard.u)),.u (.sl 8 (c1.map Caller.u)),.u (.sl 9 (c2.map Result.u)),.u (.int .i64 c3),.u (.int .i64 c4),.u (.int .i64 c5),.u (.str c6),.u (.int .i64 c7),.u (.int .i64 c8),.u (.int .i64 c9),.u (.int .i64 c10),.u (.int .i64 c11)]] []=ZFm c0:=by
 rw [R79,b79]
 simp only[↓xP,xT,rL,rB,rA,rS]
 refine Zjc (fun (i:Nat) st=>i≤c0.length∧st.s 3=.t (.sc (.own (.loc 3 0) (Z8 (c0.take i) 0).length))∧st.o (.loc 3 0)=some (.row 3 ((Z8 (c0.take i) 0).map Route.u))∧st.s 7=DU (.sl 14 (c0.map Shard.u))∧st.s 8=DI c0.length∧st.s 9=DI i) (fun i=>c0.length - i) (fun _=>ZFm c0) ?_ 0 (by and_intros<;>first|omega|rfl|(simp only[↓xP,xT,rL,rB,rA,rS]<;>first|done|rfl|omega))
 rintro i st ⟨hle,h3,ho,h7,h8',h9⟩ ih
 by_cases hi:i<c0.length
 ·obtain ⟨⟨live,⟨⟨⟨lo,up⟩,prs,kn,sld,cut⟩,⟨ep,ms,fr⟩,nds,ups,bag,ans⟩⟩,hx⟩:∃ x,c0[i]?=some x:=⟨_,List.getElem?_eq_getElem hi⟩
  have hw:=w_succ (i:=i) (by omega)
  have hst:=ZJo hx
  have hll:=ZGg (c0.take i) 0
  have hlt:(c0.take i).length=i:=by rw [List.length_take]; omega
  obtain ⟨q1,q2⟩:=ZP (n:=(Z8 (c0.take i) 0).length+1) (k:=40) (by omega) (by omega)
  cases live
  ·simp only[Bool.false_eq_true,if_false,List.append_nil] at hst
   simp only[↓xP,xT,rL,rB,rA,rS,h3,ho,h7,h8',h9,hi,hx,hw,Shard.u]
   rw [ih (i+1) _ (by omega) (by and_intros<;>first|omega|rfl|(simp only[↓xP,xT,rL,rB,rA,rS,h3,ho,h7,h8',hst]<;>first|done|rfl|omega))]
  ·simp only[if_true] at hst
   simp only[↓xP,xT,rL,rB,rA,rS,h3,ho,h7,h8',h9,hi,hx,hw,Shard.u,List.length_map,q1,q2]
   have hm:(Z8 (c0.take i) 0).map Route.u++[[.int .i64 (i:Int),.str lo,.str up]]=(Z8 (c0.take (i+1)) 0).map Route.u:=by rw [hst]; simp [Route.u]
   have hln:(Z8 (c0.take i) 0).length+1=(Z8 (c0.take (i+1)) 0).length:=by rw [hst]; simp
   rw [ih (i+1) _ (by omega) (by and_intros<;>first|omega|rfl|(simp only[↓xP,xT,rL,rB,rA,rS,h3,ho,h7,h8',hm,hln]<;>first|done|rfl|omega))]
 ·obtain rfl:i=c0.length:=by omega
  rw [List.take_length] at h3 ho
  have hll:=ZGg c0 0
  have hs:=ZJR (Z8 c0 0) _ rfl (by omega)
  have hsl:=ZF5 (Z8 c0 0)
  simp only[↓xP,xT,rL,rB,rA,rS,h3,ho,h7,h8',h9,hi,hs,List.length_map,hsl,Nat.le_refl,ZFm,ZC]
theorem ZLE (l:List Route) (x:Route):Z9 (l++[x])=insL (Z9 l) x:=by simp [Z9]
def swid:Bool→Id
 | false=>.loc 8 0
 | true=>.loc 33 0
theorem ZMR {l:List Route} {j:Nat} {x:Route} (hj:j≤l.length) (ha:∀ q,q∈l.take j→rle q x=true) (hb:∀ q,l[j]?=some q→rle q x=false):l.take j++x::l.drop j=insL l x:=by
 have:=ZL1 (a:=l.take j) (b:=l.drop j) (x:=x) ha (fun q hq=>hb q (by rw [List.head?_drop] at hq; exact hq))
 rw [List.take_append_drop] at this
 exact this.symm
theorem ZIg (c0:List Shard) (c1:List Caller) (c2:List Result) (c3 c4 c5:Int) (c6:Str) (c7 c8 c9 c10 c11:Int) (h8:c0.length≤8):EE F 82 [.ag [.u (.sl 14 (c0.map Shard.u)),.u (.sl 8 (c1.map Caller.u)),.u (.sl 9 (c2.map Result.u)),.u (.int .i64 c3),.u (.int .i64 c4),.u (.int .i64 c5),.u (.str c6),.u (.int .i64 c7),.u (.int .i64 c8),.u (.int .i64 c9),.u (.int .i64 c10),.u (.int .i64 c11)]] []=ZFm c0:=by
 rw [R82,b82]
 simp only[↓xP,xT,rL,rB,rA,rS]
 refine Zjc (fun (a:Nat×Bool) st=>a.1≤c0.length∧(a.2=false→Z9 (Z8 (c0.take a.1) 0)=[])∧st.s 1=.t (.sc (.ptr (.loc 1 0) 0 0))∧st.o (.loc 1 0)=some (.box [.u (.sl 14 (c0.map Shard.u)),.u (.sl 8 (c1.map Caller.u)),.u (.sl 9 (c2.map Result.u)),.u (.int .i64 c3),.u (.int .i64 c4),.u (.int .i64 c5),.u (.str c6),.u (.int .i64 c7),.u (.int .i64 c8),.u (.int .i64 c9),.u (.int .i64 c10),.u (.int .i64 c11)])∧st.s 3=.t (.sc (.own (swid a.2) (Z9 (Z8 (c0.take a.1) 0)).length))∧st.o (swid a.2)=some (.row 3 ((Z9 (Z8 (c0.take a.1) 0)).map Route.u))∧st.s 4=DI a.1) (fun a=>c0.length - a.1) (fun _=>ZFm c0) ?_ (0,false) ⟨by omega,fun _=>rfl,(by and_intros<;>first|omega|rfl|(simp only[↓xP,xT,rL,rB,rA,rS]<;>first|done|rfl|omega))⟩
 rintro ⟨i,b⟩ st ⟨hle,hb,h1,hbx,h3,ho,h4⟩ ih
 dsimp only at *
 by_cases hi:i<c0.length
 ·obtain ⟨⟨live,⟨⟨⟨lo,up⟩,prs,kn,sld,cut⟩,⟨ep,ms,fr⟩,nds,ups,bag,ans⟩⟩,hx⟩:∃ x,c0[i]?=some x:=⟨_,List.getElem?_eq_getElem hi⟩
  have hw:=w_succ (i:=i) (by omega)
  have hst:=ZJo hx
  have hll:=ZGg (c0.take i) 0
  have hlt:(c0.take i).length=i:=by rw [List.length_take]; omega
  have hsl:=ZF5 (Z8 (c0.take i) 0)
  cases live
  ·simp only[Bool.false_eq_true,if_false,List.append_nil] at hst
   rw [←hst] at hb h3 ho
   cases b<;>simp only[swid] at h3 ho<;>simp only[↓xP,xT,rL,rB,rA,rS,h1,hbx,h3,ho,h4,hi,hx,hw,Shard.u]
   ·exact ih (i+1,false) _ (by dsimp only; omega) ⟨by dsimp only; omega,hb,(by and_intros<;>first|omega|rfl|(simp only[↓xP,xT,rL,rB,rA,rS,h1,hbx,h3,ho,swid]<;>first|done|rfl|omega))⟩
   ·exact ih (i+1,true) _ (by dsimp only; omega) ⟨by dsimp only; omega,hb,(by and_intros<;>first|omega|rfl|(simp only[↓xP,xT,rL,rB,rA,rS,h1,hbx,h3,ho,swid]<;>first|done|rfl|omega))⟩
  ·simp only[if_true] at hst
   have hso:Z9 (Z8 (c0.take (i+1)) 0)=insL (Z9 (Z8 (c0.take i) 0)) ⟨(i:Int),⟨lo,up⟩⟩:=by rw [hst,ZLE]
   obtain ⟨o,hoo⟩:∃ o,o=Z9 (Z8 (c0.take i) 0):=⟨_,rfl⟩
   rw [←hoo] at hb h3 ho hso hsl
   obtain ⟨q1,q2⟩:=ZP (n:=o.length+1) (k:=40) (by omega) (by omega)
   cases b
   ·have ho0:o=[]:=hb rfl
    subst ho0
    simp only[swid,List.length_nil,List.map_nil] at h3 ho
    simp only[↓xP,xT,rL,rB,rA,rS,h1,hbx,h3,ho,h4,hi,hx,hw,Shard.u]
    refine Zjc (fun (_:Unit) st=>st.s 1=.t (.sc (.ptr (.loc 1 0) 0 0))∧st.o (.loc 1 0)=some (.box [.u (.sl 14 (c0.map Shard.u)),.u (.sl 8 (c1.map Caller.u)),.u (.sl 9 (c2.map Result.u)),.u (.int .i64 c3),.u (.int .i64 c4),.u (.int .i64 c5),.u (.str c6),.u (.int .i64 c7),.u (.int .i64 c8),.u (.int .i64 c9),.u (.int .i64 c10),.u (.int .i64 c11)])∧st.s 4=DI i∧st.s 5=.t (.sc (.ptr (.loc 5 0) 0 0))∧st.o (.loc 5 0)=some (.box [.u (.int .i64 (i:Int)),.u (.str lo),.u (.str up)])∧st.s 6=.t (.sc (.own (.loc 33 0) 0))∧st.o (.loc 33 0)=some (.row 3 [])∧st.s 7=DI 0∧st.s 3=.t (.sc (.own (.loc 8 0) 0))∧st.o (.loc 8 0)=some (.row 3 [])) (fun _=>0) (fun _=>ZFm c0) ?_ () (by and_intros<;>first|omega|rfl|(simp only[↓xP,xT,rL,rB,rA,rS,h1,hbx,h3,ho,h4]<;>first|done|rfl|omega))
    clear h1 hbx h3 ho h4
    rintro _ st ⟨h1,hbx,h4,h5,hb5,h6,hb6,h7,h3,ho⟩ _
    have hc1:vcut 0 none (some (DI 0))=some (0,0):=by decide
    have hc2:vcut 0 (some (DI 0)) none=some (0,0):=by decide
    have z1:0≤maxLen:=Nat.zero_le _
    have z2:0*40≤140737488355328:=by omega
    have z3:1≤maxLen:=by simp [maxLen]
    have z4:1*40≤140737488355328:=by omega
    have hz:((0:Int)<((0:Nat):Int))=False:=by simp
    simp only[↓xP,xT,rL,rB,rA,rS,rdx2,h1,hbx,h4,h5,hb5,h6,hb6,h7,h3,ho,hz,hc1,hc2,z1,z2,z3,z4,List.length_nil,List.length_cons,Nat.zero_add,Nat.add_zero,List.nil_append,List.append_nil]
    have hrow : [[U.int .i64 (i:Int),.str lo,.str up]]=(Z9 (Z8 (c0.take (i+1)) 0)).map Route.u:=by rw [hso]; rfl
    have hlen2:1=(Z9 (Z8 (c0.take (i+1)) 0)).length:=by rw [hso]; rfl
    exact ih (i+1,true) _ (by dsimp only; omega) ⟨by dsimp only; omega,(fun h=>by cases h),(by and_intros<;>first|omega|rfl|(simp only[↓xP,xT,rL,rB,rA,rS,h1,hbx,hw,swid,hrow,←hlen2]<;>first|done|rfl|omega))⟩
   ·simp only[swid] at h3 ho
    simp only[↓xP,xT,rL,rB,rA,rS,h1,hbx,h3,ho,h4,hi,hx,hw,Shard.u]
    refine Zjc (fun (j:Nat) st=>j≤o.length∧(∀ q,q∈o.take j→rle q ⟨(i:Int),⟨lo,up⟩⟩=true)∧st.s 1=.t (.sc (.ptr (.loc 1 0) 0 0))∧st.o (.loc 1 0)=some (.box [.u (.sl 14 (c0.map Shard.u)),.u (.sl 8 (c1.map Caller.u)),.u (.sl 9 (c2.map Result.u)),.u (.int .i64 c3),.u (.int .i64 c4),.u (.int .i64 c5),.u (.str c6),.u (.int .i64 c7),.u (.int .i64 c8),.u (.int .i64 c9),.u (.int .i64 c10),.u (.int .i64 c11)])∧st.s 4=DI i∧st.s 5=.t (.sc (.ptr (.loc 5 0) 0 0))∧st.o (.loc 5 0)=some (.box [.u (.int .i64 (i:Int)),.u (.str lo),.u (.str up)])∧st.s 6=.t (.sc (.own (.loc 33 0) 0))∧st.o (.loc 33 0)=some (.row 3 [])∧st.s 7=DI j∧st.s 3=DU (.sl 3 (o.map Route.u))) (fun j=>o.length - j) (fun _=>ZFm c0) ?_ 0 ⟨by omega,(by intro q hq; simp at hq),(by and_intros<;>first|omega|rfl|(simp only[↓xP,xT,rL,rB,rA,rS,h1,hbx,h3,ho,h4]<;>first|done|rfl|omega))⟩
    clear h1 hbx h3 ho h4
    rintro j st ⟨hj,hta,h1,hbx,h4,h5,hb5,h6,hb6,h7,h3⟩ ih2
    have hdone:(∀ q,o[j]?=some q→rle q ⟨(i:Int),⟨lo,up⟩⟩=false)→o.take j++⟨(i:Int),⟨lo,up⟩⟩::o.drop j=insL o ⟨(i:Int),⟨lo,up⟩⟩:=fun h=>ZMR hj hta h
    have hc1:vcut o.length none (some (DI (j:Int)))=some (0,j):=ZH2 (by omega)
    have hc2:vcut o.length (some (DI (j:Int))) none=some (j,o.length):=ZHB (by omega)
    obtain ⟨m1,m2⟩:=ZP (n:=j) (k:=40) (by omega) (by omega)
    obtain ⟨m3,m4⟩:=ZP (n:=j+1) (k:=40) (by omega) (by omega)
    obtain ⟨m5,m6⟩:=ZP (n:=j+1 + (o.length - j)) (k:=40) (by omega) (by omega)
    have ht1:(List.take j (o.map Route.u)).length=j:=by rw [List.length_take,List.length_map]; omega
    have ht2:(List.drop j (o.map Route.u)).length=o.length - j:=by rw [List.length_drop,List.length_map]
    by_cases hjo:j<o.length
    ·obtain ⟨⟨qn,⟨qlo,qup⟩⟩,hq⟩:∃ x,o[j]?=some x:=⟨_,List.getElem?_eq_getElem hjo⟩
     have hw2:=w_succ (i:=j) (by omega)
     cases hr:ZaZ lo qlo
     ·simp only[↓xP,xT,rL,rB,rA,rS,rdx2,h1,hbx,h4,h5,hb5,h6,hb6,h7,h3,hjo,hq,hw2,Route.u,ZIB,hr]
      have hta':∀ q,q∈o.take (j+1)→rle q ⟨(i:Int),⟨lo,up⟩⟩=true:=by
       intro q hq2
       rw [List.take_add_one,hq] at hq2
       rcases List.mem_append.1 hq2 with hq2|hq2
       ·exact hta q hq2
       ·simp at hq2; subst hq2; simp [rle,hr]
      exact ih2 (j+1) _ (by omega) ⟨by omega,hta',(by and_intros<;>first|omega|rfl|(simp only[↓xP,xT,rL,rB,rA,rS,h1,hbx,h4,h5,hb5,h6,hb6,h3,hw2]<;>first|done|rfl|omega))⟩
     ·simp only[↓xP,xT,rL,rB,rA,rS,rdx2,h1,hbx,h4,h5,hb5,h6,hb6,h7,h3,hjo,hq,hw2,Route.u,ZIB,hr,hc1,hc2,List.length_map,m1,m2,m3,m4,m5,m6,ht1,ht2,Nat.zero_add,List.nil_append,List.length_append,List.length_cons,List.length_nil,List.drop_zero]
      have hrow:List.take j (o.map Route.u)++[[U.int .i64 (i:Int),.str lo,.str up]]++List.drop j (o.map Route.u)=(Z9 (Z8 (c0.take (i+1)) 0)).map Route.u:=by
       rw [hso,←hdone (fun q hq2=>by rw [hq] at hq2; cases hq2; simp [rle,hr])]; simp [Route.u]
      have hlen2:j+1 + (o.length - j)=(Z9 (Z8 (c0.take (i+1)) 0)).length:=by rw [hso,ZJk]; omega
      exact ih (i+1,true) _ (by dsimp only; omega) ⟨by dsimp only; omega,(fun h=>by cases h),(by and_intros<;>first|omega|rfl|(simp only[↓xP,xT,rL,rB,rA,rS,h1,hbx,hw,swid,hrow,hlen2]<;>first|done|rfl|omega))⟩
    ·simp only[↓xP,xT,rL,rB,rA,rS,rdx2,h1,hbx,h4,h5,hb5,h6,hb6,h7,h3,hjo,hc1,hc2,List.length_map,m1,m2,m3,m4,m5,m6,ht1,ht2,Nat.zero_add,List.nil_append,List.length_append,List.length_cons,List.length_nil,List.drop_zero]
     have hrow:List.take j (o.map Route.u)++[[U.int .i64 (i:Int),.str lo,.str up]]++List.drop j (o.map Route.u)=(Z9 (Z8 (c0.take (i+1)) 0)).map Route.u:=by
      rw [hso,←hdone (fun q hq2=>by rw [List.getElem?_eq_none (by omega)] at hq2; cases hq2)]; simp [Route.u]
     have hlen2:j+1 + (o.length - j)=(Z9 (Z8 (c0.take (i+1)) 0)).length:=by rw [hso,ZJk]; omega
     exact ih (i+1,true) _ (by dsimp only; omega) ⟨by dsimp only; omega,(fun h=>by cases h),(by and_intros<;>first|omega|rfl|(simp only[↓xP,xT,rL,rB,rA,rS,h1,hbx,hw,swid,hrow,hlen2]<;>first|done|rfl|omega))⟩
 ·obtain rfl:i=c0.length:=by omega
  rw [List.take_length] at h3 ho
  cases b<;>simp only[swid] at h3 ho<;>simp only[↓xP,xT,rL,rB,rA,rS,h1,hbx,h3,ho,h4,hi,ZFm,ZC,List.length_map]
def ZGj (p:Plan):Bool:=decide (p.kind=0)&&decide (p.first=0)&&decide (p.second=0)&&decide (p.key=[])&&decide (p.from_=0)&&decide (p.to_=0)&&decide (p.step=0)
def ZHc (p:Plan) (n:Nat):Bool:=ZGj p||(ZFr p&&decide (p.first<n)&&decide (p.second<n))
theorem ZLz (k f s:Int) (key:Str) (a b c:Int) (n:Nat):EE F 116 [.ag [.u (.int .i64 k),.u (.int .i64 f),.u (.int .i64 s),.u (.str key),.u (.int .i64 a),.u (.int .i64 b),.u (.int .i64 c)],I n] []=ok1 (B (ZHc ⟨k,f,s,key,a,b,c⟩ n)):=by
 rw [R116,b116]
 simp only[↓xP,xT,rL,rB,rA,rS,ZJv]
 repeat' (refine ZiE (fun h=>?_) (fun h=>?_))
 all_goals first|(simp_all [ZHc,ZGj]; done)|(simp_all [ZHc,ZGj]; grind)|skip
theorem ZMi (l m:List Bool) (hn:l.length≤1048576):EE F 125 [L 1 (l.map bU),L 1 (m.map bU)] []=ok1 (B (decide (l=m))):=by
 rw [R125,b125]
 by_cases hl:l.length=m.length
 ·have hl':((l.length:Int)=(m.length:Int))=True:=by simp; omega
  simp only[↓xP,xT,rL,rB,rA,rS,List.length_map,ne_eq,hl',not_true_eq_false]
  refine (Zjc (fun (i:Nat) st=>st.s 0=DU (.sl 1 (l.map bU))∧st.s 1=DU (.sl 1 (m.map bU))∧st.s 11=DU (.sl 1 (l.map bU))∧st.s 12=DI l.length∧st.s 13=DI i) (fun i=>l.length - i) (fun i=>ok1 (B (decide (l.drop i=m.drop i)))) ?_ 0 (by and_intros<;>first|omega|rfl|(simp only[↓xP,xT,rL,rB,rA,rS]<;>first|done|rfl|omega))).trans (by simp)
  rintro i st ⟨h0,h1,h11,h12,h13⟩ ih
  by_cases hi:i<l.length
  ·obtain ⟨x,hx⟩:∃ x,l[i]?=some x:=⟨_,List.getElem?_eq_getElem hi⟩
   obtain ⟨y,hy⟩:∃ x,m[i]?=some x:=⟨_,List.getElem?_eq_getElem (by omega)⟩
   have hi2:i<m.length:=by omega
   have hw:=w_succ (i:=i) (by omega)
   rw [ZE hx,ZE hy]
   by_cases e:x=y
   ·subst e
    simp only[↓xP,xT,rL,rB,rA,rS,rdx2,h0,h1,h11,h12,h13,hi,hi2,hx,hy,hw,bU]
    rw [ih (i+1) _ (by omega) (by and_intros<;>first|omega|rfl|(simp only[↓xP,xT,rL,rB,rA,rS,h0,h1,h11,h12]<;>first|done|rfl|omega))]
    simp
   ·have hb:(x==y)=false:=by simpa using e
    simp only[↓xP,xT,rL,rB,rA,rS,rdx2,h0,h1,h11,h12,h13,hi,hi2,hx,hy,hw,bU,hb]
    simp [e]
  ·simp only[↓xP,xT,rL,rB,rA,rS,h0,h1,h11,h12,h13,hi]
   rw [List.drop_of_length_le (by omega),List.drop_of_length_le (by omega)]; rfl
 ·have hl':((l.length:Int)=(m.length:Int))=False:=by simp; omega
  have:¬l=m:=fun e=>hl (by rw [e])
  simp only[↓xP,xT,rL,rB,rA,rS,List.length_map,ne_eq,hl',not_false_eq_true]
  simp [this]
def ZFG (c:Caller):Bool:=decide (c.cache.length=0)&&decide (c.seq=0)
def upOf (l:List Shard):List Bool:=match l with
 | []=>[]
 | s::_=>s.group.up
def ZFX (l:List Caller):Bool:=match l with
 | []=>false
 | c::_=>ZFG c
def ZGs (u:List Bool) (s:Shard):Bool:=ZF s.group&&decide (s.group.up=u)
def ZFI (x:Cluster):Bool:=decide (1≤x.shards.length)&&decide (x.shards.length≤8)&&decide (x.clients.length=4)&&decide (x.results.length≤40)
def ZGy (x:Cluster):Bool:=Z4 (ZC x.shards)&&ZFX x.clients&&inR x.turn 0 999&&inR x.clock 0 200
def ZB (x:Cluster):Bool:=ZFI x&&x.shards.all (ZGs (upOf x.shards))&&x.clients.all ZJ&&x.results.all ZO&&ZHc x.work x.shards.length&&ZGy x
theorem ZJL {c:Caller} (h:ZJ c=true):(decide (c.cache.length=0)&&decide (c.seq=0)&&!c.busy&&ZF3 c.wish&&decide (c.called=0))=ZFG c:=by
 obtain ⟨l,s,bz,w,cd⟩:=c
 simp only[ZJ,Bool.and_eq_true] at h
 obtain ⟨_,h⟩:=h
 cases bz
 ·simp only[Bool.false_eq_true,if_false,Bool.and_eq_true] at h
  simp [ZFG,h.1,h.2]
 ·simp only[if_true,Bool.and_eq_true,decide_eq_true_eq] at h
  have:¬s=0:=by have:=h.1.1; omega
  simp [ZFG,this]
theorem ZMf (np pv a b rv ff t0 t9 ck:Bool):sel (!np) (sel pv (sel a (sel (!b) (ok1 (B false)) (sel rv (sel ff (sel t0 (sel t9 (ok1 (B ck)) (ok1 (B false))) (ok1 (B false))) (ok1 (B false))) (ok1 (B false)))) (ok1 (B false))) (ok1 (B false))) (sel rv (sel ff (sel t0 (sel t9 (ok1 (B ck)) (ok1 (B false))) (ok1 (B false))) (ok1 (B false))) (ok1 (B false)))=ok1 (B ((np||(pv&&a&&b))&&(rv&&ff&&(t0&&t9)&&ck))):=by
 cases np<;>cases pv<;>cases a<;>cases b<;>cases rv<;>cases ff<;>cases t0<;>cases t9<;>cases ck<;>rfl
theorem ZGZ (c0:List Shard) (c1:List Caller) (c2:List Result) (c3 c4 c5:Int) (c6:Str) (c7 c8 c9 c10 c11:Int) (hs:Cluster.Small ⟨c0,c1,c2,⟨c3,c4,c5,c6,c7,c8,c9⟩,c10,c11⟩):EE F 71 [.ag [.u (.sl 14 (c0.map Shard.u)),.u (.sl 8 (c1.map Caller.u)),.u (.sl 9 (c2.map Result.u)),.u (.int .i64 c3),.u (.int .i64 c4),.u (.int .i64 c5),.u (.str c6),.u (.int .i64 c7),.u (.int .i64 c8),.u (.int .i64 c9),.u (.int .i64 c10),.u (.int .i64 c11)]] []=ok1 (B (ZB ⟨c0,c1,c2,⟨c3,c4,c5,c6,c7,c8,c9⟩,c10,c11⟩)):=by
 obtain ⟨hsh,hcl,hrs,hwk,_⟩:=hs
 have hn0:c0.length≤1048576:=hsh.1
 have hn1:c1.length≤1048576:=hcl.1
 have hn2:c2.length≤1048576:=hrs.1
 rw [R71,b71]
 simp only[↓xP,xT,rL,rB,rA,rS,List.length_map,ne_eq]
 refine ZiE (fun h=>?_) (fun g1=>?_)
 ·have:¬1≤c0.length:=by simp at h; omega
  simp [ZB,ZFI,this]
 refine ZiE (fun h=>?_) (fun g2=>?_)
 ·have:¬c0.length≤8:=by simp at h; omega
  simp [ZB,ZFI,this]
 refine ZiE (fun h=>?_) (fun g3=>?_)
 ·have:¬c1.length=4:=by simp at h; omega
  simp [ZB,ZFI,this]
 refine ZiE (fun h=>?_) (fun g4=>?_)
 ·have:¬c2.length≤40:=by simp at h; omega
  simp [ZB,ZFI,this]
 have g1':1≤c0.length:=by simp at g1; omega
 have g2':c0.length≤8:=by simp at g2; omega
 have g3':c1.length=4:=by simp at g3; omega
 have g4':c2.length≤40:=by simp at g4; omega
 have hsz:ZFI ⟨c0,c1,c2,⟨c3,c4,c5,c6,c7,c8,c9⟩,c10,c11⟩=true:=by simp [ZFI,g1',g2',g3',g4']
 obtain ⟨fs,hf0⟩:∃ x,c0[0]?=some x:=⟨_,List.getElem?_eq_getElem (by omega)⟩
 have hup:upOf c0=fs.group.up:=by
  cases c0 with
  | nil=>simp at hf0
  | cons a l=>simp at hf0; subst hf0; rfl
 obtain ⟨flive,⟨⟨⟨flo,fup⟩,fprs,fkn,fsld,fcut⟩,⟨fep,fms,ffr⟩,fnds,fups,fbag,fans⟩⟩:=fs
 simp only at hup
 have hcv:ZB ⟨c0,c1,c2,⟨c3,c4,c5,c6,c7,c8,c9⟩,c10,c11⟩=((c0.drop 0).all (ZGs fups)&&(c1.all ZJ&&(c2.all ZO&&(ZHc ⟨c3,c4,c5,c6,c7,c8,c9⟩ c0.length&&ZGy ⟨c0,c1,c2,⟨c3,c4,c5,c6,c7,c8,c9⟩,c10,c11⟩)))):=by
  simp only[ZB,hsz,hup,Bool.true_and,Bool.and_assoc,List.drop_zero]
 rw [hcv]
 refine Zjc (fun (i:Nat) st=>st.s 1=.t (.sc (.ptr (.loc 1 0) 0 0))∧st.o (.loc 1 0)=some (.box [.u (.sl 14 (c0.map Shard.u)),.u (.sl 8 (c1.map Caller.u)),.u (.sl 9 (c2.map Result.u)),.u (.int .i64 c3),.u (.int .i64 c4),.u (.int .i64 c5),.u (.str c6),.u (.int .i64 c7),.u (.int .i64 c8),.u (.int .i64 c9),.u (.int .i64 c10),.u (.int .i64 c11)])∧st.s 32=DU (.sl 14 (c0.map Shard.u))∧st.s 33=DI c0.length∧st.s 34=DI i) (fun i=>c0.length - i) (fun i=>ok1 (B ((c0.drop i).all (ZGs fups)&&(c1.all ZJ&&(c2.all ZO&&(ZHc ⟨c3,c4,c5,c6,c7,c8,c9⟩ c0.length&&ZGy ⟨c0,c1,c2,⟨c3,c4,c5,c6,c7,c8,c9⟩,c10,c11⟩)))))) ?_ 0 (by and_intros<;>first|omega|rfl|(simp only[↓xP,xT,rL,rB,rA,rS]<;>first|done|rfl|omega))
 rintro i st ⟨h1,hb,h32,h33,h34⟩ ih
 by_cases hi:i<c0.length
 ·obtain ⟨⟨live,⟨⟨⟨lo,up⟩,prs,kn,sld,cut⟩,⟨ep,ms,fr⟩,nds,ups,bag,ans⟩⟩,hx⟩:∃ x,c0[i]?=some x:=⟨_,List.getElem?_eq_getElem hi⟩
  have hw:=w_succ (i:=i) (by omega)
  have hsx:=hsh.2 _ (List.mem_of_getElem? hx)
  have hch:=ZHw lo up prs kn sld cut ep ms fr nds ups bag ans hsx.1
  have heq:=ZMi ups fups hsx.1.2.2.2.1.1
  rw [ZE hx,List.all_cons,ZGs]
  cases q1:ZF ⟨⟨⟨lo,up⟩,prs,kn,sld,cut⟩,⟨ep,ms,fr⟩,nds,ups,bag,ans⟩
  ·simp only[↓xP,xT,rL,rB,rA,rS,rdx2,h1,hb,h32,h33,h34,hi,hx,hw,Shard.u,hch,q1]
   try simp
  ·cases q2:decide (ups=fups)
   ·simp only[↓xP,xT,rL,rB,rA,rS,rdx2,h1,hb,h32,h33,h34,hi,hx,hf0,hw,Shard.u,hch,q1,heq,q2]
    try simp
   ·simp only[↓xP,xT,rL,rB,rA,rS,rdx2,h1,hb,h32,h33,h34,hi,hx,hf0,hw,Shard.u,hch,q1,heq,q2]
    rw [ih (i+1) _ (by omega) (by and_intros<;>first|omega|rfl|(simp only[↓xP,xT,rL,rB,rA,rS,h1,hb,h32,h33,hw]<;>first|done|rfl|omega))]
    try simp
 simp only[↓xP,xT,rL,rB,rA,rS,h1,hb,h32,h33,h34,hi]
 rw [List.drop_of_length_le (by omega),List.all_nil,Bool.true_and]
 refine Zjc (fun (i:Nat) st=>st.s 1=.t (.sc (.ptr (.loc 1 0) 0 0))∧st.o (.loc 1 0)=some (.box [.u (.sl 14 (c0.map Shard.u)),.u (.sl 8 (c1.map Caller.u)),.u (.sl 9 (c2.map Result.u)),.u (.int .i64 c3),.u (.int .i64 c4),.u (.int .i64 c5),.u (.str c6),.u (.int .i64 c7),.u (.int .i64 c8),.u (.int .i64 c9),.u (.int .i64 c10),.u (.int .i64 c11)])∧st.s 57=DU (.sl 8 (c1.map Caller.u))∧st.s 58=DI c1.length∧st.s 59=DI i∧(∀ c,c∈c1.take i→ZJ c=true)) (fun i=>c1.length - i) (fun i=>ok1 (B ((c1.drop i).all ZJ&&(c2.all ZO&&(ZHc ⟨c3,c4,c5,c6,c7,c8,c9⟩ c0.length&&ZGy ⟨c0,c1,c2,⟨c3,c4,c5,c6,c7,c8,c9⟩,c10,c11⟩))))) ?_ 0 ⟨(by and_intros<;>first|omega|rfl|(simp only[↓xP,xT,rL,rB,rA,rS,h1]<;>first|done|rfl|omega)),(by and_intros<;>first|omega|rfl|(simp only[↓xP,xT,rL,rB,rA,rS,hb]<;>first|done|rfl|omega)),(by and_intros<;>first|omega|rfl|(simp only[↓xP,xT,rL,rB,rA,rS,h1,hb]<;>first|done|rfl|omega)),(by and_intros<;>first|omega|rfl|(simp only[↓xP,xT,rL,rB,rA,rS,h1,hb]<;>first|done|rfl|omega)),(by and_intros<;>first|omega|rfl|(simp only[↓xP,xT,rL,rB,rA,rS,h1,hb]<;>first|done|rfl|omega)),by simp⟩
 clear h1 hb h32 h33 h34 hi ih
 rintro i st ⟨h1,hb,h32,h33,h34,hall⟩ ih
 by_cases hi:i<c1.length
 ·obtain ⟨⟨cch,csq,cbz,⟨ck,ckey,cv,co⟩,ccd⟩,hx⟩:∃ x,c1[i]?=some x:=⟨_,List.getElem?_eq_getElem hi⟩
  have hw:=w_succ (i:=i) (by omega)
  have hsx:=hcl.2 _ (List.mem_of_getElem? hx)
  have hch:=ZIx cch csq cbz ck ckey cv co ccd hsx.1.1
  simp only[↓xP,xT,rL,rB,rA,rS,h1,hb,h32,h33,h34,hi,hx,hw,Caller.u,hch]
  rw [ZE hx,List.all_cons]
  refine ZiE (fun h=>?_) (fun q1=>?_)
  ·rw [Bool.not_eq_true'] at h; simp [h]
  rw [Bool.not_eq_false'] at q1
  have hall2:∀ c,c∈c1.take (i+1)→ZJ c=true:=by
   intro c hc
   rw [List.take_add_one,hx] at hc
   rcases List.mem_append.1 hc with hc|hc
   ·exact hall c hc
   ·simp at hc; subst hc; exact q1
  rw [ih (i+1) _ (by omega) ⟨(by and_intros<;>first|omega|rfl|(simp only[↓xP,xT,rL,rB,rA,rS,h1]<;>first|done|rfl|omega)),(by and_intros<;>first|omega|rfl|(simp only[↓xP,xT,rL,rB,rA,rS,hb]<;>first|done|rfl|omega)),(by and_intros<;>first|omega|rfl|(simp only[↓xP,xT,rL,rB,rA,rS,h32]<;>first|done|rfl|omega)),(by and_intros<;>first|omega|rfl|(simp only[↓xP,xT,rL,rB,rA,rS,h33]<;>first|done|rfl|omega)),(by and_intros<;>first|omega|rfl|(simp only[↓xP,xT,rL,rB,rA,rS,hw]<;>first|done|rfl|omega)),hall2⟩]
  simp [q1]
 simp only[↓xP,xT,rL,rB,rA,rS,h1,hb,h32,h33,h34,hi]
 rw [List.drop_of_length_le (by omega),List.all_nil,Bool.true_and]
 have hall4:∀ c,c∈c1→ZJ c=true:=by rw [List.take_of_length_le (by omega)] at hall; exact hall
 refine Zjc (fun (i:Nat) st=>st.s 1=.t (.sc (.ptr (.loc 1 0) 0 0))∧st.o (.loc 1 0)=some (.box [.u (.sl 14 (c0.map Shard.u)),.u (.sl 8 (c1.map Caller.u)),.u (.sl 9 (c2.map Result.u)),.u (.int .i64 c3),.u (.int .i64 c4),.u (.int .i64 c5),.u (.str c6),.u (.int .i64 c7),.u (.int .i64 c8),.u (.int .i64 c9),.u (.int .i64 c10),.u (.int .i64 c11)])∧st.s 68=DU (.sl 9 (c2.map Result.u))∧st.s 69=DI c2.length∧st.s 70=DI i) (fun i=>c2.length - i) (fun i=>ok1 (B ((c2.drop i).all ZO&&(ZHc ⟨c3,c4,c5,c6,c7,c8,c9⟩ c0.length&&ZGy ⟨c0,c1,c2,⟨c3,c4,c5,c6,c7,c8,c9⟩,c10,c11⟩)))) ?_ 0 (by and_intros<;>first|omega|rfl|(simp only[↓xP,xT,rL,rB,rA,rS,h1,hb]<;>first|done|rfl|omega))
 clear h1 hb h32 h33 h34 hi ih hall
 rintro i st ⟨h1,hb,h32,h33,h34⟩ ih
 by_cases hi:i<c2.length
 ·obtain ⟨⟨rc,rs,⟨rk,rkey,rv,ro⟩,rr,rcd,rrt⟩,hx⟩:∃ x,c2[i]?=some x:=⟨_,List.getElem?_eq_getElem hi⟩
  have hw:=w_succ (i:=i) (by omega)
  simp only[↓xP,xT,rL,rB,rA,rS,h1,hb,h32,h33,h34,hi,hx,hw,Result.u,ZIF]
  rw [ZE hx,List.all_cons]
  refine ZiE (fun h=>?_) (fun q1=>?_)
  ·rw [Bool.not_eq_true'] at h; simp [h]
  rw [Bool.not_eq_false'] at q1
  rw [ih (i+1) _ (by omega) (by and_intros<;>first|omega|rfl|(simp only[↓xP,xT,rL,rB,rA,rS,h1,hb,h32,h33]<;>first|done|rfl|omega))]
  simp [q1]
 simp only[↓xP,xT,rL,rB,rA,rS,h1,hb,h32,h33,h34,hi]
 rw [List.drop_of_length_le (by omega),List.all_nil,Bool.true_and]
 obtain ⟨⟨cch,csq,cbz,⟨ck,ckey,cv,co⟩,ccd⟩,hc0⟩:∃ x,c1[0]?=some x:=⟨_,List.getElem?_eq_getElem (by omega)⟩
 have hq:=hall4 _ (List.mem_of_getElem? hc0)
 have hnc:=ZK4 cch csq cbz ck ckey cv co ccd
 have hfree:=ZJL hq
 have hff:ZFX c1=ZFG ⟨cch,csq,cbz,⟨ck,ckey,cv,co⟩,ccd⟩:=by
  cases c1 with
  | nil=>simp at hc0
  | cons a l=>simp at hc0; subst hc0; rfl
 simp only at hfree
 rw [hfree,←hff] at hnc
 have hlr:=ZHa c0 c1 c2 c3 c4 c5 c6 c7 c8 c9 c10 c11 g2'
 simp only[ZFm] at hlr
 have hrl:(ZC c0).length≤1048576:=by
  have:=ZF5 (Z8 c0 0)
  have:=ZGg c0 0
  simp only[ZC]; omega
 have hrv:=ZIH (ZC c0) hrl
 have htk:List.take (ZC c0).length (List.map Route.u (ZC c0))=List.map Route.u (ZC c0):=List.take_of_length_le (by simp)
 simp only[↓xP,xT,rL,rB,rA,rS,h1,hb,hc0,Caller.u,ZJu,hlr,hrv,htk,Nat.le_refl,List.length_map,hnc,ZHu]
 have hnp:(decide (c3=0)&&(decide (c4=0)&&(decide (c5=0)&&(decide (c6=[])&&(decide (c7=0)&&(decide (c8=0)&&decide (c9=0)))))))=ZGj ⟨c3,c4,c5,c6,c7,c8,c9⟩:=by simp only[ZGj,Bool.and_assoc]
 rw [hnp]
 refine (ZMf (ZGj ⟨c3,c4,c5,c6,c7,c8,c9⟩) (ZFr ⟨c3,c4,c5,c6,c7,c8,c9⟩) (decide (c4<(c0.length:Int))) (decide (c5<(c0.length:Int))) (Z4 (ZC c0)) (ZFX c1) (decide (0≤c10)) (decide (c10≤999)) (inR c11 0 200)).trans ?_
 rfl
theorem ZJF {c:Chain} (h:ZF c=true):c.up.length=5:=by
 simp only[ZF,Bool.and_eq_true,decide_eq_true_eq] at h
 exact h.1.1.1.1.2
def ZHD (l:List Caller) (i:Nat):Bool:=if i=0 then ZFX l else true
theorem ZIb (c0:List Shard) (c1:List Caller) (c2:List Result) (c3 c4 c5:Int) (c6:Str) (c7 c8 c9 c10 c11:Int) (hs:Cluster.Small ⟨c0,c1,c2,⟨c3,c4,c5,c6,c7,c8,c9⟩,c10,c11⟩):EE F 65 [.ag [.u (.sl 14 (c0.map Shard.u)),.u (.sl 8 (c1.map Caller.u)),.u (.sl 9 (c2.map Result.u)),.u (.int .i64 c3),.u (.int .i64 c4),.u (.int .i64 c5),.u (.str c6),.u (.int .i64 c7),.u (.int .i64 c8),.u (.int .i64 c9),.u (.int .i64 c10),.u (.int .i64 c11)]] []=ok1 (B (ZB ⟨c0,c1,c2,⟨c3,c4,c5,c6,c7,c8,c9⟩,c10,c11⟩)):=by
 obtain ⟨hsh,hcl,hrs,hwk,_⟩:=hs
 have hn0:c0.length≤1048576:=hsh.1
 have hn1:c1.length≤1048576:=hcl.1
 have hn2:c2.length≤1048576:=hrs.1
 rw [R65,b65]
 simp only[↓xP,xT,rL,rB,rA,rS,List.length_map,ne_eq,ZY,ZLz]
 refine ZiE (fun h=>?_) (fun g1=>?_)
 ·have:¬(1≤c0.length∧c0.length≤8):=by simp [inR] at h; omega
  have:ZFI ⟨c0,c1,c2,⟨c3,c4,c5,c6,c7,c8,c9⟩,c10,c11⟩=false:=by
   by_cases e1:1≤c0.length
   ·have e2:¬c0.length≤8:=fun e2=>this ⟨e1,e2⟩
    simp [ZFI,e2]
   ·simp [ZFI,e1]
  simp [ZB,this]
 refine ZiE (fun h=>?_) (fun g3=>?_)
 ·have:¬c1.length=4:=by simp at h; omega
  simp [ZB,ZFI,this]
 refine ZiE (fun h=>?_) (fun g4=>?_)
 ·have:¬c2.length≤40:=by simp at h; omega
  simp [ZB,ZFI,this]
 refine ZiE (fun h=>?_) (fun g5=>?_)
 ·rw [Bool.not_eq_true'] at h; simp [ZB,h]
 refine ZiE (fun h=>?_) (fun g6=>?_)
 ·rw [Bool.not_eq_true'] at h; simp [ZB,ZGy,h]
 refine ZiE (fun h=>?_) (fun g7=>?_)
 ·rw [Bool.not_eq_true'] at h; simp [ZB,ZGy,h]
 rw [Bool.not_eq_false'] at g1 g5 g6 g7
 have g12:1≤c0.length∧c0.length≤8:=by simp [inR] at g1; omega
 have g3':c1.length=4:=by simp at g3; omega
 have g4':c2.length≤40:=by simp at g4; omega
 have hsz:ZFI ⟨c0,c1,c2,⟨c3,c4,c5,c6,c7,c8,c9⟩,c10,c11⟩=true:=by simp [ZFI,g12.1,g12.2,g3',g4']
 obtain ⟨fs,hf0⟩:∃ x,c0[0]?=some x:=⟨_,List.getElem?_eq_getElem (by omega)⟩
 have hup:upOf c0=fs.group.up:=by
  cases c0 with
  | nil=>simp at hf0
  | cons a l=>simp at hf0; subst hf0; rfl
 obtain ⟨flive,⟨⟨⟨flo,fup⟩,fprs,fkn,fsld,fcut⟩,⟨fep,fms,ffr⟩,fnds,fups,fbag,fans⟩⟩:=fs
 simp only at hup
 have hcv:ZB ⟨c0,c1,c2,⟨c3,c4,c5,c6,c7,c8,c9⟩,c10,c11⟩=((c0.drop 0).all (ZGs fups)&&(c1.all ZJ&&ZFX c1&&(c2.all ZO&&Z4 (ZC c0)))):=by
  simp only[ZB,hsz,hup,ZGy,g5,g6,g7,Bool.true_and,Bool.and_true,List.drop_zero]
  cases c0.all (ZGs fups)<;>cases c1.all ZJ<;>cases c2.all ZO<;>cases ZFX c1<;>cases Z4 (ZC c0)<;>rfl
 rw [hcv]
 refine Zjc (fun (i:Nat) st=>st.s 1=.t (.sc (.ptr (.loc 1 0) 0 0))∧st.o (.loc 1 0)=some (.box [.u (.sl 14 (c0.map Shard.u)),.u (.sl 8 (c1.map Caller.u)),.u (.sl 9 (c2.map Result.u)),.u (.int .i64 c3),.u (.int .i64 c4),.u (.int .i64 c5),.u (.str c6),.u (.int .i64 c7),.u (.int .i64 c8),.u (.int .i64 c9),.u (.int .i64 c10),.u (.int .i64 c11)])∧st.s 3=DI i∧(i=0∨fups.length=5)) (fun i=>c0.length - i) (fun i=>ok1 (B ((c0.drop i).all (ZGs fups)&&(c1.all ZJ&&ZFX c1&&(c2.all ZO&&Z4 (ZC c0)))))) ?_ 0 (by and_intros<;>first|omega|rfl|(simp only[↓xP,xT,rL,rB,rA,rS]<;>first|done|rfl|omega))
 rintro i st ⟨h1,hb,h3,hf5⟩ ih
 by_cases hi:i<c0.length
 ·obtain ⟨⟨live,⟨⟨⟨lo,up⟩,prs,kn,sld,cut⟩,⟨ep,ms,fr⟩,nds,ups,bag,ans⟩⟩,hx⟩:∃ x,c0[i]?=some x:=⟨_,List.getElem?_eq_getElem hi⟩
  have hw:=w_succ (i:=i) (by omega)
  have hsx:=hsh.2 _ (List.mem_of_getElem? hx)
  have hch:=ZGx lo up prs kn sld cut ep ms fr nds ups bag ans hsx.1
  rw [ZE hx,List.all_cons,ZGs]
  cases q1:ZF ⟨⟨⟨lo,up⟩,prs,kn,sld,cut⟩,⟨ep,ms,fr⟩,nds,ups,bag,ans⟩
  ·simp only[↓xP,xT,rL,rB,rA,rS,rdx2,h1,hb,h3,hi,hx,hw,Shard.u,hch,q1]
   try simp
  have hu5:ups.length=5:=ZJF q1
  have hfu5:fups.length=5:=by
   rcases hf5 with rfl|e
   ·rw [hf0] at hx; cases hx; exact hu5
   ·exact e
  have hd0:decide (ups=fups)=decide (ups.drop 0=fups.drop 0):=by simp
  simp only[↓xP,xT,rL,rB,rA,rS,rdx2,h1,hb,h3,hi,hx,hw,Shard.u,hch,q1]
  try rw [Bool.true_and]
  rw [hd0]
  refine Zjc (fun (j:Nat) st=>j≤5∧st.s 1=.t (.sc (.ptr (.loc 1 0) 0 0))∧st.o (.loc 1 0)=some (.box [.u (.sl 14 (c0.map Shard.u)),.u (.sl 8 (c1.map Caller.u)),.u (.sl 9 (c2.map Result.u)),.u (.int .i64 c3),.u (.int .i64 c4),.u (.int .i64 c5),.u (.str c6),.u (.int .i64 c7),.u (.int .i64 c8),.u (.int .i64 c9),.u (.int .i64 c10),.u (.int .i64 c11)])∧st.s 3=DI i∧st.s 4=DI j) (fun j=>5 - j) (fun j=>ok1 (B (decide (ups.drop j=fups.drop j)&&(c0.drop (i+1)).all (ZGs fups)&&(c1.all ZJ&&ZFX c1&&(c2.all ZO&&Z4 (ZC c0)))))) ?_ 0 (by and_intros<;>first|omega|rfl|(simp only[↓xP,xT,rL,rB,rA,rS,h1,hb,h3]<;>first|done|rfl|omega))
  clear h1 hb h3
  rintro j st ⟨hj5,h1,hb,h3,h4⟩ ih2
  by_cases hj:j<5
  ·obtain ⟨x,hxx⟩:∃ x,ups[j]?=some x:=⟨_,List.getElem?_eq_getElem (by omega)⟩
   obtain ⟨y,hyy⟩:∃ x,fups[j]?=some x:=⟨_,List.getElem?_eq_getElem (by omega)⟩
   have hw2:=w_succ (i:=j) (by omega)
   have hlt:((j:Int)<5)=True:=by simp; omega
   rw [ZE hxx,ZE hyy]
   by_cases e:x=y
   ·subst e
    simp only[↓xP,xT,rL,rB,rA,rS,rdx2,h1,hb,h3,h4,hi,hx,hf0,hxx,hyy,hw2,hlt,Shard.u,bU]
    rw [ih2 (j+1) _ (by omega) (by and_intros<;>first|omega|rfl|(simp only[↓xP,xT,rL,rB,rA,rS,h1,hb,h3,hw2]<;>first|done|rfl|omega))]
    simp
   ·have hbe:(x==y)=false:=by simpa using e
    simp only[↓xP,xT,rL,rB,rA,rS,rdx2,h1,hb,h3,h4,hi,hx,hf0,hxx,hyy,hw2,hlt,Shard.u,bU,hbe]
    simp [e]
  have hlt:((j:Int)<5)=False:=by simp; omega
  simp only[↓xP,xT,rL,rB,rA,rS,h1,hb,h3,h4,hlt]
  rw [List.drop_of_length_le (by omega),List.drop_of_length_le (by omega)]
  rw [ih (i+1) _ (by omega) ⟨(by and_intros<;>first|omega|rfl|(simp only[↓xP,xT,rL,rB,rA,rS,h1]<;>first|done|rfl|omega)),(by and_intros<;>first|omega|rfl|(simp only[↓xP,xT,rL,rB,rA,rS,hb]<;>first|done|rfl|omega)),(by and_intros<;>first|omega|rfl|(simp only[↓xP,xT,rL,rB,rA,rS,hw]<;>first|done|rfl|omega)),.inr hfu5⟩]
  simp
 simp only[↓xP,xT,rL,rB,rA,rS,h1,hb,h3,hi]
 rw [List.drop_of_length_le (by omega),List.all_nil,Bool.true_and]
 have hc10:(c1.all ZJ&&ZFX c1&&(c2.all ZO&&Z4 (ZC c0)))=((c1.drop 0).all ZJ&&ZHD c1 0&&(c2.all ZO&&Z4 (ZC c0))):=rfl
 rw [hc10]
 refine Zjc (fun (i:Nat) st=>i≤4∧st.s 1=.t (.sc (.ptr (.loc 1 0) 0 0))∧st.o (.loc 1 0)=some (.box [.u (.sl 14 (c0.map Shard.u)),.u (.sl 8 (c1.map Caller.u)),.u (.sl 9 (c2.map Result.u)),.u (.int .i64 c3),.u (.int .i64 c4),.u (.int .i64 c5),.u (.str c6),.u (.int .i64 c7),.u (.int .i64 c8),.u (.int .i64 c9),.u (.int .i64 c10),.u (.int .i64 c11)])∧st.s 5=DI i) (fun i=>4 - i) (fun i=>ok1 (B ((c1.drop i).all ZJ&&ZHD c1 i&&(c2.all ZO&&Z4 (ZC c0))))) ?_ 0 (by and_intros<;>first|omega|rfl|(simp only[↓xP,xT,rL,rB,rA,rS,h1,hb]<;>first|done|rfl|omega))
 clear h1 hb h3 hi ih
 rintro i st ⟨hi4,h1,hb,h3⟩ ih
 by_cases hi:i<4
 ·obtain ⟨⟨cch,csq,cbz,⟨ck,ckey,cv,co⟩,ccd⟩,hx⟩:∃ x,c1[i]?=some x:=⟨_,List.getElem?_eq_getElem (by omega)⟩
  have hw:=w_succ (i:=i) (by omega)
  have hlt:((i:Int)<4)=True:=by simp; omega
  have hsx:=hcl.2 _ (List.mem_of_getElem? hx)
  have hch:=ZIy cch csq cbz ck ckey cv co ccd hsx.1.1
  rw [ZE hx,List.all_cons]
  have hnext:ZHD c1 (i+1)=true:=rfl
  by_cases e0:i=0
  ·subst e0
   have hff:ZHD c1 0=ZFG ⟨cch,csq,cbz,⟨ck,ckey,cv,co⟩,ccd⟩:=by
    cases c1 with
    | nil=>simp at hx
    | cons a l=>simp at hx; subst hx; rfl
   have hz:(((0:Nat):Int)=0)=True:=by simp
   rw [hff]
   simp only[↓xP,xT,rL,rB,rA,rS,h1,hb,h3,hlt,hx,hw,hz,Caller.u,hch,ne_eq,List.length_map]
   refine ZiE (fun h=>?_) (fun q1=>?_)
   ·rw [Bool.not_eq_true'] at h; simp [h]
   rw [Bool.not_eq_false'] at q1
   refine ZiE (fun h=>?_) (fun q2=>?_)
   ·have:¬csq=0:=by simpa using h
    simp [ZFG,this]
   refine ZiE (fun h=>?_) (fun q3=>?_)
   ·have:¬cch=[]:=by intro e; subst e; simp at h
    simp [ZFG,this]
   have q2':csq=0:=by simpa using q2
   have q3':cch.length=0:=by simp at q3; simpa using q3
   rw [ih 1 _ (by omega) (by and_intros<;>first|omega|rfl|(simp only[↓xP,xT,rL,rB,rA,rS,h1,hb]<;>first|done|rfl|omega))]
   rw [q1]; simp [ZFG,q2',q3',ZHD]
  ·have hz:((i:Int)=0)=False:=by simp; omega
   simp only[↓xP,xT,rL,rB,rA,rS,h1,hb,h3,hlt,hx,hw,hz,Caller.u,hch,ne_eq,List.length_map]
   refine ZiE (fun h=>?_) (fun q1=>?_)
   ·rw [Bool.not_eq_true'] at h; simp [h]
   rw [Bool.not_eq_false'] at q1
   rw [ih (i+1) _ (by omega) (by and_intros<;>first|omega|rfl|(simp only[↓xP,xT,rL,rB,rA,rS,h1,hb]<;>first|done|rfl|omega))]
   simp [q1,ZHD,e0]
 have hlt:((i:Int)<4)=False:=by simp; omega
 have hfi:ZHD c1 i=true:=by simp only[ZHD]; rw [if_neg (by omega)]
 simp only[↓xP,xT,rL,rB,rA,rS,h1,hb,h3,hlt]
 rw [List.drop_of_length_le (by omega),List.all_nil,hfi,Bool.true_and,Bool.true_and]
 refine Zjc (fun (i:Nat) st=>st.s 1=.t (.sc (.ptr (.loc 1 0) 0 0))∧st.o (.loc 1 0)=some (.box [.u (.sl 14 (c0.map Shard.u)),.u (.sl 8 (c1.map Caller.u)),.u (.sl 9 (c2.map Result.u)),.u (.int .i64 c3),.u (.int .i64 c4),.u (.int .i64 c5),.u (.str c6),.u (.int .i64 c7),.u (.int .i64 c8),.u (.int .i64 c9),.u (.int .i64 c10),.u (.int .i64 c11)])∧st.s 6=DI i) (fun i=>c2.length - i) (fun i=>ok1 (B ((c2.drop i).all ZO&&Z4 (ZC c0)))) ?_ 0 (by and_intros<;>first|omega|rfl|(simp only[↓xP,xT,rL,rB,rA,rS,h1,hb]<;>first|done|rfl|omega))
 clear h1 hb h3 hi ih hlt hfi
 rintro i st ⟨h1,hb,h3⟩ ih
 by_cases hi:i<c2.length
 ·obtain ⟨⟨rc,rs,⟨rk,rkey,rv,ro⟩,rr,rcd,rrt⟩,hx⟩:∃ x,c2[i]?=some x:=⟨_,List.getElem?_eq_getElem hi⟩
  have hw:=w_succ (i:=i) (by omega)
  simp only[↓xP,xT,rL,rB,rA,rS,h1,hb,h3,hi,hx,hw,Result.u,ZIG]
  rw [ZE hx,List.all_cons]
  refine ZiE (fun h=>?_) (fun q1=>?_)
  ·rw [Bool.not_eq_true'] at h; simp [h]
  rw [Bool.not_eq_false'] at q1
  rw [ih (i+1) _ (by omega) (by and_intros<;>first|omega|rfl|(simp only[↓xP,xT,rL,rB,rA,rS,h1,hb]<;>first|done|rfl|omega))]
  simp [q1]
 have hlr:=ZIg c0 c1 c2 c3 c4 c5 c6 c7 c8 c9 c10 c11 g12.2
 simp only[ZFm] at hlr
 have hrl:(ZC c0).length≤1048576:=by
  have:=ZF5 (Z8 c0 0)
  have:=ZGg c0 0
  simp only[ZC]; omega
 have hrv:=ZII (ZC c0) hrl
 have htk:List.take (ZC c0).length (List.map Route.u (ZC c0))=List.map Route.u (ZC c0):=List.take_of_length_le (by simp)
 simp only[↓xP,xT,rL,rB,rA,rS,h1,hb,h3,hi,hlr,hrv,htk,Nat.le_refl,List.length_map]
 rw [List.drop_of_length_le (by omega),List.all_nil,Bool.true_and]
theorem ZH7 {c0:List Shard} {c1:List Caller} {c2:List Result} {w:Plan} {a b:Int} (h:ZB ⟨c0,c1,c2,w,a,b⟩=true) {s:Shard} (hs:s∈c0):ZF s.group=true:=by
 simp only[ZB,Bool.and_eq_true] at h
 have:=List.all_eq_true.1 h.1.1.1.1.2 s hs
 simp only[ZGs,Bool.and_eq_true] at this
 exact this.1
theorem ZGr {c0:List Shard} {c1:List Caller} {c2:List Result} {w:Plan} {a b:Int} (h:ZB ⟨c0,c1,c2,w,a,b⟩=true):c0.length≤8:=by
 simp only[ZB,ZFI,Bool.and_eq_true,decide_eq_true_eq] at h
 exact h.1.1.1.1.1.1.1.2
theorem ZMI {l:List Route} {x y:Route} (h:y∈insL l x):y=x∨y∈l:=by
 simp only[insL,List.mem_append,List.mem_cons] at h
 rcases h with h|h|h
 ·exact .inr ((List.takeWhile_sublist _).mem h)
 ·exact .inl h
 ·exact .inr ((List.dropWhile_sublist _).mem h)
theorem ZJ8:∀ (m l:List Route) (y:Route),y∈m.foldl insL l→y∈l∨y∈m
 | [],l,y,h=>.inl h
 | a :: m,l,y,h=>by
  rcases ZJ8 m (insL l a) y h with h|h
  ·rcases ZMI h with rfl|h
   ·exact .inr (by simp)
   ·exact .inl h
  ·exact .inr (by simp [h])
theorem ZIC:∀ (l:List Shard) (i:Nat) (r:Route),r∈Z8 l i→∃ (j:Nat) (s:Shard),l[j]?=some s∧r.number=((i+j:Nat):Int)∧s.live=true
 | [],i,r,h=>by simp [Z8] at h
 | s :: l,i,r,h=>by
  simp only[Z8] at h
  split at h
  ·rcases List.mem_cons.1 h with rfl|h
   ·exact ⟨0,s,rfl,by simp,by assumption⟩
   ·obtain ⟨j,s',h1,h2,h3⟩:=ZIC l (i+1) r h
    exact ⟨j+1,s',by simpa using h1,by rw [h2]; congr 1; omega,h3⟩
  ·obtain ⟨j,s',h1,h2,h3⟩:=ZIC l (i+1) r h
   exact ⟨j+1,s',by simpa using h1,by rw [h2]; congr 1; omega,h3⟩
theorem ZH4 {l:List Shard} {r:Route} (h:r∈ZC l):∃ (j:Nat) (s:Shard),l[j]?=some s∧r.number=(j:Int)∧s.live=true:=by
 rcases ZJ8 _ _ _ h with h|h
 ·cases h
 ·obtain ⟨j,s,h1,h2,h3⟩:=ZIC l 0 r h
  exact ⟨j,s,h1,by rw [h2]; simp,h3⟩
def ZFc (x:Cluster):List Route:=if ZB x=true then ZC x.shards else []
theorem ZGO (c0:List Shard) (c1:List Caller) (c2:List Result) (c3 c4 c5:Int) (c6:Str) (c7 c8 c9 c10 c11:Int) (hs:Cluster.Small ⟨c0,c1,c2,⟨c3,c4,c5,c6,c7,c8,c9⟩,c10,c11⟩):EE F 24 [.ag [.u (.sl 14 (c0.map Shard.u)),.u (.sl 8 (c1.map Caller.u)),.u (.sl 9 (c2.map Result.u)),.u (.int .i64 c3),.u (.int .i64 c4),.u (.int .i64 c5),.u (.str c6),.u (.int .i64 c7),.u (.int .i64 c8),.u (.int .i64 c9),.u (.int .i64 c10),.u (.int .i64 c11)]] []=some ⟨[.sc (.own (.par 0) (ZFc ⟨c0,c1,c2,⟨c3,c4,c5,c6,c7,c8,c9⟩,c10,c11⟩).length)],[.row 3 ((ZFc ⟨c0,c1,c2,⟨c3,c4,c5,c6,c7,c8,c9⟩,c10,c11⟩).map Route.u)],[]⟩:=by
 have hcvs:=ZIb c0 c1 c2 c3 c4 c5 c6 c7 c8 c9 c10 c11 hs
 rw [R24,b24]
 cases hv:ZB ⟨c0,c1,c2,⟨c3,c4,c5,c6,c7,c8,c9⟩,c10,c11⟩
 ·simp only[↓xP,xT,rL,rB,rA,rS,hcvs,hv]
  simp [ZFc,hv]
 ·have hlr:=ZIg c0 c1 c2 c3 c4 c5 c6 c7 c8 c9 c10 c11 (ZGr hv)
  simp only[ZFm] at hlr
  simp only[↓xP,xT,rL,rB,rA,rS,hcvs,hv,hlr,List.length_map,Nat.le_refl]
  simp [ZFc,hv]
def ZQ:Option Plan→Option Ret
 | none=>some ⟨[.ag [.u (.int .i64 0),.u (.int .i64 0),.u (.int .i64 0),.u (.str []),.u (.int .i64 0),.u (.int .i64 0),.u (.int .i64 0)],B false],[],[]⟩
 | some p=>some ⟨[.ag [.u (.int .i64 p.kind),.u (.int .i64 p.first),.u (.int .i64 p.second),.u (.str p.key),.u (.int .i64 p.from_),.u (.int .i64 p.to_),.u (.int .i64 p.step)],B true],[],[]⟩
def ZGF (a b:Option Plan):Option Plan:=match a with
 | some p=>some p
 | none=>b
def sumW {α:Type} (w:α→Nat):List α→Nat
 | []=>0
 | x::xs=>w x+sumW w xs
def Cost (g:Int→Int) (w:Nat):Prop:=∀ a,0≤a→a≤1048576→0≤g a→g a≤a∧9*g a+w≤9*a
theorem Cost.nil:Cost (fun a=>a) 0:=fun a _ _ _=>⟨Int.le_refl _,by show 9*a + ((0:Nat):Int)≤9*a; omega⟩
theorem Cost.off {n:Nat} {k:Int→Int} {w w':Nat} (hn:n≤1048576) (hw:w≤9*n+w') (hk:Cost k w'):Cost (fun a=>offZ a n k) w:=by
 intro a h0 h1 h2
 simp only[offZ] at h2 ⊢
 rw [w64 (by omega) (by omega)] at h2 ⊢
 split at h2
 ·omega
 ·rename_i hlt
  rw [if_neg hlt]
  obtain ⟨h3,h4⟩:=hk (a - n) (by omega) (by omega) h2
  omega
theorem Cost.chk {g k:Int→Int} {w w':Nat} (hg:Cost g w) (hk:Cost k w'):Cost (fun a=>chkZ (g a) k) (w+w'):=by
 intro a h0 h1 h2
 simp only[chkZ] at h2 ⊢
 split at h2
 ·omega
 ·rename_i hlt
  rw [if_neg hlt]
  obtain ⟨h3,h4⟩:=hg a h0 h1 (by omega)
  obtain ⟨h5,h6⟩:=hk (g a) (by omega) (by omega) h2
  omega
theorem Cost.all {α:Type} {g:α→Int→Int} {w:α→Nat}:∀ {l:List α},(∀ x,x∈l→Cost (g x) (w x))→Cost (allZ g l) (sumW w l)
 | [],_=>Cost.nil
 | x::xs,h=>(h x (List.mem_cons_self ..)).chk (Cost.all (l:=xs) fun y hy=>h y (List.mem_cons_of_mem _ hy))
theorem Cost.key {n:Nat} (h:n≤1048576):Cost (fun a=>offZ a n fun a=>a) 0:=Cost.off h (by omega) Cost.nil
theorem ZM8:(∀ l:List Int,Zbi (l.map iU)=true)∧(∀ l:List Bool,Zbi (l.map bU)=true)∧(∀ l:List Entry,Zbi (l.map Entry.u)=true)∧(∀ l:List Pair,Zbi (l.map Pair.u)=true)∧(∀ l:List Session,Zbi (l.map Session.u)=true)∧(∀ l:List Answer,Zbi (l.map Answer.u)=true)∧(∀ l:List Route,Zbi (l.map Route.u)=true):=
 ⟨Zjd fun _=>rfl,Zjd fun _=>rfl,Zjd fun _=>rfl,Zjd fun _=>rfl,Zjd fun _=>rfl,Zjd fun _=>rfl,Zjd fun _=>rfl⟩
theorem ZHl:(∀ i n,vlen (.t (.sc (.down i n)))=some (DI (n:Int)))∧(∀ i a b n,vlen (.t (.sc (.sub i a b n)))=some (DI (n:Int))):=⟨fun _ _=>rfl,fun _ _ _ _=>rfl⟩
theorem ZK5 {x:Cluster} (h:ZB x=true):ZGj x.work=decide (x.work.kind=0):=by
 have hw:ZHc x.work x.shards.length=true:=by simp only[ZB,Bool.and_eq_true] at h; exact h.1.2
 cases hn:ZGj x.work
 ·simp only[ZHc,hn,Bool.false_or,Bool.and_eq_true] at hw
  have hp:=hw.1.1
  by_cases hk:x.work.kind=0
  ·simp [ZFr,hk] at hp
  ·simp [hk]
 ·simp only[ZGj,Bool.and_eq_true] at hn
  rw [hn.1.1.1.1.1.1]
def insS (x:Session):List Session→List Session
 | []=>[x]
 | y::l=>if y.client<x.client then y::insS x l else if y.client=x.client then x::l else x::y::l
def ZFD (c:Int):List Session→Session
 | []=>⟨0,0,0⟩
 | y::l=>if y.client=c then y else ZFD c l
def ZFA (l:List Session) (x:Session):List Session×Bool:=if (ZI l&&ZI [x])=true then (if x.seq≤(ZFD x.client l).seq then (l,false) else (insS x l,true)) else ([],false)
def ZFw (p:List Session×Bool):Option Ret:=some ⟨[.sc (.own (.par 0) p.1.length),B p.2],[.row 3 (p.1.map Session.u)],[]⟩
theorem ZHO {l:List Session} (h:ZI l=true) {i:Nat} {p:Session} (hp:l[i]?=some p):inR p.client 0 3=true∧inR p.seq 1 999=true∧inR p.reply (-2) 999=true∧∀ q,0<i→l[i - 1]?=some q→q.client<p.client:=by
 have:=(ZFC (n:=l.length) (p:=Z1 l) _ 0 rfl).1 h i (by omega) (List.getElem?_eq_some_iff.1 hp).1
 simp only[Z1,hp,Bool.and_eq_true,Bool.or_eq_true,decide_eq_true_eq] at this
 refine ⟨this.1.1.1,this.1.1.2,this.1.2,fun q h0 hq=>?_⟩
 rw [hq] at this
 rcases this.2 with h|h
 ·omega
 ·simpa using h
theorem ZJd {l:List Session} (h:ZI l=true):∀ (j i:Nat) (p q:Session),i<j→l[i]?=some p→l[j]?=some q→p.client<q.client
 | 0,i,p,q,hij,_,_=>by omega
 | j + 1,i,p,q,hij,hp,hq=>by
  obtain ⟨r,hr⟩:∃ r,l[j]?=some r:=⟨_,List.getElem?_eq_getElem (by have:=(List.getElem?_eq_some_iff.1 hq).1; omega)⟩
  have h1:=(ZHO h hq).2.2.2 r (by omega) (by simpa using hr)
  by_cases e:i=j
  ·subst e; rw [hp] at hr; cases hr; exact h1
  ·have:=ZJd h j i p r (by omega) hp hr
   omega
def AscS:List Session→Prop
 | []=>True
 | x::l=>(∀ y,y∈l→x.client<y.client)∧AscS l
theorem ZL0:∀ (l:List Session),(∀ (i j:Nat) (p q:Session),i<j→l[i]?=some p→l[j]?=some q→p.client<q.client)→AscS l
 | [],_=>trivial
 | x::l,h=>by
  refine ⟨fun y hy=>?_,ZL0 l fun i j p q hij hp hq=>h (i+1) (j+1) p q (by omega) (by simpa using hp) (by simpa using hq)⟩
  obtain ⟨k,hk⟩:=List.getElem?_of_mem hy
  exact h 0 (k+1) x y (by omega) (by simp) (by simpa using hk)
theorem ZIp {l:List Session} (h:ZI l=true):AscS l:=ZL0 l fun i j p q=>ZJd h j i p q
/-- What the binary search says of a list. -/
theorem ZMG (x:Session):∀ (l:List Session) (i:Nat),i≤l.length→(∀ (k:Nat) p,k<i→l[k]?=some p→p.client<x.client)→(∀ q,l[i]?=some q→x.client≤q.client)→
  insS x l=(match l[i]? with
   | some q=>if q.client=x.client then rep l i 1 [x] else rep l i 0 [x]
   | none=>rep l i 0 [x])
 | [],i,hi,_,_=>by
  have:i=0:=by simpa using hi
  subst this; simp [insS,rep]
 | y::l,0,_,_,h2=>by
  have:=h2 y (by simp)
  have hn:¬y.client<x.client:=by omega
  by_cases e:y.client=x.client
  ·simp [insS,hn,e,rep]
  ·simp [insS,hn,e,rep]
 | y::l,i+1,hi,h1,h2=>by
  have hy:=h1 0 y (by omega) (by simp)
  have ih:=ZMG x l i (by simpa using hi) (fun k p hk hp=>h1 (k+1) p (by omega) (by simpa using hp)) (fun q hq=>h2 q (by simpa using hq))
  simp only[insS,hy,if_true,ih,List.getElem?_cons_succ]
  cases l[i]? with
  | none=>simp [rep]
  | some q=>by_cases e:q.client=x.client<;>simp [rep,e,Nat.add_right_comm]
theorem ZKn (c:Int):∀ (l:List Session) (i:Nat),AscS l→i≤l.length→(∀ (k:Nat) p,k<i→l[k]?=some p→p.client<c)→(∀ q,l[i]?=some q→c≤q.client)→
  ZFD c l=(match l[i]? with
   | some q=>if q.client=c then q else ⟨0,0,0⟩
   | none=>⟨0,0,0⟩)
 | [],i,_,hi,_,_=>by simp [ZFD]
 | y :: l,0,ha,_,_,h2=>by
  have hy:=h2 y (by simp)
  by_cases e:y.client=c
  ·simp [ZFD,e]
  ·have hno:∀ m:List Session,(∀ z,z∈m→c<z.client)→ZFD c m=⟨0,0,0⟩:=by
    intro m
    induction m with
    | nil=>intro _; rfl
    | cons z m ih=>
     intro hz
     have:=hz z (List.mem_cons_self ..)
     have hne:¬z.client=c:=by omega
     simp only[ZFD,hne,if_false]
     exact ih fun w hw=>hz w (List.mem_cons_of_mem _ hw)
   simp only[ZFD,e,if_false,List.getElem?_cons_zero]
   exact hno l fun z hz=>by have:=ha.1 z hz; omega
 | y::l,i+1,ha,hi,h1,h2=>by
  have hy:=h1 0 y (by omega) (by simp)
  have hne:¬y.client=c:=by omega
  have ih:=ZKn c l i ha.2 (by simpa using hi) (fun k p hk hp=>h1 (k+1) p (by omega) (by simpa using hp)) (fun q hq=>h2 q (by simpa using hq))
  simp only[ZFD,hne,if_false,ih,List.getElem?_cons_succ]
/-- What the reference's loop makes. -/
def sFin (x:Session):Bool→List Session→List Session
 | pl,[]=>if pl=true then [] else [x]
 | pl,y::l=>(if (!pl&&decide (x.client≤y.client))=true then [x] else [])++((if y.client=x.client then [] else [y])++sFin x (pl||decide (x.client≤y.client)) l)
theorem ZKf (x:Session):∀ l:List Session,(∀ y,y∈l→x.client<y.client)→sFin x true l=l
 | [],_=>rfl
 | y::l,h=>by
  have:=h y (List.mem_cons_self ..)
  have hne:¬y.client=x.client:=by omega
  simp [sFin,hne,ZKf x l fun z hz=>h z (List.mem_cons_of_mem _ hz)]
theorem ZLb (x:Session):∀ l:List Session,AscS l→sFin x false l=insS x l
 | [],_=>rfl
 | y :: l,h=>by
  by_cases h1:y.client<x.client
  ·have hn:¬x.client≤y.client:=by omega
   have hne:¬y.client=x.client:=by omega
   simp [sFin,insS,h1,hn,hne,ZLb x l h.2]
  ·have hn:x.client≤y.client:=by omega
   have ht:=ZKf x l fun z hz=>by have:=h.1 z hz; omega
   by_cases e:y.client=x.client
   ·simp [sFin,insS,hn,e,h1,ht]
   ·simp [sFin,insS,hn,e,h1,ht]
theorem ZIK (l:List Session) (x:Int) (ha:∀ (i j:Nat) (p q:Session),i<j→l[i]?=some p→l[j]?=some q→p.client<q.client) (hn:l.length≤1048576):Ok (fun r=>∃ (i:Nat) (b:Bool),r=⟨[I i,B b],[],[]⟩∧i≤l.length∧(∀ (k:Nat) p,k<i→l[k]?=some p→p.client<x)∧(∀ q,l[i]?=some q→x≤q.client∧b=decide (q.client=x))∧(l[i]?=none→b=false)) (EE F 297 [L 3 (l.map Session.u),I x,.sc (.u (.fn 298 []))] []):=by
 refine Ok.run (fn:=i297) (by kernel_rfl) rfl ?_
 simp only[i297,b297,ZdN,ZcQ]
 simp only[↓xP,xT,rL,rB,rA,rS]
 refine ZMn (fun (a:Nat×Nat) st=>a.1≤a.2∧a.2≤l.length∧(∀ (k:Nat) p,k<a.1→l[k]?=some p→p.client<x)∧(∀ (k:Nat) q,a.2≤k→l[k]?=some q→x≤q.client)∧st.s 0=DU (.sl 3 (l.map Session.u))∧st.s 1=DI x∧st.s 2=.t (.sc (.u (.fn 298 [])))∧st.s 8=DI l.length∧st.s 9=DI a.1∧st.s 10=DI a.2) (fun a=>a.2 - a.1) ?_ (0,l.length) ⟨by omega,by dsimp only; omega,fun k p hk=>by dsimp only at hk; omega,fun k q hk hq=>by have:=(List.getElem?_eq_some_iff.1 hq).1; dsimp only at hk; omega,by simp only[↓xP,xT,rL,rB,rA,rS],by simp only[↓xP,xT,rL,rB,rA,rS],by simp only[↓xP,xT,rL,rB,rA,rS],by simp only[↓xP,xT,rL,rB,rA,rS],by simp only[↓xP,xT,rL,rB,rA,rS]; rfl,by simp only[↓xP,xT,rL,rB,rA,rS]⟩
 rintro ⟨i,j⟩ st ⟨hij,hj,g1,g2,h0,h1,h2,h8,h9,h10⟩ ih
 dsimp only at hij hj g1 g2 h9 h10 ih
 by_cases h:i<j
 ·obtain ⟨⟨pa,pb,pc⟩,hp⟩:∃ p,l[(i+j) / 2]?=some p:=⟨_,List.getElem?_eq_getElem (by omega)⟩
  have hm:=ZM7 (i:=i) (j:=j) (by omega)
  have hw:=w_succ (i:=(i+j) / 2) (by omega)
  have hb:¬(1:Int)<0:=by omega
  by_cases hc:cmpI pa x<0
  ·have hlt:pa<x:=by
    by_cases h3:pa<x
    ·exact h3
    ·simp only[cmpI,h3,if_false] at hc
     split at hc<;>omega
   simp only[↓xP,xT,rL,rB,rA,rS,h0,h1,h2,h8,h9,h10,h,hb,hm,hp,hw,Session.u,ZH6,hc]
   refine ih ((i+j) / 2+1,j) _ (by dsimp only; omega) ⟨by dsimp only; omega,hj,?_,g2,by simp only[↓xP,xT,rL,rB,rA,rS,h0],by simp only[↓xP,xT,rL,rB,rA,rS,h1],by simp only[↓xP,xT,rL,rB,rA,rS,h2],by simp only[↓xP,xT,rL,rB,rA,rS,h8],by simp only[↓xP,xT,rL,rB,rA,rS],by simp only[↓xP,xT,rL,rB,rA,rS,h10]⟩
   intro k p hk hkp
   dsimp only at hk
   by_cases e:k=(i+j) / 2
   ·subst e; rw [hp] at hkp; cases hkp; exact hlt
   ·have:=ha k ((i+j) / 2) p _ (by omega) hkp hp
    dsimp only at this
    omega
  ·have hge:x≤pa:=by
    by_cases h3:pa<x
    ·simp [cmpI,h3] at hc
    ·omega
   simp only[↓xP,xT,rL,rB,rA,rS,h0,h1,h2,h8,h9,h10,h,hb,hm,hp,hw,Session.u,ZH6,hc]
   refine ih (i,(i+j) / 2) _ (by dsimp only; omega) ⟨by dsimp only; omega,by dsimp only; omega,g1,?_,by simp only[↓xP,xT,rL,rB,rA,rS,h0],by simp only[↓xP,xT,rL,rB,rA,rS,h1],by simp only[↓xP,xT,rL,rB,rA,rS,h2],by simp only[↓xP,xT,rL,rB,rA,rS,h8],by simp only[↓xP,xT,rL,rB,rA,rS,h9],by simp only[↓xP,xT,rL,rB,rA,rS]⟩
   intro k q hk hkq
   dsimp only at hk
   by_cases e:k=(i+j) / 2
   ·subst e; rw [hp] at hkq; cases hkq; exact hge
   ·have:=ha ((i+j) / 2) k _ q (by omega) hp hkq
    dsimp only at this
    omega
 ·obtain rfl:i=j:=by omega
  by_cases hi:i<l.length
  ·obtain ⟨⟨pa,pb,pc⟩,hp⟩:∃ p,l[i]?=some p:=⟨_,List.getElem?_eq_getElem hi⟩
   have hge:=g2 i _ (Nat.le_refl _) hp
   simp only[↓xP,xT,rL,rB,rA,rS,h0,h1,h2,h8,h9,h10,h,hi,hp,Session.u,ZH6]
   refine ⟨_,rfl,i,_,rfl,by omega,g1,fun q hq=>?_,fun hq=>?_⟩
   ·rw [hp] at hq; cases hq
    refine ⟨hge,?_⟩
    dsimp only at hge ⊢
    have hn:¬pa<x:=by omega
    by_cases e:pa=x
    ·subst e; simp [cmpI]
    ·have h4:x<pa:=by omega
     simp [cmpI,hn,h4,e]
   ·rw [hp] at hq; cases hq
  ·have hp:l[i]?=none:=List.getElem?_eq_none (by omega)
   simp only[↓xP,xT,rL,rB,rA,rS,h0,h1,h2,h8,h9,h10,h,hi,hp]
   refine ⟨_,rfl,i,_,rfl,by omega,g1,fun q hq=>?_,fun _=>rfl⟩
   rw [hp] at hq; cases hq
theorem ZHx (l:List Session) (x:Int) (ha:ZI l=true) (hn:l.length≤1048576):∃ (i:Nat) (b:Bool),EE F 274 [L 3 (l.map Session.u),I x] []=some ⟨[I i,B b],[],[]⟩∧i≤l.length∧(∀ (k:Nat) p,k<i→l[k]?=some p→p.client<x)∧(∀ q,l[i]?=some q→x≤q.client∧b=decide (q.client=x))∧(l[i]?=none→b=false):=by
 obtain ⟨r,hr,i,b,rfl,h1,h2,h3,h4⟩:=ZIK l x (fun i j p q=>ZJd ha j i p q) hn
 refine ⟨i,b,?_,h1,h2,h3,h4⟩
 rw [R274,b274]
 simp only[↓xP,xT,rL,rB,rA,rS,hr]
theorem ZI9 (l:List Session) (xc xs xr:Int) (hn:l.length≤100000):EE F 277 [L 3 (l.map Session.u),.ag [.u (.int .i64 xc),.u (.int .i64 xs),.u (.int .i64 xr)]] []=ZFw (ZFA l ⟨xc,xs,xr⟩):=by
 rw [R277,b277]
 have hv:=ZF2 l (by omega)
 have hv1:=ZF2 [⟨xc,xs,xr⟩] (by simp)
 simp only[List.map_cons,List.map_nil,Session.u] at hv1
 cases h1:ZI l
 ·simp only[↓xP,xT,rL,rB,rA,rS,hv,h1]
  simp [ZFA,h1,ZFw]
 cases h2:ZI [⟨xc,xs,xr⟩]
 ·simp only[↓xP,xT,rL,rB,rA,rS,hv,h1,hv1,h2]
  simp [ZFA,h2,ZFw]
 have hsq:1≤xs:=by
  have:=(ZHO h2 (i:=0) (p:=⟨xc,xs,xr⟩) (by simp)).2.1
  simp only[inR,Bool.and_eq_true,decide_eq_true_eq] at this
  exact this.1
 obtain ⟨i,b,hpl,hi,g1,g2,g3⟩:=ZHx l xc h1 (by omega)
 have hins:=ZMG ⟨xc,xs,xr⟩ l i hi g1 (fun q hq=>(g2 q hq).1)
 have hfnd:=ZKn xc l i (ZIp h1) hi g1 (fun q hq=>(g2 q hq).1)
 have hc:=ZHz l (by omega)
 have hmap : [[U.int .i64 xc,U.int .i64 xs,U.int .i64 xr]]=List.map Session.u [⟨xc,xs,xr⟩]:=rfl
 have hput:ZFA l ⟨xc,xs,xr⟩=if xs≤(ZFD xc l).seq then (l,false) else (insS ⟨xc,xs,xr⟩ l,true):=by simp [ZFA,h1,h2]
 rw [hput]
 cases b
 ·have hre:=ZHg l [⟨xc,xs,xr⟩] i 0 (by omega) (by simp only[List.length_cons,List.length_nil]; omega)
  have e0:((0:Nat):Int)=0:=rfl
  rw [e0,←hmap] at hre
  have hf0:ZFD xc l=⟨0,0,0⟩:=by
   rw [hfnd]
   cases hq:l[i]? with
   | none=>rfl
   | some q=>
    have:=(g2 q hq).2
    have hne:¬q.client=xc:=by simpa using this
    simp [hne]
  have hi0:insS ⟨xc,xs,xr⟩ l=rep l i 0 [⟨xc,xs,xr⟩]:=by
   rw [hins]
   cases hq:l[i]? with
   | none=>rfl
   | some q=>
    have:=(g2 q hq).2
    have hne:¬q.client=xc:=by simpa using this
    simp [hne]
  have hno:¬xs≤0:=by omega
  rw [hf0,if_neg hno,hi0]
  simp only[↓xP,xT,rL,rB,rA,rS,hv,h1,hv1,h2,hpl,hre,ZFw,List.length_map]
 ·have hil:i<l.length:=by
   by_cases h:i<l.length
   ·exact h
   ·have:=g3 (List.getElem?_eq_none (by omega)); cases this
  obtain ⟨⟨yc,ys,yr⟩,hy⟩:∃ p,l[i]?=some p:=⟨_,List.getElem?_eq_getElem hil⟩
  have heq:yc=xc:=by have:=(g2 _ hy).2; simpa using this.symm
  rw [hy] at hins hfnd
  simp only[heq,if_true] at hins hfnd
  have hre:=ZHg l [⟨xc,xs,xr⟩] i 1 (by omega) (by simp only[List.length_cons,List.length_nil]; omega)
  have e0:((1:Nat):Int)=1:=rfl
  rw [e0,←hmap] at hre
  rw [hfnd,hins]
  by_cases h:xs≤ys
  ·have hge:ys≥xs:=h
   simp only[↓xP,xT,rL,rB,rA,rS,hv,h1,hv1,h2,hpl,hy,hil,Session.u,h,hge,hc,ZFw,List.length_map,ge_iff_le]
   try simp
  ·simp only[↓xP,xT,rL,rB,rA,rS,hv,h1,hv1,h2,hpl,hy,hil,Session.u,h,hre,ZFw,List.length_map,ge_iff_le]
   try simp
theorem ZJ6 (l:List Session) (c:Int) (hn:l.length≤1048576):EE F 270 [L 3 (l.map Session.u),I c] []=some ⟨[.ag [.u (.int .i64 (ZFD c l).client),.u (.int .i64 (ZFD c l).seq),.u (.int .i64 (ZFD c l).reply)]],[],[]⟩:=by
 rw [R270,b270]
 simp only[↓xP,xT,rL,rB,rA,rS]
 refine (Zjc (fun (i:Nat) st=>i≤l.length∧st.s 0=DU (.sl 3 (l.map Session.u))∧st.s 1=DI c∧st.s 4=.t (.sc (.ptr (.loc 4 0) 0 0))∧st.o (.loc 4 0)=some (.box [.u (.int .i64 0),.u (.int .i64 0),.u (.int .i64 0)])∧st.s 5=DI i) (fun i=>l.length - i) (fun i=>some ⟨[.ag [.u (.int .i64 (ZFD c (l.drop i)).client),.u (.int .i64 (ZFD c (l.drop i)).seq),.u (.int .i64 (ZFD c (l.drop i)).reply)]],[],[]⟩) ?_ 0 (by and_intros<;>first|omega|rfl|(simp only[↓xP,xT,rL,rB,rA,rS]<;>first|done|rfl|omega))).trans (by rfl)
 rintro i st ⟨hle,h0,h1,h4,ho4,h5⟩ ih
 by_cases hi:i<l.length
 ·obtain ⟨⟨xc,xs,xr⟩,hx⟩:∃ p,l[i]?=some p:=⟨_,List.getElem?_eq_getElem hi⟩
  have hw:=w_succ (i:=i) (by omega)
  rw [ZE hx]
  simp only[↓xP,xT,rL,rB,rA,rS,h0,h1,h4,ho4,h5,List.length_map,hi,hx,Session.u]
  refine ZiE (fun h=>?_) (fun h=>?_)
  ·simp only[decide_eq_true_eq] at h
   simp [ZFD,h]
  ·simp only[decide_eq_false_iff_not] at h
   rw [ih (i+1) _ (by omega) (by and_intros<;>first|omega|rfl|(simp only[↓xP,xT,rL,rB,rA,rS,h0,h1,h4,ho4,h5,hw]<;>first|done|rfl|omega))]
   simp [ZFD,h]
 ·simp only[↓xP,xT,rL,rB,rA,rS,h0,h1,h4,ho4,h5,List.length_map,hi]
  rw [List.drop_of_length_le (by omega)]; rfl
theorem ZJQ (l:List Session) (c:Int) (hv0:ZI l=true) (hc:inR c 0 3=true) (hn:l.length≤1048576):EE F 296 [L 3 (l.map Session.u),I c] []=ok1 (I (ZFD c l).seq):=by
 have hv:=ZFH l (by omega)
 rw [R296,b296]
 simp only[↓xP,xT,rL,rB,rA,rS,hv,hv0,ZY,hc,ZJ6 l c hn]
theorem ZJa (l:List Session) (xc xs xr:Int) (hn:l.length≤100000):EE F 272 [L 3 (l.map Session.u),.ag [.u (.int .i64 xc),.u (.int .i64 xs),.u (.int .i64 xr)]] []=ZFw (ZFA l ⟨xc,xs,xr⟩):=by
  rw [R272,b272]
  have hv:=ZFH l (by omega)
  have hv1:=ZFH [⟨xc,xs,xr⟩] (by simp)
  simp only[List.map_cons,List.map_nil,Session.u] at hv1
  cases h1:ZI l
  · simp only[↓xP,xT,rL,rB,rA,rS,hv,h1]
    simp [ZFA,h1,ZFw]
  cases h2:ZI [⟨xc,xs,xr⟩]
  · simp only[↓xP,xT,rL,rB,rA,rS,hv,h1,hv1,h2]
    simp [ZFA,h2,ZFw]
  have hcr:=(ZHO h2 (i:=0) (p:=⟨xc,xs,xr⟩) (by simp)).1
  simp only at hcr
  have hsq:=ZJQ l xc h1 hcr (by omega)
  have q0:l.length≤maxLen∧l.length*24≤140737488355328:=ZP (by omega) (by omega)
  have hput:ZFA l ⟨xc,xs,xr⟩=if xs≤(ZFD xc l).seq then (l,false) else (insS ⟨xc,xs,xr⟩ l,true):=by simp [ZFA,h1,h2]
  rw [hput]
  by_cases h3:xs≤(ZFD xc l).seq
  · rw [if_pos h3]
    simp only[↓xP,xT,rL,rB,rA,rS,hv,h1,hv1,h2,hsq,h3,ge_iff_le,List.length_map,Nat.zero_add,List.nil_append,q0.1,q0.2,ZL,ZFw]
  rw [if_neg h3]
  have hfin:=ZLb ⟨xc,xs,xr⟩ l (ZIp h1)
  rw [←hfin]
  simp only[↓xP,xT,rL,rB,rA,rS,hv,h1,hv1,h2,hsq,h3,ge_iff_le]
  have app3:∀ (l:List Session) a b c,l.map Session.u++[[.int .i64 a,.int .i64 b,.int .i64 c]]=(l++[(⟨a,b,c⟩:Session)]).map Session.u:=fun l a b c=>by simp [Session.u]
  have htk:∀ (l:List Session) x,List.take (l.length+1) (List.map Session.u (l++[x]))=List.map Session.u (l++[x]):=fun l x=>List.take_of_length_le (by simp)
  refine (Zjc (fun (a:Nat×Bool×List Session) st=>a.1≤l.length∧a.2.2.length≤a.1+a.2.1.toNat∧st.s 0=DU (.sl 3 (l.map Session.u))∧st.s 3=.t (.sc (.ptr (.loc 3 0) 0 0))∧st.o (.loc 3 0)=some (.box [.u (.int .i64 xc),.u (.int .i64 xs),.u (.int .i64 xr)])∧st.s 6=.t (.sc (.own (.loc 9 0) a.2.2.length))∧st.o (.loc 9 0)=some (.row 3 (a.2.2.map Session.u))∧st.s 7=DB a.2.1∧st.s 8=DI a.1) (fun a=>l.length - a.1) (fun a=>ZFw (a.2.2++sFin ⟨xc,xs,xr⟩ a.2.1 (l.drop a.1),true)) ?_ (0,false,[]) ⟨by simp,by simp,(by and_intros<;>first|omega|rfl|(simp only[↓xP,xT,rL,rB,rA,rS]<;>first|done|rfl|omega))⟩).trans (by rfl)
  rintro ⟨i,pl,m⟩ st ⟨hle,hml,h0,h3,ho3,h6,ho6,h7,h8⟩ ih
  dsimp only at *
  have hpl1:pl.toNat≤1:=by cases pl<;>simp
  have q1:m.length+1≤maxLen∧(m.length+1)*24≤140737488355328:=ZP (by omega) (by omega)
  have q2:m.length+1+1≤maxLen∧(m.length+1+1)*24≤140737488355328:=ZP (by omega) (by omega)
  by_cases hi:i<l.length
  · obtain ⟨⟨yc,ys,yr⟩,hy⟩:∃ p,l[i]?=some p:=⟨_,List.getElem?_eq_getElem hi⟩
    have hw:=w_succ (i:=i) (by omega)
    rw [ZE hy]
    cases pl
    · simp only[Bool.toNat_false,Nat.add_zero] at hml
      by_cases g4:xc≤yc
      · by_cases g5:yc=xc
        · simp only[↓xP,xT,rL,rB,rA,rS,h0,h3,ho3,h6,ho6,h7,h8,List.length_map,hi,hy,Session.u,q1.1,q1.2,q2.1,q2.2,app3,hw,g4,g5,ge_iff_le,ne_eq,not_true_eq_false,decide_false,List.length_append,List.length_cons,List.length_nil,Nat.zero_add,Int.le_refl]
          rw [ih (i+1,true,m++[⟨xc,xs,xr⟩]) _ (by dsimp only; omega) ⟨by dsimp only; omega,by simp; omega,(by and_intros<;>first|omega|rfl|(simp only[↓xP,xT,rL,rB,rA,rS,h0,h3,ho3,h6,ho6,h7,h8,hw,app3,List.length_append,List.length_cons,List.length_nil,Nat.zero_add]<;>first|done|rfl|omega))⟩]
          simp [sFin,g5]
        · simp only[↓xP,xT,rL,rB,rA,rS,h0,h3,ho3,h6,ho6,h7,h8,List.length_map,hi,hy,Session.u,q1.1,q1.2,q2.1,q2.2,app3,hw,g4,g5,ge_iff_le,ne_eq,not_false_eq_true,List.length_append,List.length_cons,List.length_nil,Nat.zero_add]
          rw [ih (i+1,true,m++[⟨xc,xs,xr⟩]++[⟨yc,ys,yr⟩]) _ (by dsimp only; omega) ⟨by dsimp only; omega,by simp; omega,(by and_intros<;>first|omega|rfl|(simp only[↓xP,xT,rL,rB,rA,rS,h0,h3,ho3,h6,ho6,h7,h8,hw,app3,List.length_append,List.length_cons,List.length_nil,Nat.zero_add]<;>first|done|rfl|omega))⟩]
          simp [sFin,g4,g5]
      · have g5:¬yc=xc:=by omega
        simp only[↓xP,xT,rL,rB,rA,rS,h0,h3,ho3,h6,ho6,h7,h8,List.length_map,hi,hy,Session.u,q1.1,q1.2,q2.1,q2.2,app3,hw,g4,g5,ge_iff_le,ne_eq,not_false_eq_true,List.length_append,List.length_cons,List.length_nil,Nat.zero_add]
        rw [ih (i+1,false,m++[⟨yc,ys,yr⟩]) _ (by dsimp only; omega) ⟨by dsimp only; omega,by simp; omega,(by and_intros<;>first|omega|rfl|(simp only[↓xP,xT,rL,rB,rA,rS,h0,h3,ho3,h6,ho6,h7,h8,hw,app3,List.length_append,List.length_cons,List.length_nil,Nat.zero_add]<;>first|done|rfl|omega))⟩]
        simp [sFin,g4,g5]
    · simp only[Bool.toNat_true] at hml
      by_cases g5:yc=xc
      · simp only[↓xP,xT,rL,rB,rA,rS,h0,h3,ho3,h6,ho6,h7,h8,List.length_map,hi,hy,Session.u,hw,g5,ne_eq,not_true_eq_false,decide_false]
        rw [ih (i+1,true,m) _ (by dsimp only; omega) ⟨by dsimp only; omega,by simp; omega,(by and_intros<;>first|omega|rfl|(simp only[↓xP,xT,rL,rB,rA,rS,h0,h3,ho3,h6,ho6,h7,h8,hw]<;>first|done|rfl|omega))⟩]
        simp [sFin,g5]
      · simp only[↓xP,xT,rL,rB,rA,rS,h0,h3,ho3,h6,ho6,h7,h8,List.length_map,hi,hy,Session.u,q1.1,q1.2,app3,hw,g5,ne_eq,not_false_eq_true,List.length_append,List.length_cons,List.length_nil,Nat.zero_add]
        rw [ih (i+1,true,m++[⟨yc,ys,yr⟩]) _ (by dsimp only; omega) ⟨by dsimp only; omega,by simp; omega,(by and_intros<;>first|omega|rfl|(simp only[↓xP,xT,rL,rB,rA,rS,h0,h3,ho3,h6,ho6,h7,h8,hw,app3,List.length_append,List.length_cons,List.length_nil,Nat.zero_add]<;>first|done|rfl|omega))⟩]
        simp [sFin,g5]
  · rw [List.drop_of_length_le (by omega)]
    cases pl
    · simp only[Bool.toNat_false,Nat.add_zero] at hml
      simp only[↓xP,xT,rL,rB,rA,rS,h0,h3,ho3,h6,ho6,h7,h8,List.length_map,hi,q1.1,q1.2,app3,htk,List.length_append,List.length_cons,List.length_nil,Nat.zero_add,Nat.le_refl]
      simp [sFin,ZFw]
    · simp only[Bool.toNat_true] at hml
      simp only[↓xP,xT,rL,rB,rA,rS,h0,h3,ho3,h6,ho6,h7,h8,List.length_map,hi,ZL]
      simp [sFin,ZFw]
theorem ZK7 {l:List Pair} (h:ZA l=true) {i:Nat} {p:Pair} (hp:l[i]?=some p):0≤p.value:=by
 simp only[ZA,Bool.and_eq_true] at h
 have:=(ZFC (n:=l.length) (p:=ZFp l) _ 0 rfl).1 h.2 i (by omega) (List.getElem?_eq_some_iff.1 hp).1
 simp only[ZFp,hp,inR,Bool.and_eq_true,decide_eq_true_eq] at this
 exact this.1.2.1
theorem ZK6 {l:List Pair} (key:Str) (h:ZA l=true):ZFj l key<0↔ZFj l key = -1:=by
 unfold ZFj
 rw [if_pos h]
 cases hh:hit key l with
 | none=>simp
 | some p=>
  have:=ZK7 h (ZGa hh).1
  dsimp only
  omega
theorem ZH9 (l:List Pair) (k:Int) (key:Str) (v o:Int) (hn:l.length≤1048576):EE F 276 [L 2 (l.map Pair.u),.ag [.u (.int .i64 k),.u (.str key),.u (.int .i64 v),.u (.int .i64 o)]] []=ZS (ZFa l ⟨k,key,v,o⟩):=by
  rw [R276,b276]
  have hv:=ZFq l
  have hcv:=ZF6 k key v o
  cases h:ZA l
  · rw [h] at hv
    simp only[↓xP,xT,rL,rB,rA,rS,hv,ZFa,h,Bool.false_eq_true,false_and,if_false,ZS,List.map_nil,List.length_nil]
  rw [h] at hv
  cases h2:Z5 ⟨k,key,v,o⟩
  · rw [h2] at hcv
    simp only[↓xP,xT,rL,rB,rA,rS,hv,hcv,ZFa,h,h2,Bool.false_eq_true,false_and,and_false,if_false,ZS,List.map_nil,List.length_nil]
  rw [h2] at hcv
  by_cases h5:k=5
  · subst h5
    simp only[↓xP,xT,rL,rB,rA,rS,hv,hcv,ZFa,not_true_eq_false,and_false,if_false,ZS,List.map_nil,List.length_nil]
  have hcy:=ZG0 l hn
  have hpg:=ZKs l key
  have hpd:=ZJM l key hn
  have hpp:=ZKu l key v hn
  have hng:=ZK6 key h
  generalize hgo:ZFj l key=old at hpg hng
  generalize hdo:ZFd l key=dr at hpd
  generalize hpo:Z3 l key v=pu at hpp
  obtain ⟨dl,db⟩:=dr
  obtain ⟨pl,pb⟩:=pu
  simp only[ZZ] at hpd hpp
  by_cases h3:k=3
  · subst h3
    simp [ZFa,h,h2,hgo,hdo]
    simp only[↓xP,xT,rL,rB,rA,rS,hv,hcv,h5,hpg,hpd,ZS]
  by_cases h1:k=1
  · subst h1
    simp [ZFa,h,h2,hgo]
    simp only[↓xP,xT,rL,rB,rA,rS,hv,hcv,h5,h3,hpg,hcy,ZS]
  by_cases h4:k=4∧¬o=old
  · obtain ⟨rfl,ho⟩:=h4
    simp [ZFa,h,h2,hgo,ho]
    simp only[↓xP,xT,rL,rB,rA,rS,hv,hcv,h5,h3,h1,hpg,hcy,ho,ne_eq,not_false_eq_true,ZS]
  have h4':(k=1∨(k=4∧¬o=old))=False:=by simp [h1]; simpa using h4
  have hap:ZFa l ⟨k,key,v,o⟩=if old<0∧8≤l.length then (l,-2) else (pl,old):=by
    simp only[ZFa,h,h2,hgo,hpo,h5,h3,h4',not_false_eq_true,and_self,if_true,if_false]
  rw [hap]
  by_cases h8:old<0∧8≤l.length
  · have hm1:old = -1:=hng.1 h8.1
    have hge:(8:Int)≤(l.length:Int):=by omega
    rw [if_pos h8]
    by_cases h6:k=4
    · have ho:o=old:=by
        by_cases e:o=old
        · exact e
        · exact absurd ⟨h6,e⟩ h4
      subst h6
      have ho2:old=o:=ho.symm
      subst ho2
      subst hm1
      simp only[↓xP,xT,rL,rB,rA,rS,hv,hcv,h5,h3,h1,hpg,hcy,hge,ge_iff_le,ne_eq,not_true_eq_false,decide_false,ZS]
    · simp only[↓xP,xT,rL,rB,rA,rS,hv,hcv,h5,h3,h1,h6,hpg,hcy,hm1,hge,ge_iff_le,ZS]
  · rw [if_neg h8]
    by_cases h6:k=4
    · have ho:o=old:=by
        by_cases e:o=old
        · exact e
        · exact absurd ⟨h6,e⟩ h4
      subst h6
      have ho2:old=o:=ho.symm
      subst ho2
      by_cases h7:old = -1
      · have hge:¬(8:Int)≤(l.length:Int):=fun e=>h8 ⟨by omega,by omega⟩
        subst h7
        simp only[↓xP,xT,rL,rB,rA,rS,hv,hcv,h5,h3,h1,hpg,hpp,hge,ge_iff_le,ne_eq,not_true_eq_false,decide_false,ZS]
      · simp only[↓xP,xT,rL,rB,rA,rS,hv,hcv,h5,h3,h1,hpg,hpp,h7,ge_iff_le,ne_eq,not_true_eq_false,decide_false,ZS]
    · by_cases h7:old = -1
      · have hge:¬(8:Int)≤(l.length:Int):=fun e=>h8 ⟨by omega,by omega⟩
        simp only[↓xP,xT,rL,rB,rA,rS,hv,hcv,h5,h3,h1,h6,hpg,hpp,h7,hge,ge_iff_le,ZS]
      · simp only[↓xP,xT,rL,rB,rA,rS,hv,hcv,h5,h3,h1,h6,hpg,hpp,h7,ge_iff_le,ZS]
def ZFo (s:State) (c:Command):Bool:=if c.kind=5 then decide (c.key=[])||ZHA s.span c.key else ZFn s.span c.key
theorem ZJS (lo hi:Str) (l:List Pair) (k:List Session) (se:Bool) (cut:Str) (kd:Int) (key:Str) (v o:Int):EE F 275 [.ag [.u (.str lo),.u (.str hi),.u (.sl 2 (l.map Pair.u)),.u (.sl 3 (k.map Session.u)),.u (.bool se),.u (.str cut)],.ag [.u (.int .i64 kd),.u (.str key),.u (.int .i64 v),.u (.int .i64 o)]] []=ok1 (B (ZFo ⟨⟨lo,hi⟩,l,k,se,cut⟩ ⟨kd,key,v,o⟩)):=by
  rw [R275,b275]
  by_cases h5:kd=5
  · by_cases hk:key=[]
    · simp only[↓xP,xT,rL,rB,rA,rS,h5,hk,ne_eq,not_true_eq_false,decide_false]
      simp [ZFo,sel]
    · cases hc:ZHA ⟨lo,hi⟩ key
      · simp only[↓xP,xT,rL,rB,rA,rS,h5,hk,ne_eq,not_true_eq_false,decide_false,ZGe,ZG9,hc]
        simp [ZFo,sel,hk,hc]
      · simp only[↓xP,xT,rL,rB,rA,rS,h5,hk,ne_eq,not_true_eq_false,decide_false,ZGe,ZG9,hc]
        simp [ZFo,sel,hk,hc]
  · simp only[↓xP,xT,rL,rB,rA,rS,h5,ne_eq,not_false_eq_true,ZJ5]
    simp [ZFo,h5]
def ZHG (lo hi:Str) (l:List Pair) (k:List Session) (se:Bool) (cut:Str):Option Ret:=some ⟨[.ag [.u (.str lo),.u (.str hi),.own (.par 0) l.length,.own (.par 1) k.length,.u (.bool se),.u (.str cut)]],[.row 2 (l.map Pair.u),.row 3 (k.map Session.u)],[]⟩
theorem ZIc (lo hi:Str) (l:List Pair) (k:List Session) (se:Bool) (cut:Str) (hl:l.length≤1048576) (hk:k.length≤1048576):EE F 226 [.ag [.u (.str lo),.u (.str hi),.u (.sl 2 (l.map Pair.u)),.u (.sl 3 (k.map Session.u)),.u (.bool se),.u (.str cut)]] []=ZHG lo hi l k se cut:=by
 rw [R226,b226]
 simp only[↓xP,xT,rL,rB,rA,rS,ZG0 l hl,ZHz k hk,ZHG]
theorem ZJm (lo hi:Str) (l:List Pair) (k:List Session) (se:Bool) (cut:Str) (hl:l.length≤1048576) (hk:k.length≤1048576):EE F 223 [.ag [.u (.str lo),.u (.str hi),.u (.sl 2 (l.map Pair.u)),.u (.sl 3 (k.map Session.u)),.u (.bool se),.u (.str cut)]] []=ZHG lo hi l k se cut:=by
 have q0:l.length≤maxLen∧l.length*24≤140737488355328:=ZP (by omega) (by omega)
 have q1:k.length≤maxLen∧k.length*24≤140737488355328:=ZP (by omega) (by omega)
 rw [R223,b223]
 simp only[↓xP,xT,rL,rB,rA,rS,rdx,rdx2,q0.1,q0.2,q1.1,q1.2,List.length_map,ZHG]
theorem ZL4 {l:List Session} (h:ZI l=true):∀ (i:Nat) (p:Session),l[i]?=some p→(i:Int)≤p.client
 | 0,p,hp=>by
  have:=(ZHO h hp).1
  simp only[inR,Bool.and_eq_true,decide_eq_true_eq] at this
  omega
 | i+1,p,hp=>by
  obtain ⟨r,hr⟩:∃ r,l[i]?=some r:=⟨_,List.getElem?_eq_getElem (by have:=(List.getElem?_eq_some_iff.1 hp).1; omega)⟩
  have h1:=ZL4 h i r hr
  have h2:=ZJd h (i+1) i r p (by omega) hr hp
  omega
theorem ZIJ {l:List Session} (h:ZI l=true):l.length≤4:=by
 by_cases h4:l.length≤4
 ·exact h4
 ·obtain ⟨p,hp⟩:∃ p,l[4]?=some p:=⟨_,List.getElem?_eq_getElem (by omega)⟩
  have h1:=ZL4 h 4 p hp
  have h2:=(ZHO h hp).1
  simp only[inR,Bool.and_eq_true,decide_eq_true_eq] at h2
  omega
def ZF1 (s:State) (e:Entry):State×Int:=
 if (ZFD e.client s.known).seq=e.seq then (s,(ZFD e.client s.known).reply)
 else if e.seq<(ZFD e.client s.known).seq then (s,-4)
 else if (s.sealed||!ZFo s e.cmd)=true then (s,-3)
 else if e.cmd.kind=5 then (⟨s.span,s.pairs,(ZFA s.known ⟨e.client,e.seq,0⟩).1,true,e.cmd.key⟩,0)
 else (⟨s.span,(ZFa s.pairs e.cmd).1,(ZFA s.known ⟨e.client,e.seq,(ZFa s.pairs e.cmd).2⟩).1,s.sealed,s.cut⟩,(ZFa s.pairs e.cmd).2)
def ZFM (p:State×Int):Option Ret:=some ⟨[.ag [.u (.str p.1.span.low),.u (.str p.1.span.high),.own (.par 0) p.1.pairs.length,.own (.par 1) p.1.known.length,.u (.bool p.1.sealed),.u (.str p.1.cut)],I p.2],[.row 2 (p.1.pairs.map Pair.u),.row 3 (p.1.known.map Session.u)],[]⟩
def ZIP (r:Int):Option Ret:=some ⟨[.ag [.u (.str []),.u (.str []),.u (.sl 2 []),.u (.sl 3 []),.u (.bool false),.u (.str [])],I r],[],[]⟩
theorem ZHH {s:State} (h:ZD s=true):ZG s.span=true∧ZA s.pairs=true∧ZI s.known=true:=by
 simp only[ZD,Bool.and_eq_true] at h
 exact ⟨h.1.1.1.1,h.1.1.1.2,h.1.1.2⟩
theorem ZI2 (lo hi:Str) (l:List Pair) (k:List Session) (se:Bool) (cut:Str) (c s kd:Int) (key:Str) (v o:Int) (hl:l.length≤1048576) (hk:k.length≤1048576):EE F 227 [.ag [.u (.str lo),.u (.str hi),.u (.sl 2 (l.map Pair.u)),.u (.sl 3 (k.map Session.u)),.u (.bool se),.u (.str cut)],.ag [.u (.int .i64 c),.u (.int .i64 s),.u (.int .i64 kd),.u (.str key),.u (.int .i64 v),.u (.int .i64 o)]] []=if (ZD ⟨⟨lo,hi⟩,l,k,se,cut⟩&&ZT ⟨c,s,⟨kd,key,v,o⟩⟩)=true then ZFM (ZF1 ⟨⟨lo,hi⟩,l,k,se,cut⟩ ⟨c,s,⟨kd,key,v,o⟩⟩) else ZIP (-3):=by
  rw [R227,b227]
  have hv:=ZFs lo hi l k se cut (by omega)
  have he:=ZGz c s kd key v o
  cases h1:ZD ⟨⟨lo,hi⟩,l,k,se,cut⟩
  · simp only[↓xP,xT,rL,rB,rA,rS,hv,h1]
    simp [ZIP]
  cases h2:ZT ⟨c,s,⟨kd,key,v,o⟩⟩
  · simp only[↓xP,xT,rL,rB,rA,rS,hv,h1,he,h2]
    simp [ZIP]
  obtain ⟨hp1,hp2,hp3⟩:=ZHH h1
  simp only at hp1 hp2 hp3
  have hk4:=ZIJ hp3
  have hs1:1≤s:=by
    simp only[ZT,Bool.and_eq_true,inR,decide_eq_true_eq] at h2
    exact h2.1.2.1
  have hcs:=ZIc lo hi l k se cut hl hk
  simp only[ZHG] at hcs
  have htk:=ZJS lo hi l k se cut kd key v o
  have hac:=ZH9 l kd key v o hl
  have hsp:∀ r,EE F 277 [L 3 (k.map Session.u),.ag [.u (.int .i64 c),.u (.int .i64 s),.u (.int .i64 r)]] []=ZFw (ZFA k ⟨c,s,r⟩):=fun r=>ZI9 k c s r (by omega)
  simp only[ZFw] at hsp
  obtain ⟨i,b,hpl,hi',g1,g2,g3⟩:=ZHx k c hp3 hk
  have hfnd:=ZKn c k i (ZIp hp3) hi' g1 (fun q hq=>(g2 q hq).1)
  rw [Bool.and_self,if_pos rfl]
  simp only[ZF1]
  generalize hag:ZFa l ⟨kd,key,v,o⟩=ac at hac
  obtain ⟨al,ar⟩:=ac
  simp only[ZS] at hac
  cases b
  · have hf0:ZFD c k=⟨0,0,0⟩:=by
      rw [hfnd]
      cases hq:k[i]? with
      | none=>rfl
      | some q=>
        have:=(g2 q hq).2
        have hne:¬q.client=c:=by simpa using this
        simp [hne]
    have n1:¬(0:Int)=s:=by omega
    have n2:¬s<0:=by omega
    rw [hf0]
    simp only[n1,n2,if_false]
    cases se
    · cases ht:ZFo ⟨⟨lo,hi⟩,l,k,false,cut⟩ ⟨kd,key,v,o⟩
      · simp only[↓xP,xT,rL,rB,rA,rS,rdx,rdx2,hv,h1,he,h2,hcs,hpl,htk,ht]
        simp [ZFM]
      · by_cases h5:kd=5
        · subst h5
          simp only[↓xP,xT,rL,rB,rA,rS,rdx,rdx2,hv,h1,he,h2,hcs,hpl,htk,ht,hsp]
          simp [ZFM]
        · simp only[↓xP,xT,rL,rB,rA,rS,rdx,rdx2,hv,h1,he,h2,hcs,hpl,htk,ht,h5,hac,hsp]
          simp [ZFM,h5]
    · simp only[↓xP,xT,rL,rB,rA,rS,rdx,rdx2,hv,h1,he,h2,hcs,hpl]
      simp [ZFM]
  · have hil:i<k.length:=by
      by_cases h:i<k.length
      · exact h
      · have:=g3 (List.getElem?_eq_none (by omega)); cases this
    obtain ⟨⟨yc,ys,yr⟩,hy⟩:∃ p,k[i]?=some p:=⟨_,List.getElem?_eq_getElem hil⟩
    have heq:yc=c:=by have:=(g2 _ hy).2; simpa using this.symm
    rw [hy] at hfnd
    simp only[heq,if_true] at hfnd
    rw [hfnd]
    by_cases m1:ys=s
    · have hle:s≤ys:=by omega
      have m1':s=ys:=m1.symm
      subst m1'
      simp only[↓xP,xT,rL,rB,rA,rS,rdx,rdx2,hv,h1,he,h2,hcs,hpl,hy,hil,Session.u,Int.le_refl,if_true]
      simp [ZFM]
    by_cases m2:s<ys
    · have hle:s≤ys:=by omega
      have m1':¬s=ys:=fun e=>m1 e.symm
      simp only[↓xP,xT,rL,rB,rA,rS,rdx,rdx2,hv,h1,he,h2,hcs,hpl,hy,hil,Session.u,hle,m1,m1',m2,if_true,if_false]
      simp [ZFM]
    have hle:¬s≤ys:=by omega
    simp only[m1,m2,if_false]
    cases se
    · cases ht:ZFo ⟨⟨lo,hi⟩,l,k,false,cut⟩ ⟨kd,key,v,o⟩
      · simp only[↓xP,xT,rL,rB,rA,rS,rdx,rdx2,hv,h1,he,h2,hcs,hpl,hy,hil,Session.u,hle,htk,ht]
        simp [ZFM]
      · by_cases h5:kd=5
        · subst h5
          simp only[↓xP,xT,rL,rB,rA,rS,rdx,rdx2,hv,h1,he,h2,hcs,hpl,hy,hil,Session.u,hle,htk,ht,hsp]
          simp [ZFM]
        · simp only[↓xP,xT,rL,rB,rA,rS,rdx,rdx2,hv,h1,he,h2,hcs,hpl,hy,hil,Session.u,hle,htk,ht,h5,hac,hsp]
          simp [ZFM,h5]
    · simp only[↓xP,xT,rL,rB,rA,rS,rdx,rdx2,hv,h1,he,h2,hcs,hpl,hy,hil,Session.u,hle]
      simp [ZFM]
theorem ZI3 (lo hi:Str) (l:List Pair) (k:List Session) (se:Bool) (cut:Str) (c s kd:Int) (key:Str) (v o:Int) (hl:l.length≤1048576) (hk:k.length≤1048576):EE F 224 [.ag [.u (.str lo),.u (.str hi),.u (.sl 2 (l.map Pair.u)),.u (.sl 3 (k.map Session.u)),.u (.bool se),.u (.str cut)],.ag [.u (.int .i64 c),.u (.int .i64 s),.u (.int .i64 kd),.u (.str key),.u (.int .i64 v),.u (.int .i64 o)]] []=if (ZD ⟨⟨lo,hi⟩,l,k,se,cut⟩&&ZT ⟨c,s,⟨kd,key,v,o⟩⟩)=true then ZFM (ZF1 ⟨⟨lo,hi⟩,l,k,se,cut⟩ ⟨c,s,⟨kd,key,v,o⟩⟩) else ZIP (-3):=by
 rw [R224,b224]
 have hv:=ZFt lo hi l k se cut (by omega)
 have he:=ZF0 c s kd key v o
 cases h1:ZD ⟨⟨lo,hi⟩,l,k,se,cut⟩
 ·simp only[↓xP,xT,rL,rB,rA,rS,hv,h1]
  simp [ZIP]
 cases h2:ZT ⟨c,s,⟨kd,key,v,o⟩⟩
 ·simp only[↓xP,xT,rL,rB,rA,rS,hv,h1,he,h2]
  simp [ZIP]
 obtain ⟨hp1,hp2,hp3⟩:=ZHH h1
 simp only at hp1 hp2 hp3
 have hk4:=ZIJ hp3
 have hcs:=ZJm lo hi l k se cut hl hk
 simp only[ZHG] at hcs
 have hkey:¬kd=5→Z2 key=true:=by
  intro h5
  simp only[ZT,Z5,h5,decide_false,Bool.false_and,Bool.or_false,Bool.and_eq_true] at h2
  exact h2.2.1
 have hac:=ZIa l kd key v o hl
 have hsp:∀ r,EE F 272 [L 3 (k.map Session.u),.ag [.u (.int .i64 c),.u (.int .i64 s),.u (.int .i64 r)]] []=ZFw (ZFA k ⟨c,s,r⟩):=fun r=>ZJa k c s r (by omega)
 simp only[ZFw] at hsp
 have hf:=ZJ6 k c hk
 rw [Bool.and_self,if_pos rfl]
 simp only[ZF1]
 generalize hag:ZFa l ⟨kd,key,v,o⟩=ac at hac
 obtain ⟨al,ar⟩:=ac
 simp only[ZS] at hac
 generalize ZFD c k=fd at hf
 obtain ⟨fc,fs,fr⟩:=fd
 dsimp only at hf
 by_cases m1:fs=s
 ·subst m1
  simp only[↓xP,xT,rL,rB,rA,rS,rdx,rdx2,hv,h1,he,h2,hcs,hf]
  simp [ZFM]
 by_cases m2:s<fs
 ·simp only[↓xP,xT,rL,rB,rA,rS,rdx,rdx2,hv,h1,he,h2,hcs,hf,m1,m2]
  simp [ZFM,m1,m2]
 cases se
 ·have hct:=ZHe lo hi key
  cases hc:ZHA ⟨lo,hi⟩ key
  ·simp only[ZG9,hc,sel] at hct
   by_cases h5:kd=5
   ·subst h5
    by_cases h6:key=[]
    ·subst h6
     simp only[↓xP,xT,rL,rB,rA,rS,rdx,rdx2,hv,h1,he,h2,hcs,hf,m1,m2,hct,hc,hsp,ZL,List.length_map,ne_eq,not_true_eq_false,decide_false]
     simp [ZFM,m1,m2,ZFo]
    ·simp only[↓xP,xT,rL,rB,rA,rS,rdx,rdx2,hv,h1,he,h2,hcs,hf,m1,m2,hct,hc,h6,hsp,ZL,List.length_map,ne_eq,not_false_eq_true]
     simp [ZFM,m1,m2,ZFo,hc,h6]
   ·have hih:ZFF ⟨lo,hi⟩ key=ZFn ⟨lo,hi⟩ key:=by simp [ZFF,hp1,hkey h5]
    cases h7:ZFn ⟨lo,hi⟩ key
    ·simp only[↓xP,xT,rL,rB,rA,rS,rdx,rdx2,hv,h1,he,h2,hcs,hf,m1,m2,hct,hc,h5,ZFE,hih,h7,ZL,List.length_map]
     simp [ZFM,m1,m2,ZFo,h5,h7]
    ·simp only[↓xP,xT,rL,rB,rA,rS,rdx,rdx2,hv,h1,he,h2,hcs,hf,m1,m2,hct,hc,h5,ZFE,hih,h7,hac,hsp,ZL,List.length_map]
     simp [ZFM,m1,m2,ZFo,h5,h7]
  ·simp only[ZG9,hc,sel] at hct
   by_cases h5:kd=5
   ·subst h5
    by_cases h6:key=[]
    ·subst h6
     simp only[↓xP,xT,rL,rB,rA,rS,rdx,rdx2,hv,h1,he,h2,hcs,hf,m1,m2,hct,hc,hsp,ZL,List.length_map,ne_eq,not_true_eq_false,decide_false]
     simp [ZFM,m1,m2,ZFo]
    ·simp only[↓xP,xT,rL,rB,rA,rS,rdx,rdx2,hv,h1,he,h2,hcs,hf,m1,m2,hct,hc,h6,hsp,ZL,List.length_map,ne_eq,not_false_eq_true]
     simp [ZFM,m1,m2,ZFo,hc,h6]
   ·have hih:ZFF ⟨lo,hi⟩ key=ZFn ⟨lo,hi⟩ key:=by simp [ZFF,hp1,hkey h5]
    cases h7:ZFn ⟨lo,hi⟩ key
    ·simp only[↓xP,xT,rL,rB,rA,rS,rdx,rdx2,hv,h1,he,h2,hcs,hf,m1,m2,hct,hc,h5,ZFE,hih,h7,ZL,List.length_map]
     simp [ZFM,m1,m2,ZFo,h5,h7]
    ·simp only[↓xP,xT,rL,rB,rA,rS,rdx,rdx2,hv,h1,he,h2,hcs,hf,m1,m2,hct,hc,h5,ZFE,hih,h7,hac,hsp,ZL,List.length_map]
     simp [ZFM,m1,m2,ZFo,h5,h7]
 ·simp only[↓xP,xT,rL,rB,rA,rS,rdx,rdx2,hv,h1,he,h2,hcs,hf,m1,m2]
  simp [ZFM,m1,m2]
theorem ZM3 {α:Type} {l:List α} {i:Nat} {a:α} (h:a∈l.take i):∃ t:Nat,t<i∧l[t]?=some a:=by
 obtain ⟨t,ht⟩:=List.getElem?_of_mem h
 rw [List.getElem?_take] at ht
 split at ht
 ·exact ⟨t,by assumption,ht⟩
 ·cases ht
theorem ZKT {α:Type} {l:List α} {i:Nat} {a:α} (h:a∈l.drop i):∃ t:Nat,i≤t∧l[t]?=some a:=by
 obtain ⟨t,ht⟩:=List.getElem?_of_mem h
 rw [List.getElem?_drop] at ht
 exact ⟨i+t,by omega,ht⟩
theorem ZMP {l:List Pair} {key:Str} {v:Int} {m:Nat} (hv:ZA l=true) (hk:Z2 key=true) (hr:inR v 0 999=true) (hn:(rep l (place key l) m [⟨key,v⟩]).length≤48)
  (hd:∀ b,b∈l.drop (place key l+m)→ZaZ key b.key=true):ZA (rep l (place key l) m [⟨key,v⟩])=true:=by
 obtain ⟨h1,h2,h3⟩:=(ZFU l).1 hv
 have ht:∀ a,a∈l.take (place key l)→ZaZ a.key key=true:=fun a ha=>by
  obtain ⟨t,ht,hp⟩:=ZM3 ha
  exact ZK8 ht hp
 refine (ZFU _).2 ⟨hn,fun p hp=>?_,?_⟩
 ·simp only[rep,List.mem_append,List.mem_singleton] at hp
  rcases hp with (hp|rfl)|hp
  ·exact h2 p (List.mem_of_mem_take hp)
  ·exact ⟨hk,hr⟩
  ·exact h2 p (List.mem_of_mem_drop hp)
 ·simp only[rep]
  refine List.pairwise_append.2 ⟨List.pairwise_append.2 ⟨h3.sublist (List.take_sublist ..),List.pairwise_singleton ..,fun a ha b hb=>?_⟩,h3.sublist (List.drop_sublist ..),fun a ha b hb=>?_⟩
  ·simp only[List.mem_singleton] at hb
   subst hb
   exact ht a ha
  ·rcases List.mem_append.1 ha with ha|ha
   ·exact lt_trans (ht a ha) (hd b hb)
   ·simp only[List.mem_singleton] at ha
    subst ha
    exact hd b hb
theorem ZMC {l:List Pair} {key:Str} {p:Pair} (hv:ZA l=true) (hh:hit key l=some p):∀ b,b∈l.drop (place key l+1)→ZaZ key b.key=true:=by
 intro b hb
 obtain ⟨h1,h2⟩:=ZGa hh
 obtain ⟨t,ht,hp⟩:=ZKT hb
 rw [←h2]
 exact ZH0 hv _ t _ _ (by omega) h1 hp
theorem ZMe {l:List Pair} {key:Str} (hv:ZA l=true) (hh:hit key l=none):∀ b,b∈l.drop (place key l+0)→ZaZ key b.key=true:=by
  intro b hb
  obtain ⟨t,ht,hp⟩:=ZKT hb
  have h1:=ZMM (ZH0 hv) ht hp
  rcases ZIi key b.key with h|h|h
  · exact h
  · by_cases e:t=place key l
    · subst e; exact absurd h.symm (ZIf hh b hp)
    · obtain ⟨q,hq⟩:∃ q,l[place key l]?=some q:=⟨_,List.getElem?_eq_getElem (by have:=(List.getElem?_eq_some_iff.1 hp).1; omega)⟩
      have h2:=ZH0 hv _ t _ _ (by omega) hq hp
      rw [←h,ZJt hq] at h2
      cases h2
  · rw [h1] at h; cases h
theorem ZMN:ZA []=true:=(ZFU []).2 ⟨by simp,fun p h=>(by cases h),List.Pairwise.nil⟩
theorem ZLB {l:List Pair} {key:Str} {v:Int} (hv:ZA l=true):ZA (Z3 l key v).1=true∧∀ w:Interval,(l.all fun q=>ZFn w q.key)=true→ZFn w key=true→((Z3 l key v).1.all fun q=>ZFn w q.key)=true:=by
 unfold Z3
 have hins:∀ (w:Interval) (m:Nat),(l.all fun q=>ZFn w q.key)=true→ZFn w key=true→((rep l (place key l) m [⟨key,v⟩]).all fun q=>ZFn w q.key)=true:=by
  intro w m ha hw
  rw [List.all_eq_true] at ha ⊢
  intro p hp
  simp only[rep,List.mem_append,List.mem_singleton] at hp
  rcases hp with (hp|rfl)|hp
  ·exact ha p (List.mem_of_mem_take hp)
  ·exact hw
  ·exact ha p (List.mem_of_mem_drop hp)
 split
 ·rename_i hc
  have h48:=ZM hv
  have hpl:=ZGQ key l
  cases hh:hit key l with
  | some p=>
   have hlt:=(List.getElem?_eq_some_iff.1 (ZGa hh).1).1
   simp only[Option.isSome_some,if_true]
   exact ⟨ZMP hv hc.2.1 hc.2.2 (by rw [ZIm (by omega)]; simp; omega) (ZMC hv hh),fun w ha hw=>hins w 1 ha hw⟩
  | none=>
   simp only[Option.isSome_none,Bool.false_eq_true,if_false]
   split
   ·exact ⟨hv,fun w ha _=>ha⟩
   ·exact ⟨ZMP hv hc.2.1 hc.2.2 (by rw [ZIm (by omega)]; simp; omega) (ZMe hv hh),fun w ha hw=>hins w 0 ha hw⟩
 ·exact ⟨ZMN,fun _ _ _=>rfl⟩
theorem ZIW {l:List Pair} {key:Str} (hv:ZA l=true):ZA (ZFd l key).1=true∧∀ w:Interval,(l.all fun q=>ZFn w q.key)=true→((ZFd l key).1.all fun q=>ZFn w q.key)=true:=by
 unfold ZFd
 rw [if_pos hv]
 split
 ·obtain ⟨h1,h2,h3⟩:=(ZFU l).1 hv
  have hsub:List.Sublist (rep l (place key l) 1 []) l:=by
   simp only[rep,List.append_nil]
   conv=>rhs; rw [←List.take_append_drop (place key l) l]
   refine List.Sublist.append (List.Sublist.refl _) ?_
   rw [←List.drop_drop]
   exact List.drop_sublist ..
  refine ⟨(ZFU _).2 ⟨Nat.le_trans hsub.length_le h1,fun p hp=>h2 p (hsub.subset hp),h3.sublist hsub⟩,fun w ha=>?_⟩
  rw [List.all_eq_true] at ha ⊢
  exact fun p hp=>ha p (hsub.subset hp)
 ·exact ⟨hv,fun _ h=>h⟩
theorem ZMb {l:List Pair} {c:Command} (hv:ZA l=true):ZA (ZFa l c).1=true∧∀ w:Interval,(l.all fun q=>ZFn w q.key)=true→ZFn w c.key=true→((ZFa l c).1.all fun q=>ZFn w q.key)=true:=by
 unfold ZFa
 split
 ·split
  ·exact ⟨hv,fun _ h _=>h⟩
  ·split
   ·exact ⟨(ZIW hv).1,fun w h _=>(ZIW hv).2 w h⟩
   ·split
    ·exact ⟨hv,fun _ h _=>h⟩
    ·exact ZLB hv
 ·exact ⟨ZMN,fun _ _ _=>rfl⟩
def SFit (s:Session):Prop:=inR s.client 0 3=true∧inR s.seq 1 999=true∧inR s.reply (-2) 999=true
theorem ZLZ:∀ (l:List Session),AscS l→∀ (i:Nat) (p q:Session),l[i]?=some p→l[i+1]?=some q→p.client<q.client
 | [],_,i,p,q,hp,_=>by simp at hp
 | x::l,h,0,p,q,hp,hq=>by
  simp only[List.getElem?_cons_zero,Option.some.injEq] at hp
  subst hp
  simp only[List.getElem?_cons_succ] at hq
  exact h.1 q (List.mem_of_getElem? hq)
 | x::l,h,i+1,p,q,hp,hq=>ZLZ l h.2 i p q (by simpa using hp) (by simpa using hq)
theorem ZIq (l:List Session):ZI l=true↔(∀ p,p∈l→SFit p)∧AscS l:=by
 constructor
 ·intro h
  refine ⟨fun p hp=>?_,ZIp h⟩
  obtain ⟨i,hi⟩:=List.getElem?_of_mem hp
  have:=ZHO h hi
  exact ⟨this.1,this.2.1,this.2.2.1⟩
 ·rintro ⟨h1,h2⟩
  refine (ZFC _ 0 rfl).2 fun j _ hj=>?_
  obtain ⟨p,hp⟩:∃ p,l[j]?=some p:=⟨_,List.getElem?_eq_getElem hj⟩
  obtain ⟨f1,f2,f3⟩:=h1 p (List.mem_of_getElem? hp)
  simp only[Z1,hp,f1,f2,f3,Bool.true_and,Bool.or_eq_true,decide_eq_true_eq]
  cases j with
  | zero=>exact .inl rfl
  | succ j=>
   right
   obtain ⟨q,hq⟩:∃ q,l[j]?=some q:=⟨_,List.getElem?_eq_getElem (by omega)⟩
   simp only[Nat.add_sub_cancel,hq,decide_eq_true_eq]
   exact ZLZ l h2 j q p hq hp
theorem ZJl (x:Session):∀ (l:List Session) (y:Session),y∈insS x l→y=x∨y∈l
 | [],y,h=>by simp [insS] at h; exact .inl h
 | z :: l,y,h=>by
  simp only[insS] at h
  split at h
  ·rcases List.mem_cons.1 h with rfl|h
   ·exact .inr (List.mem_cons_self ..)
   ·rcases ZJl x l y h with h|h
    ·exact .inl h
    ·exact .inr (List.mem_cons_of_mem _ h)
  ·split at h
   ·rcases List.mem_cons.1 h with h|h
    ·exact .inl h
    ·exact .inr (List.mem_cons_of_mem _ h)
   ·rcases List.mem_cons.1 h with h|h
    ·exact .inl h
    ·exact .inr h
theorem ZK3 (x:Session):∀ l:List Session,AscS l→AscS (insS x l)
 | [],_=>⟨fun y h=>(by cases h),trivial⟩
 | z :: l,h=>by
  simp only[insS]
  split
  ·rename_i hz
   refine ⟨fun y hy=>?_,ZK3 x l h.2⟩
   rcases ZJl x l y hy with rfl|hy
   ·exact hz
   ·exact h.1 y hy
  ·rename_i hz
   split
   ·rename_i he
    exact ⟨fun y hy=>by have:=h.1 y hy; omega,h.2⟩
   ·rename_i he
    refine ⟨fun y hy=>?_,h⟩
    rcases List.mem_cons.1 hy with rfl|hy
    ·omega
    ·have:=h.1 y hy; omega
theorem ZJx {l:List Session} (hv:ZI l=true) (x:Session):ZI (ZFA l x).1=true:=by
 unfold ZFA
 split
 ·rename_i hc
  rw [Bool.and_eq_true] at hc
  split
  ·exact hv
  ·obtain ⟨f1,a1⟩:=(ZIq l).1 hv
   obtain ⟨f2,_⟩:=(ZIq _).1 hc.2
   refine (ZIq _).2 ⟨fun p hp=>?_,ZK3 x l a1⟩
   rcases ZJl x l p hp with rfl|hp
   ·exact f2 p (by simp)
   ·exact f1 p hp
 ·exact (ZIq []).2 ⟨fun p h=>(by cases h),trivial⟩
theorem ZMc {s:State} {e:Entry} (hs:ZD s=true) (he:ZT e=true):ZD (ZF1 s e).1=true:=by
 unfold ZF1
 split
 ·exact hs
 ·split
  ·exact hs
  ·split
   ·exact hs
   ·rename_i htk
    simp only[Bool.or_eq_true,Bool.not_eq_true',not_or,Bool.not_eq_true,Bool.not_eq_false] at htk
    obtain ⟨hse,htk⟩:=htk
    have hs':=hs
    simp only[ZD,Bool.and_eq_true] at hs'
    obtain ⟨⟨⟨⟨p1,p2⟩,p3⟩,p4⟩,p5⟩:=hs'
    split
    ·rename_i h5
     simp only[ZFo,h5,if_true] at htk
     simp only[ZD,p1,p2,p4,ZJx p3,Bool.true_and]
     exact htk
    ·rename_i h5
     simp only[ZFo,h5,if_false] at htk
     have hac:=ZMb (c:=e.cmd) p2
     simp only[ZD,p1,hac.1,hac.2 _ p4 htk,ZJx p3,Bool.true_and]
     exact p5
def runE (s:State) (l:List Entry):State:=l.foldl (fun s e=>(ZF1 s e).1) s
def repE:State→List Entry→List Int
 | _,[]=>[]
 | s,e::l=>(ZF1 s e).2::repE (ZF1 s e).1 l
theorem ZKe {s:State} {l:List Entry} {i:Nat} {e:Entry} (h:l[i]?=some e):runE s (l.take (i+1))=(ZF1 (runE s (l.take i)) e).1:=by
 rw [runE,List.take_add_one,h,Option.toList_some,List.foldl_append]; rfl
theorem ZIX:∀ (s:State) (a:List Entry) (e:Entry),repE s (a++[e])=repE s a++[(ZF1 (runE s a) e).2]
 | s,[],e=>rfl
 | s,x::a,e=>by
  have:=ZIX (ZF1 s x).1 a e
  simp only[List.cons_append,repE,this]; rfl
theorem ZKc {s:State} {l:List Entry} {i:Nat} {e:Entry} (h:l[i]?=some e):repE s (l.take (i+1))=repE s (l.take i)++[(ZF1 (runE s (l.take i)) e).2]:=by
 rw [List.take_add_one,h,Option.toList_some,ZIX]
theorem ZJw:∀ (s:State) (l:List Entry),(repE s l).length=l.length
 | _,[]=>rfl
 | s,e::l=>by simp [repE,ZJw _ l]
theorem ZJc:∀ (l:List Entry) (s:State),ZD s=true→l.all ZT=true→ZD (runE s l)=true
 | [],_,h,_=>h
 | e::l,s,h,hl=>by
  rw [List.all_cons,Bool.and_eq_true] at hl
  exact ZJc l _ (ZMc h hl.1) hl.2
theorem ZKR {α:Type} {p:α→Bool} {l:List α} (h:l.all p=true) (i:Nat):(l.take i).all p=true:=by
 rw [List.all_eq_true] at h ⊢
 exact fun x hx=>h x (List.mem_of_mem_take hx)
theorem ZG7 {s:State} (h:ZD s=true):s.pairs.length≤48∧s.known.length≤4:=by
 obtain ⟨_,h2,h3⟩:=ZHH h
 exact ⟨ZM h2,ZIJ h3⟩
def ZFO (s:State) (r:List Int):Option Ret:=some ⟨[.ag [.u (.str s.span.low),.u (.str s.span.high),.own (.par 0) s.pairs.length,.own (.par 1) s.known.length,.u (.bool s.sealed),.u (.str s.cut)],.sc (.own (.par 2) r.length)],[.row 2 (s.pairs.map Pair.u),.row 3 (s.known.map Session.u),.row 1 (r.map iU)],[]⟩
def ZGl:Option Ret:=some ⟨[.ag [.u (.str []),.u (.str []),.u (.sl 2 []),.u (.sl 3 []),.u (.bool false),.u (.str [])],.sc (.own (.par 0) 0)],[.row 1 []],[]⟩
def rid (a b:Nat):Nat→Nat→Id
 | 0,j=>.loc a j
 | _+1,j=>.loc b j
def ZFB (a b i:Nat) (s:State):List C:=[.u (.str s.span.low),.u (.str s.span.high),.own (rid a b i 0) s.pairs.length,.own (rid a b i 1) s.known.length,.u (.bool s.sealed),.u (.str s.cut)]
theorem ZK9 (lo hi:Str) (l:List Pair) (k:List Session) (se:Bool) (cut:Str) (es:List Entry) (hl:l.length≤1048576) (hk:k.length≤1048576) (hes:es.length≤1048576):EE F 166 [.ag [.u (.str lo),.u (.str hi),.u (.sl 2 (l.map Pair.u)),.u (.sl 3 (k.map Session.u)),.u (.bool se),.u (.str cut)],L 6 (es.map Entry.u)] []=if (ZD ⟨⟨lo,hi⟩,l,k,se,cut⟩&&ZN es)=true then ZFO (runE ⟨⟨lo,hi⟩,l,k,se,cut⟩ es) (repE ⟨⟨lo,hi⟩,l,k,se,cut⟩ es) else ZGl:=by
 rw [R166,b166]
 have hv:=ZFs lo hi l k se cut (by omega)
 have he:=ZF8 es (by omega)
 cases h1:ZD ⟨⟨lo,hi⟩,l,k,se,cut⟩
 ·simp only[↓xP,xT,rL,rB,rA,rS,hv,h1]
  simp [ZGl]
 cases h2:ZN es
 ·simp only[↓xP,xT,rL,rB,rA,rS,hv,h1,he,h2]
  simp [ZGl]
 have hcs:=ZIc lo hi l k se cut hl hk
 simp only[ZHG] at hcs
 rw [Bool.and_self,if_pos rfl]
 simp only[ZN,Bool.and_eq_true,decide_eq_true_eq] at h2
 obtain ⟨h24,hall⟩:=h2
 have he':EE F 225 [L 6 (es.map Entry.u)] []=ok1 (B true):=by rw [he]; simp [ZN,h24,hall]
 rw [h1] at hv
 generalize hs0:(⟨⟨lo,hi⟩,l,k,se,cut⟩:State)=s0 at h1 ⊢
 simp only[↓xP,xT,rL,rB,rA,rS,hv,he',hcs]
 refine Zjc (fun (i:Nat) st=>i≤es.length∧st.s 4=.t (.sc (.ptr (.loc 4 0) 0 0))∧st.o (.loc 4 0)=some (.box [.u (.str []),.u (.str []),.u (.sl 2 []),.u (.sl 3 []),.u (.bool false),.u (.str [])])∧st.s 6=.t (.sc (.ptr (.loc 6 0) 0 0))∧st.o (.loc 6 0)=some (.box (ZFB 21 31 i (runE s0 (es.take i))))∧st.o (rid 21 31 i 0)=some (.row 2 ((runE s0 (es.take i)).pairs.map Pair.u))∧st.o (rid 21 31 i 1)=some (.row 3 ((runE s0 (es.take i)).known.map Session.u))∧st.s 7=.t (.sc (.own (.loc 7 0) (repE s0 (es.take i)).length))∧st.o (.loc 7 0)=some (.row 1 ((repE s0 (es.take i)).map iU))∧st.s 22=DU (.sl 6 (es.map Entry.u))∧st.s 23=DI es.length∧st.s 24=DI i) (fun i=>es.length - i) (fun _=>ZFO (runE s0 es) (repE s0 es)) ?_ 0 (by and_intros<;>first|omega|rfl|(simp only[↓xP,xT,rL,rB,rA,rS,←hs0,ZFB,rid,runE,repE,List.take_zero,List.foldl_nil,List.length_nil,List.map_nil]<;>first|done|rfl|omega))
 clear hcs hv he he'
 rintro i st ⟨hle,h4,ho4,h6,ho6,hop,hok,h7,ho7,h22,h23,h24'⟩ ih
 have hvs:=ZJc (es.take i) s0 h1 (ZKR hall i)
 have hsm:=ZG7 hvs
 have hrl:(repE s0 (es.take i)).length≤24:=by rw [ZJw,List.length_take]; omega
 by_cases hi':i<es.length
 ·obtain ⟨⟨c,s,⟨kd,key,v,o⟩⟩,hx⟩:∃ x,es[i]?=some x:=⟨_,List.getElem?_eq_getElem hi'⟩
  have hw:=w_succ (i:=i) (by omega)
  have hev:ZT ⟨c,s,⟨kd,key,v,o⟩⟩=true:=List.all_eq_true.1 hall _ (List.mem_of_getElem? hx)
  have hr1:=ZKe (s:=s0) hx
  have hr2:=ZKc (s:=s0) hx
  generalize runE s0 (es.take i)=S at ho6 hop hok hr1 hr2 hvs hsm
  generalize repE s0 (es.take i)=R at h7 ho7 hr2 hrl
  obtain ⟨⟨lo',hi2⟩,l',k',se',cut'⟩:=S
  dsimp only at ho6 hop hok hsm
  have hae:=ZI2 lo' hi2 l' k' se' cut' c s kd key v o (by omega) (by omega)
  rw [hvs,hev,Bool.and_self,if_pos rfl] at hae
  generalize ZF1 ⟨⟨lo',hi2⟩,l',k',se',cut'⟩ ⟨c,s,⟨kd,key,v,o⟩⟩=q at hae hr1 hr2
  obtain ⟨⟨⟨lo3,hi3⟩,l3,k3,se3,cut3⟩,rp⟩:=q
  simp only[ZFM] at hae hr1 hr2
  have m1:R.length+1≤maxLen:=by simp [maxLen]; omega
  have m2:(R.length+1)*8≤140737488355328:=by omega
  cases i with
  | zero=>
   simp only[rid,ZFB] at ho6 hop hok
   simp only[↓xP,xT,rL,rB,rA,rS,rdx,rdx2,h4,ho4,h6,ho6,hop,hok,h7,ho7,h22,h23,h24',hi',hx,hw,Entry.u,hae,ZL,List.length_map,m1,m2]
   exact ih 1 _ (by omega) (by and_intros<;>first|omega|rfl|(simp only[↓xP,xT,rL,rB,rA,rS,h4,ho4,h6,ho6,h7,ho7,h22,h23,hr1,hr2,rid,ZFB,List.length_append,List.map_append,List.length_cons,List.length_nil,List.map_cons,List.map_nil,iU]<;>first|done|rfl|omega))
  | succ i=>
   simp only[rid,ZFB] at ho6 hop hok
   simp only[↓xP,xT,rL,rB,rA,rS,rdx,rdx2,h4,ho4,h6,ho6,hop,hok,h7,ho7,h22,h23,h24',hi',hx,hw,Entry.u,hae,ZL,List.length_map,m1,m2]
   exact ih (i+1+1) _ (by omega) (by and_intros<;>first|omega|rfl|(simp only[↓xP,xT,rL,rB,rA,rS,h4,ho4,h6,ho6,h7,ho7,h22,h23,hr1,hr2,rid,ZFB,List.length_append,List.map_append,List.length_cons,List.length_nil,List.map_cons,List.map_nil,iU]<;>first|done|rfl|omega))
 ·have hta:es.take i=es:=List.take_of_length_le (by omega)
  rw [hta] at ho6 hop hok h7 ho7
  generalize runE s0 es=S at ho6 hop hok ⊢
  obtain ⟨⟨lo',hi2⟩,l',k',se',cut'⟩:=S
  cases i with
  | zero=>
   simp only[rid,ZFB] at ho6 hop hok
   simp only[↓xP,xT,rL,rB,rA,rS,h4,ho4,h6,ho6,hop,hok,h7,ho7,h22,h23,h24',hi',ZFO]
  | succ i=>
   simp only[rid,ZFB] at ho6 hop hok
   simp only[↓xP,xT,rL,rB,rA,rS,h4,ho4,h6,ho6,hop,hok,h7,ho7,h22,h23,h24',hi',ZFO]
theorem ZLa (lo hi:Str) (l:List Pair) (k:List Session) (se:Bool) (cut:Str) (es:List Entry) (hl:l.length≤1048576) (hk:k.length≤1048576) (hes:es.length≤1048576):EE F 164 [.ag [.u (.str lo),.u (.str hi),.u (.sl 2 (l.map Pair.u)),.u (.sl 3 (k.map Session.u)),.u (.bool se),.u (.str cut)],L 6 (es.map Entry.u)] []=if (ZD ⟨⟨lo,hi⟩,l,k,se,cut⟩&&ZN es)=true then ZFO (runE ⟨⟨lo,hi⟩,l,k,se,cut⟩ es) (repE ⟨⟨lo,hi⟩,l,k,se,cut⟩ es) else ZGl:=by
 rw [R164,b164]
 have hv:=ZFt lo hi l k se cut (by omega)
 have he:=ZF9 es (by omega)
 cases h1:ZD ⟨⟨lo,hi⟩,l,k,se,cut⟩
 ·simp only[↓xP,xT,rL,rB,rA,rS,hv,h1]
  simp [ZGl]
 cases h2:ZN es
 ·simp only[↓xP,xT,rL,rB,rA,rS,hv,h1,he,h2]
  simp [ZGl]
 have hcs:=ZJm lo hi l k se cut hl hk
 simp only[ZHG] at hcs
 rw [Bool.and_self,if_pos rfl]
 simp only[ZN,Bool.and_eq_true,decide_eq_true_eq] at h2
 obtain ⟨h24,hall⟩:=h2
 have he':EE F 222 [L 6 (es.map Entry.u)] []=ok1 (B true):=by rw [he]; simp [ZN,h24,hall]
 rw [h1] at hv
 generalize hs0:(⟨⟨lo,hi⟩,l,k,se,cut⟩:State)=s0 at h1 ⊢
 simp only[↓xP,xT,rL,rB,rA,rS,hv,he',hcs]
 refine Zjc (fun (i:Nat) st=>i≤es.length∧st.s 4=.t (.sc (.ptr (.loc 4 0) 0 0))∧st.o (.loc 4 0)=some (.box [.u (.str []),.u (.str []),.u (.sl 2 []),.u (.sl 3 []),.u (.bool false),.u (.str [])])∧st.s 7=.t (.sc (.ptr (.loc 7 0) 0 0))∧st.o (.loc 7 0)=some (.box (ZFB 23 36 i (runE s0 (es.take i))))∧st.o (rid 23 36 i 0)=some (.row 2 ((runE s0 (es.take i)).pairs.map Pair.u))∧st.o (rid 23 36 i 1)=some (.row 3 ((runE s0 (es.take i)).known.map Session.u))∧st.s 6=.t (.sc (.own (.loc 11 0) (repE s0 (es.take i)).length))∧st.o (.loc 11 0)=some (.row 1 ((repE s0 (es.take i)).map iU))∧st.s 1=DU (.sl 6 (es.map Entry.u))∧st.s 8=DI i) (fun i=>es.length - i) (fun _=>ZFO (runE s0 es) (repE s0 es)) ?_ 0 (by and_intros<;>first|omega|rfl|(simp only[↓xP,xT,rL,rB,rA,rS,←hs0,ZFB,rid,runE,repE,List.take_zero,List.foldl_nil,List.length_nil,List.map_nil]<;>first|done|rfl|omega))
 clear hcs hv he he'
 rintro i st ⟨hle,h4,ho4,h6,ho6,hop,hok,h7,ho7,h22,h24'⟩ ih
 have hvs:=ZJc (es.take i) s0 h1 (ZKR hall i)
 have hsm:=ZG7 hvs
 have hrl:(repE s0 (es.take i)).length≤24:=by rw [ZJw,List.length_take]; omega
 by_cases hi':i<es.length
 ·obtain ⟨⟨c,s,⟨kd,key,v,o⟩⟩,hx⟩:∃ x,es[i]?=some x:=⟨_,List.getElem?_eq_getElem hi'⟩
  have hw:=w_succ (i:=i) (by omega)
  have hev:ZT ⟨c,s,⟨kd,key,v,o⟩⟩=true:=List.all_eq_true.1 hall _ (List.mem_of_getElem? hx)
  have hr1:=ZKe (s:=s0) hx
  have hr2:=ZKc (s:=s0) hx
  generalize runE s0 (es.take i)=S at ho6 hop hok hr1 hr2 hvs hsm
  generalize repE s0 (es.take i)=R at h7 ho7 hr2 hrl
  obtain ⟨⟨lo',hi2⟩,l',k',se',cut'⟩:=S
  dsimp only at ho6 hop hok hsm
  have hae:=ZI3 lo' hi2 l' k' se' cut' c s kd key v o (by omega) (by omega)
  rw [hvs,hev,Bool.and_self,if_pos rfl] at hae
  generalize ZF1 ⟨⟨lo',hi2⟩,l',k',se',cut'⟩ ⟨c,s,⟨kd,key,v,o⟩⟩=q at hae hr1 hr2
  obtain ⟨⟨⟨lo3,hi3⟩,l3,k3,se3,cut3⟩,rp⟩:=q
  simp only[ZFM] at hae hr1 hr2
  have m1:R.length+1≤maxLen:=by simp [maxLen]; omega
  have m2:(R.length+1)*8≤140737488355328:=by omega
  cases i with
  | zero=>
   simp only[rid,ZFB] at ho6 hop hok
   simp only[↓xP,xT,rL,rB,rA,rS,rdx,rdx2,ofR,List.getElem?_nil,h4,ho4,h6,ho6,hop,hok,h7,ho7,h22,h24',hi',hx,hw,Entry.u,hae,ZL,List.length_map,m1,m2]
   exact ih 1 _ (by omega) (by and_intros<;>first|omega|rfl|(simp only[↓xP,xT,rL,rB,rA,rS,h4,ho4,h6,ho6,h7,ho7,h22,hw,hr1,hr2,rid,ZFB,List.length_append,List.map_append,List.length_cons,List.length_nil,List.map_cons,List.map_nil,iU]<;>first|done|rfl|omega))
  | succ i=>
   simp only[rid,ZFB] at ho6 hop hok
   simp only[↓xP,xT,rL,rB,rA,rS,rdx,rdx2,ofR,List.getElem?_nil,h4,ho4,h6,ho6,hop,hok,h7,ho7,h22,h24',hi',hx,hw,Entry.u,hae,ZL,List.length_map,m1,m2]
   exact ih (i+1+1) _ (by omega) (by and_intros<;>first|omega|rfl|(simp only[↓xP,xT,rL,rB,rA,rS,h4,ho4,h6,ho6,h7,ho7,h22,hw,hr1,hr2,rid,ZFB,List.length_append,List.map_append,List.length_cons,List.length_nil,List.map_cons,List.map_nil,iU]<;>first|done|rfl|omega))
 ·have hta:es.take i=es:=List.take_of_length_le (by omega)
  rw [hta] at ho6 hop hok h7 ho7
  generalize runE s0 es=S at ho6 hop hok ⊢
  obtain ⟨⟨lo',hi2⟩,l',k',se',cut'⟩:=S
  cases i with
  | zero=>
   simp only[rid,ZFB] at ho6 hop hok
   simp only[↓xP,xT,rL,rB,rA,rS,h4,ho4,h6,ho6,hop,hok,h7,ho7,h22,h24',hi',List.length_map,ZFO]
  | succ i=>
   simp only[rid,ZFB] at ho6 hop hok
   simp only[↓xP,xT,rL,rB,rA,rS,h4,ho4,h6,ho6,hop,hok,h7,ho7,h22,h24',hi',List.length_map,ZFO]
theorem ZMA (st:St) (d:Nat):st.dead d 3=(isNo (st.o (.loc d 0))&&(isNo (st.o (.loc d 1))&&isNo (st.o (.loc d 2)))):=by simp [St.dead,isNo,List.range_succ,Bool.and_assoc]
theorem ZM4 (st:St) (d:Nat) (v:D) (a b c:Id) (x y z:Obj) (rd:List Id):Fx.app ⟨some d,v,[(a,x),(b,y),(c,z)],rd⟩ st=(((st.obj a (some x)).obj b (some y)).obj c (some z)).put d v:=rfl
def ZFh (l:List Answer):List Entry:=l.map (fun a=>a.asked)
theorem ZJ2 {l:List Answer} {i:Nat} {a:Answer} (h:l[i]?=some a):ZFh (l.take (i+1))=ZFh (l.take i)++[a.asked]:=by
 rw [ZFh,List.take_add_one,h]; simp [ZFh]
theorem ZHy (l:List Answer):(ZFh l).length=l.length:=by simp [ZFh]
def ZGY (l:List Entry):Option Ret:=some ⟨[.sc (.own (.par 0) l.length)],[.row 6 (l.map Entry.u)],[]⟩
theorem ZLr (l:List Answer) (hn:l.length≤1048576):EE F 167 [L 7 (l.map Answer.u)] []=ZGY (ZFh l):=by
 rw [R167,b167]
 simp only[↓xP,xT,rL,rB,rA,rS]
 refine Zjc (fun (i:Nat) st=>i≤l.length∧st.s 3=.t (.sc (.own (.loc 3 0) (ZFh (l.take i)).length))∧st.o (.loc 3 0)=some (.row 6 ((ZFh (l.take i)).map Entry.u))∧st.s 6=DU (.sl 7 (l.map Answer.u))∧st.s 7=DI l.length∧st.s 8=DI i) (fun i=>l.length - i) (fun _=>ZGY (ZFh l)) ?_ 0 (by and_intros<;>first|omega|rfl|(simp only[↓xP,xT,rL,rB,rA,rS]<;>first|done|rfl|omega))
 rintro i st ⟨hle,h3,ho,h6,h7,h8⟩ ih
 by_cases hi:i<l.length
 ·obtain ⟨⟨⟨c,s,⟨kd,key,v,o⟩⟩,rp⟩,hx⟩:∃ x,l[i]?=some x:=⟨_,List.getElem?_eq_getElem hi⟩
  have hw:=w_succ (i:=i) (by omega)
  have hst:=ZJ2 hx
  have hol:(ZFh (l.take i)).length=i:=by rw [ZHy,List.length_take]; omega
  generalize ZFh (l.take i)=O at h3 ho hst hol
  have m1:O.length+1≤maxLen:=by simp [maxLen]; omega
  have m2:(O.length+1)*56≤140737488355328:=by omega
  simp only[↓xP,xT,rL,rB,rA,rS,h3,ho,h6,h7,h8,hi,hx,hw,Answer.u,List.length_map,m1,m2]
  exact ih (i+1) _ (by omega) (by and_intros<;>first|omega|rfl|(simp only[↓xP,xT,rL,rB,rA,rS,h3,ho,h6,h7,hst,List.length_append,List.map_append,List.length_cons,List.length_nil,List.map_cons,List.map_nil,Entry.u]<;>first|done|rfl|omega))
 ·have hall:l.take i=l:=List.take_of_length_le (by omega)
  rw [hall] at h3 ho
  simp only[↓xP,xT,rL,rB,rA,rS,h3,ho,h6,h7,h8,hi,ZGY]
theorem ZJg (lo up:Str) (prs:List Pair) (kn:List Session) (sld:Bool) (cut:Str) (ep:Int) (ms:List Int) (fr:Bool) (nds:List Replica) (ups:List Bool) (bag:List Message) (ans:List Answer) (hs:Chain.Small ⟨⟨⟨lo,up⟩,prs,kn,sld,cut⟩,⟨ep,ms,fr⟩,nds,ups,bag,ans⟩) (hv:ZF ⟨⟨⟨lo,up⟩,prs,kn,sld,cut⟩,⟨ep,ms,fr⟩,nds,ups,bag,ans⟩=true):EE F 165 [.ag [.u (.str lo),.u (.str up),.u (.sl 2 (prs.map Pair.u)),.u (.sl 3 (kn.map Session.u)),.u (.bool sld),.u (.str cut),.u (.int .i64 ep),.u (.sl 1 (ms.map iU)),.u (.bool fr),.u (.sl 5 (nds.map Replica.u)),.u (.sl 1 (ups.map bU)),.u (.sl 7 (bag.map Message.u)),.u (.sl 7 (ans.map Answer.u))]] []=ZGY (ZFh ans):=by
 have hch:=ZGx lo up prs kn sld cut ep ms fr nds ups bag ans hs
 have hn:ans.length≤1048576:=hs.2.2.2.2.2.1.1
 rw [hv] at hch
 rw [R165,b165]
 simp only[↓xP,xT,rL,rB,rA,rS]
 refine Zjc (fun (i:Nat) st=>i≤ans.length∧st.s 1=.t (.sc (.ptr (.loc 1 0) 0 0))∧st.o (.loc 1 0)=some (.box [.u (.str lo),.u (.str up),.u (.sl 2 (prs.map Pair.u)),.u (.sl 3 (kn.map Session.u)),.u (.bool sld),.u (.str cut),.u (.int .i64 ep),.u (.sl 1 (ms.map iU)),.u (.bool fr),.u (.sl 5 (nds.map Replica.u)),.u (.sl 1 (ups.map bU)),.u (.sl 7 (bag.map Message.u)),.u (.sl 7 (ans.map Answer.u))])∧st.s 3=.t (.sc (.own (.loc 5 0) (ZFh (ans.take i)).length))∧st.o (.loc 5 0)=some (.row 6 ((ZFh (ans.take i)).map Entry.u))∧st.s 4=DI i) (fun i=>ans.length - i) (fun _=>ZGY (ZFh ans)) ?_ 0 (by and_intros<;>first|omega|rfl|(simp only[↓xP,xT,rL,rB,rA,rS]<;>first|done|rfl|omega))
 rintro i st ⟨hle,h1,hb,h3,ho,h4⟩ ih
 by_cases hi:i<ans.length
 ·obtain ⟨⟨⟨c,s,⟨kd,key,v,o⟩⟩,rp⟩,hx⟩:∃ x,ans[i]?=some x:=⟨_,List.getElem?_eq_getElem hi⟩
  have hw:=w_succ (i:=i) (by omega)
  have hst:=ZJ2 hx
  have hol:(ZFh (ans.take i)).length=i:=by rw [ZHy,List.length_take]; omega
  generalize ZFh (ans.take i)=O at h3 ho hst hol
  have m1:O.length+1≤maxLen:=by simp [maxLen]; omega
  have m2:(O.length+1)*56≤140737488355328:=by omega
  simp only[↓xP,xT,rL,rB,rA,rS,rdx,rdx2,h1,hb,h3,ho,h4,hi,hx,hw,hch,Answer.u,List.length_map,m1,m2]
  exact ih (i+1) _ (by omega) (by and_intros<;>first|omega|rfl|(simp only[↓xP,xT,rL,rB,rA,rS,h1,hb,h3,ho,hw,hst,List.length_append,List.map_append,List.length_cons,List.length_nil,List.map_cons,List.map_nil,Entry.u]<;>first|done|rfl|omega))
 ·have hall:ans.take i=ans:=List.take_of_length_le (by omega)
  rw [hall] at h3 ho
  simp only[↓xP,xT,rL,rB,rA,rS,rdx,rdx2,h1,hb,h3,ho,h4,hi,hch,List.length_map,ZGY]
def ZFZ (c:Chain):State:=runE c.base (ZFh c.answers)
theorem ZHZ {c:Chain} (h:ZF c=true):ZN (ZFh c.answers)=true:=by
 simp only[ZF,ZX,Bool.and_eq_true,decide_eq_true_eq] at h
 simp only[ZN,ZHy,Bool.and_eq_true,decide_eq_true_eq]
 refine ⟨h.2.1,?_⟩
 have h2:=h.2.2
 rw [List.all_eq_true] at h2 ⊢
 intro e he
 obtain ⟨a,ha,rfl⟩:=List.mem_map.1 he
 have:=h2 a ha
 simp only[ZFg,Bool.and_eq_true] at this
 exact this.1
theorem ZH1 {c:Chain} (h:ZF c=true):ZD c.base=true:=by
 simp only[ZF,Bool.and_eq_true] at h
 exact h.1.1.1.1.1.1.1
def ZJs (s:State):Option Ret:=some ⟨[.ag [.u (.str s.span.low),.u (.str s.span.high),.own (.par 0) s.pairs.length,.own (.par 1) s.known.length,.u (.bool s.sealed),.u (.str s.cut)]],[.row 2 (s.pairs.map Pair.u),.row 3 (s.known.map Session.u)],[]⟩
def ZKq (s:State):Option Ret:=some ⟨[.ag [.u (.str s.span.low),.u (.str s.span.high),.u (.sl 2 (s.pairs.map Pair.u)),.u (.sl 3 (s.known.map Session.u)),.u (.bool s.sealed),.u (.str s.cut)]],[],[]⟩
def ZJb:Option Ret:=some ⟨[.ag [.u (.str []),.u (.str []),.u (.sl 2 []),.u (.sl 3 []),.u (.bool false),.u (.str [])]],[],[]⟩
theorem ZHX (lo up:Str) (prs:List Pair) (kn:List Session) (sld:Bool) (cut:Str) (ep:Int) (ms:List Int) (fr:Bool) (nds:List Replica) (ups:List Bool) (bag:List Message) (ans:List Answer) (hs:Chain.Small ⟨⟨⟨lo,up⟩,prs,kn,sld,cut⟩,⟨ep,ms,fr⟩,nds,ups,bag,ans⟩):EE F 99 [.ag [.u (.str lo),.u (.str up),.u (.sl 2 (prs.map Pair.u)),.u (.sl 3 (kn.map Session.u)),.u (.bool sld),.u (.str cut),.u (.int .i64 ep),.u (.sl 1 (ms.map iU)),.u (.bool fr),.u (.sl 5 (nds.map Replica.u)),.u (.sl 1 (ups.map bU)),.u (.sl 7 (bag.map Message.u)),.u (.sl 7 (ans.map Answer.u))]] []=if ZF ⟨⟨⟨lo,up⟩,prs,kn,sld,cut⟩,⟨ep,ms,fr⟩,nds,ups,bag,ans⟩=true then ZJs (ZFZ ⟨⟨⟨lo,up⟩,prs,kn,sld,cut⟩,⟨ep,ms,fr⟩,nds,ups,bag,ans⟩) else ZJb:=by
 have hch:=ZHw lo up prs kn sld cut ep ms fr nds ups bag ans hs
 have hn:ans.length≤1048576:=hs.2.2.2.2.2.1.1
 rw [R99,b99]
 cases hv:ZF ⟨⟨⟨lo,up⟩,prs,kn,sld,cut⟩,⟨ep,ms,fr⟩,nds,ups,bag,ans⟩
 ·simp only[↓xP,xT,rL,rB,rA,rS,hch,hv]
  simp [ZJb]
 have hav:=ZHZ hv
 have hbv:=ZH1 hv
 have has:=ZLr ans hn
 have hpl:prs.length≤1048576:=hs.1.2.1.1
 have hkl:kn.length≤1048576:=hs.1.2.2.1.1
 have hrp:=ZK9 lo up prs kn sld cut (ZFh ans) hpl hkl (by rw [ZHy]; exact hn)
 simp only at hav hbv
 rw [hav,hbv,Bool.and_self,if_pos rfl] at hrp
 rw [if_pos rfl]
 simp only[ZFZ]
 generalize runE ⟨⟨lo,up⟩,prs,kn,sld,cut⟩ (ZFh ans)=S at hrp
 generalize repE ⟨⟨lo,up⟩,prs,kn,sld,cut⟩ (ZFh ans)=R at hrp
 obtain ⟨⟨lo2,up2⟩,p2,k2,s2,ct2⟩:=S
 simp only[ZFO] at hrp
 simp only[ZGY] at has
 simp only[↓xP,xT,rL,rB,rA,rS,rdx,rdx2,ofR,ZMA,ZM4,List.getElem?_nil,hch,hv,has,hrp,ZL,ZJs]
theorem ZHY (lo up:Str) (prs:List Pair) (kn:List Session) (sld:Bool) (cut:Str) (ep:Int) (ms:List Int) (fr:Bool) (nds:List Replica) (ups:List Bool) (bag:List Message) (ans:List Answer) (hs:Chain.Small ⟨⟨⟨lo,up⟩,prs,kn,sld,cut⟩,⟨ep,ms,fr⟩,nds,ups,bag,ans⟩):EE F 98 [.ag [.u (.str lo),.u (.str up),.u (.sl 2 (prs.map Pair.u)),.u (.sl 3 (kn.map Session.u)),.u (.bool sld),.u (.str cut),.u (.int .i64 ep),.u (.sl 1 (ms.map iU)),.u (.bool fr),.u (.sl 5 (nds.map Replica.u)),.u (.sl 1 (ups.map bU)),.u (.sl 7 (bag.map Message.u)),.u (.sl 7 (ans.map Answer.u))]] []=if ZF ⟨⟨⟨lo,up⟩,prs,kn,sld,cut⟩,⟨ep,ms,fr⟩,nds,ups,bag,ans⟩=true then ZKq (ZFZ ⟨⟨⟨lo,up⟩,prs,kn,sld,cut⟩,⟨ep,ms,fr⟩,nds,ups,bag,ans⟩) else ZJb:=by
 have hch:=ZGx lo up prs kn sld cut ep ms fr nds ups bag ans hs
 have hn:ans.length≤1048576:=hs.2.2.2.2.2.1.1
 rw [R98,b98]
 cases hv:ZF ⟨⟨⟨lo,up⟩,prs,kn,sld,cut⟩,⟨ep,ms,fr⟩,nds,ups,bag,ans⟩
 ·simp only[↓xP,xT,rL,rB,rA,rS,hch,hv]
  simp [ZJb]
 have hav:=ZHZ hv
 have hbv:=ZH1 hv
 have has:=ZJg lo up prs kn sld cut ep ms fr nds ups bag ans hs hv
 have hpl:prs.length≤1048576:=hs.1.2.1.1
 have hkl:kn.length≤1048576:=hs.1.2.2.1.1
 have hrp:=ZLa lo up prs kn sld cut (ZFh ans) hpl hkl (by rw [ZHy]; exact hn)
 simp only at hav hbv
 rw [hav,hbv,Bool.and_self,if_pos rfl] at hrp
 rw [if_pos rfl]
 simp only[ZFZ]
 generalize runE ⟨⟨lo,up⟩,prs,kn,sld,cut⟩ (ZFh ans)=S at hrp
 generalize repE ⟨⟨lo,up⟩,prs,kn,sld,cut⟩ (ZFh ans)=R at hrp
 obtain ⟨⟨lo2,up2⟩,p2,k2,s2,ct2⟩:=S
 simp only[ZFO] at hrp
 simp only[ZGY] at has
 simp only[↓xP,xT,rL,rB,rA,rS,rdx,rdx2,ofR,ZMA,ZM4,List.getElem?_nil,hch,hv,has,hrp,ZL,ZKq]
def ld3 (st:St) (d zl:Nat) (ids:List Id) (us:List U) (ok:Bool):Option St:=if ok=true then some (((st.killAll ids).obj (.loc d 0) (some (.deep zl [us]))).put d (.t (.sc (.down (.loc d 0) 1)))) else none
def ld2 (st:St) (d k zl:Nat) (ids:List Id) (us:Option (List U)):Option St:=us.bind fun us=>ld3 st d zl ids us (us.length==zl&&(k==1&&ZaV ids))
def ZIO (st:St) (d k zl:Nat) (x:D):Option St:=match x with
 | .t v=>ld2 st d k zl v.ids (Zb1 st v.cells)
 | _=>none
@[congr] theorem ZKy {st:St} {d k zl:Nat} {x x':D} (h:x=x'):ZIO st d k zl x=ZIO st d k zl x':=by rw [h]
@[congr] theorem ZMl {st:St} {d k zl:Nat} {ids ids':List Id} {us us':Option (List U)} (h:ids=ids') (h2:us=us'):ld2 st d k zl ids us=ld2 st d k zl ids' us':=by rw [h,h2]
@[congr] theorem ZMm {st:St} {d zl:Nat} {ids:List Id} {us:List U} {ok ok':Bool} (h:ok=ok'):ld3 st d zl ids us ok=ld3 st d zl ids us ok':=by rw [h]
theorem ZM0 (E:Zb) (st:St) (d k:Nat) (zero:List U) (a:Arg):step E st (.litd d k zero a)=ZIO (st.cool (.loc d 0)) d k zero.length ((st.cool (.loc d 0)).get a):=by
 simp only[step,ZIO]
 cases (st.cool (.loc d 0)).get a with
 | t v=>
  simp only[D.t?,Option.bind_some,ZeB,ld2]
  cases Zb1 (st.cool (.loc d 0)) v.cells with
  | none=>rfl
  | some us=>
   simp only[Option.bind_some,ld3,St.make,←ZcJ]
   by_cases h1:us.length=zero.length<;>by_cases h2:k=1<;>by_cases h3:v.ids.Nodup<;>simp [h1,h2,h3]
 | _=>rfl
def ap5 (st:St) (d sz:Nat) (idy:Id) (ry r:List (List U)) (id:Id) (n:Nat) (ok:Bool):Option St:=if ok=true then some ((((st.kill idy).kill id).obj id (some (.deep sz (r++ry)))).put d (.t (.sc (.down id n)))) else none
def ap6 (st:St) (d sz:Nat) (idy:Id) (ry:List (List U)) (m:Nat) (ok:Bool):Option St:=if ok=true then some ((((st.kill idy).cool (.loc d 0)).obj (.loc d 0) (some (.deep sz ry))).put d (.t (.sc (.down (.loc d 0) m)))) else none
def ap4 (st:St) (d sz:Nat) (idy:Id) (m:Nat) (ry:List (List U)) (bytes:Nat) (id:Id) (n:Nat) (ob:Option Obj):Option St:=match ob with
 | some (.deep z r)=>ap5 st d sz idy ry r id (n+m) (z==sz&&(r.length==n&&(Zk id&&(!(id==idy)&&(decide (n+m≤maxLen)&&decide ((n+m)*bytes≤140737488355328))))))
 | _=>none
def ap3 (st:St) (d sz:Nat) (idy:Id) (m:Nat) (ry:List (List U)) (bytes:Nat) (x:D) (ok:Bool):Option St:=if ok=true then (match x with
 | .t (.sc (.u .nil))|.emp=>ap6 st d sz idy ry m (decide (m≤maxLen)&&decide (m*bytes≤140737488355328))
 | .t (.sc (.down id n))=>ap4 st d sz idy m ry bytes id n (st.o id)
 | _=>none) else none
def ap2 (st:St) (d sz:Nat) (idy:Id) (m bytes:Nat) (x:D) (ob:Option Obj):Option St:=match ob with
 | some (.deep zy ry)=>ap3 st d sz idy m ry bytes x (zy==sz&&(ry.length==m&&(Zk idy&&decide (0<m))))
 | _=>none
def ZIN (st:St) (d sz bytes:Nat) (x y:D):Option St:=match y with
 | .t (.sc (.down idy m))=>ap2 st d sz idy m bytes x (st.o idy)
 | _=>none
@[congr] theorem ZKx {st:St} {d sz bytes:Nat} {x x' y y':D} (h:x=x') (h2:y=y'):ZIN st d sz bytes x y=ZIN st d sz bytes x' y':=by rw [h,h2]
@[congr] theorem ZL6 {st:St} {d sz m bytes:Nat} {idy:Id} {x x':D} {ob ob':Option Obj} (h:x=x') (h2:ob=ob'):ap2 st d sz idy m bytes x ob=ap2 st d sz idy m bytes x' ob':=by rw [h,h2]
@[congr] theorem ZL7 {st:St} {d sz m bytes:Nat} {idy:Id} {ry:List (List U)} {x:D} {ok ok':Bool} (h:ok=ok'):ap3 st d sz idy m ry bytes x ok=ap3 st d sz idy m ry bytes x ok':=by rw [h]
@[congr] theorem ZL8 {st:St} {d sz m bytes n:Nat} {idy id:Id} {ry:List (List U)} {ob ob':Option Obj} (h:ob=ob'):ap4 st d sz idy m ry bytes id n ob=ap4 st d sz idy m ry bytes id n ob':=by rw [h]
@[congr] theorem ZL9 {st:St} {d sz n:Nat} {idy id:Id} {ry r:List (List U)} {ok ok':Bool} (h:ok=ok'):ap5 st d sz idy ry r id n ok=ap5 st d sz idy ry r id n ok':=by rw [h]
@[congr] theorem ZMa {st:St} {d sz m:Nat} {idy:Id} {ry:List (List U)} {ok ok':Bool} (h:ok=ok'):ap6 st d sz idy ry m ok=ap6 st d sz idy ry m ok':=by rw [h]
theorem ZMT (E:Zb) (st:St) (d sz:Nat) (x y:Arg) (bytes:Nat):step E st (.appd d sz x y bytes)=ZIN st d sz bytes (st.get x) (st.get y):=by
  simp only[step,ZIN]
  cases st.get y with
  | t q =>
    cases q with
    | sc c=>
      cases c with
      | down idy m=>
        simp only[ap2]
        cases st.o idy with
        | none=>rfl
        | some ob =>
          cases ob with
          | deep zy ry=>
            simp only[ap3]
            have hc:(zy==sz&&(ry.length==m&&(Zk idy&&decide (0<m))))=decide (zy=sz∧ry.length=m∧Zk idy=true∧0<m):=by
              rw [Bool.eq_iff_iff]; simp
            rw [hc]
            by_cases h:zy=sz∧ry.length=m∧Zk idy=true∧0<m
            · rw [if_pos h,if_pos (decide_eq_true h)]
              cases st.get x with
              | t q =>
                cases q with
                | sc c=>
                  cases c with
                  | u v=>
                    cases v with
                    | nil=>
                      simp only[D.base?,ap6,St.make]
                      by_cases g1:m≤maxLen<;>by_cases g2:m*bytes≤140737488355328<;>simp [g1,g2]
                    | _=>rfl
                  | down id n=>
                    simp only[D.base?,ap4]
                    cases st.o id with
                    | none=>rfl
                    | some ob=>
                      cases ob with
                      | deep z r=>
                        simp only[ap5]
                        have hc2:(z==sz&&(r.length==n&&(Zk id&&(!(id==idy)&&(decide (n+m≤maxLen)&&decide ((n+m)*bytes≤140737488355328))))))=decide (z=sz∧r.length=n∧Zk id=true∧id≠idy∧n+m≤maxLen∧(n+m)*bytes≤140737488355328):=by
                          rw [Bool.eq_iff_iff]; simp
                        rw [hc2]
                        by_cases g:z=sz∧r.length=n∧Zk id=true∧id≠idy∧n+m≤maxLen∧(n+m)*bytes≤140737488355328
                        · rw [if_pos g,if_pos (decide_eq_true g)]
                        · rw [if_neg g,if_neg (fun e=>g (of_decide_eq_true e))]
                      | _=>rfl
                  | _=>rfl
                | _=>rfl
              | emp=>
                simp only[D.base?,ap6,St.make]
                by_cases g1:m≤maxLen<;>by_cases g2:m*bytes≤140737488355328<;>simp [g1,g2]
              | _=>rfl
            · rw [if_neg h,if_neg (fun e=>h (of_decide_eq_true e))]
          | _=>rfl
      | _=>rfl
    | _=>rfl
  | _=>rfl
theorem ZMB:(∀ (F:Nat→Option IFn) (fin:St→Option Ret) (is:List Za) (os:List GOp) (st:St) d k zero a,RR F fin is (⟨.litd d k zero a,none⟩::os) st=RS F fin is os (ZIO (st.cool (.loc d 0)) d k zero.length ((st.cool (.loc d 0)).get a)))∧
 (∀ (st:St) d k zl v,ZIO st d k zl (.t v)=ld2 st d k zl v.ids (Zb1 st v.cells))∧(∀ (st:St) d k zl ids us,ld2 st d k zl ids (some us)=ld3 st d zl ids us (us.length==zl&&(k==1&&ZaV ids)))∧
 (∀ (st:St) d zl ids us,ld3 st d zl ids us true=some (((st.killAll ids).obj (.loc d 0) (some (.deep zl [us]))).put d (.t (.sc (.down (.loc d 0) 1)))))∧
 (∀ (F:Nat→Option IFn) (fin:St→Option Ret) (is:List Za) (os:List GOp) (st:St) d sz x y bytes,RR F fin is (⟨.appd d sz x y bytes,none⟩::os) st=RS F fin is os (ZIN st d sz bytes (st.get x) (st.get y)))∧
 (∀ (st:St) d sz bytes x idy m,ZIN st d sz bytes x (.t (.sc (.down idy m)))=ap2 st d sz idy m bytes x (st.o idy))∧(∀ (st:St) d sz idy m bytes x zy ry,ap2 st d sz idy m bytes x (some (.deep zy ry))=ap3 st d sz idy m ry bytes x (zy==sz&&(ry.length==m&&(Zk idy&&decide (0<m)))))∧
 (∀ (st:St) d sz idy m ry bytes,ap3 st d sz idy m ry bytes (DU .nil) true=ap6 st d sz idy ry m (decide (m≤maxLen)&&decide (m*bytes≤140737488355328)))∧(∀ (st:St) d sz idy m ry bytes id n,ap3 st d sz idy m ry bytes (.t (.sc (.down id n))) true=ap4 st d sz idy m ry bytes id n (st.o id))∧
 (∀ (st:St) d sz idy m ry bytes id n z r,ap4 st d sz idy m ry bytes id n (some (.deep z r))=ap5 st d sz idy ry r id (n+m) (z==sz&&(r.length==n&&(Zk id&&(!(id==idy)&&(decide (n+m≤maxLen)&&decide ((n+m)*bytes≤140737488355328)))))))∧
 (∀ (st:St) d sz idy ry r id n,ap5 st d sz idy ry r id n true=some ((((st.kill idy).kill id).obj id (some (.deep sz (r++ry)))).put d (.t (.sc (.down id n)))))∧(∀ (st:St) d sz idy ry m,ap6 st d sz idy ry m true=some ((((st.kill idy).cool (.loc d 0)).obj (.loc d 0) (some (.deep sz ry))).put d (.t (.sc (.down (.loc d 0) m))))):=by
 have _c:=And.intro @ZKy (And.intro @ZMl (And.intro @ZMm (And.intro @ZKx (And.intro @ZL6 (And.intro @ZL7 (And.intro @ZL8 (And.intro @ZL9 @ZMa)))))))
 exact ⟨fun F fin is os st d k zero a=>Zam F fin is os st (ZM0 ..),fun st d k zl v=>rfl,fun st d k zl ids us=>rfl,fun st d zl ids us=>rfl,fun F fin is os st d sz x y bytes=>Zam F fin is os st (ZMT ..),
  fun st d sz bytes x idy m=>rfl,fun st d sz idy m bytes x zy ry=>rfl,fun st d sz idy m ry bytes=>rfl,fun st d sz idy m ry bytes id n=>rfl,fun st d sz idy m ry bytes id n z r=>rfl,fun st d sz idy ry r id n=>rfl,fun st d sz idy ry m=>rfl⟩
def ZG6 (l:List Shard) (r:Route):State:=match l[r.number.toNat]? with
 | some s=>ZFZ s.group
 | none=>⟨⟨[],[]⟩,[],[],false,[]⟩
def ZFi (l:List Shard) (R:List Route):List State:=R.map (ZG6 l)
theorem ZIS {l:List Shard} {R:List Route} {i:Nat} {r:Route} (h:R[i]?=some r):ZFi l (R.take (i+1))=ZFi l (R.take i)++[ZG6 l r]:=by
 rw [ZFi,List.take_add_one,h]; simp [ZFi]
theorem ZHp (l:List Shard) (R:List Route):(ZFi l R).length=R.length:=by simp [ZFi]
def ZH (x:Cluster):List State:=ZFi x.shards (ZFc x)
def lsD:Nat→List State→D
 | 0,_=>DU .nil
 | _+1,S=>.t (.sc (.down (.loc 26 0) S.length))
def lsO (st:St):Nat→List State→Prop
 | 0,_=>True
 | _+1,S=>st.o (.loc 26 0)=some (.deep 6 (S.map State.u))
theorem ZG4 {c0:List Shard} {c1:List Caller} {c2:List Result} {w:Plan} {a b:Int} (h:ZB ⟨c0,c1,c2,w,a,b⟩=true):1≤(ZC c0).length∧(ZC c0).length≤8:=by
 have h8:=ZGr h
 have hl:(ZC c0).length≤c0.length:=by rw [ZC,ZF5]; exact ZGg c0 0
 refine ⟨?_,by omega⟩
 have he:ZGy ⟨c0,c1,c2,w,a,b⟩=true:=by simp only[ZB,Bool.and_eq_true] at h; exact h.2
 simp only[ZGy,Bool.and_eq_true] at he
 have hr:=he.1.1.1
 cases hq:ZC c0 with
 | nil=>rw [hq] at hr; simp [Z4,ZU,ZFz] at hr
 | cons r l=>simp
theorem ZI7 (c0:List Shard) (c1:List Caller) (c2:List Result) (c3 c4 c5:Int) (c6:Str) (c7 c8 c9 c10 c11:Int) (hs:Cluster.Small ⟨c0,c1,c2,⟨c3,c4,c5,c6,c7,c8,c9⟩,c10,c11⟩):EE F 48 [.ag [.u (.sl 14 (c0.map Shard.u)),.u (.sl 8 (c1.map Caller.u)),.u (.sl 9 (c2.map Result.u)),.u (.int .i64 c3),.u (.int .i64 c4),.u (.int .i64 c5),.u (.str c6),.u (.int .i64 c7),.u (.int .i64 c8),.u (.int .i64 c9),.u (.int .i64 c10),.u (.int .i64 c11)]] []=if ZB ⟨c0,c1,c2,⟨c3,c4,c5,c6,c7,c8,c9⟩,c10,c11⟩=true then some ⟨[.sc (.down (.par 0) (ZH ⟨c0,c1,c2,⟨c3,c4,c5,c6,c7,c8,c9⟩,c10,c11⟩).length)],[.deep 6 ((ZH ⟨c0,c1,c2,⟨c3,c4,c5,c6,c7,c8,c9⟩,c10,c11⟩).map State.u)],[]⟩ else some ⟨[.sc (.u .nil)],[],[]⟩:=by
 have hcvs:=ZGZ c0 c1 c2 c3 c4 c5 c6 c7 c8 c9 c10 c11 hs
 have hsh:=hs.1
 rw [R48,b48]
 cases hv:ZB ⟨c0,c1,c2,⟨c3,c4,c5,c6,c7,c8,c9⟩,c10,c11⟩
 ·simp only[↓xP,xT,rL,rB,rA,rS,hcvs,hv]
  try simp
 have h8:=ZGr hv
 obtain ⟨hR1,hR8⟩:=ZG4 hv
 have hlr:=ZHa c0 c1 c2 c3 c4 c5 c6 c7 c8 c9 c10 c11 h8
 simp only[ZFm] at hlr
 have hrt:ZH ⟨c0,c1,c2,⟨c3,c4,c5,c6,c7,c8,c9⟩,c10,c11⟩=ZFi c0 (ZC c0):=by simp [ZH,ZFc,hv]
 rw [if_pos rfl,hrt]
 have hmem:∀ r,r∈ZC c0→_:=fun r hr=>ZH4 hr
 simp only[↓xP,xT,rL,rB,rA,rS,hcvs,hv,hlr]
 generalize ZC c0=R at hR1 hR8 hmem ⊢
 refine Zjc (fun (i:Nat) st=>i≤R.length∧st.s 1=.t (.sc (.ptr (.loc 1 0) 0 0))∧st.o (.loc 1 0)=some (.box [.u (.sl 14 (c0.map Shard.u)),.u (.sl 8 (c1.map Caller.u)),.u (.sl 9 (c2.map Result.u)),.u (.int .i64 c3),.u (.int .i64 c4),.u (.int .i64 c5),.u (.str c6),.u (.int .i64 c7),.u (.int .i64 c8),.u (.int .i64 c9),.u (.int .i64 c10),.u (.int .i64 c11)])∧st.s 3=lsD i (ZFi c0 (R.take i))∧lsO st i (ZFi c0 (R.take i))∧st.s 10=.t (.sc (.own (.loc 10 0) R.length))∧st.o (.loc 10 0)=some (.row 3 (R.map Route.u))∧st.s 11=DI R.length∧st.s 12=DI i) (fun i=>R.length - i) (fun _=>some ⟨[.sc (.down (.par 0) (ZFi c0 R).length)],[.deep 6 ((ZFi c0 R).map State.u)],[]⟩) ?_ 0 ⟨by omega,(by and_intros<;>first|omega|rfl|(simp only[↓xP,xT,rL,rB,rA,rS]<;>first|done|rfl|omega)),(by and_intros<;>first|omega|rfl|(simp only[↓xP,xT,rL,rB,rA,rS]<;>first|done|rfl|omega)),(by and_intros<;>first|omega|rfl|(simp only[↓xP,xT,rL,rB,rA,rS,lsD]<;>first|done|rfl|omega)),trivial,(by and_intros<;>first|omega|rfl|(simp only[↓xP,xT,rL,rB,rA,rS]<;>first|done|rfl|omega)),(by and_intros<;>first|omega|rfl|(simp only[↓xP,xT,rL,rB,rA,rS]<;>first|done|rfl|omega)),(by and_intros<;>first|omega|rfl|(simp only[↓xP,xT,rL,rB,rA,rS]<;>first|done|rfl|omega)),(by and_intros<;>first|omega|rfl|(simp only[↓xP,xT,rL,rB,rA,rS]<;>first|done|rfl|omega))⟩
 rintro i st ⟨hle,h1,hb,h3,h3o,h10,ho10,h11,h12⟩ ih
 by_cases hi:i<R.length
 ·obtain ⟨⟨rn,⟨rlo,rup⟩⟩,hr⟩:∃ x,R[i]?=some x:=⟨_,List.getElem?_eq_getElem hi⟩
  obtain ⟨j,s,hx,hrn,_⟩:=hmem _ (List.mem_of_getElem? hr)
  simp only at hrn
  subst hrn
  have hj:=(List.getElem?_eq_some_iff.1 hx).1
  have hw:=w_succ (i:=i) (by omega)
  have hst:=ZIS (l:=c0) hr
  have hcv:=ZH7 hv (List.mem_of_getElem? hx)
  have hsx:=hsh.2 _ (List.mem_of_getElem? hx)
  have hsa:ZG6 c0 ⟨(j:Int),⟨rlo,rup⟩⟩=ZFZ s.group:=by simp [ZG6,hx]
  rw [hsa] at hst
  obtain ⟨live,⟨⟨⟨lo,up⟩,prs,kn,sld,cut⟩,⟨ep,ms,fr⟩,nds,ups,bag,ans⟩⟩:=s
  simp only at hcv hst
  have has:=ZHX lo up prs kn sld cut ep ms fr nds ups bag ans hsx.1
  rw [if_pos hcv] at has
  have hll:(ZFi c0 (R.take i)).length=i:=by rw [ZHp,List.length_take]; omega
  generalize ZFi c0 (R.take i)=S at h3 h3o hst hll
  generalize ZFZ ⟨⟨⟨lo,up⟩,prs,kn,sld,cut⟩,⟨ep,ms,fr⟩,nds,ups,bag,ans⟩=q at has hst
  obtain ⟨⟨lo2,up2⟩,p2,k2,s2,ct2⟩:=q
  simp only[ZJs] at has
  have m1:S.length+1≤maxLen:=by simp [maxLen]; omega
  have m2:(S.length+1)*104≤140737488355328:=by omega
  have m3:1≤maxLen:=by simp [maxLen]
  have m4:1*104≤140737488355328:=by omega
  cases i with
  | zero=>
   simp only[lsD,lsO] at h3 h3o
   have hS:S=[]:=List.eq_nil_of_length_eq_zero hll
   subst hS
   simp only[↓xP,xT,rL,rB,rA,rS,ZMB,ZM8,rdx2,h1,hb,h3,h10,ho10,h11,h12,hi,hr,hx,hj,hw,Route.u,Shard.u,has,ZL,List.length_map,List.length_cons,List.length_nil,m3,m4]
   exact ih 1 _ (by omega) ⟨(by and_intros<;>first|omega|rfl|(simp only[↓xP,xT,rL,rB,rA,rS]<;>first|done|rfl|omega)),(by and_intros<;>first|omega|rfl|(simp only[↓xP,xT,rL,rB,rA,rS,h1]<;>first|done|rfl|omega)),(by and_intros<;>first|omega|rfl|(simp only[↓xP,xT,rL,rB,rA,rS,hb]<;>first|done|rfl|omega)),(by and_intros<;>first|omega|rfl|(simp only[↓xP,xT,rL,rB,rA,rS,lsD,hst,List.length_append,List.length_cons,List.length_nil]<;>first|done|rfl|omega)),(by and_intros<;>first|omega|rfl|(simp only[↓xP,xT,rL,rB,rA,rS,lsO,hst,State.u,List.map_append,List.map_cons,List.map_nil,List.nil_append]<;>first|done|rfl|omega)),(by and_intros<;>first|omega|rfl|(simp only[↓xP,xT,rL,rB,rA,rS,h10]<;>first|done|rfl|omega)),(by and_intros<;>first|omega|rfl|(simp only[↓xP,xT,rL,rB,rA,rS,ho10]<;>first|done|rfl|omega)),(by and_intros<;>first|omega|rfl|(simp only[↓xP,xT,rL,rB,rA,rS,h11]<;>first|done|rfl|omega)),(by and_intros<;>first|omega|rfl|(simp only[↓xP,xT,rL,rB,rA,rS]<;>first|done|rfl|omega))⟩
  | succ i=>
   simp only[lsD,lsO] at h3 h3o
   simp only[↓xP,xT,rL,rB,rA,rS,ZMB,ZM8,rdx2,h1,hb,h3,h3o,h10,ho10,h11,h12,hi,hr,hx,hj,hw,Route.u,Shard.u,has,ZL,List.length_map,List.length_cons,List.length_nil,m1,m2]
   exact ih (i+1+1) _ (by omega) ⟨(by and_intros<;>first|omega|rfl|(simp only[↓xP,xT,rL,rB,rA,rS]<;>first|done|rfl|omega)),(by and_intros<;>first|omega|rfl|(simp only[↓xP,xT,rL,rB,rA,rS,h1]<;>first|done|rfl|omega)),(by and_intros<;>first|omega|rfl|(simp only[↓xP,xT,rL,rB,rA,rS,hb]<;>first|done|rfl|omega)),(by and_intros<;>first|omega|rfl|(simp only[↓xP,xT,rL,rB,rA,rS,lsD,hst,List.length_append,List.length_cons,List.length_nil]<;>first|done|rfl|omega)),(by and_intros<;>first|omega|rfl|(simp only[↓xP,xT,rL,rB,rA,rS,lsO,hst,State.u,List.map_append,List.map_cons,List.map_nil]<;>first|done|rfl|omega)),(by and_intros<;>first|omega|rfl|(simp only[↓xP,xT,rL,rB,rA,rS,h10]<;>first|done|rfl|omega)),(by and_intros<;>first|omega|rfl|(simp only[↓xP,xT,rL,rB,rA,rS,ho10]<;>first|done|rfl|omega)),(by and_intros<;>first|omega|rfl|(simp only[↓xP,xT,rL,rB,rA,rS,h11]<;>first|done|rfl|omega)),(by and_intros<;>first|omega|rfl|(simp only[↓xP,xT,rL,rB,rA,rS]<;>first|done|rfl|omega))⟩
 ·have hall:R.take i=R:=List.take_of_length_le (by omega)
  rw [hall] at h3 h3o
  cases i with
  | zero=>omega
  | succ i=>
   simp only[lsD,lsO] at h3 h3o
   simp only[↓xP,xT,rL,rB,rA,rS,ZMB,h1,hb,h3,h3o,h10,ho10,h11,h12,hi,List.length_map]
theorem ZI8 (c0:List Shard) (c1:List Caller) (c2:List Result) (c3 c4 c5:Int) (c6:Str) (c7 c8 c9 c10 c11:Int) (hs:Cluster.Small ⟨c0,c1,c2,⟨c3,c4,c5,c6,c7,c8,c9⟩,c10,c11⟩):EE F 47 [.ag [.u (.sl 14 (c0.map Shard.u)),.u (.sl 8 (c1.map Caller.u)),.u (.sl 9 (c2.map Result.u)),.u (.int .i64 c3),.u (.int .i64 c4),.u (.int .i64 c5),.u (.str c6),.u (.int .i64 c7),.u (.int .i64 c8),.u (.int .i64 c9),.u (.int .i64 c10),.u (.int .i64 c11)]] []=some ⟨[.sc (.own (.par 0) (ZH ⟨c0,c1,c2,⟨c3,c4,c5,c6,c7,c8,c9⟩,c10,c11⟩).length)],[.row 6 ((ZH ⟨c0,c1,c2,⟨c3,c4,c5,c6,c7,c8,c9⟩,c10,c11⟩).map State.u)],[]⟩:=by
 have hcr:=ZGO c0 c1 c2 c3 c4 c5 c6 c7 c8 c9 c10 c11 hs
 have hsh:=hs.1
 rw [R47,b47]
 have hR:(ZFc ⟨c0,c1,c2,⟨c3,c4,c5,c6,c7,c8,c9⟩,c10,c11⟩).length≤8∧∀ r,r∈ZFc ⟨c0,c1,c2,⟨c3,c4,c5,c6,c7,c8,c9⟩,c10,c11⟩→∃ (j:Nat) (s:Shard),c0[j]?=some s∧r.number=(j:Int)∧ZF s.group=true:=by
  unfold ZFc
  split
  ·rename_i hv
   refine ⟨(ZG4 hv).2,fun r hr=>?_⟩
   obtain ⟨j,s,hx,hrn,_⟩:=ZH4 hr
   exact ⟨j,s,hx,hrn,ZH7 hv (List.mem_of_getElem? hx)⟩
  ·exact ⟨by simp,fun r hr=>by cases hr⟩
 have hls:ZH ⟨c0,c1,c2,⟨c3,c4,c5,c6,c7,c8,c9⟩,c10,c11⟩=ZFi c0 (ZFc ⟨c0,c1,c2,⟨c3,c4,c5,c6,c7,c8,c9⟩,c10,c11⟩):=rfl
 rw [hls]
 generalize ZFc ⟨c0,c1,c2,⟨c3,c4,c5,c6,c7,c8,c9⟩,c10,c11⟩=R at hcr hR ⊢
 obtain ⟨hR8,hmem⟩:=hR
 simp only[↓xP,xT,rL,rB,rA,rS,hcr]
 refine Zjc (fun (i:Nat) st=>i≤R.length∧st.s 1=.t (.sc (.ptr (.loc 1 0) 0 0))∧st.o (.loc 1 0)=some (.box [.u (.sl 14 (c0.map Shard.u)),.u (.sl 8 (c1.map Caller.u)),.u (.sl 9 (c2.map Result.u)),.u (.int .i64 c3),.u (.int .i64 c4),.u (.int .i64 c5),.u (.str c6),.u (.int .i64 c7),.u (.int .i64 c8),.u (.int .i64 c9),.u (.int .i64 c10),.u (.int .i64 c11)])∧st.s 3=.t (.sc (.own (.loc 6 0) (ZFi c0 (R.take i)).length))∧st.o (.loc 6 0)=some (.row 6 ((ZFi c0 (R.take i)).map State.u))∧st.s 4=.t (.sc (.own (.loc 8 0) R.length))∧st.o (.loc 8 0)=some (.row 3 (R.map Route.u))∧st.s 5=DI i) (fun i=>R.length - i) (fun _=>some ⟨[.sc (.own (.par 0) (ZFi c0 R).length)],[.row 6 ((ZFi c0 R).map State.u)],[]⟩) ?_ 0 (by and_intros<;>first|omega|rfl|(simp only[↓xP,xT,rL,rB,rA,rS,ZFi,List.take_zero,List.map_nil,List.length_nil]<;>first|done|rfl|omega))
 rintro i st ⟨hle,h1,hb,h3,ho3,h4,ho4,h5⟩ ih
 by_cases hi:i<R.length
 ·obtain ⟨⟨rn,⟨rlo,rup⟩⟩,hr⟩:∃ x,R[i]?=some x:=⟨_,List.getElem?_eq_getElem hi⟩
  obtain ⟨j,s,hx,hrn,hcv⟩:=hmem _ (List.mem_of_getElem? hr)
  simp only at hrn
  subst hrn
  have hj:=(List.getElem?_eq_some_iff.1 hx).1
  have hw:=w_succ (i:=i) (by omega)
  have hst:=ZIS (l:=c0) hr
  have hsx:=hsh.2 _ (List.mem_of_getElem? hx)
  have hsa:ZG6 c0 ⟨(j:Int),⟨rlo,rup⟩⟩=ZFZ s.group:=by simp [ZG6,hx]
  rw [hsa] at hst
  obtain ⟨live,⟨⟨⟨lo,up⟩,prs,kn,sld,cut⟩,⟨ep,ms,fr⟩,nds,ups,bag,ans⟩⟩:=s
  simp only at hcv hst
  have has:=ZHY lo up prs kn sld cut ep ms fr nds ups bag ans hsx.1
  rw [if_pos hcv] at has
  have hll:(ZFi c0 (R.take i)).length=i:=by rw [ZHp,List.length_take]; omega
  generalize ZFi c0 (R.take i)=S at h3 ho3 hst hll
  generalize ZFZ ⟨⟨⟨lo,up⟩,prs,kn,sld,cut⟩,⟨ep,ms,fr⟩,nds,ups,bag,ans⟩=q at has hst
  obtain ⟨⟨lo2,up2⟩,p2,k2,s2,ct2⟩:=q
  simp only[ZKq] at has
  have m1:S.length+1≤maxLen:=by simp [maxLen]; omega
  have m2:(S.length+1)*104≤140737488355328:=by omega
  simp only[↓xP,xT,rL,rB,rA,rS,rdx,rdx2,ofR,ZNd,Bool.or_true,List.getElem?_nil,h1,hb,h3,ho3,h4,ho4,h5,hi,hr,hx,hj,hw,Route.u,Shard.u,has,ZL,List.length_map,List.length_cons,List.length_nil,m1,m2]
  exact ih (i+1) _ (by omega) (by and_intros<;>first|omega|rfl|(simp only[↓xP,xT,rL,rB,rA,rS,h1,hb,h3,ho3,h4,ho4,hw,hst,State.u,List.length_append,List.map_append,List.length_cons,List.length_nil,List.map_cons,List.map_nil]<;>first|done|rfl|omega))
 ·have hall:R.take i=R:=List.take_of_length_le (by omega)
  rw [hall] at h3 ho3
  simp only[↓xP,xT,rL,rB,rA,rS,h1,hb,h3,ho3,h4,ho4,h5,hi,List.length_map]
theorem ZJp {c0:List Shard} {c1:List Caller} {c2:List Result} {w:Plan} {a b:Int} (h:ZB ⟨c0,c1,c2,w,a,b⟩=true):∀ s,s∈ZH ⟨c0,c1,c2,w,a,b⟩→ZD s=true:=by
 intro s hs
 simp only[ZH,ZFc,h,if_true,ZFi] at hs
 obtain ⟨r,hr,rfl⟩:=List.mem_map.1 hs
 obtain ⟨j,t,hx,hrn,_⟩:=ZH4 hr
 have hcv:=ZH7 h (List.mem_of_getElem? hx)
 have he:=ZHZ hcv
 simp only[ZN,Bool.and_eq_true] at he
 have:ZG6 c0 r=ZFZ t.group:=by simp [ZG6,hrn,hx]
 rw [this]
 exact ZJc _ _ (ZH1 hcv) he.2
theorem ZH3 {α β:Type} (f:α→β) {l:List α} {i:Nat} {x:α} (h:l[i]?=some x):(l.map f)[i]?=some (f x):=by rw [List.getElem?_map,h]; rfl
def ZFP:List Route→List State→Option Plan
 | r::R,s::S=>if ZFl s=[] then ZFP R S else some ⟨1,r.number,0,ZFl s,0,0,0⟩
 | _,_=>none
def ZK:List Route→List State→Option Plan
 | r::q::R,s::t::S=>if ZR s t=true then some ⟨2,r.number,q.number,[],0,0,0⟩ else ZK (q::R) (t::S)
 | _,_=>none
def ZFv (n:Nat) (R:List Route) (S:List State):Option Plan:=if 8≤n then none else ZK R S
def ZFT (x:Cluster):Option Plan:=if (ZB x&&(ZGj x.work&&decide (x.turn<999)))=true then
  (if x.shards.length≤6∧(ZC x.shards).length<6 then ZGF (ZFP (ZC x.shards) (ZH x)) (ZFv x.shards.length (ZC x.shards) (ZH x)) else ZFv x.shards.length (ZC x.shards) (ZH x))
 else none
theorem ZJJ (c0:List Shard) (c1:List Caller) (c2:List Result) (c3 c4 c5:Int) (c6:Str) (c7 c8 c9 c10 c11:Int) (hs:Cluster.Small ⟨c0,c1,c2,⟨c3,c4,c5,c6,c7,c8,c9⟩,c10,c11⟩):EE F 41 [.ag [.u (.sl 14 (c0.map Shard.u)),.u (.sl 8 (c1.map Caller.u)),.u (.sl 9 (c2.map Result.u)),.u (.int .i64 c3),.u (.int .i64 c4),.u (.int .i64 c5),.u (.str c6),.u (.int .i64 c7),.u (.int .i64 c8),.u (.int .i64 c9),.u (.int .i64 c10),.u (.int .i64 c11)]] []=ZQ (ZFT ⟨c0,c1,c2,⟨c3,c4,c5,c6,c7,c8,c9⟩,c10,c11⟩):=by
 have hcvs:=ZGZ c0 c1 c2 c3 c4 c5 c6 c7 c8 c9 c10 c11 hs
 have hls:=ZI7 c0 c1 c2 c3 c4 c5 c6 c7 c8 c9 c10 c11 hs
 have hnp:(decide (c3=0)&&(decide (c4=0)&&(decide (c5=0)&&(decide (c6=[])&&(decide (c7=0)&&(decide (c8=0)&&decide (c9=0)))))))=ZGj ⟨c3,c4,c5,c6,c7,c8,c9⟩:=by simp only[ZGj,Bool.and_assoc]
 rw [R41,b41]
 cases hv:ZB ⟨c0,c1,c2,⟨c3,c4,c5,c6,c7,c8,c9⟩,c10,c11⟩
 ·simp only[↓xP,xT,rL,rB,rA,rS,hcvs,hv]
  simp [ZFT,hv,ZQ]
 cases hp:ZGj ⟨c3,c4,c5,c6,c7,c8,c9⟩
 ·simp only[↓xP,xT,rL,rB,rA,rS,hcvs,hv,hnp,hp]
  simp [ZFT,hv,hp,ZQ]
 by_cases ht:(999:Int)≤c10
 ·have ht':¬c10<999:=by omega
  simp only[↓xP,xT,rL,rB,rA,rS,hcvs,hv,hnp,hp,ht,ge_iff_le]
  simp [ZFT,hv,hp,ht',ZQ]
 have ht':c10<999:=by omega
 have h8:=ZGr hv
 obtain ⟨hR1,hR8⟩:=ZG4 hv
 have hlr:=ZHa c0 c1 c2 c3 c4 c5 c6 c7 c8 c9 c10 c11 h8
 simp only[ZFm] at hlr
 have hkn:∀ s,s∈ZH ⟨c0,c1,c2,⟨c3,c4,c5,c6,c7,c8,c9⟩,c10,c11⟩→s.known.length≤4:=fun s hm=>(ZG7 (ZJp hv s hm)).2
 have hlS:(ZH ⟨c0,c1,c2,⟨c3,c4,c5,c6,c7,c8,c9⟩,c10,c11⟩).length=(ZC c0).length:=by simp [ZH,ZFc,hv,ZHp]
 simp only[hv,if_true] at hls
 have hnx:ZFT ⟨c0,c1,c2,⟨c3,c4,c5,c6,c7,c8,c9⟩,c10,c11⟩=if c0.length≤6∧(ZC c0).length<6 then ZGF (ZFP (ZC c0) (ZH ⟨c0,c1,c2,⟨c3,c4,c5,c6,c7,c8,c9⟩,c10,c11⟩)) (ZFv c0.length (ZC c0) (ZH ⟨c0,c1,c2,⟨c3,c4,c5,c6,c7,c8,c9⟩,c10,c11⟩)) else ZFv c0.length (ZC c0) (ZH ⟨c0,c1,c2,⟨c3,c4,c5,c6,c7,c8,c9⟩,c10,c11⟩):=by
  simp [ZFT,hv,hp,ht']
 rw [hnx]
 generalize ZH ⟨c0,c1,c2,⟨c3,c4,c5,c6,c7,c8,c9⟩,c10,c11⟩=S at hls hkn hlS ⊢
 generalize ZC c0=R at hlr hR1 hR8 hlS ⊢
 by_cases hc:c0.length≤6∧R.length<6
 ·rw [if_pos hc]
  have g1:(c0.length:Int)≤6:=by omega
  have g2:(R.length:Int)<6:=by omega
  have g3:¬(8:Int)≤(c0.length:Int):=by omega
  have hrest:ZFv c0.length R S=ZK R S:=by unfold ZFv; rw [if_neg (by omega)]
  rw [hrest]
  simp only[↓xP,xT,rL,rB,rA,rS,hcvs,hv,hnp,hp,ht,ge_iff_le,hlr,hls,g1,g2,ZHl,List.length_map]
  refine Zjc (fun (i:Nat) st=>i≤S.length∧st.s 1=.t (.sc (.ptr (.loc 1 0) 0 0))∧st.o (.loc 1 0)=some (.box [.u (.sl 14 (c0.map Shard.u)),.u (.sl 8 (c1.map Caller.u)),.u (.sl 9 (c2.map Result.u)),.u (.int .i64 c3),.u (.int .i64 c4),.u (.int .i64 c5),.u (.str c6),.u (.int .i64 c7),.u (.int .i64 c8),.u (.int .i64 c9),.u (.int .i64 c10),.u (.int .i64 c11)])∧st.s 2=.t (.sc (.ptr (.loc 2 0) 0 0))∧st.o (.loc 2 0)=some (.box [.u (.int .i64 0),.u (.int .i64 0),.u (.int .i64 0),.u (.str []),.u (.int .i64 0),.u (.int .i64 0),.u (.int .i64 0)])∧st.s 4=.t (.sc (.own (.loc 26 0) R.length))∧st.o (.loc 26 0)=some (.row 3 (R.map Route.u))∧st.s 5=.t (.sc (.down (.loc 28 0) S.length))∧st.o (.loc 28 0)=some (.deep 6 (S.map State.u))∧st.s 38=.t (.sc (.down (.loc 28 0) S.length))∧st.s 39=DI S.length∧st.s 40=DI i) (fun i=>S.length - i) (fun i=>ZQ (ZGF (ZFP (R.drop i) (S.drop i)) (ZK R S))) ?_ 0 (by and_intros<;>first|omega|rfl|(simp only[↓xP,xT,rL,rB,rA,rS]<;>first|done|rfl|omega))
  rintro i st ⟨hle,h1,hb,h2,hb2,h4,ho4,h5,ho5,h38,h39,h40⟩ ih
  by_cases hi:i<S.length
  ·obtain ⟨⟨rn,⟨rlo,rup⟩⟩,hr⟩:∃ x,R[i]?=some x:=⟨_,List.getElem?_eq_getElem (by omega)⟩
   obtain ⟨⟨⟨lo,up⟩,prs,kn,sld,cut⟩,hx⟩:∃ x,S[i]?=some x:=⟨_,List.getElem?_eq_getElem hi⟩
   have hw:=w_succ (i:=i) (by omega)
   have hkx:=hkn _ (List.mem_of_getElem? hx)
   have hsw:=ZIL lo up prs kn sld cut (by simp only at hkx; omega)
   have hgx:=ZH3 State.u hx
   simp only[State.u] at hgx
   have hir:i<R.length:=by omega
   rw [ZE hr,ZE hx,ZFP]
   by_cases hz:ZFl ⟨⟨lo,up⟩,prs,kn,sld,cut⟩=[]
   ·simp only[↓xP,xT,rL,rB,rA,rS,rdx2,h1,hb,h2,hb2,h4,ho4,h5,ho5,h38,h39,h40,hi,hr,hgx,hw,hsw,hz,List.length_map,ne_eq,not_true_eq_false,decide_false]
    rw [ih (i+1) _ (by omega) (by and_intros<;>first|omega|rfl|(simp only[↓xP,xT,rL,rB,rA,rS,h1,hb,h2,hb2,h4,ho4,h5,ho5,h38,h39]<;>first|done|rfl|omega))]
    try simp
   ·simp only[↓xP,xT,rL,rB,rA,rS,rdx2,h1,hb,h2,hb2,h4,ho4,h5,ho5,h38,h39,h40,hi,hir,hr,hgx,hw,hsw,hz,Route.u,List.length_map,ne_eq,not_false_eq_true]
    simp [ZQ,ZGF,hz]
  ·have hd : S.drop i=[]:=List.drop_of_length_le (by omega)
   have hdr:R.drop i=[]:=List.drop_of_length_le (by omega)
   rw [hd,hdr]
   simp only[ZFP,ZGF]
   simp only[↓xP,xT,rL,rB,rA,rS,rdx2,h1,hb,h2,hb2,h4,ho4,h5,ho5,h38,h39,h40,hi,g3,ge_iff_le,List.length_map]
   refine (Zjc (fun (a:Nat) st=>a≤R.length∧st.s 2=.t (.sc (.ptr (.loc 2 0) 0 0))∧st.o (.loc 2 0)=some (.box [.u (.int .i64 0),.u (.int .i64 0),.u (.int .i64 0),.u (.str []),.u (.int .i64 0),.u (.int .i64 0),.u (.int .i64 0)])∧st.s 4=.t (.sc (.own (.loc 26 0) R.length))∧st.o (.loc 26 0)=some (.row 3 (R.map Route.u))∧st.s 5=.t (.sc (.down (.loc 28 0) S.length))∧st.o (.loc 28 0)=some (.deep 6 (S.map State.u))∧st.s 9=DI ((a+1:Nat):Int)) (fun a=>R.length - a) (fun a=>ZQ (ZK (R.drop a) (S.drop a))) ?_ 0 (by and_intros<;>first|omega|rfl|(simp only[↓xP,xT,rL,rB,rA,rS,h2,hb2,h4,ho4,h5,ho5]<;>first|done|rfl|omega))).trans (by rfl)
   clear h1 hb h2 hb2 h4 ho4 h5 ho5 h38 h39 h40 ih hle hi hd hdr
   rintro a st ⟨hle,h2,hb2,h4,ho4,h5,ho5,h9⟩ ih
   have hw:=w_succ (i:=a) (by omega)
   have hw1:=w_succ (i:=a+1) (by omega)
   have hwm:IntKind.i64.wrap (((a+1:Nat):Int) - 1)=(a:Int):=by rw [w64 (by omega) (by omega)]; omega
   by_cases hi:a+1<S.length
   ·obtain ⟨⟨rn,⟨rlo,rup⟩⟩,hr⟩:∃ x,R[a]?=some x:=⟨_,List.getElem?_eq_getElem (by omega)⟩
    obtain ⟨⟨qn,⟨qlo,qup⟩⟩,hq⟩:∃ x,R[a+1]?=some x:=⟨_,List.getElem?_eq_getElem (by omega)⟩
    obtain ⟨⟨⟨lo,up⟩,prs,kn,sld,cut⟩,hx⟩:∃ x,S[a]?=some x:=⟨_,List.getElem?_eq_getElem (by omega)⟩
    obtain ⟨⟨⟨lo2,up2⟩,prs2,kn2,sld2,cut2⟩,hy⟩:∃ x,S[a+1]?=some x:=⟨_,List.getElem?_eq_getElem hi⟩
    have hk1:=hkn _ (List.mem_of_getElem? hx)
    have hk2:=hkn _ (List.mem_of_getElem? hy)
    have hmw:=ZGh lo up prs kn sld cut (by simp only at hk1; omega) lo2 up2 prs2 kn2 sld2 cut2 (by simp only at hk2; omega)
    have hgx:=ZH3 State.u hx
    have hgy:=ZH3 State.u hy
    have hai:a<S.length:=by omega
    have har:a<R.length:=by omega
    have har2:a+1<R.length:=by omega
    have hmf:ZK (R.drop a) (S.drop a)=if ZR ⟨⟨lo,up⟩,prs,kn,sld,cut⟩ ⟨⟨lo2,up2⟩,prs2,kn2,sld2,cut2⟩=true then some ⟨2,rn,qn,[],0,0,0⟩ else ZK (R.drop (a+1)) (S.drop (a+1)):=by rw [ZE hr,ZE hq,ZE hx,ZE hy]; rfl
    rw [hmf]
    simp only[State.u] at hgx hgy
    cases hm:ZR ⟨⟨lo,up⟩,prs,kn,sld,cut⟩ ⟨⟨lo2,up2⟩,prs2,kn2,sld2,cut2⟩
    ·simp only[↓xP,xT,rL,rB,rA,rS,rdx,rdx2,h2,hb2,h4,ho4,h5,ho5,h9,hi,hai,hr,hq,hgx,hgy,hw,hw1,hwm,ZHl,hmw,hm,Route.u]
     rw [ih (a+1) _ (by omega) (by and_intros<;>first|omega|rfl|(simp only[↓xP,xT,rL,rB,rA,rS,h2,hb2,h4,ho4,h5,ho5]<;>first|done|rfl|omega))]
     try simp
    ·simp only[↓xP,xT,rL,rB,rA,rS,rdx,rdx2,h2,hb2,h4,ho4,h5,ho5,h9,hi,hai,har,har2,hr,hq,hgx,hgy,hw,hw1,hwm,ZHl,hmw,hm,Route.u]
     simp [ZQ]
   ·have hd:S.drop (a+1)=[]:=List.drop_of_length_le (by omega)
    have hmf:ZK (R.drop a) (S.drop a)=none:=by
     cases hR:R.drop a with
     | nil=>rfl
     | cons r t=>
      cases hS:S.drop a with
      | nil=>cases t<;>rfl
      | cons s u=>
       have hu:u=[]:=by have:=congrArg List.tail hS; rw [List.tail_drop,hd] at this; exact this.symm
       subst hu; cases t<;>rfl
    rw [hmf]
    simp only[↓xP,xT,rL,rB,rA,rS,rdx,rdx2,h2,hb2,h4,ho4,h5,ho5,h9,hi,ZHl,ZQ]
 ·rw [if_neg hc]
  unfold ZFv
  by_cases g3:(8:Int)≤(c0.length:Int)
  ·rw [if_pos (by omega)]
   have g1:¬(c0.length:Int)≤6:=by omega
   simp only[↓xP,xT,rL,rB,rA,rS,hcvs,hv,hnp,hp,ht,ge_iff_le,hlr,hls,g1,g3,ZHl,List.length_map]
   simp [ZQ]
  ·rw [if_neg (by omega)]
   by_cases g1:(c0.length:Int)≤6
   ·have g2 : ¬(R.length:Int)<6:=fun h=>hc ⟨by omega,by omega⟩
    simp only[↓xP,xT,rL,rB,rA,rS,hcvs,hv,hnp,hp,ht,ge_iff_le,hlr,hls,g1,g2,g3,ZHl,List.length_map]
    refine (Zjc (fun (a:Nat) st=>a≤R.length∧st.s 2=.t (.sc (.ptr (.loc 2 0) 0 0))∧st.o (.loc 2 0)=some (.box [.u (.int .i64 0),.u (.int .i64 0),.u (.int .i64 0),.u (.str []),.u (.int .i64 0),.u (.int .i64 0),.u (.int .i64 0)])∧st.s 4=.t (.sc (.own (.loc 26 0) R.length))∧st.o (.loc 26 0)=some (.row 3 (R.map Route.u))∧st.s 5=.t (.sc (.down (.loc 28 0) S.length))∧st.o (.loc 28 0)=some (.deep 6 (S.map State.u))∧st.s 9=DI ((a+1:Nat):Int)) (fun a=>R.length - a) (fun a=>ZQ (ZK (R.drop a) (S.drop a))) ?_ 0 (by and_intros<;>first|omega|rfl|(simp only[↓xP,xT,rL,rB,rA,rS]<;>first|done|rfl|omega))).trans (by rfl)
    clear hcvs
    rintro a st ⟨hle,h2,hb2,h4,ho4,h5,ho5,h9⟩ ih
    have hw:=w_succ (i:=a) (by omega)
    have hw1:=w_succ (i:=a+1) (by omega)
    have hwm:IntKind.i64.wrap (((a+1:Nat):Int) - 1)=(a:Int):=by rw [w64 (by omega) (by omega)]; omega
    by_cases hi:a+1<S.length
    ·obtain ⟨⟨rn,⟨rlo,rup⟩⟩,hr⟩:∃ x,R[a]?=some x:=⟨_,List.getElem?_eq_getElem (by omega)⟩
     obtain ⟨⟨qn,⟨qlo,qup⟩⟩,hq⟩:∃ x,R[a+1]?=some x:=⟨_,List.getElem?_eq_getElem (by omega)⟩
     obtain ⟨⟨⟨lo,up⟩,prs,kn,sld,cut⟩,hx⟩:∃ x,S[a]?=some x:=⟨_,List.getElem?_eq_getElem (by omega)⟩
     obtain ⟨⟨⟨lo2,up2⟩,prs2,kn2,sld2,cut2⟩,hy⟩:∃ x,S[a+1]?=some x:=⟨_,List.getElem?_eq_getElem hi⟩
     have hk1:=hkn _ (List.mem_of_getElem? hx)
     have hk2:=hkn _ (List.mem_of_getElem? hy)
     have hmw:=ZGh lo up prs kn sld cut (by simp only at hk1; omega) lo2 up2 prs2 kn2 sld2 cut2 (by simp only at hk2; omega)
     have hgx:=ZH3 State.u hx
     have hgy:=ZH3 State.u hy
     have hai:a<S.length:=by omega
     have har:a<R.length:=by omega
     have har2:a+1<R.length:=by omega
     have hmf:ZK (R.drop a) (S.drop a)=if ZR ⟨⟨lo,up⟩,prs,kn,sld,cut⟩ ⟨⟨lo2,up2⟩,prs2,kn2,sld2,cut2⟩=true then some ⟨2,rn,qn,[],0,0,0⟩ else ZK (R.drop (a+1)) (S.drop (a+1)):=by rw [ZE hr,ZE hq,ZE hx,ZE hy]; rfl
     rw [hmf]
     simp only[State.u] at hgx hgy
     cases hm:ZR ⟨⟨lo,up⟩,prs,kn,sld,cut⟩ ⟨⟨lo2,up2⟩,prs2,kn2,sld2,cut2⟩
     ·simp only[↓xP,xT,rL,rB,rA,rS,rdx,rdx2,h2,hb2,h4,ho4,h5,ho5,h9,hi,hai,hr,hq,hgx,hgy,hw,hw1,hwm,ZHl,hmw,hm,Route.u]
      rw [ih (a+1) _ (by omega) (by and_intros<;>first|omega|rfl|(simp only[↓xP,xT,rL,rB,rA,rS,h2,hb2,h4,ho4,h5,ho5]<;>first|done|rfl|omega))]
      try simp
     ·simp only[↓xP,xT,rL,rB,rA,rS,rdx,rdx2,h2,hb2,h4,ho4,h5,ho5,h9,hi,hai,har,har2,hr,hq,hgx,hgy,hw,hw1,hwm,ZHl,hmw,hm,Route.u]
      simp [ZQ]
    ·have hd:S.drop (a+1)=[]:=List.drop_of_length_le (by omega)
     have hmf:ZK (R.drop a) (S.drop a)=none:=by
      cases hR:R.drop a with
      | nil=>rfl
      | cons r t=>
       cases hS:S.drop a with
       | nil=>cases t<;>rfl
       | cons s u=>
        have hu:u=[]:=by have:=congrArg List.tail hS; rw [List.tail_drop,hd] at this; exact this.symm
        subst hu; cases t<;>rfl
     rw [hmf]
     simp only[↓xP,xT,rL,rB,rA,rS,rdx,rdx2,h2,hb2,h4,ho4,h5,ho5,h9,hi,ZHl,ZQ]
   ·simp only[↓xP,xT,rL,rB,rA,rS,hcvs,hv,hnp,hp,ht,ge_iff_le,hlr,hls,g1,g3,ZHl,List.length_map]
    refine (Zjc (fun (a:Nat) st=>a≤R.length∧st.s 2=.t (.sc (.ptr (.loc 2 0) 0 0))∧st.o (.loc 2 0)=some (.box [.u (.int .i64 0),.u (.int .i64 0),.u (.int .i64 0),.u (.str []),.u (.int .i64 0),.u (.int .i64 0),.u (.int .i64 0)])∧st.s 4=.t (.sc (.own (.loc 26 0) R.length))∧st.o (.loc 26 0)=some (.row 3 (R.map Route.u))∧st.s 5=.t (.sc (.down (.loc 28 0) S.length))∧st.o (.loc 28 0)=some (.deep 6 (S.map State.u))∧st.s 9=DI ((a+1:Nat):Int)) (fun a=>R.length - a) (fun a=>ZQ (ZK (R.drop a) (S.drop a))) ?_ 0 (by and_intros<;>first|omega|rfl|(simp only[↓xP,xT,rL,rB,rA,rS]<;>first|done|rfl|omega))).trans (by rfl)
    clear hcvs
    rintro a st ⟨hle,h2,hb2,h4,ho4,h5,ho5,h9⟩ ih
    have hw:=w_succ (i:=a) (by omega)
    have hw1:=w_succ (i:=a+1) (by omega)
    have hwm:IntKind.i64.wrap (((a+1:Nat):Int) - 1)=(a:Int):=by rw [w64 (by omega) (by omega)]; omega
    by_cases hi:a+1<S.length
    ·obtain ⟨⟨rn,⟨rlo,rup⟩⟩,hr⟩:∃ x,R[a]?=some x:=⟨_,List.getElem?_eq_getElem (by omega)⟩
     obtain ⟨⟨qn,⟨qlo,qup⟩⟩,hq⟩:∃ x,R[a+1]?=some x:=⟨_,List.getElem?_eq_getElem (by omega)⟩
     obtain ⟨⟨⟨lo,up⟩,prs,kn,sld,cut⟩,hx⟩:∃ x,S[a]?=some x:=⟨_,List.getElem?_eq_getElem (by omega)⟩
     obtain ⟨⟨⟨lo2,up2⟩,prs2,kn2,sld2,cut2⟩,hy⟩:∃ x,S[a+1]?=some x:=⟨_,List.getElem?_eq_getElem hi⟩
     have hk1:=hkn _ (List.mem_of_getElem? hx)
     have hk2:=hkn _ (List.mem_of_getElem? hy)
     have hmw:=ZGh lo up prs kn sld cut (by simp only at hk1; omega) lo2 up2 prs2 kn2 sld2 cut2 (by simp only at hk2; omega)
     have hgx:=ZH3 State.u hx
     have hgy:=ZH3 State.u hy
     have hai:a<S.length:=by omega
     have har:a<R.length:=by omega
     have har2:a+1<R.length:=by omega
     have hmf:ZK (R.drop a) (S.drop a)=if ZR ⟨⟨lo,up⟩,prs,kn,sld,cut⟩ ⟨⟨lo2,up2⟩,prs2,kn2,sld2,cut2⟩=true then some ⟨2,rn,qn,[],0,0,0⟩ else ZK (R.drop (a+1)) (S.drop (a+1)):=by rw [ZE hr,ZE hq,ZE hx,ZE hy]; rfl
     rw [hmf]
     simp only[State.u] at hgx hgy
     cases hm:ZR ⟨⟨lo,up⟩,prs,kn,sld,cut⟩ ⟨⟨lo2,up2⟩,prs2,kn2,sld2,cut2⟩
     ·simp only[↓xP,xT,rL,rB,rA,rS,rdx,rdx2,h2,hb2,h4,ho4,h5,ho5,h9,hi,hai,hr,hq,hgx,hgy,hw,hw1,hwm,ZHl,hmw,hm,Route.u]
      rw [ih (a+1) _ (by omega) (by and_intros<;>first|omega|rfl|(simp only[↓xP,xT,rL,rB,rA,rS,h2,hb2,h4,ho4,h5,ho5]<;>first|done|rfl|omega))]
      try simp
     ·simp only[↓xP,xT,rL,rB,rA,rS,rdx,rdx2,h2,hb2,h4,ho4,h5,ho5,h9,hi,hai,har,har2,hr,hq,hgx,hgy,hw,hw1,hwm,ZHl,hmw,hm,Route.u]
      simp [ZQ]
    ·have hd:S.drop (a+1)=[]:=List.drop_of_length_le (by omega)
     have hmf:ZK (R.drop a) (S.drop a)=none:=by
      cases hR:R.drop a with
      | nil=>rfl
      | cons r t=>
       cases hS:S.drop a with
       | nil=>cases t<;>rfl
       | cons s u=>
        have hu:u=[]:=by have:=congrArg List.tail hS; rw [List.tail_drop,hd] at this; exact this.symm
        subst hu; cases t<;>rfl
     rw [hmf]
     simp only[↓xP,xT,rL,rB,rA,rS,rdx,rdx2,h2,hb2,h4,ho4,h5,ho5,h9,hi,ZHl,ZQ]
set_option maxHeartbeats 2000000 in
theorem ZJK (c0:List Shard) (c1:List Caller) (c2:List Result) (c3 c4 c5:Int) (c6:Str) (c7 c8 c9 c10 c11:Int) (hs:Cluster.Small ⟨c0,c1,c2,⟨c3,c4,c5,c6,c7,c8,c9⟩,c10,c11⟩):EE F 40 [.ag [.u (.sl 14 (c0.map Shard.u)),.u (.sl 8 (c1.map Caller.u)),.u (.sl 9 (c2.map Result.u)),.u (.int .i64 c3),.u (.int .i64 c4),.u (.int .i64 c5),.u (.str c6),.u (.int .i64 c7),.u (.int .i64 c8),.u (.int .i64 c9),.u (.int .i64 c10),.u (.int .i64 c11)]] []=ZQ (ZFT ⟨c0,c1,c2,⟨c3,c4,c5,c6,c7,c8,c9⟩,c10,c11⟩):=by
  have hcr:=ZGO c0 c1 c2 c3 c4 c5 c6 c7 c8 c9 c10 c11 hs
  have hls:=ZI8 c0 c1 c2 c3 c4 c5 c6 c7 c8 c9 c10 c11 hs
  have hn0:c0.length≤1048576:=hs.1.1
  have hw2:IntKind.i64.wrap ((c0.length:Int)+2)=(c0.length:Int)+2:=w64 (by omega) (by omega)
  rw [R40,b40]
  cases hv:ZB ⟨c0,c1,c2,⟨c3,c4,c5,c6,c7,c8,c9⟩,c10,c11⟩
  · have hz:ZFc ⟨c0,c1,c2,⟨c3,c4,c5,c6,c7,c8,c9⟩,c10,c11⟩=[]:=by simp [ZFc,hv]
    have hz2:ZH ⟨c0,c1,c2,⟨c3,c4,c5,c6,c7,c8,c9⟩,c10,c11⟩=[]:=by simp [ZH,hz,ZFi]
    rw [hz] at hcr
    rw [hz2] at hls
    simp only[List.map_nil,List.length_nil] at hcr hls
    simp only[↓xP,xT,rL,rB,rA,rS,hcr,hls,List.length_nil]
    simp [ZFT,hv,ZQ,sel]
  have hnk:=ZK5 hv
  simp only at hnk
  have htr:0≤c10∧c10≤999:=by
    have he:ZGy ⟨c0,c1,c2,⟨c3,c4,c5,c6,c7,c8,c9⟩,c10,c11⟩=true:=by simp only[ZB,Bool.and_eq_true] at hv; exact hv.2
    simp only[ZGy,inR,Bool.and_eq_true,decide_eq_true_eq] at he
    exact he.1.2
  obtain ⟨hR1,hR8⟩:=ZG4 hv
  have hkn:∀ s,s∈ZH ⟨c0,c1,c2,⟨c3,c4,c5,c6,c7,c8,c9⟩,c10,c11⟩→s.known.length≤4:=fun s hm=>(ZG7 (ZJp hv s hm)).2
  have hlS:(ZH ⟨c0,c1,c2,⟨c3,c4,c5,c6,c7,c8,c9⟩,c10,c11⟩).length=(ZC c0).length:=by simp [ZH,ZFc,hv,ZHp]
  have hcl:ZFc ⟨c0,c1,c2,⟨c3,c4,c5,c6,c7,c8,c9⟩,c10,c11⟩=ZC c0:=by simp [ZFc,hv]
  rw [hcl] at hcr
  have hnx:ZFT ⟨c0,c1,c2,⟨c3,c4,c5,c6,c7,c8,c9⟩,c10,c11⟩=if c3=0∧c10<999 then (if c0.length≤6∧(ZC c0).length<6 then ZGF (ZFP (ZC c0) (ZH ⟨c0,c1,c2,⟨c3,c4,c5,c6,c7,c8,c9⟩,c10,c11⟩)) (ZFv c0.length (ZC c0) (ZH ⟨c0,c1,c2,⟨c3,c4,c5,c6,c7,c8,c9⟩,c10,c11⟩)) else ZFv c0.length (ZC c0) (ZH ⟨c0,c1,c2,⟨c3,c4,c5,c6,c7,c8,c9⟩,c10,c11⟩)) else none:=by
    unfold ZFT
    rw [hv,hnk]
    by_cases q1:c3=0<;>by_cases q2:c10<999<;>simp [q1,q2]
  rw [hnx]
  generalize ZH ⟨c0,c1,c2,⟨c3,c4,c5,c6,c7,c8,c9⟩,c10,c11⟩=S at hls hkn hlS ⊢
  generalize ZC c0=R at hcr hR1 hR8 hlS ⊢
  have hR0:¬((R.length:Int)=0):=by omega
  cases hfl:ZcG (List.map State.u S)<;>(
  by_cases q1:c3=0
  · by_cases q2 : c10=999
    · have q2':¬(c3=0∧c10<999):=fun h=>by omega
      rw [if_neg q2']
      subst q1 q2
      simp only[↓xP,xT,rL,rB,rA,rS,rdx2,hfl,hcr,hls,hR0,List.length_map,ne_eq,not_true_eq_false,decide_false]
      try simp [ZQ]
    · rw [if_pos ⟨q1,by omega⟩]
      subst q1
      simp only[↓xP,xT,rL,rB,rA,rS,rdx2,hfl,hcr,hls,hR0,q2,List.length_map,ne_eq,not_true_eq_false,decide_false]
      clear hcr hls hnx
      refine Zjc (fun (i:Nat) st=>i≤R.length∧st.s 1=.t (.sc (.ptr (.loc 1 0) 0 0))∧st.o (.loc 1 0)=some (.box [.u (.sl 14 (c0.map Shard.u)),.u (.sl 8 (c1.map Caller.u)),.u (.sl 9 (c2.map Result.u)),.u (.int .i64 0),.u (.int .i64 c4),.u (.int .i64 c5),.u (.str c6),.u (.int .i64 c7),.u (.int .i64 c8),.u (.int .i64 c9),.u (.int .i64 c10),.u (.int .i64 c11)])∧st.s 2=.t (.sc (.ptr (.loc 2 0) 0 0))∧st.o (.loc 2 0)=some (.box [.u (.int .i64 0),.u (.int .i64 0),.u (.int .i64 0),.u (.str []),.u (.int .i64 0),.u (.int .i64 0),.u (.int .i64 0)])∧st.s 4=.t (.sc (.own (.loc 10 0) R.length))∧st.o (.loc 10 0)=some (.row 3 (R.map Route.u))∧st.s 5=.t (.sc (.own (.loc 12 0) S.length))∧st.o (.loc 12 0)=some (.row 6 (S.map State.u))∧st.s 6=DI i) (fun i=>R.length - i) (fun i=>ZQ (if c0.length≤6∧R.length<6 then ZGF (ZFP (R.drop i) (S.drop i)) (ZFv c0.length R S) else ZFv c0.length R S)) ?_ 0 (by and_intros<;>first|omega|rfl|(simp only[↓xP,xT,rL,rB,rA,rS]<;>first|done|rfl|omega))
      rintro i st ⟨hle,h1,hb,h2,hb2,h4,ho4,h5,ho5,h6⟩ ih
      have hw:=w_succ (i:=i) (by omega)
      by_cases hgo:i<R.length∧(c0.length≤6∧R.length<6)
      · obtain ⟨hi,hc⟩:=hgo
        have g1:(c0.length:Int)+2≤8:=by omega
        have g2:(R.length:Int)<6:=by omega
        have hiS:i<S.length:=by omega
        obtain ⟨⟨rn,⟨rlo,rup⟩⟩,hr⟩:∃ x,R[i]?=some x:=⟨_,List.getElem?_eq_getElem hi⟩
        obtain ⟨⟨⟨lo,up⟩,prs,kn,sld,cut⟩,hx⟩:∃ x,S[i]?=some x:=⟨_,List.getElem?_eq_getElem hiS⟩
        have hkx:=hkn _ (List.mem_of_getElem? hx)
        have hsw:=ZIM lo up prs kn sld cut (by simp only at hkx; omega)
        simp only[if_pos hc] at ih ⊢
        rw [ZE hr,ZE hx,ZFP]
        by_cases hz:ZFl ⟨⟨lo,up⟩,prs,kn,sld,cut⟩=[]
        · simp only[↓xP,xT,rL,rB,rA,rS,rdx,rdx2,h1,hb,h2,hb2,h4,ho4,h5,ho5,h6,hi,hiS,g1,g2,hw2,hr,hx,hw,hsw,hz,State.u,List.length_map,ne_eq,not_true_eq_false,decide_false]
          rw [ih (i+1) _ (by omega) (by and_intros<;>first|omega|rfl|(simp only[↓xP,xT,rL,rB,rA,rS,h1,hb,h2,hb2,h4,ho4,h5,ho5,hw]<;>first|done|rfl|omega))]
          try simp
        · simp only[↓xP,xT,rL,rB,rA,rS,rdx,rdx2,h1,hb,h2,hb2,h4,ho4,h5,ho5,h6,hi,hiS,g1,g2,hw2,hr,hx,hw,hsw,hz,State.u,Route.u,List.length_map,ne_eq,not_false_eq_true]
          try simp [ZQ,ZGF,hz]
      have hrest:(if c0.length≤6∧R.length<6 then ZGF (ZFP (R.drop i) (S.drop i)) (ZFv c0.length R S) else ZFv c0.length R S)=ZFv c0.length R S:=by
        split
        · rename_i hc
          have hi:¬i<R.length:=fun h=>hgo ⟨h,hc⟩
          rw [List.drop_of_length_le (by omega)]; rfl
        · rfl
      rw [hrest]
      clear hrest ih
      rcases Decidable.em (i<R.length) with hi|hi
      · rcases Decidable.em ((c0.length:Int)+2≤8) with g1|g1
        · have g2 : ¬(R.length:Int)<6:=fun h=>hgo ⟨hi,by omega,by omega⟩
          simp only[↓xP,xT,rL,rB,rA,rS,rdx,rdx2,h1,hb,h2,hb2,h4,ho4,h5,ho5,h6,hi,g1,g2,hw2,List.length_map]
          refine (Zjc (fun (a:Nat) st=>a≤R.length∧st.s 1=.t (.sc (.ptr (.loc 1 0) 0 0))∧st.o (.loc 1 0)=some (.box [.u (.sl 14 (c0.map Shard.u)),.u (.sl 8 (c1.map Caller.u)),.u (.sl 9 (c2.map Result.u)),.u (.int .i64 0),.u (.int .i64 c4),.u (.int .i64 c5),.u (.str c6),.u (.int .i64 c7),.u (.int .i64 c8),.u (.int .i64 c9),.u (.int .i64 c10),.u (.int .i64 c11)])∧st.s 2=.t (.sc (.ptr (.loc 2 0) 0 0))∧st.o (.loc 2 0)=some (.box [.u (.int .i64 0),.u (.int .i64 0),.u (.int .i64 0),.u (.str []),.u (.int .i64 0),.u (.int .i64 0),.u (.int .i64 0)])∧st.s 4=.t (.sc (.own (.loc 10 0) R.length))∧st.o (.loc 10 0)=some (.row 3 (R.map Route.u))∧st.s 5=.t (.sc (.own (.loc 12 0) S.length))∧st.o (.loc 12 0)=some (.row 6 (S.map State.u))∧st.s 8=DI a) (fun a=>R.length - a) (fun a=>ZQ (if 8≤c0.length then none else ZK (R.drop a) (S.drop a))) ?_ 0 (by and_intros<;>first|omega|rfl|(simp only[↓xP,xT,rL,rB,rA,rS,h1,hb,h2,hb2,h4,ho4,h5,ho5]<;>first|done|rfl|omega))).trans (by rfl)
          clear h1 hb h2 hb2 h4 ho4 h5 ho5 h6
          rintro a st ⟨hle,h1,hb,h2,hb2,h4,ho4,h5,ho5,h8⟩ ih
          have hw:=w_succ (i:=a) (by omega)
          by_cases hi:a+1<R.length
          · by_cases hg:(c0.length:Int)<8
            · have hg':¬8≤c0.length:=by omega
              simp only[if_neg hg'] at ih ⊢
              obtain ⟨⟨rn,⟨rlo,rup⟩⟩,hr⟩:∃ x,R[a]?=some x:=⟨_,List.getElem?_eq_getElem (by omega)⟩
              obtain ⟨⟨qn,⟨qlo,qup⟩⟩,hq⟩:∃ x,R[a+1]?=some x:=⟨_,List.getElem?_eq_getElem hi⟩
              obtain ⟨⟨⟨lo,up⟩,prs,kn,sld,cut⟩,hx⟩:∃ x,S[a]?=some x:=⟨_,List.getElem?_eq_getElem (by omega)⟩
              obtain ⟨⟨⟨lo2,up2⟩,prs2,kn2,sld2,cut2⟩,hy⟩:∃ x,S[a+1]?=some x:=⟨_,List.getElem?_eq_getElem (by omega)⟩
              have hk1:=hkn _ (List.mem_of_getElem? hx)
              have hk2:=hkn _ (List.mem_of_getElem? hy)
              have hmw:=ZGi lo up prs kn sld cut (by simp only at hk1; omega) lo2 up2 prs2 kn2 sld2 cut2 (by simp only at hk2; omega)
              have hai:a<S.length:=by omega
              have haj:a+1<S.length:=by omega
              have har:a<R.length:=by omega
              have hmf:ZK (R.drop a) (S.drop a)=if ZR ⟨⟨lo,up⟩,prs,kn,sld,cut⟩ ⟨⟨lo2,up2⟩,prs2,kn2,sld2,cut2⟩=true then some ⟨2,rn,qn,[],0,0,0⟩ else ZK (R.drop (a+1)) (S.drop (a+1)):=by rw [ZE hr,ZE hq,ZE hx,ZE hy]; rfl
              rw [hmf]
              cases hm:ZR ⟨⟨lo,up⟩,prs,kn,sld,cut⟩ ⟨⟨lo2,up2⟩,prs2,kn2,sld2,cut2⟩
              · simp only[↓xP,xT,rL,rB,rA,rS,rdx,rdx2,h1,hb,h2,hb2,h4,ho4,h5,ho5,h8,hi,hg,hai,haj,hr,hq,hx,hy,hw,hmw,hm,State.u,Route.u,List.length_map]
                rw [ih (a+1) _ (by omega) (by and_intros<;>first|omega|rfl|(simp only[↓xP,xT,rL,rB,rA,rS,h1,hb,h2,hb2,h4,ho4,h5,ho5,hw]<;>first|done|rfl|omega))]
                try simp
              · simp only[↓xP,xT,rL,rB,rA,rS,rdx,rdx2,h1,hb,h2,hb2,h4,ho4,h5,ho5,h8,hi,hg,hai,haj,har,hr,hq,hx,hy,hw,hmw,hm,State.u,Route.u,List.length_map]
                try simp [ZQ]
            · have hg':8≤c0.length:=by omega
              rw [if_pos hg']
              simp only[↓xP,xT,rL,rB,rA,rS,rdx,rdx2,h1,hb,h2,hb2,h4,ho4,h5,ho5,h8,hi,hg,hw,List.length_map]
              try simp [ZQ]
          · have hd:S.drop (a+1)=[]:=List.drop_of_length_le (by omega)
            have hmf:ZK (R.drop a) (S.drop a)=none:=by
              cases hR:R.drop a with
              | nil=>rfl
              | cons r t=>
                cases hS:S.drop a with
                | nil=>cases t<;>rfl
                | cons s u=>
                  have hu:u=[]:=by have:=congrArg List.tail hS; rw [List.tail_drop,hd] at this; exact this.symm
                  subst hu; cases t<;>rfl
            rw [hmf]
            have hnn:(if 8≤c0.length then none else (none:Option Plan))=none:=by split<;>rfl
            rw [hnn]
            simp only[↓xP,xT,rL,rB,rA,rS,rdx,rdx2,h1,hb,h2,hb2,h4,ho4,h5,ho5,h8,hi,hw,List.length_map]
            try simp [ZQ]
        · simp only[↓xP,xT,rL,rB,rA,rS,rdx,rdx2,h1,hb,h2,hb2,h4,ho4,h5,ho5,h6,hi,g1,hw2,List.length_map]
          refine (Zjc (fun (a:Nat) st=>a≤R.length∧st.s 1=.t (.sc (.ptr (.loc 1 0) 0 0))∧st.o (.loc 1 0)=some (.box [.u (.sl 14 (c0.map Shard.u)),.u (.sl 8 (c1.map Caller.u)),.u (.sl 9 (c2.map Result.u)),.u (.int .i64 0),.u (.int .i64 c4),.u (.int .i64 c5),.u (.str c6),.u (.int .i64 c7),.u (.int .i64 c8),.u (.int .i64 c9),.u (.int .i64 c10),.u (.int .i64 c11)])∧st.s 2=.t (.sc (.ptr (.loc 2 0) 0 0))∧st.o (.loc 2 0)=some (.box [.u (.int .i64 0),.u (.int .i64 0),.u (.int .i64 0),.u (.str []),.u (.int .i64 0),.u (.int .i64 0),.u (.int .i64 0)])∧st.s 4=.t (.sc (.own (.loc 10 0) R.length))∧st.o (.loc 10 0)=some (.row 3 (R.map Route.u))∧st.s 5=.t (.sc (.own (.loc 12 0) S.length))∧st.o (.loc 12 0)=some (.row 6 (S.map State.u))∧st.s 8=DI a) (fun a=>R.length - a) (fun a=>ZQ (if 8≤c0.length then none else ZK (R.drop a) (S.drop a))) ?_ 0 (by and_intros<;>first|omega|rfl|(simp only[↓xP,xT,rL,rB,rA,rS,h1,hb,h2,hb2,h4,ho4,h5,ho5]<;>first|done|rfl|omega))).trans (by rfl)
          clear h1 hb h2 hb2 h4 ho4 h5 ho5 h6
          rintro a st ⟨hle,h1,hb,h2,hb2,h4,ho4,h5,ho5,h8⟩ ih
          have hw:=w_succ (i:=a) (by omega)
          by_cases hi:a+1<R.length
          · by_cases hg:(c0.length:Int)<8
            · have hg':¬8≤c0.length:=by omega
              simp only[if_neg hg'] at ih ⊢
              obtain ⟨⟨rn,⟨rlo,rup⟩⟩,hr⟩:∃ x,R[a]?=some x:=⟨_,List.getElem?_eq_getElem (by omega)⟩
              obtain ⟨⟨qn,⟨qlo,qup⟩⟩,hq⟩:∃ x,R[a+1]?=some x:=⟨_,List.getElem?_eq_getElem hi⟩
              obtain ⟨⟨⟨lo,up⟩,prs,kn,sld,cut⟩,hx⟩:∃ x,S[a]?=some x:=⟨_,List.getElem?_eq_getElem (by omega)⟩
              obtain ⟨⟨⟨lo2,up2⟩,prs2,kn2,sld2,cut2⟩,hy⟩:∃ x,S[a+1]?=some x:=⟨_,List.getElem?_eq_getElem (by omega)⟩
              have hk1:=hkn _ (List.mem_of_getElem? hx)
              have hk2:=hkn _ (List.mem_of_getElem? hy)
              have hmw:=ZGi lo up prs kn sld cut (by simp only at hk1; omega) lo2 up2 prs2 kn2 sld2 cut2 (by simp only at hk2; omega)
              have hai:a<S.length:=by omega
              have haj:a+1<S.length:=by omega
              have har:a<R.length:=by omega
              have hmf:ZK (R.drop a) (S.drop a)=if ZR ⟨⟨lo,up⟩,prs,kn,sld,cut⟩ ⟨⟨lo2,up2⟩,prs2,kn2,sld2,cut2⟩=true then some ⟨2,rn,qn,[],0,0,0⟩ else ZK (R.drop (a+1)) (S.drop (a+1)):=by rw [ZE hr,ZE hq,ZE hx,ZE hy]; rfl
              rw [hmf]
              cases hm:ZR ⟨⟨lo,up⟩,prs,kn,sld,cut⟩ ⟨⟨lo2,up2⟩,prs2,kn2,sld2,cut2⟩
              · simp only[↓xP,xT,rL,rB,rA,rS,rdx,rdx2,h1,hb,h2,hb2,h4,ho4,h5,ho5,h8,hi,hg,hai,haj,hr,hq,hx,hy,hw,hmw,hm,State.u,Route.u,List.length_map]
                rw [ih (a+1) _ (by omega) (by and_intros<;>first|omega|rfl|(simp only[↓xP,xT,rL,rB,rA,rS,h1,hb,h2,hb2,h4,ho4,h5,ho5,hw]<;>first|done|rfl|omega))]
                try simp
              · simp only[↓xP,xT,rL,rB,rA,rS,rdx,rdx2,h1,hb,h2,hb2,h4,ho4,h5,ho5,h8,hi,hg,hai,haj,har,hr,hq,hx,hy,hw,hmw,hm,State.u,Route.u,List.length_map]
                try simp [ZQ]
            · have hg':8≤c0.length:=by omega
              rw [if_pos hg']
              simp only[↓xP,xT,rL,rB,rA,rS,rdx,rdx2,h1,hb,h2,hb2,h4,ho4,h5,ho5,h8,hi,hg,hw,List.length_map]
              try simp [ZQ]
          · have hd:S.drop (a+1)=[]:=List.drop_of_length_le (by omega)
            have hmf:ZK (R.drop a) (S.drop a)=none:=by
              cases hR:R.drop a with
              | nil=>rfl
              | cons r t=>
                cases hS:S.drop a with
                | nil=>cases t<;>rfl
                | cons s u=>
                  have hu:u=[]:=by have:=congrArg List.tail hS; rw [List.tail_drop,hd] at this; exact this.symm
                  subst hu; cases t<;>rfl
            rw [hmf]
            have hnn:(if 8≤c0.length then none else (none:Option Plan))=none:=by split<;>rfl
            rw [hnn]
            simp only[↓xP,xT,rL,rB,rA,rS,rdx,rdx2,h1,hb,h2,hb2,h4,ho4,h5,ho5,h8,hi,hw,List.length_map]
            try simp [ZQ]
      · simp only[↓xP,xT,rL,rB,rA,rS,rdx,rdx2,h1,hb,h2,hb2,h4,ho4,h5,ho5,h6,hi,hw2,List.length_map]
        refine (Zjc (fun (a:Nat) st=>a≤R.length∧st.s 1=.t (.sc (.ptr (.loc 1 0) 0 0))∧st.o (.loc 1 0)=some (.box [.u (.sl 14 (c0.map Shard.u)),.u (.sl 8 (c1.map Caller.u)),.u (.sl 9 (c2.map Result.u)),.u (.int .i64 0),.u (.int .i64 c4),.u (.int .i64 c5),.u (.str c6),.u (.int .i64 c7),.u (.int .i64 c8),.u (.int .i64 c9),.u (.int .i64 c10),.u (.int .i64 c11)])∧st.s 2=.t (.sc (.ptr (.loc 2 0) 0 0))∧st.o (.loc 2 0)=some (.box [.u (.int .i64 0),.u (.int .i64 0),.u (.int .i64 0),.u (.str []),.u (.int .i64 0),.u (.int .i64 0),.u (.int .i64 0)])∧st.s 4=.t (.sc (.own (.loc 10 0) R.length))∧st.o (.loc 10 0)=some (.row 3 (R.map Route.u))∧st.s 5=.t (.sc (.own (.loc 12 0) S.length))∧st.o (.loc 12 0)=some (.row 6 (S.map State.u))∧st.s 8=DI a) (fun a=>R.length - a) (fun a=>ZQ (if 8≤c0.length then none else ZK (R.drop a) (S.drop a))) ?_ 0 (by and_intros<;>first|omega|rfl|(simp only[↓xP,xT,rL,rB,rA,rS,h1,hb,h2,hb2,h4,ho4,h5,ho5]<;>first|done|rfl|omega))).trans (by rfl)
        clear h1 hb h2 hb2 h4 ho4 h5 ho5 h6
        rintro a st ⟨hle,h1,hb,h2,hb2,h4,ho4,h5,ho5,h8⟩ ih
        have hw:=w_succ (i:=a) (by omega)
        by_cases hi:a+1<R.length
        · by_cases hg:(c0.length:Int)<8
          · have hg':¬8≤c0.length:=by omega
            simp only[if_neg hg'] at ih ⊢
            obtain ⟨⟨rn,⟨rlo,rup⟩⟩,hr⟩:∃ x,R[a]?=some x:=⟨_,List.getElem?_eq_getElem (by omega)⟩
            obtain ⟨⟨qn,⟨qlo,qup⟩⟩,hq⟩:∃ x,R[a+1]?=some x:=⟨_,List.getElem?_eq_getElem hi⟩
            obtain ⟨⟨⟨lo,up⟩,prs,kn,sld,cut⟩,hx⟩:∃ x,S[a]?=some x:=⟨_,List.getElem?_eq_getElem (by omega)⟩
            obtain ⟨⟨⟨lo2,up2⟩,prs2,kn2,sld2,cut2⟩,hy⟩:∃ x,S[a+1]?=some x:=⟨_,List.getElem?_eq_getElem (by omega)⟩
            have hk1:=hkn _ (List.mem_of_getElem? hx)
            have hk2:=hkn _ (List.mem_of_getElem? hy)
            have hmw:=ZGi lo up prs kn sld cut (by simp only at hk1; omega) lo2 up2 prs2 kn2 sld2 cut2 (by simp only at hk2; omega)
            have hai:a<S.length:=by omega
            have haj:a+1<S.length:=by omega
            have har:a<R.length:=by omega
            have hmf:ZK (R.drop a) (S.drop a)=if ZR ⟨⟨lo,up⟩,prs,kn,sld,cut⟩ ⟨⟨lo2,up2⟩,prs2,kn2,sld2,cut2⟩=true then some ⟨2,rn,qn,[],0,0,0⟩ else ZK (R.drop (a+1)) (S.drop (a+1)):=by rw [ZE hr,ZE hq,ZE hx,ZE hy]; rfl
            rw [hmf]
            cases hm:ZR ⟨⟨lo,up⟩,prs,kn,sld,cut⟩ ⟨⟨lo2,up2⟩,prs2,kn2,sld2,cut2⟩
            · simp only[↓xP,xT,rL,rB,rA,rS,rdx,rdx2,h1,hb,h2,hb2,h4,ho4,h5,ho5,h8,hi,hg,hai,haj,hr,hq,hx,hy,hw,hmw,hm,State.u,Route.u,List.length_map]
              rw [ih (a+1) _ (by omega) (by and_intros<;>first|omega|rfl|(simp only[↓xP,xT,rL,rB,rA,rS,h1,hb,h2,hb2,h4,ho4,h5,ho5,hw]<;>first|done|rfl|omega))]
              try simp
            · simp only[↓xP,xT,rL,rB,rA,rS,rdx,rdx2,h1,hb,h2,hb2,h4,ho4,h5,ho5,h8,hi,hg,hai,haj,har,hr,hq,hx,hy,hw,hmw,hm,State.u,Route.u,List.length_map]
              try simp [ZQ]
          · have hg':8≤c0.length:=by omega
            rw [if_pos hg']
            simp only[↓xP,xT,rL,rB,rA,rS,rdx,rdx2,h1,hb,h2,hb2,h4,ho4,h5,ho5,h8,hi,hg,hw,List.length_map]
            try simp [ZQ]
        · have hd:S.drop (a+1)=[]:=List.drop_of_length_le (by omega)
          have hmf:ZK (R.drop a) (S.drop a)=none:=by
            cases hR:R.drop a with
            | nil=>rfl
            | cons r t=>
              cases hS:S.drop a with
              | nil=>cases t<;>rfl
              | cons s u=>
                have hu:u=[]:=by have:=congrArg List.tail hS; rw [List.tail_drop,hd] at this; exact this.symm
                subst hu; cases t<;>rfl
          rw [hmf]
          have hnn:(if 8≤c0.length then none else (none:Option Plan))=none:=by split<;>rfl
          rw [hnn]
          simp only[↓xP,xT,rL,rB,rA,rS,rdx,rdx2,h1,hb,h2,hb2,h4,ho4,h5,ho5,h8,hi,hw,List.length_map]
          try simp [ZQ]
  · have q1':¬(c3=0∧c10<999):=fun h=>q1 h.1
    rw [if_neg q1']
    simp only[↓xP,xT,rL,rB,rA,rS,rdx2,hfl,hcr,hls,hR0,q1,List.length_map,ne_eq,not_false_eq_true]
    try simp [ZQ])
theorem ZM6 (st:St) (d:Nat):st.dead d 3=(isNo (st.o (.loc d 0))&&(isNo (st.o (.loc d 1))&&isNo (st.o (.loc d 2)))):=by simp [St.dead,isNo,List.range_succ,Bool.and_assoc]
theorem app3 (st:St) (d:Nat) (v:D) (a b c:Id) (x y z:Obj) (rd:List Id):Fx.app ⟨some d,v,[(a,x),(b,y),(c,z)],rd⟩ st=(((st.obj a (some x)).obj b (some y)).obj c (some z)).put d v:=rfl
theorem law_FnExactNextPlan (us:List U) (hl:us.length=12) (ht:∀ (j:Nat) ty u,[Ty.sl [.b,.s,.s,.sl [.s,.i .i64],.sl [.i .i64,.i .i64,.i .i64],.b,.s,.i .i64,.sl [.i .i64],.b,.sl [.i .i64,.sl [.i .i64],.b,.b,.sl [.i .i64,.i .i64,.i .i64,.s,.i .i64,.i .i64]],.sl [.b],.sl [.i .i64,.i .i64,.i .i64,.i .i64,.sl [.i .i64],.b,.sl [.i .i64,.i .i64,.i .i64,.s,.i .i64,.i .i64]],.sl [.i .i64,.i .i64,.i .i64,.s,.i .i64,.i .i64,.i .i64]],.sl [.sl [.i .i64,.s,.s],.i .i64,.b,.i .i64,.s,.i .i64,.i .i64,.i .i64],.sl [.i .i64,.i .i64,.i .i64,.s,.i .i64,.i .i64,.i .i64,.i .i64,.i .i64],.i .i64,.i .i64,.i .i64,.s,.i .i64,.i .i64,.i .i64,.i .i64,.i .i64][j]?=some ty→us[j]?=some u→UT ty u):EE F 9 [.ag (us.map .u)] []=ok1 (B true):=by
 obtain ⟨⟨c0,c1,c2,⟨c3,c4,c5,c6,c7,c8,c9⟩,c10,c11⟩,rfl,hf⟩:=Cluster.of us hl ht
 rw [R9,b9]
 simp only[↓xP,xT,rL,rB,rA,rS,Cluster.u,List.map,ZKE c0 c1 c2 c3 c4 c5 c6 c7 c8 c9 c10 c11 hf]
 refine ZiE (fun h=>?_) (fun h=>?_)
 ·rfl
 simp only[decide_eq_false_iff_not] at h
 have hs:=(ZKD _ hf 1048576 (by omega) (by omega)).2 (by omega)
 have hi:=ZJJ c0 c1 c2 c3 c4 c5 c6 c7 c8 c9 c10 c11 hs
 have hsp:=ZJK c0 c1 c2 c3 c4 c5 c6 c7 c8 c9 c10 c11 hs
 cases hb:ZFT ⟨c0,c1,c2,⟨c3,c4,c5,c6,c7,c8,c9⟩,c10,c11⟩
 ·simp only[hb,ZQ] at hi hsp
  simp only[↓xP,xT,rL,rB,rA,rS,rdx,rdx2,ofR,ZM6,app3,List.getElem?_nil,ZIv c0 c1 c2 c3 c4 c5 c6 c7 c8 c9 c10 c11 hs,hi,hsp,ZId c0 c1 c2 c3 c4 c5 c6 c7 c8 c9 c10 c11 hs,ZIz,ZL,List.length_map]
 ·simp only[hb,ZQ] at hi hsp
  simp only[↓xP,xT,rL,rB,rA,rS,rdx,rdx2,ofR,ZM6,app3,List.getElem?_nil,ZIv c0 c1 c2 c3 c4 c5 c6 c7 c8 c9 c10 c11 hs,hi,hsp,ZId c0 c1 c2 c3 c4 c5 c6 c7 c8 c9 c10 c11 hs,ZIz,ZL,List.length_map]
end Go.Proofs.YtmfjkbbmhaofbaaGreatV
