/- Lemmas of functions that the law FnExactLiveStates reaches, and that it returns true for all data of its types. No conditions but those that the lemmas state. -/
import Derived.Test.YtmfjkbbmhaofbaaGreatA1
namespace Go.Proofs.YtmfjkbbmhaofbaaGreatV
open Go Go.RowKit
open Nat renaming reduceLT → rL, reduceAdd → rA, reduceSub → rS, reduceBEq → rB
open IOp (dst isF args)
set_option linter.unusedVariables false
set_option linter.unusedSimpArgs false
set_option maxRecDepth 4000
theorem ZH6 (l:List Interval) (hn:l.length≤1048576):EE F 161 [L 2 (l.map Interval.u)] []=ok1 (B (ZO l)):=by
 rw [R161,b161]
 by_cases hl:l=[]
 ·subst hl
  have:inR (0:Int) 1 6=false:=by decide
  simp only[↓xP,xT,rL,rB,rA,rS,List.map_nil,ZW,List.length_nil,List.length_map]
  refine ZiE (fun h=>?_) (fun h=>?_)
  ·rfl
  ·exact absurd h (by decide)
 have h1:1≤l.length:=List.length_pos_iff.2 hl
 obtain ⟨⟨alo,ahi⟩,ha⟩:∃ a,l[0]?=some a:=⟨_,List.getElem?_eq_getElem (by omega)⟩
 obtain ⟨⟨blo,bhi⟩,hb⟩:∃ a,l[l.length - 1]?=some a:=⟨_,List.getElem?_eq_getElem (by omega)⟩
 have hw1:IntKind.i64.wrap ((l.length:Int) - 1)=((l.length - 1:Nat):Int):=by rw [w64 (by omega) (by omega)]; omega
 have hin:inR (l.length:Int) 1 6=decide (l.length≤6):=by
  rw [Bool.eq_iff_iff]; simp only[inR,Bool.and_eq_true,decide_eq_true_eq]; omega
 have hpv:ZO l=(decide (l.length≤6)&&ZE ⟨alo,ahi⟩&&decide (alo=[])&&decide (bhi=[])&&allF l.length (ZHm l) 1):=by simp only[ZO,ha,hb]
 rw [hpv]
 simp only[↓xP,xT,rL,rB,rA,rS,List.length_map,ZW,hin,ha,hb,ZFd,Interval.u,hw1,ne_eq]
 refine ZiE (fun h=>?_) (fun g1=>?_)
 ·rw [Bool.not_eq_true'] at h; simp [h]
 refine ZiE (fun h=>?_) (fun g2=>?_)
 ·rw [Bool.not_eq_true'] at h; simp [h]
 refine ZiE (fun h=>?_) (fun g3=>?_)
 ·have:¬alo=[]:=by simpa using h
  simp [this]
 refine ZiE (fun h=>?_) (fun g4=>?_)
 ·have:¬bhi=[]:=by simpa using h
  simp [this]
 have hg:(decide (l.length≤6)&&ZE ⟨alo,ahi⟩&&decide (alo=[])&&decide (bhi=[]))=true:=by
  have a2:alo=[]:=by simpa using g3
  have a3:bhi=[]:=by simpa using g4
  rw [Bool.not_eq_false'] at g1 g2
  rw [g1,g2]; simp [a2,a3]
 rw [hg,Bool.true_and]
 refine Zjc (fun (i:Nat) st=>1≤i∧i≤l.length∧st.s 0=DU (.sl 2 (l.map Interval.u))∧st.s 3=DI i) (fun i=>l.length - i) (fun i=>ok1 (B (allF l.length (ZHm l) i))) ?_ 1 ⟨by omega,h1,(by and_intros<;>first|omega|rfl|(simp only[↓xP,xT,rL,rB,rA,rS]<;>first|done|rfl|omega))⟩
 rintro i st ⟨hi1,hle,hs0,hs3⟩ ih
 by_cases hi:i<l.length
 ·obtain ⟨i,rfl⟩:∃ k,i=k+1:=⟨i - 1,by omega⟩
  obtain ⟨⟨clo,chi⟩,hc⟩:∃ a,l[i]?=some a:=⟨_,List.getElem?_eq_getElem (by omega)⟩
  obtain ⟨⟨dlo,dhi⟩,hd⟩:∃ a,l[i+1]?=some a:=⟨_,List.getElem?_eq_getElem (by omega)⟩
  have hw:=w_succ (i:=i+1) (by omega)
  have hp:=ZJ5 (i:=i) (by omega)
  have hjo:=ZIA clo chi dlo dhi
  have hja:ZHm l (i+1)=ZHn ⟨clo,chi⟩ ⟨dlo,dhi⟩:=by simp [ZHm,hc,hd]
  rw [ZFU hi,hja]
  cases hj:ZHn ⟨clo,chi⟩ ⟨dlo,dhi⟩<;>simp only[ZH1,hj,↓xP,xT,rL,rB,rA,rS] at hjo
  ·simp only[↓xP,xT,rL,rB,rA,rS,rdx2,hs0,hs3,List.length_map,hi,hp,hc,hd,Interval.u,hjo,hw]
   try simp
  ·simp only[↓xP,xT,rL,rB,rA,rS,rdx2,hs0,hs3,List.length_map,hi,hp,hc,hd,Interval.u,hjo,hw]
   rw [ih (i+1+1) _ (by omega) ⟨by omega,by omega,(by and_intros<;>first|omega|rfl|(simp only[↓xP,xT,rL,rB,rA,rS,hs0,hs3,hw]<;>first|done|rfl|omega))⟩]
   try simp
 ·simp only[↓xP,xT,rL,rB,rA,rS,hs0,hs3,List.length_map,hi]
  rw [ZFT hi]
def ZGv (n:Int):List Route→Nat→Int
 | [],_=>-1
 | r::l,i=>if r.number=n then (i:Int) else ZGv n l (i+1)
def ZFR (l:List Route) (n:Int):Bool:=l.any (fun q=>decide (q.number=n))
theorem ZKG (n:Int):∀ (l:List Route) (i:Nat),decide (0≤ZGv n l i)=ZFR l n
 | [],i=>by simp [ZGv,ZFR]
 | r :: l,i=>by
  have h:=ZKG n l (i+1)
  simp only[ZFR,List.any_cons] at h ⊢
  by_cases e:r.number=n
  ·have hp:ZGv n (r::l) i=(i:Int):=by simp only[ZGv,if_pos e]
   rw [hp]; simp [e]
  ·have hp:ZGv n (r::l) i=ZGv n l (i+1):=by simp only[ZGv,if_neg e]
   rw [hp,h]; simp [e]
theorem ZKk (l:List Route) (n:Int) (hn:l.length≤1048576):EE F 261 [L 3 (l.map Route.u),I n] []=ok1 (I (ZGv n l 0)):=by
 rw [R261,b261]
 simp only[↓xP,xT,rL,rB,rA,rS]
 refine (Zjc (fun (i:Nat) st=>st.s 7=DU (.sl 3 (l.map Route.u))∧st.s 8=DI l.length∧st.s 9=DI i∧st.s 1=DI n) (fun i=>l.length - i) (fun i=>ok1 (I (ZGv n (l.drop i) i))) ?_ 0 (by and_intros<;>first|omega|rfl|(simp only[↓xP,xT,rL,rB,rA,rS]<;>first|done|rfl|omega))).trans (by simp)
 rintro i st ⟨h7,h8,h9,h1⟩ ih
 by_cases hi:i<l.length
 ·obtain ⟨⟨m,⟨lo,up⟩⟩,hx⟩:∃ x,l[i]?=some x:=⟨_,List.getElem?_eq_getElem hi⟩
  have hw:=w_succ (i:=i) (by omega)
  simp only[↓xP,xT,rL,rB,rA,rS,h7,h8,h9,h1,hi,hx,hw,Route.u]
  rw [ZV hx,ZGv]
  refine ZiE (fun h=>?_) (fun h=>?_)
  ·have:m=n:=by simpa using h
   simp [this]
  ·have:¬m=n:=by simpa using h
   rw [ih (i+1) _ (by omega) (by and_intros<;>first|omega|rfl|(simp only[↓xP,xT,rL,rB,rA,rS,h7,h8,h1]<;>first|done|rfl|omega)),if_neg this]
 ·simp only[↓xP,xT,rL,rB,rA,rS,h7,h8,h9,hi]
  rw [List.drop_of_length_le (by omega)]; rfl
def ZF9 (l:List Route) (i:Nat):Bool:=match l[i]? with
 | some r=>inR r.number 0 7&&!ZFR (l.take i) r.number
 | none=>true
def Z9 (l:List Route):Bool:=allF l.length (ZF9 l) 0
theorem ZHf (l:List Route) (hn:l.length≤1048576):EE F 205 [L 3 (l.map Route.u)] []=ok1 (B (Z9 l)):=by
 rw [R205,b205]
 simp only[↓xP,xT,rL,rB,rA,rS]
 refine Zjc (fun (i:Nat) st=>st.s 0=DU (.sl 3 (l.map Route.u))∧st.s 5=DU (.sl 3 (l.map Route.u))∧st.s 6=DI l.length∧st.s 7=DI i) (fun i=>l.length - i) (fun i=>ok1 (B (allF l.length (ZF9 l) i))) ?_ 0 (by and_intros<;>first|omega|rfl|(simp only[↓xP,xT,rL,rB,rA,rS]<;>first|done|rfl|omega))
 rintro i st ⟨h0,h5,h6,h7⟩ ih
 by_cases hi:i<l.length
 ·obtain ⟨⟨m,⟨lo,up⟩⟩,hx⟩:∃ x,l[i]?=some x:=⟨_,List.getElem?_eq_getElem hi⟩
  have hw:=w_succ (i:=i) (by omega)
  have hrp:=ZKk (l.take i) m (by rw [List.length_take]; omega)
  have hge:=ZKG m (l.take i) 0
  rw [ZFU hi]
  have hct:vcut l.length none (some (DI (i:Int)))=some (0,i):=ZIl (by omega)
  have hna:ZF9 l i=(inR m 0 7&&!ZFR (l.take i) m):=by simp [ZF9,hx]
  rw [hna]
  cases q1:inR m 0 7
  ·simp only[↓xP,xT,rL,rB,rA,rS,rdx2,h0,h5,h6,h7,hi,hx,hw,Route.u,ZGo,q1]
   try simp
  ·cases q2:ZFR (l.take i) m<;>rw [q2] at hge
   ·have hge2:(0≤ZGv m (l.take i) 0)=False:=by simpa using hge
    simp only[↓xP,xT,rL,rB,rA,rS,rdx2,h0,h5,h6,h7,hi,hx,hw,Route.u,ZGo,q1,hrp,ge_iff_le,hge2,hct,List.length_map,List.drop_zero,←List.map_take]
    rw [ih (i+1) _ (by omega) (by and_intros<;>first|omega|rfl|(simp only[↓xP,xT,rL,rB,rA,rS,h0,h5,h6,hw]<;>first|done|rfl|omega))]
    try simp
   ·have hge2:(0≤ZGv m (l.take i) 0)=True:=by simpa using hge
    simp only[↓xP,xT,rL,rB,rA,rS,rdx2,h0,h5,h6,h7,hi,hx,hw,Route.u,ZGo,q1,hrp,ge_iff_le,hge2,hct,List.length_map,List.drop_zero,←List.map_take]
    try simp
 ·simp only[↓xP,xT,rL,rB,rA,rS,h0,h5,h6,h7,hi]
  rw [ZFT hi]
def ZFw (l:List Route):List Interval:=l.map Route.span
def ZIN (l:List Route):Option Ret:=some ⟨[.sc (.own (.par 0) l.length)],[.row 2 ((ZFw l).map Interval.u)],[]⟩
theorem ZJ1 {l:List Route} {i:Nat} {m:Int} {lo up:Str} (hx:l[i]?=some ⟨m,⟨lo,up⟩⟩):(ZFw (l.take (i+1))).map Interval.u=(ZFw (l.take i)).map Interval.u++[[.str lo,.str up]]:=by
 rw [List.take_add_one,hx]; simp [Interval.u,ZFw]
theorem ZFW (l:List Route):(ZFw l).length=l.length:=by simp [ZFw]
theorem ZMj (l:List Route) (hn:l.length≤1048576):EE F 204 [L 3 (l.map Route.u)] []=ZIN l:=by
 rw [R204,b204]
 simp only[↓xP,xT,rL,rB,rA,rS]
 refine Zjc (fun (i:Nat) st=>i≤l.length∧st.s 3=.t (.sc (.own (.loc 3 0) i))∧st.o (.loc 3 0)=some (.row 2 ((ZFw (l.take i)).map Interval.u))∧st.s 6=DU (.sl 3 (l.map Route.u))∧st.s 7=DI l.length∧st.s 8=DI i) (fun a=>l.length - a) (fun _=>ZIN l) ?_ 0 (by and_intros<;>first|omega|rfl|(simp only[↓xP,xT,rL,rB,rA,rS]<;>first|done|rfl|omega))
 rintro i st ⟨hle,h3,ho,h6,h7,h8⟩ ih
 by_cases hi:i<l.length
 ·obtain ⟨⟨m,⟨lo,up⟩⟩,hx⟩:∃ x,l[i]?=some x:=⟨_,List.getElem?_eq_getElem hi⟩
  have hw:=w_succ (i:=i) (by omega)
  obtain ⟨q1,q2⟩:=ZL (n:=i+1) (k:=32) (by omega) (by omega)
  have hst:=ZJ1 hx
  have hlt:(List.map Interval.u (ZFw (List.take i l))).length=i:=by rw [List.length_map,ZFW,List.length_take]; omega
  have hta:List.take i (List.map Interval.u (ZFw (List.take i l)))=List.map Interval.u (ZFw (List.take i l)):=List.take_of_length_le (by omega)
  simp only[↓xP,xT,rL,rB,rA,rS,h3,ho,h6,h7,h8,hi,hx,hw,Route.u,q1,q2,hlt,hta]
  rw [ih (i+1) _ (by omega) (by and_intros<;>first|omega|rfl|(simp only[↓xP,xT,rL,rB,rA,rS,h3,ho,h6,h7,hst]<;>first|done|rfl|omega))]
 ·simp only[↓xP,xT,rL,rB,rA,rS,h3,ho,h6,h7,h8,hi]
  obtain rfl:i=l.length:=by omega
  rw [List.take_length,ZFW]; simp [ZIN,sel]
theorem ZI0 (l:List Route) (hn:l.length≤1048576):EE F 129 [L 3 (l.map Route.u)] []=ok1 (B (decide (l.length≤6)&&ZO (ZFw l)&&Z9 l)):=by
 rw [R129,b129]
 have hs:=ZMj l hn
 have hp:=ZH5 (ZFw l) (by rw [ZFW]; omega)
 simp only[ZIN] at hs
 have hta:List.take l.length (List.map Interval.u (ZFw l))=List.map Interval.u (ZFw l):=List.take_of_length_le (by rw [List.length_map,ZFW]; omega)
 simp only[↓xP,xT,rL,rB,rA,rS,hs,hp,ZHf l hn,ZFW,hta,Nat.le_refl]
 refine ZiE (fun g1=>?_) (fun h=>?_)
 ·have g1':l.length≤6:=by simp at g1; omega
  refine ZiE (fun g2=>?_) (fun h=>?_)
  ·simp [g1',g2]
  ·simp [h]
 ·have:¬l.length≤6:=by simp at h; omega
  simp [this]
def ZHS (a b:Str):Bool:=!ZaZ a b&&!decide (a=b)
def ZFO (l:List Route) (i:Nat):Bool:=match l[i]? with
 | some r=>ZE r.span&&!(match l[i - 1]? with
  | some q=>decide (0<i)&&(decide (q.span.high=[])||ZHS q.span.high r.span.low)
  | none=>false)
 | none=>true
def ZFQ (l:List Route):Bool:=Z9 l&&allF l.length (ZFO l) 0
/-- Numbers that differ and lie in 0..7 are at most eight. -/
theorem ZLB:∀ (n:Nat) (l:List Int),l.Pairwise (·≠·)→(∀ x,x∈l→0≤x∧x<(n:Int))→l.length≤n
 | 0,l,_,h=>by
  cases l with
  | nil=>simp
  | cons a l=>have:=h a (by simp); omega
 | n + 1,l,hd,h=>by
  have hk:∀ (m:List Int),m.Pairwise (·≠·)→m.length≤(m.filter (fun x=>decide (x≠(n:Int)))).length+1:=by
   intro m
   induction m with
   | nil=>intro _; simp
   | cons a m ih=>
    intro hp
    rw [List.pairwise_cons] at hp
    by_cases e:a=(n:Int)
    ·have:m.filter (fun x=>decide (x≠(n:Int)))=m:=List.filter_eq_self.2 (fun x hx=>by have:=hp.1 x hx; simp; omega)
     rw [List.filter_cons_of_neg (by simp [e]),this]; simp
    ·rw [List.filter_cons_of_pos (by simp [e])]
     have:=ih hp.2
     simp only[List.length_cons]; omega
  have h1:=hk l hd
  have h2:=ZLB n (l.filter (fun x=>decide (x≠(n:Int)))) (hd.filter _) (by
   intro x hx
   rw [List.mem_filter] at hx
   have:=h x hx.1
   have h3:x≠(n:Int):=by simpa using hx.2
   omega)
  omega
theorem ZI7 {l:List Route} (h:Z9 l=true):(l.map Route.number).Pairwise (·≠·)∧∀ x,x∈l.map Route.number→0≤x∧x<8:=by
 have ha:=(ZFz _ 0 rfl).1 h
 refine ⟨?_,?_⟩
 ·rw [List.pairwise_iff_getElem]
  intro i j hi hj hij
  simp only[List.length_map] at hi hj
  have:=ha j (by omega) hj
  simp only[ZF9,List.getElem?_eq_getElem hj,Bool.and_eq_true,Bool.not_eq_true',ZFR] at this
  have h2:=List.any_eq_false.1 this.2 l[i] (by rw [List.mem_take_iff_getElem]; exact ⟨i,by omega,rfl⟩)
  simpa using h2
 ·intro x hx
  obtain ⟨r,hr,rfl⟩:=List.mem_map.1 hx
  obtain ⟨i,hi,rfl⟩:=List.mem_iff_getElem.1 hr
  have:=ha i (by omega) hi
  simp only[ZF9,List.getElem?_eq_getElem hi,Bool.and_eq_true,inR,decide_eq_true_eq] at this
  omega
theorem ZL5 {l:List Route} (h:Z9 l=true):l.length≤8:=by
 have:=ZLB 8 (l.map Route.number) (ZI7 h).1 (fun x hx=>by have:=(ZI7 h).2 x hx; omega)
 simpa using this
theorem ZJl (l:List Route) (hn:l.length≤1048576):EE F 197 [L 3 (l.map Route.u)] []=ok1 (B (ZFQ l)):=by
 rw [R197,b197]
 simp only[↓xP,xT,rL,rB,rA,rS,ZHf l hn,List.length_map]
 refine ZiE (fun h=>?_) (fun g1=>?_)
 ·have h8:¬l.length≤8:=by simp at h; omega
  have:Z9 l=false:=by
   cases hd:Z9 l
   ·rfl
   ·exact absurd (ZL5 hd) h8
  simp [ZFQ,this]
 refine ZiE (fun h=>?_) (fun g2=>?_)
 ·rw [Bool.not_eq_true'] at h; simp [ZFQ,h]
 rw [Bool.not_eq_false'] at g2
 simp only[ZFQ,g2,Bool.true_and]
 refine Zjc (fun (i:Nat) st=>i≤l.length∧st.s 0=DU (.sl 3 (l.map Route.u))∧st.s 13=DU (.sl 3 (l.map Route.u))∧st.s 14=DI l.length∧st.s 15=DI i) (fun i=>l.length - i) (fun i=>ok1 (B (allF l.length (ZFO l) i))) ?_ 0 (by and_intros<;>first|omega|rfl|(simp only[↓xP,xT,rL,rB,rA,rS]<;>first|done|rfl|omega))
 rintro i st ⟨hle,h0,h13,h14,h15⟩ ih
 by_cases hi:i<l.length
 ·obtain ⟨⟨m,⟨lo,up⟩⟩,hx⟩:∃ x,l[i]?=some x:=⟨_,List.getElem?_eq_getElem hi⟩
  have hw:=w_succ (i:=i) (by omega)
  rw [ZFU hi]
  cases q1:ZE ⟨lo,up⟩
  ·have:ZFO l i=false:=by simp [ZFO,hx,q1]
   simp only[↓xP,xT,rL,rB,rA,rS,rdx2,h0,h13,h14,h15,hi,hx,hw,Route.u,ZR,q1]
   simp [this]
  cases i with
  | zero=>
   have hgt:(((0:Nat):Int) > 0)=False:=by simp
   have:ZFO l 0=true:=by simp only[ZFO,hx,q1]; cases l[0 - 1]?<;>simp
   simp only[↓xP,xT,rL,rB,rA,rS,rdx2,h0,h13,h14,h15,hi,hx,hw,Route.u,ZR,q1,hgt]
   rw [ih 1 _ (by omega) (by and_intros<;>first|omega|rfl|(simp only[↓xP,xT,rL,rB,rA,rS,h0,h13,h14,hw]<;>first|done|rfl|omega))]
   simp [this]
  | succ k=>
   have hgt:(((k+1:Nat):Int) > 0)=True:=by simp
   have hp:=ZJ5 (i:=k) (by omega)
   obtain ⟨⟨cm,⟨clo,chi⟩⟩,hc⟩:∃ a,l[k]?=some a:=⟨_,List.getElem?_eq_getElem (by omega)⟩
   have hsp:ZFO l (k+1)=!(decide (chi=[])||ZHS chi lo):=by simp [ZFO,hx,hc,q1]
   rw [hsp]
   by_cases q2:chi=[]
   ·subst q2
    simp only[↓xP,xT,rL,rB,rA,rS,rdx2,h0,h13,h14,h15,hi,hx,hc,hw,hp,Route.u,ZR,q1,hgt]
    try simp
   ·simp only[↓xP,xT,rL,rB,rA,rS,rdx2,h0,h13,h14,h15,hi,hx,hc,hw,hp,Route.u,ZR,q1,hgt,q2]
    refine ZiE (fun h=>?_) (fun h=>?_)
    ·have:ZHS chi lo=true:=by simpa [ZHS] using h
     simp [this]
    ·have:ZHS chi lo=false:=by simpa [ZHS] using h
     rw [ih (k+1+1) _ (by omega) (by and_intros<;>first|omega|rfl|(simp only[↓xP,xT,rL,rB,rA,rS,h0,h13,h14,hw]<;>first|done|rfl|omega))]
     simp [this,q2]
 ·simp only[↓xP,xT,rL,rB,rA,rS,h0,h13,h14,h15,hi]
  rw [ZFT hi]
theorem ZJm (l:List Route) (hn:l.length≤1048576):EE F 189 [L 3 (l.map Route.u)] []=ok1 (B (ZFQ l)):=by
 rw [R189,b189]
 simp only[↓xP,xT,rL,rB,rA,rS]
 have hc:ZFQ l=allF l.length (fun i=>ZF9 l i&&ZFO l i) 0:=by
  rw [Bool.eq_iff_iff,ZFQ,Bool.and_eq_true,Z9,ZFz _ 0 rfl,ZFz _ 0 rfl,ZFz _ 0 rfl]
  simp only[Bool.and_eq_true]
  exact ⟨fun h j h1 h2=>⟨h.1 j h1 h2,h.2 j h1 h2⟩,fun h=>⟨fun j h1 h2=>(h j h1 h2).1,fun j h1 h2=>(h j h1 h2).2⟩⟩
 rw [hc]
 refine Zjc (fun (i:Nat) st=>i≤l.length∧st.s 0=DU (.sl 3 (l.map Route.u))∧st.s 3=DI i) (fun i=>l.length - i) (fun i=>ok1 (B (allF l.length (fun i=>ZF9 l i&&ZFO l i) i))) ?_ 0 (by and_intros<;>first|omega|rfl|(simp only[↓xP,xT,rL,rB,rA,rS]<;>first|done|rfl|omega))
 rintro i st ⟨hle,h0,h3⟩ ih
 by_cases hi:i<l.length
 ·obtain ⟨⟨m,⟨lo,up⟩⟩,hx⟩:∃ x,l[i]?=some x:=⟨_,List.getElem?_eq_getElem hi⟩
  have hw:=w_succ (i:=i) (by omega)
  rw [ZFU hi]
  simp only[↓xP,xT,rL,rB,rA,rS,h0,h3,hi,hx,hw,Route.u,ZFd,ZW]
  refine ZiE (fun h=>?_) (fun q1=>?_)
  ·rw [Bool.not_eq_true'] at h
   have:ZFO l i=false:=by simp [ZFO,hx,h]
   simp [this]
  rw [Bool.not_eq_false'] at q1
  refine ZiE (fun h=>?_) (fun q2=>?_)
  ·rw [Bool.not_eq_true'] at h
   have:ZF9 l i=false:=by simp [ZF9,hx,h]
   simp [this]
  rw [Bool.not_eq_false'] at q2
  have hna:ZF9 l i=!ZFR ((l.take i).drop 0) m:=by simp [ZF9,hx,q2]
  rw [hna]
  refine Zjc (fun (j:Nat) st=>j≤i∧st.s 0=DU (.sl 3 (l.map Route.u))∧st.s 3=DI i∧st.s 4=DI j) (fun j=>i - j) (fun j=>ok1 (B (!ZFR ((l.take i).drop j) m&&ZFO l i&&allF l.length (fun i=>ZF9 l i&&ZFO l i) (i+1)))) ?_ 0 (by and_intros<;>first|omega|rfl|(simp only[↓xP,xT,rL,rB,rA,rS,h0,h3]<;>first|done|rfl|omega))
  clear h0 h3
  rintro j st ⟨hle2,h0,h3,h4⟩ ih2
  by_cases hj:j<i
  ·obtain ⟨⟨k,⟨lo2,up2⟩⟩,hy⟩:∃ x,l[j]?=some x:=⟨_,List.getElem?_eq_getElem (by omega)⟩
   have hyt:(l.take i)[j]?=some ⟨k,⟨lo2,up2⟩⟩:=by rw [List.getElem?_take,if_pos hj]; exact hy
   have hw2:=w_succ (i:=j) (by omega)
   have hh:ZFR ((l.take i).drop j) m=(decide (k=m)||ZFR ((l.take i).drop (j+1)) m):=by rw [ZV hyt]; rfl
   rw [hh]
   by_cases e:k=m
   ·simp only[↓xP,xT,rL,rB,rA,rS,rdx2,h0,h3,h4,hj,hx,hy,hw2,Route.u,e]
    try simp
   ·simp only[↓xP,xT,rL,rB,rA,rS,rdx2,h0,h3,h4,hj,hx,hy,hw2,Route.u,e]
    rw [ih2 (j+1) _ (by omega) (by and_intros<;>first|omega|rfl|(simp only[↓xP,xT,rL,rB,rA,rS,h0,h3,hw2]<;>first|done|rfl|omega))]
    try simp
  have hdr:(l.take i).drop j=[]:=List.drop_of_length_le (by rw [List.length_take]; omega)
  have hnn:ZFR ([]:List Route) m=false:=rfl
  rw [hdr,hnn]
  cases i with
  | zero=>
   have hgt:(((0:Nat):Int) > 0)=False:=by simp
   have:ZFO l 0=true:=by simp only[ZFO,hx,q1]; cases l[0 - 1]?<;>simp
   simp only[↓xP,xT,rL,rB,rA,rS,rdx2,h0,h3,h4,hj,hx,hw,Route.u,hgt]
   rw [ih 1 _ (by omega) (by and_intros<;>first|omega|rfl|(simp only[↓xP,xT,rL,rB,rA,rS,h0,hw]<;>first|done|rfl|omega))]
   simp [this]
  | succ k=>
   have hgt:(((k+1:Nat):Int) > 0)=True:=by simp
   have hp:=ZJ5 (i:=k) (by omega)
   obtain ⟨⟨cm,⟨clo,chi⟩⟩,hc⟩:∃ a,l[k]?=some a:=⟨_,List.getElem?_eq_getElem (by omega)⟩
   have hsp:ZFO l (k+1)=!(decide (chi=[])||ZHS chi lo):=by simp [ZFO,hx,hc,q1]
   rw [hsp]
   by_cases q2:chi=[]
   ·subst q2
    simp only[↓xP,xT,rL,rB,rA,rS,rdx2,h0,h3,h4,hj,hx,hc,hw,hp,Route.u,hgt]
    try simp
   ·simp only[↓xP,xT,rL,rB,rA,rS,rdx2,h0,h3,h4,hj,hx,hc,hw,hp,Route.u,hgt,q2]
    refine ZiE (fun h=>?_) (fun h=>?_)
    ·have:ZHS chi lo=true:=by simpa [ZHS] using h
     simp [this]
    ·have:ZHS chi lo=false:=by simpa [ZHS] using h
     rw [ih (k+1+1) _ (by omega) (by and_intros<;>first|omega|rfl|(simp only[↓xP,xT,rL,rB,rA,rS,h0,hw]<;>first|done|rfl|omega))]
     simp [this,q2]
 ·simp only[↓xP,xT,rL,rB,rA,rS,h0,h3,hi]
  rw [ZFT hi]
def Z1 (l:List Route):Bool:=decide (l.length≤6)&&ZO (ZFw l)&&Z9 l
theorem ZI1 (l:List Route) (hn:l.length≤1048576):EE F 120 [L 3 (l.map Route.u)] []=ok1 (B (Z1 l)):=by
 rw [R120,b120]
 simp only[↓xP,xT,rL,rB,rA,rS]
 have hdef:Z1 l=(decide (l.length≤6)&&allF l.length (ZF9 l) 0&&ZO (ZFw l)):=by
  simp only[Z1,Z9]; cases decide (l.length≤6)<;>cases ZO (ZFw l)<;>simp
 rw [hdef]
 refine Zjc (fun (i:Nat) st=>i≤6∧i≤l.length∧st.s 0=DU (.sl 3 (l.map Route.u))∧st.s 3=.t (.sc (.own (.loc 6 0) i))∧st.o (.loc 6 0)=some (.row 2 ((ZFw (l.take i)).map Interval.u))∧st.s 4=DI i) (fun i=>l.length - i) (fun i=>ok1 (B (decide (l.length≤6)&&allF l.length (ZF9 l) i&&ZO (ZFw l)))) ?_ 0 (by and_intros<;>first|omega|rfl|(simp only[↓xP,xT,rL,rB,rA,rS]<;>first|done|rfl|omega))
 rintro i st ⟨hi6,hle,h0,h3,ho,h4⟩ ih
 by_cases hi:i<l.length
 ·obtain ⟨⟨m,⟨lo,up⟩⟩,hx⟩:∃ x,l[i]?=some x:=⟨_,List.getElem?_eq_getElem hi⟩
  have hw:=w_succ (i:=i) (by omega)
  rw [ZFU hi]
  by_cases h6:i=6
  ·have hge:((6:Int)≤(i:Int))=True:=by simp; omega
   have hl:¬l.length≤6:=by omega
   simp only[↓xP,xT,rL,rB,rA,rS,h0,h3,ho,h4,hi,hx,hw,Route.u,ge_iff_le,hge]
   simp [hl]
  have hge:((6:Int)≤(i:Int))=False:=by simp; omega
  cases q2:inR m 0 7
  ·have:ZF9 l i=false:=by simp [ZF9,hx,q2]
   simp only[↓xP,xT,rL,rB,rA,rS,h0,h3,ho,h4,hi,hx,hw,Route.u,ge_iff_le,hge,ZW,q2]
   simp [this]
  simp only[↓xP,xT,rL,rB,rA,rS,h0,h3,ho,h4,hi,hx,hw,Route.u,ge_iff_le,hge,ZW,q2]
  have hna:ZF9 l i=!ZFR ((l.take i).drop 0) m:=by simp [ZF9,hx,q2]
  rw [hna]
  refine Zjc (fun (j:Nat) st=>j≤i∧st.s 0=DU (.sl 3 (l.map Route.u))∧st.s 3=.t (.sc (.own (.loc 6 0) i))∧st.o (.loc 6 0)=some (.row 2 ((ZFw (l.take i)).map Interval.u))∧st.s 4=DI i∧st.s 5=DI j) (fun j=>i - j) (fun j=>ok1 (B (decide (l.length≤6)&&(!ZFR ((l.take i).drop j) m&&allF l.length (ZF9 l) (i+1))&&ZO (ZFw l)))) ?_ 0 (by and_intros<;>first|omega|rfl|(simp only[↓xP,xT,rL,rB,rA,rS,h0,h3,ho,h4]<;>first|done|rfl|omega))
  clear h0 h3 h4 ho
  rintro j st ⟨hle2,h0,h3,ho,h4,h5⟩ ih2
  by_cases hj:j<i
  ·obtain ⟨⟨k,⟨lo2,up2⟩⟩,hy⟩:∃ x,l[j]?=some x:=⟨_,List.getElem?_eq_getElem (by omega)⟩
   have hyt:(l.take i)[j]?=some ⟨k,⟨lo2,up2⟩⟩:=by rw [List.getElem?_take,if_pos hj]; exact hy
   have hw2:=w_succ (i:=j) (by omega)
   have hh:ZFR ((l.take i).drop j) m=(decide (k=m)||ZFR ((l.take i).drop (j+1)) m):=by rw [ZV hyt]; rfl
   rw [hh]
   by_cases e:k=m
   ·simp only[↓xP,xT,rL,rB,rA,rS,rdx2,h0,h3,ho,h4,h5,hj,hx,hy,hw2,Route.u,e]
    try simp
   ·simp only[↓xP,xT,rL,rB,rA,rS,rdx2,h0,h3,ho,h4,h5,hj,hx,hy,hw2,Route.u,e]
    rw [ih2 (j+1) _ (by omega) (by and_intros<;>first|omega|rfl|(simp only[↓xP,xT,rL,rB,rA,rS,h0,h3,ho,h4,hw2]<;>first|done|rfl|omega))]
    try simp
  have hdr:(l.take i).drop j=[]:=List.drop_of_length_le (by rw [List.length_take]; omega)
  have hnn:ZFR ([]:List Route) m=false:=rfl
  rw [hdr,hnn]
  obtain ⟨q1,q2⟩:=ZL (n:=i+1) (k:=32) (by omega) (by omega)
  have hst:=ZJ1 hx
  have hlt:(List.map Interval.u (ZFw (List.take i l))).length=i:=by rw [List.length_map,ZFW,List.length_take]; omega
  have hta:List.take i (List.map Interval.u (ZFw (List.take i l)))=List.map Interval.u (ZFw (List.take i l)):=List.take_of_length_le (by omega)
  simp only[↓xP,xT,rL,rB,rA,rS,rdx2,h0,h3,ho,h4,h5,hj,hx,hw,Route.u,q1,q2,hlt,hta]
  rw [ih (i+1) _ (by omega) ⟨by omega,by omega,(by and_intros<;>first|omega|rfl|(simp only[↓xP,xT,rL,rB,rA,rS,h0,h3,ho,hw,hst]<;>first|done|rfl|omega))⟩]
  try simp
 ·have hp:=ZH6 (ZFw l) (by rw [ZFW]; omega)
  obtain rfl:i=l.length:=by omega
  have hta:List.take l.length (List.map Interval.u (ZFw l))=List.map Interval.u (ZFw l):=List.take_of_length_le (by rw [List.length_map,ZFW]; omega)
  rw [List.take_length] at ho
  simp only[↓xP,xT,rL,rB,rA,rS,h0,h3,ho,h4,hi,hp,ZFW,hta,Nat.le_refl]
  rw [ZFT (by omega)]
  simp [hi6]
theorem ZHu (n:Int):EE F 131 [I n] []=ok1 (B (inR n 0 200)):=by
 rw [R131,b131]
 simp only[↓xP,xT,rL,rB,rA,rS]
 repeat' (refine ZiE (fun h=>?_) (fun h=>?_))
 all_goals first|(simp_all [inR]; done)|(simp_all [inR]; omega)
theorem ZKj (n:Int):EE F 201 [I n] []=ok1 (B (inR n (-4) 999)):=by
 rw [R201,b201]
 simp only[↓xP,xT,rL,rB,rA,rS]
 repeat' (refine ZiE (fun h=>?_) (fun h=>?_))
 all_goals first|(simp_all [inR]; done)|(simp_all [inR]; omega)
def ZF8 (c:Command):Bool:=decide (c.kind=0)&&decide (c.key=[])&&decide (c.value=0)&&decide (c.old=0)
def ZH (c:Caller):Bool:=ZFQ c.cache&&inR c.seq 0 999&&(if c.busy=true then decide (1≤c.seq)&&ZGW c.wish&&inR c.called 0 200 else ZF8 c.wish&&decide (c.called=0))
theorem ZIR (l:List Route) (s:Int) (bz:Bool) (k:Int) (key:Str) (v o cd:Int) (hn:l.length≤1048576):EE F 126 [.ag [.u (.sl 3 (l.map Route.u)),.u (.int .i64 s),.u (.bool bz),.u (.int .i64 k),.u (.str key),.u (.int .i64 v),.u (.int .i64 o),.u (.int .i64 cd)]] []=ok1 (B (ZH ⟨l,s,bz,⟨k,key,v,o⟩,cd⟩)):=by
 rw [R126,b126]
 have a:=ZJl l hn
 cases bz<;>simp only[↓xP,xT,rL,rB,rA,rS,a,ZIQ,ZHu,ZW]
 all_goals repeat' (refine ZiE (fun h=>?_) (fun h=>?_))
 all_goals first|(simp_all [ZH,ZF8,inR]; done)|(simp_all [ZH,ZF8,inR]; grind)|skip
theorem ZIS (l:List Route) (s:Int) (bz:Bool) (k:Int) (key:Str) (v o cd:Int) (hn:l.length≤1048576):EE F 118 [.ag [.u (.sl 3 (l.map Route.u)),.u (.int .i64 s),.u (.bool bz),.u (.int .i64 k),.u (.str key),.u (.int .i64 v),.u (.int .i64 o),.u (.int .i64 cd)]] []=ok1 (B (ZH ⟨l,s,bz,⟨k,key,v,o⟩,cd⟩)):=by
 rw [R118,b118]
 have a:=ZJm l hn
 cases bz<;>simp only[↓xP,xT,rL,rB,rA,rS,a,ZJK,ZW,ZW]
 all_goals repeat' (refine ZiE (fun h=>?_) (fun h=>?_))
 all_goals first|(simp_all [ZH,ZF8,inR]; done)|(simp_all [ZH,ZF8,inR]; grind)|skip
def ZK (r:Result):Bool:=inR r.client 1 3&&inR r.seq 1 999&&ZGW r.wish&&inR r.reply (-4) 999&&inR r.returned 0 200&&decide (0≤r.called)&&decide (r.called≤r.returned)
theorem ZIY (c s k:Int) (key:Str) (v o r cd rt:Int):EE F 127 [.ag [.u (.int .i64 c),.u (.int .i64 s),.u (.int .i64 k),.u (.str key),.u (.int .i64 v),.u (.int .i64 o),.u (.int .i64 r),.u (.int .i64 cd),.u (.int .i64 rt)]] []=ok1 (B (ZK ⟨c,s,⟨k,key,v,o⟩,r,cd,rt⟩)):=by
 rw [R127,b127]
 simp only[↓xP,xT,rL,rB,rA,rS,ZJn,ZG4,ZIQ,ZKj,ZHu]
 repeat' (refine ZiE (fun h=>?_) (fun h=>?_))
 all_goals first|(simp_all [ZK]; done)|(simp_all [ZK]; omega)
theorem ZIZ (c s k:Int) (key:Str) (v o r cd rt:Int):EE F 119 [.ag [.u (.int .i64 c),.u (.int .i64 s),.u (.int .i64 k),.u (.str key),.u (.int .i64 v),.u (.int .i64 o),.u (.int .i64 r),.u (.int .i64 cd),.u (.int .i64 rt)]] []=ok1 (B (ZK ⟨c,s,⟨k,key,v,o⟩,r,cd,rt⟩)):=by
 rw [R119,b119]
 simp only[↓xP,xT,rL,rB,rA,rS,ZW,ZJK]
 repeat' (refine ZiE (fun h=>?_) (fun h=>?_))
 all_goals first|(simp_all [ZK]; done)|(simp_all [ZK,inR]; done)|(simp_all [ZK,inR]; grind)|skip
theorem ZLI (l:List Route) (s:Int) (bz:Bool) (k:Int) (key:Str) (v o cd:Int):EE F 130 [.ag [.u (.sl 3 (l.map Route.u)),.u (.int .i64 s),.u (.bool bz),.u (.int .i64 k),.u (.str key),.u (.int .i64 v),.u (.int .i64 o),.u (.int .i64 cd)]] []=ok1 (B (decide (l.length=0)&&decide (s=0)&&!bz&&ZF8 ⟨k,key,v,o⟩&&decide (cd=0))):=by
 rw [R130,b130]
 simp only[↓xP,xT,rL,rB,rA,rS]
 repeat' (refine ZiE (fun h=>?_) (fun h=>?_))
 all_goals simp_all [ZF8]
def rle (a b:Route):Bool:=!ZaZ b.span.low a.span.low
def insL (l:List Route) (x:Route):List Route:=l.takeWhile (fun q=>rle q x)++x::l.dropWhile (fun q=>rle q x)
def ZG1 (l:List Route):Prop:=l.Pairwise (fun a b=>rle a b=true)
def Z6 (l:List Route):List Route:=l.foldl insL []
theorem ZOf {s t:Str} (h1:ZaZ s t=false) (h2:ZaZ t s=false):s=t:=by
 have:=ZIV s t
 rw [h1,h2] at this
 simpa using this
theorem ZKJ {a b c:Route} (h1:rle a b=true) (h2:rle b c=true):rle a c=true:=by
 simp only[rle,Bool.not_eq_true'] at h1 h2 ⊢
 cases h:ZaZ c.span.low a.span.low
 ·rfl
 ·cases hb:ZaZ b.span.low c.span.low
  ·have e:=ZOf hb h2
   rw [e] at h1
   rw [h1] at h; cases h
  ·have:=lt_trans hb h
   rw [h1] at this; cases this
theorem ZMg {a b:Route} (h:rle a b=false):rle b a=true:=by
 simp only[rle,Bool.not_eq_true',Bool.not_eq_false'] at h ⊢
 exact ZJM h
theorem ZME {a b:List Route} {x:Route} (ha:∀ q,q∈a→rle q x=true) (hb:∀ q,b.head?=some q→rle q x=false):insL (a++b) x=a++x::b:=by
 have h1:(a++b).takeWhile (fun q=>rle q x)=a:=by
  rw [List.takeWhile_append_of_pos ha]
  cases b with
  | nil=>simp
  | cons q b=>rw [List.takeWhile_cons_of_neg (by rw [hb q rfl]; simp)]; simp
 have h2:(a++b).dropWhile (fun q=>rle q x)=b:=by
  rw [List.dropWhile_append_of_pos ha]
  cases b with
  | nil=>simp
  | cons q b=>rw [List.dropWhile_cons_of_neg (by rw [hb q rfl]; simp)]
 rw [insL,h1,h2]
theorem ZJH (l:List Route) (x:Route):(insL l x).length=l.length+1:=by
 have:=congrArg List.length (List.takeWhile_append_dropWhile (p:=fun q=>rle q x) (l:=l))
 simp only[List.length_append] at this
 simp only[insL,List.length_append,List.length_cons]
 omega
theorem ZJF (p:Route→Bool):∀ (l:List Route) (q:Route),(l.dropWhile p).head?=some q→p q=false
 | [],q,h=>by simp at h
 | a :: l,q,h=>by
  by_cases e:p a=true
  ·rw [List.dropWhile_cons_of_pos e] at h; exact ZJF p l q h
  ·rw [List.dropWhile_cons_of_neg e] at h
   simp at h; subst h; simpa using e
theorem ZLE {l:List Route} (h:ZG1 l) (x:Route):ZG1 (insL l x):=by
 have hs:ZG1 (l.takeWhile (fun q=>rle q x)++l.dropWhile (fun q=>rle q x)):=by rw [List.takeWhile_append_dropWhile]; exact h
 simp only[ZG1,insL] at hs ⊢
 rw [List.pairwise_append] at hs ⊢
 have ht:∀ q,q∈l.takeWhile (fun q=>rle q x)→rle q x=true:=fun q hq=>by simpa using List.all_takeWhile (l:=l) (p:=fun q=>rle q x) |> List.all_eq_true.1 |> fun f=>f q hq
 have hd:∀ q,q∈l.dropWhile (fun q=>rle q x)→rle x q=true:=by
  have hh:=ZJF (fun q=>rle q x) l
  have hp:=hs.2.1
  revert hh hp
  cases l.dropWhile (fun q=>rle q x) with
  | nil=>intro _ _ q hq; cases hq
  | cons c m=>
   intro hh hp q hq
   have hc:=ZMg (hh c rfl)
   rcases List.mem_cons.1 hq with rfl|hq
   ·exact hc
   ·exact ZKJ hc ((List.pairwise_cons.1 hp).1 q hq)
 refine ⟨hs.1,List.pairwise_cons.2 ⟨hd,hs.2.1⟩,?_⟩
 intro a ha b hb
 rcases List.mem_cons.1 hb with rfl|hb
 ·exact ht a ha
 ·exact hs.2.2 a ha b hb
theorem ZIx:∀ (m l:List Route),ZG1 l→ZG1 (m.foldl insL l)
 | [],l,h=>h
 | a::m,l,h=>ZIx m _ (ZLE h a)
theorem ZK6 (l:List Route):ZG1 (Z6 l):=ZIx l [] List.Pairwise.nil
theorem ZKA:∀ (m l:List Route),(m.foldl insL l).length=l.length+m.length
 | [],l=>by simp
 | a::m,l=>by rw [List.foldl_cons,ZKA m,ZJH]; simp only[List.length_cons]; omega
theorem ZGa (l:List Route):(Z6 l).length=l.length:=by rw [Z6,ZKA]; simp
theorem ZMi {l:List Route} {i:Nat} {x:Route} (hx:l[i]?=some x):Z6 (l.take (i+1))=insL (Z6 (l.take i)) x:=by
 rw [Z6,List.take_add_one,hx]; simp [Z6]
/-- What stands in the row when the element at i has moved down to j. -/
def midR (p r:List Route) (x:Route) (j:Nat):List Route:=p.take j++x::(p.drop j++r)
theorem ZND {p r:List Route} {x:Route} {j:Nat} (h:j≤p.length):(midR p r x j).length=p.length+r.length+1:=by
 simp only[midR,List.length_append,List.length_cons,List.length_take,List.length_drop]; omega
theorem ZOa {p r:List Route} {x:Route} {j:Nat} (h:j≤p.length):(midR p r x j)[j]?=some x:=by
 have hl:(p.take j).length=j:=by rw [List.length_take]; omega
 rw [midR,List.getElem?_append_right (by omega),hl]; simp
theorem ZOb {p r:List Route} {x:Route} {k:Nat} (h:k+1≤p.length):(midR p r x (k+1))[k]?=p[k]?:=by
 have hl:(p.take (k+1)).length=k+1:=by rw [List.length_take]; omega
 rw [midR,List.getElem?_append_left (by omega),List.getElem?_take,if_pos (by omega)]
theorem ZM7 {p r:List Route} {x y:Route} {k:Nat} (hy:p[k]?=some y):((midR p r x (k+1)).set (k+1) y).set k x=midR p r x k:=by
 have hk:k<p.length:=(List.getElem?_eq_some_iff.1 hy).1
 have hl:(p.take k).length=k:=by rw [List.length_take]; omega
 have h1:midR p r x (k+1)=p.take k++(y::x::(p.drop (k+1)++r)):=by
  rw [midR,List.take_add_one,hy]; simp
 have h2:midR p r x k=p.take k++(x::y::(p.drop (k+1)++r)):=by
  rw [midR,ZV hy]; simp
 rw [h1,h2,List.set_append_right _ _ (by omega),List.set_append_right _ _ (by omega),hl]
 have e1:k+1 - k=1:=by omega
 have e2:k - k=0:=by omega
 rw [e1,e2]; rfl
theorem ZNC {p r:List Route} {x:Route} {j:Nat} (hs:ZG1 p) (hj:j≤p.length) (hd:∀ q,q∈p.drop j→rle q x=false) (hy:j=0∨∃ y,p[j - 1]?=some y∧rle y x=true):midR p r x j=insL p x++r:=by
 have ha:∀ q,q∈p.take j→rle q x=true:=by
  intro q hq
  rcases hy with rfl|⟨y,hy,hyx⟩
  ·simp at hq
  ·obtain ⟨t,ht,rfl⟩:=List.mem_take_iff_getElem.1 hq
   by_cases e:t=j - 1
   ·subst e
    rw [List.getElem?_eq_getElem (by omega)] at hy
    cases hy; exact hyx
   ·have h1:j - 1<p.length:=by omega
    have:=List.pairwise_iff_getElem.1 hs t (j - 1) (by omega) h1 (by omega)
    rw [List.getElem?_eq_getElem h1] at hy
    cases hy
    exact ZKJ this hyx
 have:=ZME (a:=p.take j) (b:=p.drop j) ha (fun q hq=>hd q (List.mem_of_mem_head? hq))
 rw [List.take_append_drop] at this
 rw [this,midR]; simp
theorem ZNR (a b:Str):(cmpS a b<0)=(ZaZ a b=true):=by
 unfold cmpS
 cases h:ZaZ a b
 ·cases h2:ZaZ b a<;>simp
 ·simp
theorem ZNy (F:Nat→Option IFn) (fin:St→Option Ret) (is:List Za) (gs:List (GOp×List Nat)) (o:IOp) (t:Nat) (b:Bool) (free:List Nat) (done:List Fx) (st:St):KY F fin is gs o t b free done st true=RR F (KW F fin is gs done) [] [⟨o,some (t,b)⟩] st:=by
 simp only[KY,if_true,RR,Zap,KW,KD]
 cases Zaf (EE F) st ⟨o,some (t,b)⟩ with
 | none=>rfl
 | some s=>simp only[Option.bind_some,KK,Zf0,KW,KD]
theorem ZNJ (n:Int) (a b:Str) (m:Int) (c d:Str):EE F 146 [.ag [.u (.int .i64 n),.u (.str a),.u (.str b)],.ag [.u (.int .i64 m),.u (.str c),.u (.str d)]] []=ok1 (I (cmpS a c)):=by
 rw [R146,b146]
 simp only[↓xP,xT,rL,rB,rA,rS,ZKz]
theorem ZNZ (l:List Route) (n:Nat) (hn:n=l.length) (h8:l.length≤8):EE F 266 [.sc (.own (.par 0) n),I 0,I n,.sc (.u (.fn 146 []))] [.row 3 (l.map Route.u)]=some ⟨[],[],[.row 3 ((Z6 l).map Route.u)]⟩:=by
 refine (EE_run (fn:=i266) (by kernel_rfl) rfl).trans ?_
 simp only[i266,b266,ZdN,ZcQ,List.length_cons,List.length_nil]
 have hw0:IntKind.i64.wrap ((0:Int)+1)=((1:Nat):Int):=by decide
 simp only[↓xP,xT,rL,rB,rA,rS,hw0]
 have hF:∀ i,i<n→∃ x,l[i]?=some x:=fun i hi=>⟨_,List.getElem?_eq_getElem (by omega)⟩
 have hst1:Z6 (l.take 1)++l.drop 1=l:=by
  cases l with
  | nil=>rfl
  | cons a l=>rfl
 refine Zjc (fun (i:Nat) st=>i≤n+1∧(1≤i)∧st.s 0=.t (.sc (.own (.par 0) n))∧st.o (.par 0)=some (.row 3 ((Z6 (l.take i)++l.drop i).map Route.u))∧st.s 1=DI 0∧st.s 2=DI n∧st.s 3=DU (.fn 146 [])∧st.s 8=DI i) (fun i=>n - i) (fun _=>some ⟨[],[],[.row 3 ((Z6 l).map Route.u)]⟩) ?_ 1 (by and_intros<;>first|omega|rfl|(simp only[↓xP,xT,rL,rB,rA,rS,hst1]<;>first|done|rfl|omega))
 rintro i st ⟨hin,h1,hs0,ho,hs1,hs2,hs3,hs8⟩ ih
 by_cases hi:i<n
 ·have hw:=w_succ (i:=i) (by omega)
  obtain ⟨⟨xn,⟨xlo,xhi⟩⟩,hx⟩:=hF i hi
  have hpl:(Z6 (l.take i)).length=i:=by rw [ZGa,List.length_take]; omega
  have hsp:=ZK6 (l.take i)
  have hst:=ZMi hx
  have hmid:Z6 (l.take i)++l.drop i=midR (Z6 (l.take i)) (l.drop (i+1)) ⟨xn,⟨xlo,xhi⟩⟩ i:=by
   have t1:(Z6 (l.take i)).take i=Z6 (l.take i):=List.take_of_length_le (by omega)
   have t2:(Z6 (l.take i)).drop i=[]:=List.drop_of_length_le (by omega)
   rw [ZV hx,midR,t1,t2]; rfl
  rw [hmid] at ho
  clear hmid
  obtain ⟨p,hP⟩:∃ p,p=Z6 (l.take i):=⟨_,rfl⟩
  obtain ⟨r,hRs⟩:∃ r,r=l.drop (i+1):=⟨_,rfl⟩
  rw [←hP] at hpl hsp hst
  rw [←hP,←hRs] at ho
  simp only[↓xP,xT,rL,rB,rA,rS,hs0,ho,hs1,hs2,hs3,hs8,hi]
  refine Zjc (fun (j:Nat) st=>j≤i∧(∀ q,q∈p.drop j→rle q ⟨xn,⟨xlo,xhi⟩⟩=false)∧st.s 0=.t (.sc (.own (.par 0) n))∧st.o (.par 0)=some (.row 3 ((midR p r ⟨xn,⟨xlo,xhi⟩⟩ j).map Route.u))∧st.s 1=DI 0∧st.s 2=DI n∧st.s 3=DU (.fn 146 [])∧st.s 8=DI i∧st.s 9=DI j) (fun j=>j) (fun _=>some ⟨[],[],[.row 3 ((Z6 l).map Route.u)]⟩) ?_ i ⟨by omega,(by rw [List.drop_of_length_le (by omega)]; intro q hq; cases hq),(by and_intros<;>first|omega|rfl|(simp only[↓xP,xT,rL,rB,rA,rS,hs0,ho,hs1,hs2,hs3,hs8]<;>first|done|rfl|omega))⟩
  clear hs0 ho hs1 hs2 hs3 hs8
  rintro j st ⟨hji,hdr,hs0,ho,hs1,hs2,hs3,hs8,hs9⟩ ih2
  have hml:=ZND (p:=p) (r:=r) (x:=⟨xn,⟨xlo,xhi⟩⟩) (j:=j) (by omega)
  have hrl:p.length+r.length+1=n:=by rw [hpl,hRs,List.length_drop]; omega
  have hxm:=ZOa (p:=p) (r:=r) (x:=⟨xn,⟨xlo,xhi⟩⟩) (j:=j) (by omega)
  have hfin:(j=0∨∃ y,p[j - 1]?=some y∧rle y ⟨xn,⟨xlo,xhi⟩⟩=true)→(midR p r ⟨xn,⟨xlo,xhi⟩⟩ j)=Z6 (l.take (i+1))++l.drop (i+1):=by
   intro hy
   rw [hst,←hRs]
   exact ZNC hsp (by omega) hdr hy
  cases j with
  | zero=>
   have hgt:(((0:Nat):Int) > 0)=False:=by simp
   have hfin2:=hfin (.inl rfl)
   simp only[↓xP,xT,rL,rB,rA,rS,rdx2,ZNy,hs0,ho,hs1,hs2,hs3,hs8,hs9,hgt]
   exact ih (i+1) _ (by omega) (by and_intros<;>first|omega|rfl|(simp only[↓xP,xT,rL,rB,rA,rS,hs0,ho,hs1,hs2,hs3,hs8,hw,hfin2]<;>first|done|rfl|omega))
  | succ k=>
   have hgt:(((k+1:Nat):Int) > 0)=True:=by simp
   have hp:=ZJ5 (i:=k) (by omega)
   have hkn:k+1<n:=by omega
   have hkn':k<n:=by omega
   obtain ⟨⟨yn,⟨ylo,yhi⟩⟩,hyp⟩:∃ a,p[k]?=some a:=⟨_,List.getElem?_eq_getElem (by omega)⟩
   have hy:(midR p r ⟨xn,⟨xlo,xhi⟩⟩ (k+1))[k]?=some ⟨yn,⟨ylo,yhi⟩⟩:=by rw [ZOb (by omega)]; exact hyp
   have hsw:((midR p r ⟨xn,⟨xlo,xhi⟩⟩ (k+1)).map Route.u).set (k+1) [.int .i64 yn,.str ylo,.str yhi]=((midR p r ⟨xn,⟨xlo,xhi⟩⟩ (k+1)).set (k+1) ⟨yn,⟨ylo,yhi⟩⟩).map Route.u:=by rw [List.map_set]; rfl
   have hsw2:(((midR p r ⟨xn,⟨xlo,xhi⟩⟩ (k+1)).set (k+1) ⟨yn,⟨ylo,yhi⟩⟩).map Route.u).set k [.int .i64 xn,.str xlo,.str xhi]=(midR p r ⟨xn,⟨xlo,xhi⟩⟩ k).map Route.u:=by
    have h3:=congrArg (List.map Route.u) (ZM7 (r:=r) (x:=⟨xn,⟨xlo,xhi⟩⟩) hyp)
    rw [List.map_set] at h3; exact h3
   have hgk:(((midR p r ⟨xn,⟨xlo,xhi⟩⟩ (k+1)).map Route.u).set (k+1) [.int .i64 yn,.str ylo,.str yhi])[k]?=some [.int .i64 yn,.str ylo,.str yhi]:=by
    rw [List.getElem?_set_ne (by omega),List.getElem?_map,hy]; rfl
   rw [←hsw] at hsw2
   have hlen1:(midR p r ⟨xn,⟨xlo,xhi⟩⟩ (k+1)).length=n:=by omega
   have hlen2:((midR p r ⟨xn,⟨xlo,xhi⟩⟩ (k+1)).set (k+1) ⟨yn,⟨ylo,yhi⟩⟩).length=n:=by rw [List.length_set]; exact hlen1
   simp only[↓xP,xT,rL,rB,rA,rS,rdx2,ZNy,hs0,ho,hs1,hs2,hs3,hs8,hs9,hgt,hp,hxm,hy,Route.u,ZNJ,hkn,hkn',hgk,List.length_map,ZNR]
   refine ZiE (fun h=>?_) (fun h=>?_)
   ·have hlt:ZaZ xlo ylo=true:=by simpa using h
    have hdk:∀ q,q∈p.drop k→rle q ⟨xn,⟨xlo,xhi⟩⟩=false:=by
     intro q hq
     rw [ZV hyp] at hq
     rcases List.mem_cons.1 hq with rfl|hq
     ·simp [rle,hlt]
     ·exact hdr q hq
    exact ih2 k _ (by omega) ⟨by omega,hdk,(by and_intros<;>first|omega|rfl|(simp only[↓xP,xT,rL,rB,rA,rS,hs0,ho,hs1,hs2,hs3,hs8,hp,hsw2]<;>first|done|rfl|omega))⟩
   ·have hlt:ZaZ xlo ylo=false:=by simpa using h
    have hfin2:=hfin (.inr ⟨_,hyp,by simp [rle,hlt]⟩)
    exact ih (i+1) _ (by omega) (by and_intros<;>first|omega|rfl|(simp only[↓xP,xT,rL,rB,rA,rS,hs0,ho,hs1,hs2,hs3,hs8,hw,hfin2]<;>first|done|rfl|omega))
 ·have e1:l.take i=l:=List.take_of_length_le (by omega)
  have e2:l.drop i=[]:=List.drop_of_length_le (by omega)
  rw [e1,e2,List.append_nil] at ho
  simp only[↓xP,xT,rL,rB,rA,rS,hs0,ho,hs1,hs2,hs3,hs8,hi]
def Z5:List Shard→Nat→List Route
 | [],_=>[]
 | s::l,i=>if s.live=true then ⟨(i:Int),s.group.base.span⟩::Z5 l (i+1) else Z5 l (i+1)
theorem ZKD:∀ (a b:List Shard) (i:Nat),Z5 (a++b) i=Z5 a i++Z5 b (i+a.length)
 | [],b,i=>by simp [Z5]
 | s::a,b,i=>by
  have h:=ZKD a b (i+1)
  have e:i+1+a.length=i + (s::a).length:=by simp only[List.length_cons]; omega
  rw [e] at h
  simp only[List.cons_append,Z5,h]
  split<;>rfl
theorem ZGu:∀ (a:List Shard) (i:Nat),(Z5 a i).length≤a.length
 | [],i=>by simp [Z5]
 | s::a,i=>by
  have h:=ZGu a (i+1)
  simp only[Z5]; split<;>simp only[List.length_cons]<;>omega
theorem ZJL {l:List Shard} {i:Nat} {s:Shard} (h:l[i]?=some s):Z5 (l.take (i+1)) 0=Z5 (l.take i) 0++(if s.live=true then [⟨(i:Int),s.group.base.span⟩] else []):=by
 have hi:=(List.getElem?_eq_some_iff.1 h).1
 have hl:(l.take i).length=i:=by rw [List.length_take]; omega
 rw [List.take_add_one,h,Option.toList_some,ZKD,hl]
 simp [Z5]
def ZG (l:List Shard):List Route:=Z6 (Z5 l 0)
theorem ZM9 (l:List Route) (n:Nat) (hn:n=l.length) (h8:l.length≤8):EE F 209 [.sc (.own (.par 0) n),I n,.sc (.u (.fn 146 []))] [.row 3 (l.map Route.u)]=some ⟨[],[],[.row 3 ((Z6 l).map Route.u)]⟩:=by
 refine (EE_run (fn:=i209) (by kernel_rfl) rfl).trans ?_
 simp only[i209,b209,ZdN,ZcQ,List.length_cons,List.length_nil]
 have hs:=ZNZ l n hn h8
 have h20:((20:Int)≤(n:Int))=False:=by simp; omega
 have h20':((20:Int)<(n:Int))=False:=by simp; omega
 simp only[↓xP,xT,rL,rB,rA,rS]
 refine Zjc (fun (_:Unit) st=>st.s 0=.t (.sc (.own (.par 0) n))∧st.o (.par 0)=some (.row 3 (l.map Route.u))∧st.s 1=DI n∧st.s 2=DU (.fn 146 [])∧st.s 6=DI 20∧st.s 7=DI 0∧st.s 8=DI 20) (fun _=>0) (fun _=>some ⟨[],[],[.row 3 ((Z6 l).map Route.u)]⟩) ?_ () (by and_intros<;>first|omega|rfl|(simp only[↓xP,xT,rL,rB,rA,rS]<;>first|done|rfl|omega))
 rintro _ st ⟨h0,ho,h1,h2,h6,h7,h8'⟩ _
 simp only[↓xP,xT,rL,rB,rA,rS,h0,ho,h1,h2,h6,h7,h8',h20,hs,ZGa,Nat.le_refl,List.length_map]
 refine Zjc (fun (_:Unit) st=>st.o (.par 0)=some (.row 3 ((Z6 l).map Route.u))∧st.s 1=DI n∧st.s 6=DI 20) (fun _=>0) (fun _=>some ⟨[],[],[.row 3 ((Z6 l).map Route.u)]⟩) ?_ () (by and_intros<;>first|omega|rfl|(simp only[↓xP,xT,rL,rB,rA,rS,h1,h6]<;>first|done|rfl|omega))
 rintro _ st ⟨ho,h1,h6⟩ _
 simp only[↓xP,xT,rL,rB,rA,rS,ho,h1,h6,h20']
theorem ZKm (l:List Route) (n:Nat) (hn:n=l.length) (h8:l.length≤8):EE F 145 [.sc (.own (.par 0) n),.sc (.u (.fn 146 []))] [.row 3 (l.map Route.u)]=some ⟨[],[],[.row 3 ((Z6 l).map Route.u)]⟩:=by
 refine (EE_run (fn:=i145) (by kernel_rfl) rfl).trans ?_
 simp only[i145,b145,ZdN,ZcQ,List.length_cons,List.length_nil]
 have hs:=ZM9 l n hn h8
 simp only[↓xP,xT,rL,rB,rA,rS,hs,ZGa,Nat.le_refl,List.length_map]
def ZFq (l:List Shard):Option Ret:=some ⟨[.sc (.own (.par 0) (ZG l).length)],[.row 3 ((ZG l).map Route.u)],[]⟩
theorem ZH8 (c0:List Shard) (c1:List Caller) (c2:List Result) (c3 c4 c5:Int) (c6:Str) (c7 c8 c9 c10 c11:Int) (h8:c0.length≤8):EE F 79 [.ag [.u (.sl 14 (c0.map Shard.u)),.u (.sl 8 (c1.map Caller.u)),.u (.sl 9 (c2.map Result.u)),.u (.int .i64 c3),.u (.int .i64 c4),.u (.int .i64 c5),.u (.str c6),.u (.int .i64 c7),.u (.int .i64 c8),.u (.int .i64 c9),.u (.int .i64 c10),.u (.int .i64 c11)]] []=ZFq c0:=by
 rw [R79,b79]
 simp only[↓xP,xT,rL,rB,rA,rS]
 refine Zjc (fun (i:Nat) st=>i≤c0.length∧st.s 3=.t (.sc (.own (.loc 3 0) (Z5 (c0.take i) 0).length))∧st.o (.loc 3 0)=some (.row 3 ((Z5 (c0.take i) 0).map Route.u))∧st.s 7=DU (.sl 14 (c0.map Shard.u))∧st.s 8=DI c0.length∧st.s 9=DI i) (fun i=>c0.length - i) (fun _=>ZFq c0) ?_ 0 (by and_intros<;>first|omega|rfl|(simp only[↓xP,xT,rL,rB,rA,rS]<;>first|done|rfl|omega))
 rintro i st ⟨hle,h3,ho,h7,h8',h9⟩ ih
 by_cases hi:i<c0.length
 ·obtain ⟨⟨live,⟨⟨⟨lo,up⟩,prs,kn,sld,cut⟩,⟨ep,ms,fr⟩,nds,ups,bag,ans⟩⟩,hx⟩:∃ x,c0[i]?=some x:=⟨_,List.getElem?_eq_getElem hi⟩
  have hw:=w_succ (i:=i) (by omega)
  have hst:=ZJL hx
  have hll:=ZGu (c0.take i) 0
  have hlt:(c0.take i).length=i:=by rw [List.length_take]; omega
  obtain ⟨q1,q2⟩:=ZL (n:=(Z5 (c0.take i) 0).length+1) (k:=40) (by omega) (by omega)
  cases live
  ·simp only[Bool.false_eq_true,if_false,List.append_nil] at hst
   simp only[↓xP,xT,rL,rB,rA,rS,h3,ho,h7,h8',h9,hi,hx,hw,Shard.u]
   rw [ih (i+1) _ (by omega) (by and_intros<;>first|omega|rfl|(simp only[↓xP,xT,rL,rB,rA,rS,h3,ho,h7,h8',hst]<;>first|done|rfl|omega))]
  ·simp only[if_true] at hst
   simp only[↓xP,xT,rL,rB,rA,rS,h3,ho,h7,h8',h9,hi,hx,hw,Shard.u,List.length_map,q1,q2]
   have hm:(Z5 (c0.take i) 0).map Route.u++[[.int .i64 (i:Int),.str lo,.str up]]=(Z5 (c0.take (i+1)) 0).map Route.u:=by rw [hst]; simp [Route.u]
   have hln:(Z5 (c0.take i) 0).length+1=(Z5 (c0.take (i+1)) 0).length:=by rw [hst]; simp
   rw [ih (i+1) _ (by omega) (by and_intros<;>first|omega|rfl|(simp only[↓xP,xT,rL,rB,rA,rS,h3,ho,h7,h8',hm,hln]<;>first|done|rfl|omega))]
 ·obtain rfl:i=c0.length:=by omega
  rw [List.take_length] at h3 ho
  have hll:=ZGu c0 0
  have hs:=ZKm (Z5 c0 0) _ rfl (by omega)
  have hsl:=ZGa (Z5 c0 0)
  simp only[↓xP,xT,rL,rB,rA,rS,h3,ho,h7,h8',h9,hi,hs,List.length_map,hsl,Nat.le_refl,ZFq,ZG]
theorem ZMh (l:List Route) (x:Route):Z6 (l++[x])=insL (Z6 l) x:=by simp [Z6]
def swid:Bool→Id
 | false=>.loc 8 0
 | true=>.loc 33 0
theorem ZNL {l:List Route} {j:Nat} {x:Route} (hj:j≤l.length) (ha:∀ q,q∈l.take j→rle q x=true) (hb:∀ q,l[j]?=some q→rle q x=false):l.take j++x::l.drop j=insL l x:=by
 have:=ZME (a:=l.take j) (b:=l.drop j) (x:=x) ha (fun q hq=>hb q (by rw [List.head?_drop] at hq; exact hq))
 rw [List.take_append_drop] at this
 exact this.symm
theorem ZIB (c0:List Shard) (c1:List Caller) (c2:List Result) (c3 c4 c5:Int) (c6:Str) (c7 c8 c9 c10 c11:Int) (h8:c0.length≤8):EE F 82 [.ag [.u (.sl 14 (c0.map Shard.u)),.u (.sl 8 (c1.map Caller.u)),.u (.sl 9 (c2.map Result.u)),.u (.int .i64 c3),.u (.int .i64 c4),.u (.int .i64 c5),.u (.str c6),.u (.int .i64 c7),.u (.int .i64 c8),.u (.int .i64 c9),.u (.int .i64 c10),.u (.int .i64 c11)]] []=ZFq c0:=by
 rw [R82,b82]
 simp only[↓xP,xT,rL,rB,rA,rS]
 refine Zjc (fun (a:Nat×Bool) st=>a.1≤c0.length∧(a.2=false→Z6 (Z5 (c0.take a.1) 0)=[])∧st.s 1=.t (.sc (.ptr (.loc 1 0) 0 0))∧st.o (.loc 1 0)=some (.box [.u (.sl 14 (c0.map Shard.u)),.u (.sl 8 (c1.map Caller.u)),.u (.sl 9 (c2.map Result.u)),.u (.int .i64 c3),.u (.int .i64 c4),.u (.int .i64 c5),.u (.str c6),.u (.int .i64 c7),.u (.int .i64 c8),.u (.int .i64 c9),.u (.int .i64 c10),.u (.int .i64 c11)])∧st.s 3=.t (.sc (.own (swid a.2) (Z6 (Z5 (c0.take a.1) 0)).length))∧st.o (swid a.2)=some (.row 3 ((Z6 (Z5 (c0.take a.1) 0)).map Route.u))∧st.s 4=DI a.1) (fun a=>c0.length - a.1) (fun _=>ZFq c0) ?_ (0,false) ⟨by omega,fun _=>rfl,(by and_intros<;>first|omega|rfl|(simp only[↓xP,xT,rL,rB,rA,rS]<;>first|done|rfl|omega))⟩
 rintro ⟨i,b⟩ st ⟨hle,hb,h1,hbx,h3,ho,h4⟩ ih
 dsimp only at *
 by_cases hi:i<c0.length
 ·obtain ⟨⟨live,⟨⟨⟨lo,up⟩,prs,kn,sld,cut⟩,⟨ep,ms,fr⟩,nds,ups,bag,ans⟩⟩,hx⟩:∃ x,c0[i]?=some x:=⟨_,List.getElem?_eq_getElem hi⟩
  have hw:=w_succ (i:=i) (by omega)
  have hst:=ZJL hx
  have hll:=ZGu (c0.take i) 0
  have hlt:(c0.take i).length=i:=by rw [List.length_take]; omega
  have hsl:=ZGa (Z5 (c0.take i) 0)
  cases live
  ·simp only[Bool.false_eq_true,if_false,List.append_nil] at hst
   rw [←hst] at hb h3 ho
   cases b<;>simp only[swid] at h3 ho<;>simp only[↓xP,xT,rL,rB,rA,rS,h1,hbx,h3,ho,h4,hi,hx,hw,Shard.u]
   ·exact ih (i+1,false) _ (by dsimp only; omega) ⟨by dsimp only; omega,hb,(by and_intros<;>first|omega|rfl|(simp only[↓xP,xT,rL,rB,rA,rS,h1,hbx,h3,ho,swid]<;>first|done|rfl|omega))⟩
   ·exact ih (i+1,true) _ (by dsimp only; omega) ⟨by dsimp only; omega,hb,(by and_intros<;>first|omega|rfl|(simp only[↓xP,xT,rL,rB,rA,rS,h1,hbx,h3,ho,swid]<;>first|done|rfl|omega))⟩
  ·simp only[if_true] at hst
   have hso:Z6 (Z5 (c0.take (i+1)) 0)=insL (Z6 (Z5 (c0.take i) 0)) ⟨(i:Int),⟨lo,up⟩⟩:=by rw [hst,ZMh]
   obtain ⟨o,hoo⟩:∃ o,o=Z6 (Z5 (c0.take i) 0):=⟨_,rfl⟩
   rw [←hoo] at hb h3 ho hso hsl
   obtain ⟨q1,q2⟩:=ZL (n:=o.length+1) (k:=40) (by omega) (by omega)
   cases b
   ·have ho0:o=[]:=hb rfl
    subst ho0
    simp only[swid,List.length_nil,List.map_nil] at h3 ho
    simp only[↓xP,xT,rL,rB,rA,rS,h1,hbx,h3,ho,h4,hi,hx,hw,Shard.u]
    refine Zjc (fun (_:Unit) st=>st.s 1=.t (.sc (.ptr (.loc 1 0) 0 0))∧st.o (.loc 1 0)=some (.box [.u (.sl 14 (c0.map Shard.u)),.u (.sl 8 (c1.map Caller.u)),.u (.sl 9 (c2.map Result.u)),.u (.int .i64 c3),.u (.int .i64 c4),.u (.int .i64 c5),.u (.str c6),.u (.int .i64 c7),.u (.int .i64 c8),.u (.int .i64 c9),.u (.int .i64 c10),.u (.int .i64 c11)])∧st.s 4=DI i∧st.s 5=.t (.sc (.ptr (.loc 5 0) 0 0))∧st.o (.loc 5 0)=some (.box [.u (.int .i64 (i:Int)),.u (.str lo),.u (.str up)])∧st.s 6=.t (.sc (.own (.loc 33 0) 0))∧st.o (.loc 33 0)=some (.row 3 [])∧st.s 7=DI 0∧st.s 3=.t (.sc (.own (.loc 8 0) 0))∧st.o (.loc 8 0)=some (.row 3 [])) (fun _=>0) (fun _=>ZFq c0) ?_ () (by and_intros<;>first|omega|rfl|(simp only[↓xP,xT,rL,rB,rA,rS,h1,hbx,h3,ho,h4]<;>first|done|rfl|omega))
    clear h1 hbx h3 ho h4
    rintro _ st ⟨h1,hbx,h4,h5,hb5,h6,hb6,h7,h3,ho⟩ _
    have hc1:vcut 0 none (some (DI 0))=some (0,0):=by decide
    have hc2:vcut 0 (some (DI 0)) none=some (0,0):=by decide
    have z1:0≤maxLen:=Nat.zero_le _
    have z2:0*40≤140737488355328:=by omega
    have z3:1≤maxLen:=by simp [maxLen]
    have z4:1*40≤140737488355328:=by omega
    have hz:((0:Int)<((0:Nat):Int))=False:=by simp
    simp only[↓xP,xT,rL,rB,rA,rS,rdx2,h1,hbx,h4,h5,hb5,h6,hb6,h7,h3,ho,hz,hc1,hc2,z1,z2,z3,z4,List.length_nil,List.length_cons,Nat.zero_add,Nat.add_zero,List.nil_append,List.append_nil]
    have hrow : [[U.int .i64 (i:Int),.str lo,.str up]]=(Z6 (Z5 (c0.take (i+1)) 0)).map Route.u:=by rw [hso]; rfl
    have hlen2:1=(Z6 (Z5 (c0.take (i+1)) 0)).length:=by rw [hso]; rfl
    exact ih (i+1,true) _ (by dsimp only; omega) ⟨by dsimp only; omega,(fun h=>by cases h),(by and_intros<;>first|omega|rfl|(simp only[↓xP,xT,rL,rB,rA,rS,h1,hbx,hw,swid,hrow,←hlen2]<;>first|done|rfl|omega))⟩
   ·simp only[swid] at h3 ho
    simp only[↓xP,xT,rL,rB,rA,rS,h1,hbx,h3,ho,h4,hi,hx,hw,Shard.u]
    refine Zjc (fun (j:Nat) st=>j≤o.length∧(∀ q,q∈o.take j→rle q ⟨(i:Int),⟨lo,up⟩⟩=true)∧st.s 1=.t (.sc (.ptr (.loc 1 0) 0 0))∧st.o (.loc 1 0)=some (.box [.u (.sl 14 (c0.map Shard.u)),.u (.sl 8 (c1.map Caller.u)),.u (.sl 9 (c2.map Result.u)),.u (.int .i64 c3),.u (.int .i64 c4),.u (.int .i64 c5),.u (.str c6),.u (.int .i64 c7),.u (.int .i64 c8),.u (.int .i64 c9),.u (.int .i64 c10),.u (.int .i64 c11)])∧st.s 4=DI i∧st.s 5=.t (.sc (.ptr (.loc 5 0) 0 0))∧st.o (.loc 5 0)=some (.box [.u (.int .i64 (i:Int)),.u (.str lo),.u (.str up)])∧st.s 6=.t (.sc (.own (.loc 33 0) 0))∧st.o (.loc 33 0)=some (.row 3 [])∧st.s 7=DI j∧st.s 3=DU (.sl 3 (o.map Route.u))) (fun j=>o.length - j) (fun _=>ZFq c0) ?_ 0 ⟨by omega,(by intro q hq; simp at hq),(by and_intros<;>first|omega|rfl|(simp only[↓xP,xT,rL,rB,rA,rS,h1,hbx,h3,ho,h4]<;>first|done|rfl|omega))⟩
    clear h1 hbx h3 ho h4
    rintro j st ⟨hj,hta,h1,hbx,h4,h5,hb5,h6,hb6,h7,h3⟩ ih2
    have hdone:(∀ q,o[j]?=some q→rle q ⟨(i:Int),⟨lo,up⟩⟩=false)→o.take j++⟨(i:Int),⟨lo,up⟩⟩::o.drop j=insL o ⟨(i:Int),⟨lo,up⟩⟩:=fun h=>ZNL hj hta h
    have hc1:vcut o.length none (some (DI (j:Int)))=some (0,j):=ZIl (by omega)
    have hc2:vcut o.length (some (DI (j:Int))) none=some (j,o.length):=ZHC (by omega)
    obtain ⟨m1,m2⟩:=ZL (n:=j) (k:=40) (by omega) (by omega)
    obtain ⟨m3,m4⟩:=ZL (n:=j+1) (k:=40) (by omega) (by omega)
    obtain ⟨m5,m6⟩:=ZL (n:=j+1 + (o.length - j)) (k:=40) (by omega) (by omega)
    have ht1:(List.take j (o.map Route.u)).length=j:=by rw [List.length_take,List.length_map]; omega
    have ht2:(List.drop j (o.map Route.u)).length=o.length - j:=by rw [List.length_drop,List.length_map]
    by_cases hjo:j<o.length
    ·obtain ⟨⟨qn,⟨qlo,qup⟩⟩,hq⟩:∃ x,o[j]?=some x:=⟨_,List.getElem?_eq_getElem hjo⟩
     have hw2:=w_succ (i:=j) (by omega)
     cases hr:ZaZ lo qlo
     ·simp only[↓xP,xT,rL,rB,rA,rS,rdx2,h1,hbx,h4,h5,hb5,h6,hb6,h7,h3,hjo,hq,hw2,Route.u,ZIV,hr]
      have hta':∀ q,q∈o.take (j+1)→rle q ⟨(i:Int),⟨lo,up⟩⟩=true:=by
       intro q hq2
       rw [List.take_add_one,hq] at hq2
       rcases List.mem_append.1 hq2 with hq2|hq2
       ·exact hta q hq2
       ·simp at hq2; subst hq2; simp [rle,hr]
      exact ih2 (j+1) _ (by omega) ⟨by omega,hta',(by and_intros<;>first|omega|rfl|(simp only[↓xP,xT,rL,rB,rA,rS,h1,hbx,h4,h5,hb5,h6,hb6,h3,hw2]<;>first|done|rfl|omega))⟩
     ·simp only[↓xP,xT,rL,rB,rA,rS,rdx2,h1,hbx,h4,h5,hb5,h6,hb6,h7,h3,hjo,hq,hw2,Route.u,ZIV,hr,hc1,hc2,List.length_map,m1,m2,m3,m4,m5,m6,ht1,ht2,Nat.zero_add,List.nil_append,List.length_append,List.length_cons,List.length_nil,List.drop_zero]
      have hrow:List.take j (o.map Route.u)++[[U.int .i64 (i:Int),.str lo,.str up]]++List.drop j (o.map Route.u)=(Z6 (Z5 (c0.take (i+1)) 0)).map Route.u:=by
       rw [hso,←hdone (fun q hq2=>by rw [hq] at hq2; cases hq2; simp [rle,hr])]; simp [Route.u]
      have hlen2:j+1 + (o.length - j)=(Z6 (Z5 (c0.take (i+1)) 0)).length:=by rw [hso,ZJH]; omega
      exact ih (i+1,true) _ (by dsimp only; omega) ⟨by dsimp only; omega,(fun h=>by cases h),(by and_intros<;>first|omega|rfl|(simp only[↓xP,xT,rL,rB,rA,rS,h1,hbx,hw,swid,hrow,hlen2]<;>first|done|rfl|omega))⟩
    ·simp only[↓xP,xT,rL,rB,rA,rS,rdx2,h1,hbx,h4,h5,hb5,h6,hb6,h7,h3,hjo,hc1,hc2,List.length_map,m1,m2,m3,m4,m5,m6,ht1,ht2,Nat.zero_add,List.nil_append,List.length_append,List.length_cons,List.length_nil,List.drop_zero]
     have hrow:List.take j (o.map Route.u)++[[U.int .i64 (i:Int),.str lo,.str up]]++List.drop j (o.map Route.u)=(Z6 (Z5 (c0.take (i+1)) 0)).map Route.u:=by
      rw [hso,←hdone (fun q hq2=>by rw [List.getElem?_eq_none (by omega)] at hq2; cases hq2)]; simp [Route.u]
     have hlen2:j+1 + (o.length - j)=(Z6 (Z5 (c0.take (i+1)) 0)).length:=by rw [hso,ZJH]; omega
     exact ih (i+1,true) _ (by dsimp only; omega) ⟨by dsimp only; omega,(fun h=>by cases h),(by and_intros<;>first|omega|rfl|(simp only[↓xP,xT,rL,rB,rA,rS,h1,hbx,hw,swid,hrow,hlen2]<;>first|done|rfl|omega))⟩
 ·obtain rfl:i=c0.length:=by omega
  rw [List.take_length] at h3 ho
  cases b<;>simp only[swid] at h3 ho<;>simp only[↓xP,xT,rL,rB,rA,rS,h1,hbx,h3,ho,h4,hi,ZFq,ZG,List.length_map]
def ZIX (p:Plan):Bool:=decide (p.kind=0)&&decide (p.first=0)&&decide (p.second=0)&&decide (p.key=[])&&decide (p.from_=0)&&decide (p.to_=0)&&decide (p.step=0)
def ZH0 (p:Plan) (n:Nat):Bool:=ZIX p||(ZFD p&&decide (p.first<n)&&decide (p.second<n))
theorem ZMb (k f s:Int) (key:Str) (a b c:Int) (n:Nat):EE F 116 [.ag [.u (.int .i64 k),.u (.int .i64 f),.u (.int .i64 s),.u (.str key),.u (.int .i64 a),.u (.int .i64 b),.u (.int .i64 c)],I n] []=ok1 (B (ZH0 ⟨k,f,s,key,a,b,c⟩ n)):=by
 rw [R116,b116]
 simp only[↓xP,xT,rL,rB,rA,rS,ZJX]
 repeat' (refine ZiE (fun h=>?_) (fun h=>?_))
 all_goals first|(simp_all [ZH0,ZIX]; done)|(simp_all [ZH0,ZIX]; grind)|skip
theorem ZM1 (l m:List Bool) (hn:l.length≤1048576):EE F 125 [L 1 (l.map bU),L 1 (m.map bU)] []=ok1 (B (decide (l=m))):=by
 rw [R125,b125]
 by_cases hl:l.length=m.length
 ·have hl':((l.length:Int)=(m.length:Int))=True:=by simp; omega
  simp only[↓xP,xT,rL,rB,rA,rS,List.length_map,ne_eq,hl',not_true_eq_false]
  refine (Zjc (fun (i:Nat) st=>st.s 0=DU (.sl 1 (l.map bU))∧st.s 1=DU (.sl 1 (m.map bU))∧st.s 11=DU (.sl 1 (l.map bU))∧st.s 12=DI l.length∧st.s 13=DI i) (fun i=>l.length - i) (fun i=>ok1 (B (decide (l.drop i=m.drop i)))) ?_ 0 (by and_intros<;>first|omega|rfl|(simp only[↓xP,xT,rL,rB,rA,rS]<;>first|done|rfl|omega))).trans (by simp)
  rintro i st ⟨h0,h1,h11,h12,h13⟩ ih
  by_cases hi:i<l.length
  ·obtain ⟨x,hx⟩:∃ x,l[i]?=some x:=⟨_,List.getElem?_eq_getElem hi⟩
   obtain ⟨y,hy⟩:∃ x,m[i]?=some x:=⟨_,List.getElem?_eq_getElem (by omega)⟩
   have hi2:i<m.length:=by omega
   have hw:=w_succ (i:=i) (by omega)
   rw [ZV hx,ZV hy]
   by_cases e:x=y
   ·subst e
    simp only[↓xP,xT,rL,rB,rA,rS,rdx2,h0,h1,h11,h12,h13,hi,hi2,hx,hy,hw,bU]
    rw [ih (i+1) _ (by omega) (by and_intros<;>first|omega|rfl|(simp only[↓xP,xT,rL,rB,rA,rS,h0,h1,h11,h12]<;>first|done|rfl|omega))]
    simp
   ·have hb:(x==y)=false:=by simpa using e
    simp only[↓xP,xT,rL,rB,rA,rS,rdx2,h0,h1,h11,h12,h13,hi,hi2,hx,hy,hw,bU,hb]
    simp [e]
  ·simp only[↓xP,xT,rL,rB,rA,rS,h0,h1,h11,h12,h13,hi]
   rw [List.drop_of_length_le (by omega),List.drop_of_length_le (by omega)]; rfl
 ·have hl':((l.length:Int)=(m.length:Int))=False:=by simp; omega
  have:¬l=m:=fun e=>hl (by rw [e])
  simp only[↓xP,xT,rL,rB,rA,rS,List.length_map,ne_eq,hl',not_false_eq_true]
  simp [this]
def ZFF (c:Caller):Bool:=decide (c.cache.length=0)&&decide (c.seq=0)
def upOf (l:List Shard):List Bool:=match l with
 | []=>[]
 | s::_=>s.group.up
def ZFV (l:List Caller):Bool:=match l with
 | []=>false
 | c::_=>ZFF c
def ZGE (u:List Bool) (s:Shard):Bool:=ZD s.group&&decide (s.group.up=u)
def ZFH (x:Cluster):Bool:=decide (1≤x.shards.length)&&decide (x.shards.length≤8)&&decide (x.clients.length=4)&&decide (x.results.length≤40)
def ZG9 (x:Cluster):Bool:=Z1 (ZG x.shards)&&ZFV x.clients&&inR x.turn 0 999&&inR x.clock 0 200
def ZB (x:Cluster):Bool:=ZFH x&&x.shards.all (ZGE (upOf x.shards))&&x.clients.all ZH&&x.results.all ZK&&ZH0 x.work x.shards.length&&ZG9 x
theorem ZKg {c:Caller} (h:ZH c=true):(decide (c.cache.length=0)&&decide (c.seq=0)&&!c.busy&&ZF8 c.wish&&decide (c.called=0))=ZFF c:=by
 obtain ⟨l,s,bz,w,cd⟩:=c
 simp only[ZH,Bool.and_eq_true] at h
 obtain ⟨_,h⟩:=h
 cases bz
 ·simp only[Bool.false_eq_true,if_false,Bool.and_eq_true] at h
  simp [ZFF,h.1,h.2]
 ·simp only[if_true,Bool.and_eq_true,decide_eq_true_eq] at h
  have:¬s=0:=by have:=h.1.1; omega
  simp [ZFF,this]
theorem ZMX (np pv a b rv ff t0 t9 ck:Bool):sel (!np) (sel pv (sel a (sel (!b) (ok1 (B false)) (sel rv (sel ff (sel t0 (sel t9 (ok1 (B ck)) (ok1 (B false))) (ok1 (B false))) (ok1 (B false))) (ok1 (B false)))) (ok1 (B false))) (ok1 (B false))) (sel rv (sel ff (sel t0 (sel t9 (ok1 (B ck)) (ok1 (B false))) (ok1 (B false))) (ok1 (B false))) (ok1 (B false)))=ok1 (B ((np||(pv&&a&&b))&&(rv&&ff&&(t0&&t9)&&ck))):=by
 cases np<;>cases pv<;>cases a<;>cases b<;>cases rv<;>cases ff<;>cases t0<;>cases t9<;>cases ck<;>rfl
theorem ZIt (c0:List Shard) (c1:List Caller) (c2:List Result) (c3 c4 c5:Int) (c6:Str) (c7 c8 c9 c10 c11:Int) (hs:Cluster.Small ⟨c0,c1,c2,⟨c3,c4,c5,c6,c7,c8,c9⟩,c10,c11⟩):EE F 71 [.ag [.u (.sl 14 (c0.map Shard.u)),.u (.sl 8 (c1.map Caller.u)),.u (.sl 9 (c2.map Result.u)),.u (.int .i64 c3),.u (.int .i64 c4),.u (.int .i64 c5),.u (.str c6),.u (.int .i64 c7),.u (.int .i64 c8),.u (.int .i64 c9),.u (.int .i64 c10),.u (.int .i64 c11)]] []=ok1 (B (ZB ⟨c0,c1,c2,⟨c3,c4,c5,c6,c7,c8,c9⟩,c10,c11⟩)):=by
 obtain ⟨hsh,hcl,hrs,hwk,_⟩:=hs
 have hn0:c0.length≤1048576:=hsh.1
 have hn1:c1.length≤1048576:=hcl.1
 have hn2:c2.length≤1048576:=hrs.1
 rw [R71,b71]
 simp only[↓xP,xT,rL,rB,rA,rS,List.length_map,ne_eq]
 refine ZiE (fun h=>?_) (fun g1=>?_)
 ·have:¬1≤c0.length:=by simp at h; omega
  simp [ZB,ZFH,this]
 refine ZiE (fun h=>?_) (fun g2=>?_)
 ·have:¬c0.length≤8:=by simp at h; omega
  simp [ZB,ZFH,this]
 refine ZiE (fun h=>?_) (fun g3=>?_)
 ·have:¬c1.length=4:=by simp at h; omega
  simp [ZB,ZFH,this]
 refine ZiE (fun h=>?_) (fun g4=>?_)
 ·have:¬c2.length≤40:=by simp at h; omega
  simp [ZB,ZFH,this]
 have g1':1≤c0.length:=by simp at g1; omega
 have g2':c0.length≤8:=by simp at g2; omega
 have g3':c1.length=4:=by simp at g3; omega
 have g4':c2.length≤40:=by simp at g4; omega
 have hsz:ZFH ⟨c0,c1,c2,⟨c3,c4,c5,c6,c7,c8,c9⟩,c10,c11⟩=true:=by simp [ZFH,g1',g2',g3',g4']
 obtain ⟨fs,hf0⟩:∃ x,c0[0]?=some x:=⟨_,List.getElem?_eq_getElem (by omega)⟩
 have hup:upOf c0=fs.group.up:=by
  cases c0 with
  | nil=>simp at hf0
  | cons a l=>simp at hf0; subst hf0; rfl
 obtain ⟨flive,⟨⟨⟨flo,fup⟩,fprs,fkn,fsld,fcut⟩,⟨fep,fms,ffr⟩,fnds,fups,fbag,fans⟩⟩:=fs
 simp only at hup
 have hcv:ZB ⟨c0,c1,c2,⟨c3,c4,c5,c6,c7,c8,c9⟩,c10,c11⟩=((c0.drop 0).all (ZGE fups)&&(c1.all ZH&&(c2.all ZK&&(ZH0 ⟨c3,c4,c5,c6,c7,c8,c9⟩ c0.length&&ZG9 ⟨c0,c1,c2,⟨c3,c4,c5,c6,c7,c8,c9⟩,c10,c11⟩)))):=by
  simp only[ZB,hsz,hup,Bool.true_and,Bool.and_assoc,List.drop_zero]
 rw [hcv]
 refine Zjc (fun (i:Nat) st=>st.s 1=.t (.sc (.ptr (.loc 1 0) 0 0))∧st.o (.loc 1 0)=some (.box [.u (.sl 14 (c0.map Shard.u)),.u (.sl 8 (c1.map Caller.u)),.u (.sl 9 (c2.map Result.u)),.u (.int .i64 c3),.u (.int .i64 c4),.u (.int .i64 c5),.u (.str c6),.u (.int .i64 c7),.u (.int .i64 c8),.u (.int .i64 c9),.u (.int .i64 c10),.u (.int .i64 c11)])∧st.s 32=DU (.sl 14 (c0.map Shard.u))∧st.s 33=DI c0.length∧st.s 34=DI i) (fun i=>c0.length - i) (fun i=>ok1 (B ((c0.drop i).all (ZGE fups)&&(c1.all ZH&&(c2.all ZK&&(ZH0 ⟨c3,c4,c5,c6,c7,c8,c9⟩ c0.length&&ZG9 ⟨c0,c1,c2,⟨c3,c4,c5,c6,c7,c8,c9⟩,c10,c11⟩)))))) ?_ 0 (by and_intros<;>first|omega|rfl|(simp only[↓xP,xT,rL,rB,rA,rS]<;>first|done|rfl|omega))
 rintro i st ⟨h1,hb,h32,h33,h34⟩ ih
 by_cases hi:i<c0.length
 ·obtain ⟨⟨live,⟨⟨⟨lo,up⟩,prs,kn,sld,cut⟩,⟨ep,ms,fr⟩,nds,ups,bag,ans⟩⟩,hx⟩:∃ x,c0[i]?=some x:=⟨_,List.getElem?_eq_getElem hi⟩
  have hw:=w_succ (i:=i) (by omega)
  have hsx:=hsh.2 _ (List.mem_of_getElem? hx)
  have hch:=ZHw lo up prs kn sld cut ep ms fr nds ups bag ans hsx.1
  have heq:=ZM1 ups fups hsx.1.2.2.2.1.1
  rw [ZV hx,List.all_cons,ZGE]
  cases q1:ZD ⟨⟨⟨lo,up⟩,prs,kn,sld,cut⟩,⟨ep,ms,fr⟩,nds,ups,bag,ans⟩
  ·simp only[↓xP,xT,rL,rB,rA,rS,rdx2,h1,hb,h32,h33,h34,hi,hx,hw,Shard.u,hch,q1]
   try simp
  ·cases q2:decide (ups=fups)
   ·simp only[↓xP,xT,rL,rB,rA,rS,rdx2,h1,hb,h32,h33,h34,hi,hx,hf0,hw,Shard.u,hch,q1,heq,q2]
    try simp
   ·simp only[↓xP,xT,rL,rB,rA,rS,rdx2,h1,hb,h32,h33,h34,hi,hx,hf0,hw,Shard.u,hch,q1,heq,q2]
    rw [ih (i+1) _ (by omega) (by and_intros<;>first|omega|rfl|(simp only[↓xP,xT,rL,rB,rA,rS,h1,hb,h32,h33,hw]<;>first|done|rfl|omega))]
    try simp
 simp only[↓xP,xT,rL,rB,rA,rS,h1,hb,h32,h33,h34,hi]
 rw [List.drop_of_length_le (by omega),List.all_nil,Bool.true_and]
 refine Zjc (fun (i:Nat) st=>st.s 1=.t (.sc (.ptr (.loc 1 0) 0 0))∧st.o (.loc 1 0)=some (.box [.u (.sl 14 (c0.map Shard.u)),.u (.sl 8 (c1.map Caller.u)),.u (.sl 9 (c2.map Result.u)),.u (.int .i64 c3),.u (.int .i64 c4),.u (.int .i64 c5),.u (.str c6),.u (.int .i64 c7),.u (.int .i64 c8),.u (.int .i64 c9),.u (.int .i64 c10),.u (.int .i64 c11)])∧st.s 57=DU (.sl 8 (c1.map Caller.u))∧st.s 58=DI c1.length∧st.s 59=DI i∧(∀ c,c∈c1.take i→ZH c=true)) (fun i=>c1.length - i) (fun i=>ok1 (B ((c1.drop i).all ZH&&(c2.all ZK&&(ZH0 ⟨c3,c4,c5,c6,c7,c8,c9⟩ c0.length&&ZG9 ⟨c0,c1,c2,⟨c3,c4,c5,c6,c7,c8,c9⟩,c10,c11⟩))))) ?_ 0 ⟨(by and_intros<;>first|omega|rfl|(simp only[↓xP,xT,rL,rB,rA,rS,h1]<;>first|done|rfl|omega)),(by and_intros<;>first|omega|rfl|(simp only[↓xP,xT,rL,rB,rA,rS,hb]<;>first|done|rfl|omega)),(by and_intros<;>first|omega|rfl|(simp only[↓xP,xT,rL,rB,rA,rS,h1,hb]<;>first|done|rfl|omega)),(by and_intros<;>first|omega|rfl|(simp only[↓xP,xT,rL,rB,rA,rS,h1,hb]<;>first|done|rfl|omega)),(by and_intros<;>first|omega|rfl|(simp only[↓xP,xT,rL,rB,rA,rS,h1,hb]<;>first|done|rfl|omega)),by simp⟩
 clear h1 hb h32 h33 h34 hi ih
 rintro i st ⟨h1,hb,h32,h33,h34,hall⟩ ih
 by_cases hi:i<c1.length
 ·obtain ⟨⟨cch,csq,cbz,⟨ck,ckey,cv,co⟩,ccd⟩,hx⟩:∃ x,c1[i]?=some x:=⟨_,List.getElem?_eq_getElem hi⟩
  have hw:=w_succ (i:=i) (by omega)
  have hsx:=hcl.2 _ (List.mem_of_getElem? hx)
  have hch:=ZIR cch csq cbz ck ckey cv co ccd hsx.1.1
  simp only[↓xP,xT,rL,rB,rA,rS,h1,hb,h32,h33,h34,hi,hx,hw,Caller.u,hch]
  rw [ZV hx,List.all_cons]
  refine ZiE (fun h=>?_) (fun q1=>?_)
  ·rw [Bool.not_eq_true'] at h; simp [h]
  rw [Bool.not_eq_false'] at q1
  have hall2:∀ c,c∈c1.take (i+1)→ZH c=true:=by
   intro c hc
   rw [List.take_add_one,hx] at hc
   rcases List.mem_append.1 hc with hc|hc
   ·exact hall c hc
   ·simp at hc; subst hc; exact q1
  rw [ih (i+1) _ (by omega) ⟨(by and_intros<;>first|omega|rfl|(simp only[↓xP,xT,rL,rB,rA,rS,h1]<;>first|done|rfl|omega)),(by and_intros<;>first|omega|rfl|(simp only[↓xP,xT,rL,rB,rA,rS,hb]<;>first|done|rfl|omega)),(by and_intros<;>first|omega|rfl|(simp only[↓xP,xT,rL,rB,rA,rS,h32]<;>first|done|rfl|omega)),(by and_intros<;>first|omega|rfl|(simp only[↓xP,xT,rL,rB,rA,rS,h33]<;>first|done|rfl|omega)),(by and_intros<;>first|omega|rfl|(simp only[↓xP,xT,rL,rB,rA,rS,hw]<;>first|done|rfl|omega)),hall2⟩]
  simp [q1]
 simp only[↓xP,xT,rL,rB,rA,rS,h1,hb,h32,h33,h34,hi]
 rw [List.drop_of_length_le (by omega),List.all_nil,Bool.true_and]
 have hall4:∀ c,c∈c1→ZH c=true:=by rw [List.take_of_length_le (by omega)] at hall; exact hall
 refine Zjc (fun (i:Nat) st=>st.s 1=.t (.sc (.ptr (.loc 1 0) 0 0))∧st.o (.loc 1 0)=some (.box [.u (.sl 14 (c0.map Shard.u)),.u (.sl 8 (c1.map Caller.u)),.u (.sl 9 (c2.map Result.u)),.u (.int .i64 c3),.u (.int .i64 c4),.u (.int .i64 c5),.u (.str c6),.u (.int .i64 c7),.u (.int .i64 c8),.u (.int .i64 c9),.u (.int .i64 c10),.u (.int .i64 c11)])∧st.s 68=DU (.sl 9 (c2.map Result.u))∧st.s 69=DI c2.length∧st.s 70=DI i) (fun i=>c2.length - i) (fun i=>ok1 (B ((c2.drop i).all ZK&&(ZH0 ⟨c3,c4,c5,c6,c7,c8,c9⟩ c0.length&&ZG9 ⟨c0,c1,c2,⟨c3,c4,c5,c6,c7,c8,c9⟩,c10,c11⟩)))) ?_ 0 (by and_intros<;>first|omega|rfl|(simp only[↓xP,xT,rL,rB,rA,rS,h1,hb]<;>first|done|rfl|omega))
 clear h1 hb h32 h33 h34 hi ih hall
 rintro i st ⟨h1,hb,h32,h33,h34⟩ ih
 by_cases hi:i<c2.length
 ·obtain ⟨⟨rc,rs,⟨rk,rkey,rv,ro⟩,rr,rcd,rrt⟩,hx⟩:∃ x,c2[i]?=some x:=⟨_,List.getElem?_eq_getElem hi⟩
  have hw:=w_succ (i:=i) (by omega)
  simp only[↓xP,xT,rL,rB,rA,rS,h1,hb,h32,h33,h34,hi,hx,hw,Result.u,ZIY]
  rw [ZV hx,List.all_cons]
  refine ZiE (fun h=>?_) (fun q1=>?_)
  ·rw [Bool.not_eq_true'] at h; simp [h]
  rw [Bool.not_eq_false'] at q1
  rw [ih (i+1) _ (by omega) (by and_intros<;>first|omega|rfl|(simp only[↓xP,xT,rL,rB,rA,rS,h1,hb,h32,h33]<;>first|done|rfl|omega))]
  simp [q1]
 simp only[↓xP,xT,rL,rB,rA,rS,h1,hb,h32,h33,h34,hi]
 rw [List.drop_of_length_le (by omega),List.all_nil,Bool.true_and]
 obtain ⟨⟨cch,csq,cbz,⟨ck,ckey,cv,co⟩,ccd⟩,hc0⟩:∃ x,c1[0]?=some x:=⟨_,List.getElem?_eq_getElem (by omega)⟩
 have hq:=hall4 _ (List.mem_of_getElem? hc0)
 have hnc:=ZLI cch csq cbz ck ckey cv co ccd
 have hfree:=ZKg hq
 have hff:ZFV c1=ZFF ⟨cch,csq,cbz,⟨ck,ckey,cv,co⟩,ccd⟩:=by
  cases c1 with
  | nil=>simp at hc0
  | cons a l=>simp at hc0; subst hc0; rfl
 simp only at hfree
 rw [hfree,←hff] at hnc
 have hlr:=ZH8 c0 c1 c2 c3 c4 c5 c6 c7 c8 c9 c10 c11 g2'
 simp only[ZFq] at hlr
 have hrl:(ZG c0).length≤1048576:=by
  have:=ZGa (Z5 c0 0)
  have:=ZGu c0 0
  simp only[ZG]; omega
 have hrv:=ZI0 (ZG c0) hrl
 have htk:List.take (ZG c0).length (List.map Route.u (ZG c0))=List.map Route.u (ZG c0):=List.take_of_length_le (by simp)
 simp only[↓xP,xT,rL,rB,rA,rS,h1,hb,hc0,Caller.u,ZJW,hlr,hrv,htk,Nat.le_refl,List.length_map,hnc,ZHu]
 have hnp:(decide (c3=0)&&(decide (c4=0)&&(decide (c5=0)&&(decide (c6=[])&&(decide (c7=0)&&(decide (c8=0)&&decide (c9=0)))))))=ZIX ⟨c3,c4,c5,c6,c7,c8,c9⟩:=by simp only[ZIX,Bool.and_assoc]
 rw [hnp]
 refine (ZMX (ZIX ⟨c3,c4,c5,c6,c7,c8,c9⟩) (ZFD ⟨c3,c4,c5,c6,c7,c8,c9⟩) (decide (c4<(c0.length:Int))) (decide (c5<(c0.length:Int))) (Z1 (ZG c0)) (ZFV c1) (decide (0≤c10)) (decide (c10≤999)) (inR c11 0 200)).trans ?_
 rfl
theorem ZJ8 {c:Chain} (h:ZD c=true):c.up.length=5:=by
 simp only[ZD,Bool.and_eq_true,decide_eq_true_eq] at h
 exact h.1.1.1.1.2
def ZHE (l:List Caller) (i:Nat):Bool:=if i=0 then ZFV l else true
theorem ZIu (c0:List Shard) (c1:List Caller) (c2:List Result) (c3 c4 c5:Int) (c6:Str) (c7 c8 c9 c10 c11:Int) (hs:Cluster.Small ⟨c0,c1,c2,⟨c3,c4,c5,c6,c7,c8,c9⟩,c10,c11⟩):EE F 65 [.ag [.u (.sl 14 (c0.map Shard.u)),.u (.sl 8 (c1.map Caller.u)),.u (.sl 9 (c2.map Result.u)),.u (.int .i64 c3),.u (.int .i64 c4),.u (.int .i64 c5),.u (.str c6),.u (.int .i64 c7),.u (.int .i64 c8),.u (.int .i64 c9),.u (.int .i64 c10),.u (.int .i64 c11)]] []=ok1 (B (ZB ⟨c0,c1,c2,⟨c3,c4,c5,c6,c7,c8,c9⟩,c10,c11⟩)):=by
 obtain ⟨hsh,hcl,hrs,hwk,_⟩:=hs
 have hn0:c0.length≤1048576:=hsh.1
 have hn1:c1.length≤1048576:=hcl.1
 have hn2:c2.length≤1048576:=hrs.1
 rw [R65,b65]
 simp only[↓xP,xT,rL,rB,rA,rS,List.length_map,ne_eq,ZW,ZMb]
 refine ZiE (fun h=>?_) (fun g1=>?_)
 ·have:¬(1≤c0.length∧c0.length≤8):=by simp [inR] at h; omega
  have:ZFH ⟨c0,c1,c2,⟨c3,c4,c5,c6,c7,c8,c9⟩,c10,c11⟩=false:=by
   by_cases e1:1≤c0.length
   ·have e2:¬c0.length≤8:=fun e2=>this ⟨e1,e2⟩
    simp [ZFH,e2]
   ·simp [ZFH,e1]
  simp [ZB,this]
 refine ZiE (fun h=>?_) (fun g3=>?_)
 ·have:¬c1.length=4:=by simp at h; omega
  simp [ZB,ZFH,this]
 refine ZiE (fun h=>?_) (fun g4=>?_)
 ·have:¬c2.length≤40:=by simp at h; omega
  simp [ZB,ZFH,this]
 refine ZiE (fun h=>?_) (fun g5=>?_)
 ·rw [Bool.not_eq_true'] at h; simp [ZB,h]
 refine ZiE (fun h=>?_) (fun g6=>?_)
 ·rw [Bool.not_eq_true'] at h; simp [ZB,ZG9,h]
 refine ZiE (fun h=>?_) (fun g7=>?_)
 ·rw [Bool.not_eq_true'] at h; simp [ZB,ZG9,h]
 rw [Bool.not_eq_false'] at g1 g5 g6 g7
 have g12:1≤c0.length∧c0.length≤8:=by simp [inR] at g1; omega
 have g3':c1.length=4:=by simp at g3; omega
 have g4':c2.length≤40:=by simp at g4; omega
 have hsz:ZFH ⟨c0,c1,c2,⟨c3,c4,c5,c6,c7,c8,c9⟩,c10,c11⟩=true:=by simp [ZFH,g12.1,g12.2,g3',g4']
 obtain ⟨fs,hf0⟩:∃ x,c0[0]?=some x:=⟨_,List.getElem?_eq_getElem (by omega)⟩
 have hup:upOf c0=fs.group.up:=by
  cases c0 with
  | nil=>simp at hf0
  | cons a l=>simp at hf0; subst hf0; rfl
 obtain ⟨flive,⟨⟨⟨flo,fup⟩,fprs,fkn,fsld,fcut⟩,⟨fep,fms,ffr⟩,fnds,fups,fbag,fans⟩⟩:=fs
 simp only at hup
 have hcv:ZB ⟨c0,c1,c2,⟨c3,c4,c5,c6,c7,c8,c9⟩,c10,c11⟩=((c0.drop 0).all (ZGE fups)&&(c1.all ZH&&ZFV c1&&(c2.all ZK&&Z1 (ZG c0)))):=by
  simp only[ZB,hsz,hup,ZG9,g5,g6,g7,Bool.true_and,Bool.and_true,List.drop_zero]
  cases c0.all (ZGE fups)<;>cases c1.all ZH<;>cases c2.all ZK<;>cases ZFV c1<;>cases Z1 (ZG c0)<;>rfl
 rw [hcv]
 refine Zjc (fun (i:Nat) st=>st.s 1=.t (.sc (.ptr (.loc 1 0) 0 0))∧st.o (.loc 1 0)=some (.box [.u (.sl 14 (c0.map Shard.u)),.u (.sl 8 (c1.map Caller.u)),.u (.sl 9 (c2.map Result.u)),.u (.int .i64 c3),.u (.int .i64 c4),.u (.int .i64 c5),.u (.str c6),.u (.int .i64 c7),.u (.int .i64 c8),.u (.int .i64 c9),.u (.int .i64 c10),.u (.int .i64 c11)])∧st.s 3=DI i∧(i=0∨fups.length=5)) (fun i=>c0.length - i) (fun i=>ok1 (B ((c0.drop i).all (ZGE fups)&&(c1.all ZH&&ZFV c1&&(c2.all ZK&&Z1 (ZG c0)))))) ?_ 0 (by and_intros<;>first|omega|rfl|(simp only[↓xP,xT,rL,rB,rA,rS]<;>first|done|rfl|omega))
 rintro i st ⟨h1,hb,h3,hf5⟩ ih
 by_cases hi:i<c0.length
 ·obtain ⟨⟨live,⟨⟨⟨lo,up⟩,prs,kn,sld,cut⟩,⟨ep,ms,fr⟩,nds,ups,bag,ans⟩⟩,hx⟩:∃ x,c0[i]?=some x:=⟨_,List.getElem?_eq_getElem hi⟩
  have hw:=w_succ (i:=i) (by omega)
  have hsx:=hsh.2 _ (List.mem_of_getElem? hx)
  have hch:=ZGJ lo up prs kn sld cut ep ms fr nds ups bag ans hsx.1
  rw [ZV hx,List.all_cons,ZGE]
  cases q1:ZD ⟨⟨⟨lo,up⟩,prs,kn,sld,cut⟩,⟨ep,ms,fr⟩,nds,ups,bag,ans⟩
  ·simp only[↓xP,xT,rL,rB,rA,rS,rdx2,h1,hb,h3,hi,hx,hw,Shard.u,hch,q1]
   try simp
  have hu5:ups.length=5:=ZJ8 q1
  have hfu5:fups.length=5:=by
   rcases hf5 with rfl|e
   ·rw [hf0] at hx; cases hx; exact hu5
   ·exact e
  have hd0:decide (ups=fups)=decide (ups.drop 0=fups.drop 0):=by simp
  simp only[↓xP,xT,rL,rB,rA,rS,rdx2,h1,hb,h3,hi,hx,hw,Shard.u,hch,q1]
  try rw [Bool.true_and]
  rw [hd0]
  refine Zjc (fun (j:Nat) st=>j≤5∧st.s 1=.t (.sc (.ptr (.loc 1 0) 0 0))∧st.o (.loc 1 0)=some (.box [.u (.sl 14 (c0.map Shard.u)),.u (.sl 8 (c1.map Caller.u)),.u (.sl 9 (c2.map Result.u)),.u (.int .i64 c3),.u (.int .i64 c4),.u (.int .i64 c5),.u (.str c6),.u (.int .i64 c7),.u (.int .i64 c8),.u (.int .i64 c9),.u (.int .i64 c10),.u (.int .i64 c11)])∧st.s 3=DI i∧st.s 4=DI j) (fun j=>5 - j) (fun j=>ok1 (B (decide (ups.drop j=fups.drop j)&&(c0.drop (i+1)).all (ZGE fups)&&(c1.all ZH&&ZFV c1&&(c2.all ZK&&Z1 (ZG c0)))))) ?_ 0 (by and_intros<;>first|omega|rfl|(simp only[↓xP,xT,rL,rB,rA,rS,h1,hb,h3]<;>first|done|rfl|omega))
  clear h1 hb h3
  rintro j st ⟨hj5,h1,hb,h3,h4⟩ ih2
  by_cases hj:j<5
  ·obtain ⟨x,hxx⟩:∃ x,ups[j]?=some x:=⟨_,List.getElem?_eq_getElem (by omega)⟩
   obtain ⟨y,hyy⟩:∃ x,fups[j]?=some x:=⟨_,List.getElem?_eq_getElem (by omega)⟩
   have hw2:=w_succ (i:=j) (by omega)
   have hlt:((j:Int)<5)=True:=by simp; omega
   rw [ZV hxx,ZV hyy]
   by_cases e:x=y
   ·subst e
    simp only[↓xP,xT,rL,rB,rA,rS,rdx2,h1,hb,h3,h4,hi,hx,hf0,hxx,hyy,hw2,hlt,Shard.u,bU]
    rw [ih2 (j+1) _ (by omega) (by and_intros<;>first|omega|rfl|(simp only[↓xP,xT,rL,rB,rA,rS,h1,hb,h3,hw2]<;>first|done|rfl|omega))]
    simp
   ·have hbe:(x==y)=false:=by simpa using e
    simp only[↓xP,xT,rL,rB,rA,rS,rdx2,h1,hb,h3,h4,hi,hx,hf0,hxx,hyy,hw2,hlt,Shard.u,bU,hbe]
    simp [e]
  have hlt:((j:Int)<5)=False:=by simp; omega
  simp only[↓xP,xT,rL,rB,rA,rS,h1,hb,h3,h4,hlt]
  rw [List.drop_of_length_le (by omega),List.drop_of_length_le (by omega)]
  rw [ih (i+1) _ (by omega) ⟨(by and_intros<;>first|omega|rfl|(simp only[↓xP,xT,rL,rB,rA,rS,h1]<;>first|done|rfl|omega)),(by and_intros<;>first|omega|rfl|(simp only[↓xP,xT,rL,rB,rA,rS,hb]<;>first|done|rfl|omega)),(by and_intros<;>first|omega|rfl|(simp only[↓xP,xT,rL,rB,rA,rS,hw]<;>first|done|rfl|omega)),.inr hfu5⟩]
  simp
 simp only[↓xP,xT,rL,rB,rA,rS,h1,hb,h3,hi]
 rw [List.drop_of_length_le (by omega),List.all_nil,Bool.true_and]
 have hc10:(c1.all ZH&&ZFV c1&&(c2.all ZK&&Z1 (ZG c0)))=((c1.drop 0).all ZH&&ZHE c1 0&&(c2.all ZK&&Z1 (ZG c0))):=rfl
 rw [hc10]
 refine Zjc (fun (i:Nat) st=>i≤4∧st.s 1=.t (.sc (.ptr (.loc 1 0) 0 0))∧st.o (.loc 1 0)=some (.box [.u (.sl 14 (c0.map Shard.u)),.u (.sl 8 (c1.map Caller.u)),.u (.sl 9 (c2.map Result.u)),.u (.int .i64 c3),.u (.int .i64 c4),.u (.int .i64 c5),.u (.str c6),.u (.int .i64 c7),.u (.int .i64 c8),.u (.int .i64 c9),.u (.int .i64 c10),.u (.int .i64 c11)])∧st.s 5=DI i) (fun i=>4 - i) (fun i=>ok1 (B ((c1.drop i).all ZH&&ZHE c1 i&&(c2.all ZK&&Z1 (ZG c0))))) ?_ 0 (by and_intros<;>first|omega|rfl|(simp only[↓xP,xT,rL,rB,rA,rS,h1,hb]<;>first|done|rfl|omega))
 clear h1 hb h3 hi ih
 rintro i st ⟨hi4,h1,hb,h3⟩ ih
 by_cases hi:i<4
 ·obtain ⟨⟨cch,csq,cbz,⟨ck,ckey,cv,co⟩,ccd⟩,hx⟩:∃ x,c1[i]?=some x:=⟨_,List.getElem?_eq_getElem (by omega)⟩
  have hw:=w_succ (i:=i) (by omega)
  have hlt:((i:Int)<4)=True:=by simp; omega
  have hsx:=hcl.2 _ (List.mem_of_getElem? hx)
  have hch:=ZIS cch csq cbz ck ckey cv co ccd hsx.1.1
  rw [ZV hx,List.all_cons]
  have hnext:ZHE c1 (i+1)=true:=rfl
  by_cases e0:i=0
  ·subst e0
   have hff:ZHE c1 0=ZFF ⟨cch,csq,cbz,⟨ck,ckey,cv,co⟩,ccd⟩:=by
    cases c1 with
    | nil=>simp at hx
    | cons a l=>simp at hx; subst hx; rfl
   have hz:(((0:Nat):Int)=0)=True:=by simp
   rw [hff]
   simp only[↓xP,xT,rL,rB,rA,rS,h1,hb,h3,hlt,hx,hw,hz,Caller.u,hch,ne_eq,List.length_map]
   refine ZiE (fun h=>?_) (fun q1=>?_)
   ·rw [Bool.not_eq_true'] at h; simp [h]
   rw [Bool.not_eq_false'] at q1
   refine ZiE (fun h=>?_) (fun q2=>?_)
   ·have:¬csq=0:=by simpa using h
    simp [ZFF,this]
   refine ZiE (fun h=>?_) (fun q3=>?_)
   ·have:¬cch=[]:=by intro e; subst e; simp at h
    simp [ZFF,this]
   have q2':csq=0:=by simpa using q2
   have q3':cch.length=0:=by simp at q3; simpa using q3
   rw [ih 1 _ (by omega) (by and_intros<;>first|omega|rfl|(simp only[↓xP,xT,rL,rB,rA,rS,h1,hb]<;>first|done|rfl|omega))]
   rw [q1]; simp [ZFF,q2',q3',ZHE]
  ·have hz:((i:Int)=0)=False:=by simp; omega
   simp only[↓xP,xT,rL,rB,rA,rS,h1,hb,h3,hlt,hx,hw,hz,Caller.u,hch,ne_eq,List.length_map]
   refine ZiE (fun h=>?_) (fun q1=>?_)
   ·rw [Bool.not_eq_true'] at h; simp [h]
   rw [Bool.not_eq_false'] at q1
   rw [ih (i+1) _ (by omega) (by and_intros<;>first|omega|rfl|(simp only[↓xP,xT,rL,rB,rA,rS,h1,hb]<;>first|done|rfl|omega))]
   simp [q1,ZHE,e0]
 have hlt:((i:Int)<4)=False:=by simp; omega
 have hfi:ZHE c1 i=true:=by simp only[ZHE]; rw [if_neg (by omega)]
 simp only[↓xP,xT,rL,rB,rA,rS,h1,hb,h3,hlt]
 rw [List.drop_of_length_le (by omega),List.all_nil,hfi,Bool.true_and,Bool.true_and]
 refine Zjc (fun (i:Nat) st=>st.s 1=.t (.sc (.ptr (.loc 1 0) 0 0))∧st.o (.loc 1 0)=some (.box [.u (.sl 14 (c0.map Shard.u)),.u (.sl 8 (c1.map Caller.u)),.u (.sl 9 (c2.map Result.u)),.u (.int .i64 c3),.u (.int .i64 c4),.u (.int .i64 c5),.u (.str c6),.u (.int .i64 c7),.u (.int .i64 c8),.u (.int .i64 c9),.u (.int .i64 c10),.u (.int .i64 c11)])∧st.s 6=DI i) (fun i=>c2.length - i) (fun i=>ok1 (B ((c2.drop i).all ZK&&Z1 (ZG c0)))) ?_ 0 (by and_intros<;>first|omega|rfl|(simp only[↓xP,xT,rL,rB,rA,rS,h1,hb]<;>first|done|rfl|omega))
 clear h1 hb h3 hi ih hlt hfi
 rintro i st ⟨h1,hb,h3⟩ ih
 by_cases hi:i<c2.length
 ·obtain ⟨⟨rc,rs,⟨rk,rkey,rv,ro⟩,rr,rcd,rrt⟩,hx⟩:∃ x,c2[i]?=some x:=⟨_,List.getElem?_eq_getElem hi⟩
  have hw:=w_succ (i:=i) (by omega)
  simp only[↓xP,xT,rL,rB,rA,rS,h1,hb,h3,hi,hx,hw,Result.u,ZIZ]
  rw [ZV hx,List.all_cons]
  refine ZiE (fun h=>?_) (fun q1=>?_)
  ·rw [Bool.not_eq_true'] at h; simp [h]
  rw [Bool.not_eq_false'] at q1
  rw [ih (i+1) _ (by omega) (by and_intros<;>first|omega|rfl|(simp only[↓xP,xT,rL,rB,rA,rS,h1,hb]<;>first|done|rfl|omega))]
  simp [q1]
 have hlr:=ZIB c0 c1 c2 c3 c4 c5 c6 c7 c8 c9 c10 c11 g12.2
 simp only[ZFq] at hlr
 have hrl:(ZG c0).length≤1048576:=by
  have:=ZGa (Z5 c0 0)
  have:=ZGu c0 0
  simp only[ZG]; omega
 have hrv:=ZI1 (ZG c0) hrl
 have htk:List.take (ZG c0).length (List.map Route.u (ZG c0))=List.map Route.u (ZG c0):=List.take_of_length_le (by simp)
 simp only[↓xP,xT,rL,rB,rA,rS,h1,hb,h3,hi,hlr,hrv,htk,Nat.le_refl,List.length_map]
 rw [List.drop_of_length_le (by omega),List.all_nil,Bool.true_and]
theorem ZIq {c0:List Shard} {c1:List Caller} {c2:List Result} {w:Plan} {a b:Int} (h:ZB ⟨c0,c1,c2,w,a,b⟩=true) {s:Shard} (hs:s∈c0):ZD s.group=true:=by
 simp only[ZB,Bool.and_eq_true] at h
 have:=List.all_eq_true.1 h.1.1.1.1.2 s hs
 simp only[ZGE,Bool.and_eq_true] at this
 exact this.1
theorem ZG7 {c0:List Shard} {c1:List Caller} {c2:List Result} {w:Plan} {a b:Int} (h:ZB ⟨c0,c1,c2,w,a,b⟩=true):c0.length≤8:=by
 simp only[ZB,ZFH,Bool.and_eq_true,decide_eq_true_eq] at h
 exact h.1.1.1.1.1.1.1.2
theorem ZNB {l:List Route} {x y:Route} (h:y∈insL l x):y=x∨y∈l:=by
 simp only[insL,List.mem_append,List.mem_cons] at h
 rcases h with h|h|h
 ·exact .inr ((List.takeWhile_sublist _).mem h)
 ·exact .inl h
 ·exact .inr ((List.dropWhile_sublist _).mem h)
theorem ZKE:∀ (m l:List Route) (y:Route),y∈m.foldl insL l→y∈l∨y∈m
 | [],l,y,h=>.inl h
 | a :: m,l,y,h=>by
  rcases ZKE m (insL l a) y h with h|h
  ·rcases ZNB h with rfl|h
   ·exact .inr (by simp)
   ·exact .inl h
  ·exact .inr (by simp [h])
theorem ZIW:∀ (l:List Shard) (i:Nat) (r:Route),r∈Z5 l i→∃ (j:Nat) (s:Shard),l[j]?=some s∧r.number=((i+j:Nat):Int)∧s.live=true
 | [],i,r,h=>by simp [Z5] at h
 | s :: l,i,r,h=>by
  simp only[Z5] at h
  split at h
  ·rcases List.mem_cons.1 h with rfl|h
   ·exact ⟨0,s,rfl,by simp,by assumption⟩
   ·obtain ⟨j,s',h1,h2,h3⟩:=ZIW l (i+1) r h
    exact ⟨j+1,s',by simpa using h1,by rw [h2]; congr 1; omega,h3⟩
  ·obtain ⟨j,s',h1,h2,h3⟩:=ZIW l (i+1) r h
   exact ⟨j+1,s',by simpa using h1,by rw [h2]; congr 1; omega,h3⟩
theorem ZIn {l:List Shard} {r:Route} (h:r∈ZG l):∃ (j:Nat) (s:Shard),l[j]?=some s∧r.number=(j:Int)∧s.live=true:=by
 rcases ZKE _ _ _ h with h|h
 ·cases h
 ·obtain ⟨j,s,h1,h2,h3⟩:=ZIW l 0 r h
  exact ⟨j,s,h1,by rw [h2]; simp,h3⟩
def ZFr (x:Cluster):List Route:=if ZB x=true then ZG x.shards else []
theorem ZIk (c0:List Shard) (c1:List Caller) (c2:List Result) (c3 c4 c5:Int) (c6:Str) (c7 c8 c9 c10 c11:Int) (hs:Cluster.Small ⟨c0,c1,c2,⟨c3,c4,c5,c6,c7,c8,c9⟩,c10,c11⟩):EE F 24 [.ag [.u (.sl 14 (c0.map Shard.u)),.u (.sl 8 (c1.map Caller.u)),.u (.sl 9 (c2.map Result.u)),.u (.int .i64 c3),.u (.int .i64 c4),.u (.int .i64 c5),.u (.str c6),.u (.int .i64 c7),.u (.int .i64 c8),.u (.int .i64 c9),.u (.int .i64 c10),.u (.int .i64 c11)]] []=some ⟨[.sc (.own (.par 0) (ZFr ⟨c0,c1,c2,⟨c3,c4,c5,c6,c7,c8,c9⟩,c10,c11⟩).length)],[.row 3 ((ZFr ⟨c0,c1,c2,⟨c3,c4,c5,c6,c7,c8,c9⟩,c10,c11⟩).map Route.u)],[]⟩:=by
 have hcvs:=ZIu c0 c1 c2 c3 c4 c5 c6 c7 c8 c9 c10 c11 hs
 rw [R24,b24]
 cases hv:ZB ⟨c0,c1,c2,⟨c3,c4,c5,c6,c7,c8,c9⟩,c10,c11⟩
 ·simp only[↓xP,xT,rL,rB,rA,rS,hcvs,hv]
  simp [ZFr,hv]
 ·have hlr:=ZIB c0 c1 c2 c3 c4 c5 c6 c7 c8 c9 c10 c11 (ZG7 hv)
  simp only[ZFq] at hlr
  simp only[↓xP,xT,rL,rB,rA,rS,hcvs,hv,hlr,List.length_map,Nat.le_refl]
  simp [ZFr,hv]
def ZHo (K:Int):Bool:=(decide ((K).tmod 3=0))
theorem ZKY (l:List Bool) (K:Int) (h1:1≤K) (h2:K+1*l.length≤4611686018427387904):EE F 152 [.sc (.own (.par 0) l.length),I K] [.row 1 (l.map bU)]=some ⟨[I (K+1*l.length)],[],[.row 1 ((mkL ZHo 1 K l.length).map bU)]⟩:=by
 refine (EE_run (fn:=i152) (by kernel_rfl) rfl).trans ?_
 simp only[i152,b152,ZdN,ZcQ,List.length_cons,List.length_nil]
 simp only[↓xP,xT,rL,rB,rA,rS]
 refine (Zjc (fun (i:Nat) st=>i≤l.length∧st.s 0=.t (.sc (.own (.par 0) l.length))∧st.s 5=DI i∧st.s 1=DI (K+1*i)∧st.o (.par 0)=some (.row 1 ((mkL ZHo 1 K i++l.drop i).map bU))) (fun i=>l.length - i) (fun i=>some ⟨[I (K+1*l.length)],[],[.row 1 ((mkL ZHo 1 K l.length).map bU)]⟩) ?_ 0 ⟨by omega,by simp only[↓xP,xT,rL,rB,rA,rS],by simp only[↓xP,xT,rL,rB,rA,rS]; rfl,by simp only[↓xP,xT,rL,rB,rA,rS]; exact ZFk (by omega),by simp only[↓xP,xT,rL,rB,rA,rS]; simp [mkL]⟩).trans rfl
 rintro i st ⟨hle,h0,h5,h1',ho⟩ ih
 by_cases hi:i<l.length
 ·obtain ⟨x,hx⟩:∃ x,l[i]?=some x:=⟨_,List.getElem?_eq_getElem hi⟩
  have hw:=w_succ (i:=i) (by omega)
  have hg:=ZHN (u:=bU) (f:=ZHo) (w:=1) (K:=K) hx
  have hf:=ZHO (u:=bU) (f:=ZHo) (w:=1) (K:=K) hx
  have hlen:i<((mkL ZHo 1 K i++l.drop i).map bU).length:=by simp [ZS]; omega
  have hk1:1≤K+1 * (i:Int):=by omega
  have hk2:K+1 * (i:Int)+1≤4611686018427387904:=by omega
  have hn:K+1 * ((i+1:Nat):Int)=K+1 * (i:Int)+1:=by omega
  generalize (mkL ZHo 1 K i++l.drop i).map bU=r at hg hf hlen ho
  obtain ⟨K',hK⟩:∃ K',K'=K+1 * (i:Int):=⟨_,rfl⟩
  rw [←hK] at h1' hf hn hk1 hk2
  
  simp only[bU,ZHo] at hg hf
  have hgs:=ZFP r i hlen
  have hw0:IntKind.i64.wrap (K'+1)=K'+1:=by rw [w64 (by omega) (by omega)]
  have h3_0:¬(3:Int)=0:=by omega
  simp only[↓xP,xT,rL,rB,rA,rS,h0,h5,h1',ho,hi,hg,hgs,List.set_set,hw,hf,hw0,h3_0]
  exact ih (i+1) _ (by omega) ⟨by omega,by simp only[↓xP,xT,rL,rB,rA,rS,h0],by simp only[↓xP,xT,rL,rB,rA,rS],by simp only[↓xP,xT,rL,rB,rA,rS]; exact ZFk (by omega),by simp only[↓xP,xT,rL,rB,rA,rS]⟩
 ·have:i=l.length:=by omega
  subst this
  simp only[↓xP,xT,rL,rB,rA,rS,h0,h5,h1',ho,hi,List.drop_length,List.append_nil,List.length_map,ZS]
def ZGD (K:Int):Entry:=⟨(K),(K+1),⟨(K+1+1),(ZGY (K+1+1+1)),(K+1+1+1+1),(K+1+1+1+1+1)⟩⟩
theorem ZH9 (l:List Entry) (K:Int) (h1:1≤K) (h2:K+6*l.length≤4611686018427387904):EE F 212 [.sc (.own (.par 0) l.length),I K] [.row 6 (l.map Entry.u)]=some ⟨[I (K+6*l.length)],[],[.row 6 ((mkL ZGD 6 K l.length).map Entry.u)]⟩:=by
 refine (EE_run (fn:=i212) (by kernel_rfl) rfl).trans ?_
 simp only[i212,b212,ZdN,ZcQ,List.length_cons,List.length_nil]
 simp only[↓xP,xT,rL,rB,rA,rS]
 refine (Zjc (fun (i:Nat) st=>i≤l.length∧st.s 0=.t (.sc (.own (.par 0) l.length))∧st.s 5=DI i∧st.s 1=DI (K+6*i)∧st.o (.par 0)=some (.row 6 ((mkL ZGD 6 K i++l.drop i).map Entry.u))) (fun i=>l.length - i) (fun i=>some ⟨[I (K+6*l.length)],[],[.row 6 ((mkL ZGD 6 K l.length).map Entry.u)]⟩) ?_ 0 ⟨by omega,by simp only[↓xP,xT,rL,rB,rA,rS],by simp only[↓xP,xT,rL,rB,rA,rS]; rfl,by simp only[↓xP,xT,rL,rB,rA,rS]; exact ZFk (by omega),by simp only[↓xP,xT,rL,rB,rA,rS]; simp [mkL]⟩).trans rfl
 rintro i st ⟨hle,h0,h5,h1',ho⟩ ih
 by_cases hi:i<l.length
 ·obtain ⟨x,hx⟩:∃ x,l[i]?=some x:=⟨_,List.getElem?_eq_getElem hi⟩
  have hw:=w_succ (i:=i) (by omega)
  have hg:=ZHN (u:=Entry.u) (f:=ZGD) (w:=6) (K:=K) hx
  have hf:=ZHO (u:=Entry.u) (f:=ZGD) (w:=6) (K:=K) hx
  have hlen:i<((mkL ZGD 6 K i++l.drop i).map Entry.u).length:=by simp [ZS]; omega
  have hk1:1≤K+6 * (i:Int):=by omega
  have hk2:K+6 * (i:Int)+6≤4611686018427387904:=by omega
  have hn:K+6 * ((i+1:Nat):Int)=K+6 * (i:Int)+6:=by omega
  generalize (mkL ZGD 6 K i++l.drop i).map Entry.u=r at hg hf hlen ho
  obtain ⟨K',hK⟩:∃ K',K'=K+6 * (i:Int):=⟨_,rfl⟩
  rw [←hK] at h1' hf hn hk1 hk2
  obtain ⟨c1,c2,⟨c3,c4,c5,c6⟩⟩:=x
  simp only[Entry.u,ZGD] at hg hf
  have hgs:=ZFP r i hlen
  have hw0:IntKind.i64.wrap (K'+1)=K'+1:=by rw [w64 (by omega) (by omega)]
  have hw1:IntKind.i64.wrap (K'+1+1)=K'+1+1:=by rw [w64 (by omega) (by omega)]
  have hw2:IntKind.i64.wrap (K'+1+1+1)=K'+1+1+1:=by rw [w64 (by omega) (by omega)]
  have hw3:IntKind.i64.wrap (K'+1+1+1+1)=K'+1+1+1+1:=by rw [w64 (by omega) (by omega)]
  have hw4:IntKind.i64.wrap (K'+1+1+1+1+1)=K'+1+1+1+1+1:=by rw [w64 (by omega) (by omega)]
  have hw5:IntKind.i64.wrap (K'+1+1+1+1+1+1)=K'+1+1+1+1+1+1:=by rw [w64 (by omega) (by omega)]
  have mt3:=ZQ (K'+1+1+1) (by omega) (by omega)
  simp only[↓xP,xT,rL,rB,rA,rS,h0,h5,h1',ho,hi,hg,hgs,List.set_set,hw,hf,hw0,hw1,hw2,hw3,hw4,hw5,mt3]
  exact ih (i+1) _ (by omega) ⟨by omega,by simp only[↓xP,xT,rL,rB,rA,rS,h0],by simp only[↓xP,xT,rL,rB,rA,rS],by simp only[↓xP,xT,rL,rB,rA,rS]; exact ZFk (by omega),by simp only[↓xP,xT,rL,rB,rA,rS]⟩
 ·have:i=l.length:=by omega
  subst this
  simp only[↓xP,xT,rL,rB,rA,rS,h0,h5,h1',ho,hi,List.drop_length,List.append_nil,List.length_map,ZS]
def ZGO (K:Int):Route:=⟨(K),⟨(ZGY (K+1)),(ZGY (K+1+1))⟩⟩
theorem ZKd (l:List Route) (K:Int) (h1:1≤K) (h2:K+3*l.length≤4611686018427387904):EE F 28 [.sc (.own (.par 0) l.length),I K] [.row 3 (l.map Route.u)]=some ⟨[I (K+3*l.length)],[],[.row 3 ((mkL ZGO 3 K l.length).map Route.u)]⟩:=by
 refine (EE_run (fn:=i28) (by kernel_rfl) rfl).trans ?_
 simp only[i28,b28,ZdN,ZcQ,List.length_cons,List.length_nil]
 simp only[↓xP,xT,rL,rB,rA,rS]
 refine (Zjc (fun (i:Nat) st=>i≤l.length∧st.s 0=.t (.sc (.own (.par 0) l.length))∧st.s 5=DI i∧st.s 1=DI (K+3*i)∧st.o (.par 0)=some (.row 3 ((mkL ZGO 3 K i++l.drop i).map Route.u))) (fun i=>l.length - i) (fun i=>some ⟨[I (K+3*l.length)],[],[.row 3 ((mkL ZGO 3 K l.length).map Route.u)]⟩) ?_ 0 ⟨by omega,by simp only[↓xP,xT,rL,rB,rA,rS],by simp only[↓xP,xT,rL,rB,rA,rS]; rfl,by simp only[↓xP,xT,rL,rB,rA,rS]; exact ZFk (by omega),by simp only[↓xP,xT,rL,rB,rA,rS]; simp [mkL]⟩).trans rfl
 rintro i st ⟨hle,h0,h5,h1',ho⟩ ih
 by_cases hi:i<l.length
 ·obtain ⟨x,hx⟩:∃ x,l[i]?=some x:=⟨_,List.getElem?_eq_getElem hi⟩
  have hw:=w_succ (i:=i) (by omega)
  have hg:=ZHN (u:=Route.u) (f:=ZGO) (w:=3) (K:=K) hx
  have hf:=ZHO (u:=Route.u) (f:=ZGO) (w:=3) (K:=K) hx
  have hlen:i<((mkL ZGO 3 K i++l.drop i).map Route.u).length:=by simp [ZS]; omega
  have hk1:1≤K+3 * (i:Int):=by omega
  have hk2:K+3 * (i:Int)+3≤4611686018427387904:=by omega
  have hn:K+3 * ((i+1:Nat):Int)=K+3 * (i:Int)+3:=by omega
  generalize (mkL ZGO 3 K i++l.drop i).map Route.u=r at hg hf hlen ho
  obtain ⟨K',hK⟩:∃ K',K'=K+3 * (i:Int):=⟨_,rfl⟩
  rw [←hK] at h1' hf hn hk1 hk2
  obtain ⟨c1,⟨c2,c3⟩⟩:=x
  simp only[Route.u,ZGO] at hg hf
  have hgs:=ZFP r i hlen
  have hw0:IntKind.i64.wrap (K'+1)=K'+1:=by rw [w64 (by omega) (by omega)]
  have hw1:IntKind.i64.wrap (K'+1+1)=K'+1+1:=by rw [w64 (by omega) (by omega)]
  have hw2:IntKind.i64.wrap (K'+1+1+1)=K'+1+1+1:=by rw [w64 (by omega) (by omega)]
  have mt1:=ZQ (K'+1) (by omega) (by omega)
  have mt2:=ZQ (K'+1+1) (by omega) (by omega)
  simp only[↓xP,xT,rL,rB,rA,rS,h0,h5,h1',ho,hi,hg,hgs,List.set_set,hw,hf,hw0,hw1,hw2,mt1,mt2]
  exact ih (i+1) _ (by omega) ⟨by omega,by simp only[↓xP,xT,rL,rB,rA,rS,h0],by simp only[↓xP,xT,rL,rB,rA,rS],by simp only[↓xP,xT,rL,rB,rA,rS]; exact ZFk (by omega),by simp only[↓xP,xT,rL,rB,rA,rS]⟩
 ·have:i=l.length:=by omega
  subst this
  simp only[↓xP,xT,rL,rB,rA,rS,h0,h5,h1',ho,hi,List.drop_length,List.append_nil,List.length_map,ZS]
def ZGn (K:Int):Result:=⟨(K),(K+1),⟨(K+1+1),(ZGY (K+1+1+1)),(K+1+1+1+1),(K+1+1+1+1+1)⟩,(K+1+1+1+1+1+1),(K+1+1+1+1+1+1+1),(K+1+1+1+1+1+1+1+1)⟩
theorem ZJS (l:List Result) (K:Int) (h1:1≤K) (h2:K+9*l.length≤4611686018427387904):EE F 86 [.sc (.own (.par 0) l.length),I K] [.row 9 (l.map Result.u)]=some ⟨[I (K+9*l.length)],[],[.row 9 ((mkL ZGn 9 K l.length).map Result.u)]⟩:=by
 refine (EE_run (fn:=i86) (by kernel_rfl) rfl).trans ?_
 simp only[i86,b86,ZdN,ZcQ,List.length_cons,List.length_nil]
 simp only[↓xP,xT,rL,rB,rA,rS]
 refine (Zjc (fun (i:Nat) st=>i≤l.length∧st.s 0=.t (.sc (.own (.par 0) l.length))∧st.s 5=DI i∧st.s 1=DI (K+9*i)∧st.o (.par 0)=some (.row 9 ((mkL ZGn 9 K i++l.drop i).map Result.u))) (fun i=>l.length - i) (fun i=>some ⟨[I (K+9*l.length)],[],[.row 9 ((mkL ZGn 9 K l.length).map Result.u)]⟩) ?_ 0 ⟨by omega,by simp only[↓xP,xT,rL,rB,rA,rS],by simp only[↓xP,xT,rL,rB,rA,rS]; rfl,by simp only[↓xP,xT,rL,rB,rA,rS]; exact ZFk (by omega),by simp only[↓xP,xT,rL,rB,rA,rS]; simp [mkL]⟩).trans rfl
 rintro i st ⟨hle,h0,h5,h1',ho⟩ ih
 by_cases hi:i<l.length
 ·obtain ⟨x,hx⟩:∃ x,l[i]?=some x:=⟨_,List.getElem?_eq_getElem hi⟩
  have hw:=w_succ (i:=i) (by omega)
  have hg:=ZHN (u:=Result.u) (f:=ZGn) (w:=9) (K:=K) hx
  have hf:=ZHO (u:=Result.u) (f:=ZGn) (w:=9) (K:=K) hx
  have hlen:i<((mkL ZGn 9 K i++l.drop i).map Result.u).length:=by simp [ZS]; omega
  have hk1:1≤K+9 * (i:Int):=by omega
  have hk2:K+9 * (i:Int)+9≤4611686018427387904:=by omega
  have hn:K+9 * ((i+1:Nat):Int)=K+9 * (i:Int)+9:=by omega
  generalize (mkL ZGn 9 K i++l.drop i).map Result.u=r at hg hf hlen ho
  obtain ⟨K',hK⟩:∃ K',K'=K+9 * (i:Int):=⟨_,rfl⟩
  rw [←hK] at h1' hf hn hk1 hk2
  obtain ⟨c1,c2,⟨c3,c4,c5,c6⟩,c7,c8,c9⟩:=x
  simp only[Result.u,ZGn] at hg hf
  have hgs:=ZFP r i hlen
  have hw0:IntKind.i64.wrap (K'+1)=K'+1:=by rw [w64 (by omega) (by omega)]
  have hw1:IntKind.i64.wrap (K'+1+1)=K'+1+1:=by rw [w64 (by omega) (by omega)]
  have hw2:IntKind.i64.wrap (K'+1+1+1)=K'+1+1+1:=by rw [w64 (by omega) (by omega)]
  have hw3:IntKind.i64.wrap (K'+1+1+1+1)=K'+1+1+1+1:=by rw [w64 (by omega) (by omega)]
  have hw4:IntKind.i64.wrap (K'+1+1+1+1+1)=K'+1+1+1+1+1:=by rw [w64 (by omega) (by omega)]
  have hw5:IntKind.i64.wrap (K'+1+1+1+1+1+1)=K'+1+1+1+1+1+1:=by rw [w64 (by omega) (by omega)]
  have hw6:IntKind.i64.wrap (K'+1+1+1+1+1+1+1)=K'+1+1+1+1+1+1+1:=by rw [w64 (by omega) (by omega)]
  have hw7:IntKind.i64.wrap (K'+1+1+1+1+1+1+1+1)=K'+1+1+1+1+1+1+1+1:=by rw [w64 (by omega) (by omega)]
  have hw8:IntKind.i64.wrap (K'+1+1+1+1+1+1+1+1+1)=K'+1+1+1+1+1+1+1+1+1:=by rw [w64 (by omega) (by omega)]
  have mt3:=ZQ (K'+1+1+1) (by omega) (by omega)
  simp only[↓xP,xT,rL,rB,rA,rS,h0,h5,h1',ho,hi,hg,hgs,List.set_set,hw,hf,hw0,hw1,hw2,hw3,hw4,hw5,hw6,hw7,hw8,mt3]
  exact ih (i+1) _ (by omega) ⟨by omega,by simp only[↓xP,xT,rL,rB,rA,rS,h0],by simp only[↓xP,xT,rL,rB,rA,rS],by simp only[↓xP,xT,rL,rB,rA,rS]; exact ZFk (by omega),by simp only[↓xP,xT,rL,rB,rA,rS]⟩
 ·have:i=l.length:=by omega
  subst this
  simp only[↓xP,xT,rL,rB,rA,rS,h0,h5,h1',ho,hi,List.drop_length,List.append_nil,List.length_map,ZS]
def mGo {α:Type} (w:α→Nat) (f:Int→α→α):Int→List α→List α
 | _,[]=>[]
 | K,x::xs=>f K x::mGo w f (K+w x) xs
def sumW {α:Type} (w:α→Nat):List α→Nat
 | []=>0
 | x::xs=>w x+sumW w xs
theorem ZHT {α:Type} (w:α→Nat) (b:List α):∀ a:List α,sumW w (a++b)=sumW w a+sumW w b
 | []=>by simp [sumW]
 | x::xs=>by simp only[List.cons_append,sumW,ZHT w b xs]; omega
theorem ZJO {α:Type} (w:α→Nat) (f:Int→α→α) (b:List α):∀ (K:Int) (a:List α),mGo w f K (a++b)=mGo w f K a++mGo w f (K+sumW w a) b
 | K,[]=>by simp [mGo,sumW]
 | K,x::xs=>by
  simp only[List.cons_append,mGo,sumW,ZJO w f b (K+w x) xs]
  rw [show K + (w x:Int) + (sumW w xs:Int)=K + ((w x+sumW w xs:Nat):Int) by omega]
theorem ZFn {α:Type} (w:α→Nat) (f:Int→α→α):∀ (K:Int) (l:List α),(mGo w f K l).length=l.length
 | _,[]=>rfl
 | K,x::xs=>by simp only[mGo,List.length_cons,ZFn w f _ xs]
theorem ZGQ {α:Type} (w:α→Nat) {l:List α} {i:Nat} {x:α} (h:l[i]?=some x):sumW w (l.take (i+1))=sumW w (l.take i)+w x:=by
 rw [List.take_add_one,h,Option.toList_some,ZHT]; simp [sumW]
theorem ZGR {α:Type} (w:α→Nat) (l:List α) (i:Nat):sumW w (l.take i)≤sumW w l:=by
 have:=ZHT w (l.drop i) (l.take i)
 rw [List.take_append_drop] at this; omega
theorem ZFS {α:Type} (c:Nat) (w:α→Nat):∀ l:List α,sumW (fun x=>c+w x) l=c*l.length+sumW w l
 | []=>by simp [sumW]
 | x::xs=>by simp only[sumW,List.length_cons,ZFS c w xs,Nat.mul_add]; omega
def mMid {α:Type} (w:α→Nat) (f:Int→α→α) (K:Int) (l:List α) (i:Nat):List α:=mGo w f K (l.take i)++l.drop i
theorem ZHI {α:Type} (w:α→Nat) (f:Int→α→α) (K:Int) (l:List α) (i:Nat):(mMid w f K l i).length=l.length:=by
 simp only[mMid,List.length_append,ZFn,List.length_take,List.length_drop]; omega
theorem ZHe {α:Type} (w:α→Nat) (f:Int→α→α) (K:Int) (l:List α):mMid w f K l 0=l:=by simp [mMid,mGo]
theorem ZHH {α:Type} (w:α→Nat) (f:Int→α→α) (K:Int) (l:List α):mMid w f K l l.length=mGo w f K l:=by simp [mMid]
theorem ZNA {α:Type} (w:α→Nat) (f:Int→α→α) (K:Int) {l:List α} {i:Nat} {x:α} (h:l[i]?=some x):(mMid w f K l i)[i]?=some x:=by
 have hi:=(List.getElem?_eq_some_iff.1 h).1
 have e:(mGo w f K (l.take i)).length=i:=by rw [ZFn,List.length_take]; omega
 rw [mMid,List.getElem?_append_right (by omega),e,List.getElem?_drop]
 simpa using h
theorem ZHJ {α β:Type} {u:α→β} (w:α→Nat) (f:Int→α→α) (K:Int) {l:List α} {i:Nat} {x:α} (h:l[i]?=some x):((mMid w f K l i).map u)[i]?=some (u x):=by rw [List.getElem?_map,ZNA w f K h]; rfl
theorem ZHK {α β:Type} {u:α→β} (w:α→Nat) (f:Int→α→α) (K:Int) {l:List α} {i:Nat} {x:α} (h:l[i]?=some x):((mMid w f K l i).map u).set i (u (f (K+sumW w (l.take i)) x))=(mMid w f K l (i+1)).map u:=by
 have hi:=(List.getElem?_eq_some_iff.1 h).1
 have e:(mGo w f K (l.take i)).length=i:=by rw [ZFn,List.length_take]; omega
 have e2:mGo w f K (l.take (i+1))=mGo w f K (l.take i)++[f (K+sumW w (l.take i)) x]:=by
  rw [List.take_add_one,h,Option.toList_some,ZJO]; simp [mGo]
 rw [mMid,mMid,←List.map_set,List.set_append_right _ _ (by omega),e,Nat.sub_self,ZV h,List.set_cons_zero,e2,List.append_assoc]
 rfl
def Cost (g:Int→Int) (w:Nat):Prop:=∀ a,0≤a→a≤1048576→0≤g a→g a≤a∧9*g a+w≤9*a
theorem Cost.nil:Cost (fun a=>a) 0:=fun a _ _ _=>⟨Int.le_refl _,by show 9*a + ((0:Nat):Int)≤9*a; omega⟩
theorem Cost.off {n:Nat} {k:Int→Int} {w w':Nat} (hn:n≤1048576) (hw:w≤9*n+w') (hk:Cost k w'):Cost (fun a=>offZ a n k) w:=by
 intro a h0 h1 h2
 simp only[offZ] at h2 ⊢
 rw [w64 (by omega) (by omega)] at h2 ⊢
 split at h2
 ·omega
 ·rename_i hlt
  rw [if_neg hlt]
  obtain ⟨h3,h4⟩:=hk (a - n) (by omega) (by omega) h2
  omega
theorem Cost.chk {g k:Int→Int} {w w':Nat} (hg:Cost g w) (hk:Cost k w'):Cost (fun a=>chkZ (g a) k) (w+w'):=by
 intro a h0 h1 h2
 simp only[chkZ] at h2 ⊢
 split at h2
 ·omega
 ·rename_i hlt
  rw [if_neg hlt]
  obtain ⟨h3,h4⟩:=hg a h0 h1 (by omega)
  obtain ⟨h5,h6⟩:=hk (g a) (by omega) (by omega) h2
  omega
theorem Cost.all {α:Type} {g:α→Int→Int} {w:α→Nat}:∀ {l:List α},(∀ x,x∈l→Cost (g x) (w x))→Cost (allZ g l) (sumW w l)
 | [],_=>Cost.nil
 | x::xs,h=>(h x (List.mem_cons_self ..)).chk (Cost.all (l:=xs) fun y hy=>h y (List.mem_cons_of_mem _ hy))
theorem Cost.less {g:Int→Int} {w w':Nat} (h:Cost g w) (hw:w'≤w):Cost g w':=fun a h0 h1 h2=>by
 have:=h a h0 h1 h2
 omega
theorem Cost.none {α:Type} {g:α→Int→Int} {l:List α} (h:∀ x,x∈l→Cost (g x) 0):Cost (allZ g l) 0:=(Cost.all (w:=fun _=>0) h).less (by omega)
theorem Cost.key {n:Nat} (h:n≤1048576):Cost (fun a=>offZ a n fun a=>a) 0:=Cost.off h (by omega) Cost.nil
theorem ZOd {l:List Int} (h:ZHb l):Cost (ZIO l) l.length:=Cost.off h.1 (by omega) Cost.nil
theorem ZN5 {l:List Bool} (h:ZGX l):Cost (ZHU l) l.length:=Cost.off h.1 (by omega) Cost.nil
theorem ZMU {l:List Session} (h:ZFY l):Cost (ZGI l) (3*l.length):=Cost.off h.1 (by omega) Cost.nil
theorem ZN7 {l:List Pair} (h:ZGp l):Cost (ZHi l) (2*l.length):=Cost.off h.1 (by omega) (Cost.none fun x hx=>Cost.key (h.2 x hx).1)
theorem ZJA {c:Command} (h:Command.Small c):Cost (ZF4 c) 0:=Cost.key h.1
theorem ZNn {e:Entry} (h:Entry.Small e):Cost (ZGH e) 0:=(ZJA h.1).chk Cost.nil
theorem ZNO {e:Answer} (h:Answer.Small e):Cost (ZGx e) 0:=(ZNn h.1).chk Cost.nil
theorem ZKy {x:Interval} (h:Interval.Small x):Cost (ZGb x) 0:=Cost.off h.1 (by omega) (Cost.key h.2.1)
theorem ZLs {l:List Entry} (h:ZF7 l):Cost (ZGB l) (6*l.length):=Cost.off h.1 (by omega) (Cost.none fun x hx=>ZNn (h.2 x hx))
theorem ZNk {l:List Answer} (h:ZGe l):Cost (ZGy l) (7*l.length):=Cost.off h.1 (by omega) (Cost.none fun x hx=>ZNO (h.2 x hx))
theorem ZNP {l:List Route} (h:ZGF l):Cost (ZGU l) (3*l.length):=Cost.off h.1 (by omega) (Cost.none fun x hx=>(ZKy (h.2 x hx).1).chk Cost.nil)
theorem ZNq {l:List Result} (h:ZGg l):Cost (ZGC l) (9*l.length):=Cost.off h.1 (by omega) (Cost.none fun x hx=>(ZJA (h.2 x hx).1).chk Cost.nil)
theorem ZN8 {x:State} (h:State.Small x):Cost (ZHY x) (2*x.pairs.length+3*x.known.length):=((ZKy h.1).chk ((ZN7 h.2.1).chk ((ZMU h.2.2.1).chk (Cost.key h.2.2.2.1)))).less (by omega)
theorem ZKM {x:Config} (h:Config.Small x):Cost (ZGA x) x.members.length:=((ZOd h.1).chk Cost.nil).less (by omega)
def cRep (r:Replica):Nat:=r.conf.members.length+6*r.log.length
def cMsg (m:Message):Nat:=m.conf.members.length+6*m.log.length
def wRep (r:Replica):Nat:=3+cRep r
def wMsg (m:Message):Nat:=5+cMsg m
theorem ZNp {r:Replica} (h:Replica.Small r):Cost (ZF6 r) (cRep r):=((ZKM h.1).chk ((ZLs h.2.1).chk Cost.nil)).less (by simp only[cRep]; omega)
theorem ZNo {r:Message} (h:Message.Small r):Cost (ZF5 r) (cMsg r):=((ZKM h.1).chk ((ZLs h.2.1).chk Cost.nil)).less (by simp only[cMsg]; omega)
theorem ZMT {l:List Replica} (h:ZFX l):Cost (ZGd l) (sumW wRep l):=Cost.off h.1 (by rw [show wRep=fun r=>3+cRep r from rfl,ZFS]; omega) (Cost.all fun x hx=>ZNp (h.2 x hx))
theorem ZMS {l:List Message} (h:ZFt l):Cost (ZGc l) (sumW wMsg l):=Cost.off h.1 (by rw [show wMsg=fun r=>5+cMsg r from rfl,ZFS]; omega) (Cost.all fun x hx=>ZNo (h.2 x hx))
def cChn (c:Chain):Nat:=2*c.base.pairs.length+3*c.base.known.length+c.conf.members.length+sumW wRep c.nodes+c.up.length+sumW wMsg c.bag+7*c.answers.length
def Z8 (s:Shard):Nat:=7+cChn s.group
theorem ZN6 {c:Chain} (h:Chain.Small c):Cost (ZHV c) (cChn c):=((ZN8 h.1).chk ((ZKM h.2.1).chk ((ZMT h.2.2.1).chk ((ZN5 h.2.2.2.1).chk ((ZMS h.2.2.2.2.1).chk ((ZNk h.2.2.2.2.2.1).chk Cost.nil)))))).less (by simp only[cChn]; omega)
theorem ZNQ {l:List Shard} (h:ZGG l):Cost (ZGV l) (sumW Z8 l):=Cost.off h.1 (by rw [show Z8=fun s=>7+cChn s.group from rfl,ZFS]; omega) (Cost.all (w:=fun s:Shard=>cChn s.group) fun x hx=>((ZN6 (h.2 x hx).1).chk Cost.nil).less (by omega))
def cCal (c:Caller):Nat:=3*c.cache.length
def wCal (c:Caller):Nat:=7+cCal c
theorem ZNl {l:List Caller} (h:ZGf l):Cost (ZGz l) (sumW wCal l):=Cost.off h.1 (by rw [show wCal=fun c=>7+cCal c from rfl,ZFS]; omega) (Cost.all (w:=cCal) fun x hx=>((ZNP (h.2 x hx).1).chk ((ZJA (h.2 x hx).2.1).chk Cost.nil)).less (by simp only[cCal]; omega))
theorem ZNm {x:Cluster} (h:Cluster.Small x):Cost (ZHr x) (sumW Z8 x.shards+sumW wCal x.clients+9*x.results.length):=((ZNQ h.1).chk ((ZNl h.2.1).chk ((ZNq h.2.2.1).chk ((Cost.key h.2.2.2.1.1).chk Cost.nil)))).less (by omega)
theorem ZJZ:(∀ l:List Int,Zbi (l.map iU)=true)∧(∀ l:List Bool,Zbi (l.map bU)=true)∧(∀ l:List Entry,Zbi (l.map Entry.u)=true)∧(∀ l:List Pair,Zbi (l.map Pair.u)=true)∧(∀ l:List Session,Zbi (l.map Session.u)=true)∧(∀ l:List Answer,Zbi (l.map Answer.u)=true)∧(∀ l:List Route,Zbi (l.map Route.u)=true):=
 ⟨Zjd fun _=>rfl,Zjd fun _=>rfl,Zjd fun _=>rfl,Zjd fun _=>rfl,Zjd fun _=>rfl,Zjd fun _=>rfl,Zjd fun _=>rfl⟩
theorem ZIe:(∀ i n,vlen (.t (.sc (.down i n)))=some (DI (n:Int)))∧(∀ i a b n,vlen (.t (.sc (.sub i a b n)))=some (DI (n:Int))):=⟨fun _ _=>rfl,fun _ _ _ _=>rfl⟩
theorem ZHh {rows:List (List U)} {i c:Nat} {x:U} {row:List U} (h:i<rows.length):Zal (rows.set i row) i c x=rows.set i (row.set c x):=by
 rw [ZhY (ZFP rows i h row),List.set_set]
def mRep (K:Int) (r:Replica):Replica:=⟨⟨K,mkL ZHM 1 (K+1) r.conf.members.length,decide ((K+1+1 * (r.conf.members.length:Int)).tmod 3=0)⟩,decide ((K+1+1 * (r.conf.members.length:Int)+1).tmod 3=0),mkL ZGD 6 (K+1+1 * (r.conf.members.length:Int)+1+1) r.log.length⟩
theorem ZJs (l:List Replica) (K:Int) (h1:1≤K) (h2:K+sumW wRep l≤4611686018427387904):EE F 151 [.sc (.down (.par 0) l.length),I K] [.deep 5 (l.map Replica.u)]=some ⟨[I (K+sumW wRep l)],[],[.deep 5 ((mGo wRep mRep K l).map Replica.u)]⟩:=by
 have hln:3*l.length≤sumW wRep l:=by rw [show wRep=fun r=>3+cRep r from rfl,ZFS]; omega
 refine (EE_run (fn:=i151) (by kernel_rfl) rfl).trans ?_
 simp only[i151,b151,ZdN,ZcQ,List.length_cons,List.length_nil]
 simp only[↓xP,xT,rL,rB,rA,rS]
 refine (Zjc (fun (i:Nat) st=>i≤l.length∧st.s 0=.t (.sc (.down (.par 0) l.length))∧st.s 5=DI i∧st.s 1=DI (K+sumW wRep (l.take i))∧st.o (.par 0)=some (.deep 5 ((mMid wRep mRep K l i).map Replica.u))) (fun i=>l.length - i) (fun i=>some ⟨[I (K+sumW wRep l)],[],[.deep 5 ((mGo wRep mRep K l).map Replica.u)]⟩) ?_ 0 ⟨by omega,by simp only[↓xP,xT,rL,rB,rA,rS],by simp only[↓xP,xT,rL,rB,rA,rS]; rfl,by simp only[↓xP,xT,rL,rB,rA,rS,List.take_zero,sumW]; exact ZFk (by omega),by simp only[↓xP,xT,rL,rB,rA,rS,ZHe]⟩).trans rfl
 rintro i st ⟨hle,h0,h5,h1',ho⟩ ih
 by_cases hi:i<l.length
 ·obtain ⟨⟨⟨e,ms,f⟩,rd,lg⟩,hx⟩:∃ x,l[i]?=some x:=⟨_,List.getElem?_eq_getElem hi⟩
  have hw:=w_succ (i:=i) (by omega)
  have hg:=ZHJ (u:=Replica.u) wRep mRep K hx
  have hf:=ZHK (u:=Replica.u) wRep mRep K hx
  have hlen:i<((mMid wRep mRep K l i).map Replica.u).length:=by rw [List.length_map,ZHI]; omega
  have hst:=ZGQ wRep hx
  have hsl:=ZGR wRep l (i+1)
  simp only[wRep,cRep] at hst
  have hk0:1≤K+sumW wRep (l.take i):=by omega
  generalize (mMid wRep mRep K l i).map Replica.u=r at hg hf hlen ho
  obtain ⟨K',hK⟩:∃ K',K'=K+sumW wRep (l.take i):=⟨_,rfl⟩
  rw [←hK] at h1' hf
  have hK2:K+sumW wRep (l.take (i+1))=K'+1+1 * (ms.length:Int)+1+1+6 * (lg.length:Int):=by omega
  have hK3:K'+1+1 * (ms.length:Int)+1+1+6 * (lg.length:Int)≤4611686018427387904:=by omega
  simp only[Replica.u,mRep] at hg hf
  have hgs:=ZFP r i hlen
  have hw0:IntKind.i64.wrap (K'+1)=K'+1:=by rw [w64 (by omega) (by omega)]
  have mk1:=ZHL ms (K'+1) (by omega) (by omega)
  have hw2:IntKind.i64.wrap (K'+1+1 * (ms.length:Int)+1)=K'+1+1 * (ms.length:Int)+1:=by rw [w64 (by omega) (by omega)]
  have hw3:IntKind.i64.wrap (K'+1+1 * (ms.length:Int)+1+1)=K'+1+1 * (ms.length:Int)+1+1:=by rw [w64 (by omega) (by omega)]
  have mk4:=ZH9 lg (K'+1+1 * (ms.length:Int)+1+1) (by omega) (by omega)
  have h3_0:¬(3:Int)=0:=by omega
  simp only[↓xP,xT,rL,rB,rA,rS,h0,h5,h1',ho,hi,hg,hgs,List.set_set,List.set_cons_succ,List.set_cons_zero,ZHh hlen,ZIe,hw,hw0,hw2,hw3,mk1,mk4,h3_0,ZJZ,List.length_map,ZS,hf]
  exact ih (i+1) _ (by omega) ⟨by omega,by simp only[↓xP,xT,rL,rB,rA,rS,h0],by simp only[↓xP,xT,rL,rB,rA,rS],by simp only[↓xP,xT,rL,rB,rA,rS]; exact ZFk (by omega),by simp only[↓xP,xT,rL,rB,rA,rS]⟩
 ·have:i=l.length:=by omega
  subst this
  rw [ZHH] at ho
  simp only[↓xP,xT,rL,rB,rA,rS,h0,h5,h1',ho,hi,ZIe,List.take_length,List.length_map,ZFn]
def mMsg (K:Int):Message→Message
 | ⟨kd,tt,eo,⟨ep,ms,fr⟩,lg⟩=>⟨K,K+1,K+1+1,⟨K+1+1+1,mkL ZHM 1 (K+1+1+1+1) ms.length,decide ((K+1+1+1+1+1 * (ms.length:Int)).tmod 3=0)⟩,mkL ZGD 6 (K+1+1+1+1+1 * (ms.length:Int)+1) lg.length⟩
theorem ZJr (l:List Message) (K:Int) (h1:1≤K) (h2:K+sumW wMsg l≤4611686018427387904):EE F 153 [.sc (.down (.par 0) l.length),I K] [.deep 7 (l.map Message.u)]=some ⟨[I (K+sumW wMsg l)],[],[.deep 7 ((mGo wMsg mMsg K l).map Message.u)]⟩:=by
 have hln:5*l.length≤sumW wMsg l:=by rw [show wMsg=fun x=>5+cMsg x from rfl,ZFS]; omega
 refine (EE_run (fn:=i153) (by kernel_rfl) rfl).trans ?_
 simp only[i153,b153,ZdN,ZcQ,List.length_cons,List.length_nil]
 simp only[↓xP,xT,rL,rB,rA,rS]
 refine (Zjc (fun (i:Nat) st=>i≤l.length∧st.s 0=.t (.sc (.down (.par 0) l.length))∧st.s 5=DI i∧st.s 1=DI (K+sumW wMsg (l.take i))∧st.o (.par 0)=some (.deep 7 ((mMid wMsg mMsg K l i).map Message.u))) (fun i=>l.length - i) (fun i=>some ⟨[I (K+sumW wMsg l)],[],[.deep 7 ((mGo wMsg mMsg K l).map Message.u)]⟩) ?_ 0 ⟨by omega,by simp only[↓xP,xT,rL,rB,rA,rS],by simp only[↓xP,xT,rL,rB,rA,rS]; rfl,by simp only[↓xP,xT,rL,rB,rA,rS,List.take_zero,sumW]; exact ZFk (by omega),by simp only[↓xP,xT,rL,rB,rA,rS,ZHe]⟩).trans rfl
 rintro i st ⟨hle,h0,h5,h1',ho⟩ ih
 by_cases hi:i<l.length
 ·obtain ⟨⟨kd,tt,eo,⟨ep,ms,fr⟩,lg⟩,hx⟩:∃ x,l[i]?=some x:=⟨_,List.getElem?_eq_getElem hi⟩
  have hw:=w_succ (i:=i) (by omega)
  have hg:=ZHJ (u:=Message.u) wMsg mMsg K hx
  have hf:=ZHK (u:=Message.u) wMsg mMsg K hx
  have hlen:i<((mMid wMsg mMsg K l i).map Message.u).length:=by rw [List.length_map,ZHI]; omega
  have hst:=ZGQ wMsg hx
  have hsl:=ZGR wMsg l (i+1)
  simp only[wMsg,cMsg] at hst
  have hk0:1≤K+sumW wMsg (l.take i):=by omega
  generalize (mMid wMsg mMsg K l i).map Message.u=r at hg hf hlen ho
  obtain ⟨K',hK⟩:∃ K',K'=K+sumW wMsg (l.take i):=⟨_,rfl⟩
  rw [←hK] at h1' hf
  have hK2:K+sumW wMsg (l.take (i+1))=K'+1+1+1+1+1 * (ms.length:Int)+1+6 * (lg.length:Int):=by omega
  have hK3:K'+1+1+1+1+1 * (ms.length:Int)+1+6 * (lg.length:Int)≤4611686018427387904:=by omega
  simp only[Message.u,mMsg] at hg hf
  have hgs:=ZFP r i hlen
  have hw0:IntKind.i64.wrap (K'+1)=K'+1:=by rw [w64 (by omega) (by omega)]
  have hw1:IntKind.i64.wrap (K'+1+1)=K'+1+1:=by rw [w64 (by omega) (by omega)]
  have hw2:IntKind.i64.wrap (K'+1+1+1)=K'+1+1+1:=by rw [w64 (by omega) (by omega)]
  have hw3:IntKind.i64.wrap (K'+1+1+1+1)=K'+1+1+1+1:=by rw [w64 (by omega) (by omega)]
  have mk4:=ZHL ms (K'+1+1+1+1) (by omega) (by omega)
  have hw5:IntKind.i64.wrap (K'+1+1+1+1+1 * (ms.length:Int)+1)=K'+1+1+1+1+1 * (ms.length:Int)+1:=by rw [w64 (by omega) (by omega)]
  have mk6:=ZH9 lg (K'+1+1+1+1+1 * (ms.length:Int)+1) (by omega) (by omega)
  have h3_0:¬(3:Int)=0:=by omega
  simp only[↓xP,xT,rL,rB,rA,rS,h0,h5,h1',ho,hi,hg,hgs,List.set_set,List.set_cons_succ,List.set_cons_zero,ZHh hlen,ZIe,hw,hw0,hw1,hw2,hw3,mk4,hw5,mk6,h3_0,ZJZ,List.length_map,ZS,ZFn,hf]
  exact ih (i+1) _ (by omega) ⟨by omega,by simp only[↓xP,xT,rL,rB,rA,rS,h0],by simp only[↓xP,xT,rL,rB,rA,rS],by simp only[↓xP,xT,rL,rB,rA,rS]; exact ZFk (by omega),by simp only[↓xP,xT,rL,rB,rA,rS]⟩
 ·have:i=l.length:=by omega
  subst this
  rw [ZHH] at ho
  simp only[↓xP,xT,rL,rB,rA,rS,h0,h5,h1',ho,hi,ZIe,List.take_length,List.length_map,ZFn]
def mCal (K:Int):Caller→Caller
 | ⟨cch,sq,bz,⟨ck,ckey,cv,co⟩,cd⟩=>⟨mkL ZGO 3 (K) cch.length,K+3 * (cch.length:Int),decide ((K+3 * (cch.length:Int)+1).tmod 3=0),⟨K+3 * (cch.length:Int)+1+1,ZGY (K+3 * (cch.length:Int)+1+1+1),K+3 * (cch.length:Int)+1+1+1+1,K+3 * (cch.length:Int)+1+1+1+1+1⟩,K+3 * (cch.length:Int)+1+1+1+1+1+1⟩
theorem ZJQ (l:List Caller) (K:Int) (h1:1≤K) (h2:K+sumW wCal l≤4611686018427387904):EE F 85 [.sc (.down (.par 0) l.length),I K] [.deep 8 (l.map Caller.u)]=some ⟨[I (K+sumW wCal l)],[],[.deep 8 ((mGo wCal mCal K l).map Caller.u)]⟩:=by
 have hln:7*l.length≤sumW wCal l:=by rw [show wCal=fun x=>7+cCal x from rfl,ZFS]; omega
 refine (EE_run (fn:=i85) (by kernel_rfl) rfl).trans ?_
 simp only[i85,b85,ZdN,ZcQ,List.length_cons,List.length_nil]
 simp only[↓xP,xT,rL,rB,rA,rS]
 refine (Zjc (fun (i:Nat) st=>i≤l.length∧st.s 0=.t (.sc (.down (.par 0) l.length))∧st.s 5=DI i∧st.s 1=DI (K+sumW wCal (l.take i))∧st.o (.par 0)=some (.deep 8 ((mMid wCal mCal K l i).map Caller.u))) (fun i=>l.length - i) (fun i=>some ⟨[I (K+sumW wCal l)],[],[.deep 8 ((mGo wCal mCal K l).map Caller.u)]⟩) ?_ 0 ⟨by omega,by simp only[↓xP,xT,rL,rB,rA,rS],by simp only[↓xP,xT,rL,rB,rA,rS]; rfl,by simp only[↓xP,xT,rL,rB,rA,rS,List.take_zero,sumW]; exact ZFk (by omega),by simp only[↓xP,xT,rL,rB,rA,rS,ZHe]⟩).trans rfl
 rintro i st ⟨hle,h0,h5,h1',ho⟩ ih
 by_cases hi:i<l.length
 ·obtain ⟨⟨cch,sq,bz,⟨ck,ckey,cv,co⟩,cd⟩,hx⟩:∃ x,l[i]?=some x:=⟨_,List.getElem?_eq_getElem hi⟩
  have hw:=w_succ (i:=i) (by omega)
  have hg:=ZHJ (u:=Caller.u) wCal mCal K hx
  have hf:=ZHK (u:=Caller.u) wCal mCal K hx
  have hlen:i<((mMid wCal mCal K l i).map Caller.u).length:=by rw [List.length_map,ZHI]; omega
  have hst:=ZGQ wCal hx
  have hsl:=ZGR wCal l (i+1)
  simp only[wCal,cCal] at hst
  have hk0:1≤K+sumW wCal (l.take i):=by omega
  generalize (mMid wCal mCal K l i).map Caller.u=r at hg hf hlen ho
  obtain ⟨K',hK⟩:∃ K',K'=K+sumW wCal (l.take i):=⟨_,rfl⟩
  rw [←hK] at h1' hf
  have hK2:K+sumW wCal (l.take (i+1))=K'+3 * (cch.length:Int)+1+1+1+1+1+1+1:=by omega
  have hK3:K'+3 * (cch.length:Int)+1+1+1+1+1+1+1≤4611686018427387904:=by omega
  simp only[Caller.u,mCal] at hg hf
  have hgs:=ZFP r i hlen
  have hks:=fun c x=>ZhY (c:=c) (x:=x) hg
  have mk0:=ZKd cch (K') (by omega) (by omega)
  have hw1:IntKind.i64.wrap (K'+3 * (cch.length:Int)+1)=K'+3 * (cch.length:Int)+1:=by rw [w64 (by omega) (by omega)]
  have hw2:IntKind.i64.wrap (K'+3 * (cch.length:Int)+1+1)=K'+3 * (cch.length:Int)+1+1:=by rw [w64 (by omega) (by omega)]
  have hw3:IntKind.i64.wrap (K'+3 * (cch.length:Int)+1+1+1)=K'+3 * (cch.length:Int)+1+1+1:=by rw [w64 (by omega) (by omega)]
  have hw4:IntKind.i64.wrap (K'+3 * (cch.length:Int)+1+1+1+1)=K'+3 * (cch.length:Int)+1+1+1+1:=by rw [w64 (by omega) (by omega)]
  have mt4:=ZQ (K'+3 * (cch.length:Int)+1+1+1) (by omega) (by omega)
  have hw5:IntKind.i64.wrap (K'+3 * (cch.length:Int)+1+1+1+1+1)=K'+3 * (cch.length:Int)+1+1+1+1+1:=by rw [w64 (by omega) (by omega)]
  have hw6:IntKind.i64.wrap (K'+3 * (cch.length:Int)+1+1+1+1+1+1)=K'+3 * (cch.length:Int)+1+1+1+1+1+1:=by rw [w64 (by omega) (by omega)]
  have hw7:IntKind.i64.wrap (K'+3 * (cch.length:Int)+1+1+1+1+1+1+1)=K'+3 * (cch.length:Int)+1+1+1+1+1+1+1:=by rw [w64 (by omega) (by omega)]
  have h3_0:¬(3:Int)=0:=by omega
  simp only[↓xP,xT,rL,rB,rA,rS,h0,h5,h1',ho,hi,hg,hgs,List.set_set,List.set_cons_succ,List.set_cons_zero,ZHh hlen,ZIe,hw,mk0,hw1,hw2,hw3,hw4,mt4,hw5,hw6,hw7,h3_0,hks,ZJZ,List.length_map,ZS,ZFn,hf]
  exact ih (i+1) _ (by omega) ⟨by omega,by simp only[↓xP,xT,rL,rB,rA,rS,h0],by simp only[↓xP,xT,rL,rB,rA,rS],by simp only[↓xP,xT,rL,rB,rA,rS]; exact ZFk (by omega),by simp only[↓xP,xT,rL,rB,rA,rS]⟩
 ·have:i=l.length:=by omega
  subst this
  rw [ZHH] at ho
  simp only[↓xP,xT,rL,rB,rA,rS,h0,h5,h1',ho,hi,ZIe,List.take_length,List.length_map,ZFn]
def mShd (K:Int):Shard→Shard
 | ⟨lv,⟨⟨⟨lo,up⟩,prs,kn,sld,cut⟩,⟨ep,ms,fr⟩,nds,ups,bag,ans⟩⟩=>⟨decide ((K).tmod 3=0),⟨⟨⟨ZGY (K+1),ZGY (K+1+1)⟩,mkL ZF2 2 (K+1+1+1) prs.length,mkL ZFe 3 (K+1+1+1+2 * (prs.length:Int)) kn.length,decide ((K+1+1+1+2 * (prs.length:Int)+3 * (kn.length:Int)).tmod 3=0),ZGY (K+1+1+1+2 * (prs.length:Int)+3 * (kn.length:Int)+1)⟩,⟨K+1+1+1+2 * (prs.length:Int)+3 * (kn.length:Int)+1+1,mkL ZHM 1 (K+1+1+1+2 * (prs.length:Int)+3 * (kn.length:Int)+1+1+1) ms.length,decide ((K+1+1+1+2 * (prs.length:Int)+3 * (kn.length:Int)+1+1+1+1 * (ms.length:Int)).tmod 3=0)⟩,mGo wRep mRep (K+1+1+1+2 * (prs.length:Int)+3 * (kn.length:Int)+1+1+1+1 * (ms.length:Int)+1) nds,mkL ZHo 1 (K+1+1+1+2 * (prs.length:Int)+3 * (kn.length:Int)+1+1+1+1 * (ms.length:Int)+1 + (sumW wRep nds:Int)) ups.length,mGo wMsg mMsg (K+1+1+1+2 * (prs.length:Int)+3 * (kn.length:Int)+1+1+1+1 * (ms.length:Int)+1 + (sumW wRep nds:Int)+1 * (ups.length:Int)) bag,mkL ZGm 7 (K+1+1+1+2 * (prs.length:Int)+3 * (kn.length:Int)+1+1+1+1 * (ms.length:Int)+1 + (sumW wRep nds:Int)+1 * (ups.length:Int) + (sumW wMsg bag:Int)) ans.length⟩⟩
theorem ZKe (l:List Shard) (K:Int) (h1:1≤K) (h2:K+sumW Z8 l≤4611686018427387904):EE F 84 [.sc (.down (.par 0) l.length),I K] [.deep 14 (l.map Shard.u)]=some ⟨[I (K+sumW Z8 l)],[],[.deep 14 ((mGo Z8 mShd K l).map Shard.u)]⟩:=by
 have hln:7*l.length≤sumW Z8 l:=by rw [show Z8=fun x=>7+cChn x.group from rfl,ZFS]; omega
 refine (EE_run (fn:=i84) (by kernel_rfl) rfl).trans ?_
 simp only[i84,b84,ZdN,ZcQ,List.length_cons,List.length_nil]
 simp only[↓xP,xT,rL,rB,rA,rS]
 refine (Zjc (fun (i:Nat) st=>i≤l.length∧st.s 0=.t (.sc (.down (.par 0) l.length))∧st.s 5=DI i∧st.s 1=DI (K+sumW Z8 (l.take i))∧st.o (.par 0)=some (.deep 14 ((mMid Z8 mShd K l i).map Shard.u))) (fun i=>l.length - i) (fun i=>some ⟨[I (K+sumW Z8 l)],[],[.deep 14 ((mGo Z8 mShd K l).map Shard.u)]⟩) ?_ 0 ⟨by omega,by simp only[↓xP,xT,rL,rB,rA,rS],by simp only[↓xP,xT,rL,rB,rA,rS]; rfl,by simp only[↓xP,xT,rL,rB,rA,rS,List.take_zero,sumW]; exact ZFk (by omega),by simp only[↓xP,xT,rL,rB,rA,rS,ZHe]⟩).trans rfl
 rintro i st ⟨hle,h0,h5,h1',ho⟩ ih
 by_cases hi:i<l.length
 ·obtain ⟨⟨lv,⟨⟨⟨lo,up⟩,prs,kn,sld,cut⟩,⟨ep,ms,fr⟩,nds,ups,bag,ans⟩⟩,hx⟩:∃ x,l[i]?=some x:=⟨_,List.getElem?_eq_getElem hi⟩
  have hw:=w_succ (i:=i) (by omega)
  have hg:=ZHJ (u:=Shard.u) Z8 mShd K hx
  have hf:=ZHK (u:=Shard.u) Z8 mShd K hx
  have hlen:i<((mMid Z8 mShd K l i).map Shard.u).length:=by rw [List.length_map,ZHI]; omega
  have hst:=ZGQ Z8 hx
  have hsl:=ZGR Z8 l (i+1)
  simp only[Z8,cChn] at hst
  have hk0:1≤K+sumW Z8 (l.take i):=by omega
  generalize (mMid Z8 mShd K l i).map Shard.u=r at hg hf hlen ho
  obtain ⟨K',hK⟩:∃ K',K'=K+sumW Z8 (l.take i):=⟨_,rfl⟩
  rw [←hK] at h1' hf
  have hK2:K+sumW Z8 (l.take (i+1))=K'+1+1+1+2 * (prs.length:Int)+3 * (kn.length:Int)+1+1+1+1 * (ms.length:Int)+1 + (sumW wRep nds:Int)+1 * (ups.length:Int) + (sumW wMsg bag:Int)+7 * (ans.length:Int):=by omega
  have hK3:K'+1+1+1+2 * (prs.length:Int)+3 * (kn.length:Int)+1+1+1+1 * (ms.length:Int)+1 + (sumW wRep nds:Int)+1 * (ups.length:Int) + (sumW wMsg bag:Int)+7 * (ans.length:Int)≤4611686018427387904:=by omega
  simp only[Shard.u,mShd] at hg hf
  have hgs:=ZFP r i hlen
  have hw0:IntKind.i64.wrap (K'+1)=K'+1:=by rw [w64 (by omega) (by omega)]
  have hw1:IntKind.i64.wrap (K'+1+1)=K'+1+1:=by rw [w64 (by omega) (by omega)]
  have mt1:=ZQ (K'+1) (by omega) (by omega)
  have hw2:IntKind.i64.wrap (K'+1+1+1)=K'+1+1+1:=by rw [w64 (by omega) (by omega)]
  have mt2:=ZQ (K'+1+1) (by omega) (by omega)
  have mk3:=ZIE prs (K'+1+1+1) (by omega) (by omega)
  have mk4:=ZHy kn (K'+1+1+1+2 * (prs.length:Int)) (by omega) (by omega)
  have hw5:IntKind.i64.wrap (K'+1+1+1+2 * (prs.length:Int)+3 * (kn.length:Int)+1)=K'+1+1+1+2 * (prs.length:Int)+3 * (kn.length:Int)+1:=by rw [w64 (by omega) (by omega)]
  have hw6:IntKind.i64.wrap (K'+1+1+1+2 * (prs.length:Int)+3 * (kn.length:Int)+1+1)=K'+1+1+1+2 * (prs.length:Int)+3 * (kn.length:Int)+1+1:=by rw [w64 (by omega) (by omega)]
  have mt6:=ZQ (K'+1+1+1+2 * (prs.length:Int)+3 * (kn.length:Int)+1) (by omega) (by omega)
  have hw7:IntKind.i64.wrap (K'+1+1+1+2 * (prs.length:Int)+3 * (kn.length:Int)+1+1+1)=K'+1+1+1+2 * (prs.length:Int)+3 * (kn.length:Int)+1+1+1:=by rw [w64 (by omega) (by omega)]
  have mk8:=ZHL ms (K'+1+1+1+2 * (prs.length:Int)+3 * (kn.length:Int)+1+1+1) (by omega) (by omega)
  have hw9:IntKind.i64.wrap (K'+1+1+1+2 * (prs.length:Int)+3 * (kn.length:Int)+1+1+1+1 * (ms.length:Int)+1)=K'+1+1+1+2 * (prs.length:Int)+3 * (kn.length:Int)+1+1+1+1 * (ms.length:Int)+1:=by rw [w64 (by omega) (by omega)]
  have mk10:=ZJs nds (K'+1+1+1+2 * (prs.length:Int)+3 * (kn.length:Int)+1+1+1+1 * (ms.length:Int)+1) (by omega) (by omega)
  have mk11:=ZKY ups (K'+1+1+1+2 * (prs.length:Int)+3 * (kn.length:Int)+1+1+1+1 * (ms.length:Int)+1 + (sumW wRep nds:Int)) (by omega) (by omega)
  have mk12:=ZJr bag (K'+1+1+1+2 * (prs.length:Int)+3 * (kn.length:Int)+1+1+1+1 * (ms.length:Int)+1 + (sumW wRep nds:Int)+1 * (ups.length:Int)) (by omega) (by omega)
  have mk13:=ZJP ans (K'+1+1+1+2 * (prs.length:Int)+3 * (kn.length:Int)+1+1+1+1 * (ms.length:Int)+1 + (sumW wRep nds:Int)+1 * (ups.length:Int) + (sumW wMsg bag:Int)) (by omega) (by omega)
  have h3_0:¬(3:Int)=0:=by omega
  simp only[↓xP,xT,rL,rB,rA,rS,h0,h5,h1',ho,hi,hg,hgs,List.set_set,List.set_cons_succ,List.set_cons_zero,ZHh hlen,ZIe,hw,hw0,hw1,mt1,hw2,mt2,mk3,mk4,hw5,hw6,mt6,hw7,mk8,hw9,mk10,mk11,mk12,mk13,h3_0,ZJZ,List.length_map,ZS,ZFn,hf]
  exact ih (i+1) _ (by omega) ⟨by omega,by simp only[↓xP,xT,rL,rB,rA,rS,h0],by simp only[↓xP,xT,rL,rB,rA,rS],by simp only[↓xP,xT,rL,rB,rA,rS]; exact ZFk (by omega),by simp only[↓xP,xT,rL,rB,rA,rS]⟩
 ·have:i=l.length:=by omega
  subst this
  rw [ZHH] at ho
  simp only[↓xP,xT,rL,rB,rA,rS,h0,h5,h1',ho,hi,ZIe,List.take_length,List.length_map,ZFn]
theorem ZNK:∀ z r z' r',ZaJ (some (.deep z r)) (.deep z' r')=decide (r.length≤r'.length):=fun _ _ _ _=>rfl
theorem ZJR (c0:List Shard) (c1:List Caller) (c2:List Result) (c3 c4 c5:Int) (c6:Str) (c7 c8 c9 c10 c11:Int) (K:Int) (h1:1≤K) (h2:K+sumW Z8 c0+sumW wCal c1+9*c2.length≤4611686018427387904):EE F 27 [.ag [.down (.par 0) c0.length,.down (.par 1) c1.length,.own (.par 2) c2.length,.u (.int .i64 c3),.u (.int .i64 c4),.u (.int .i64 c5),.u (.str c6),.u (.int .i64 c7),.u (.int .i64 c8),.u (.int .i64 c9),.u (.int .i64 c10),.u (.int .i64 c11)],I K] [.deep 14 (c0.map Shard.u),.deep 8 (c1.map Caller.u),.row 9 (c2.map Result.u)] =
  some ⟨[I (K+sumW Z8 c0+sumW wCal c1+9*c2.length)],[],[.deep 14 ((mGo Z8 mShd K c0).map Shard.u),.deep 8 ((mGo wCal mCal (K+sumW Z8 c0) c1).map Caller.u),.row 9 ((mkL ZGn 9 (K+sumW Z8 c0+sumW wCal c1) c2.length).map Result.u)]⟩:=by
 refine (EE_run (fn:=i27) (by kernel_rfl) rfl).trans ?_
 have m1:=ZKe c0 K h1 (by omega)
 have m2:=ZJQ c1 (K+sumW Z8 c0) (by omega) (by omega)
 have m3:=ZJS c2 (K+sumW Z8 c0+sumW wCal c1) (by omega) (by omega)
 simp only[i27,b27,ZdN,ZcQ,List.length_cons,List.length_nil]
 simp only[↓xP,xT,rL,rB,rA,rS,m1,m2,m3,ZNK,Nat.le_refl,List.length_map,ZFn,ZS]
def insS (x:Session):List Session→List Session
 | []=>[x]
 | y::l=>if y.client<x.client then y::insS x l else if y.client=x.client then x::l else x::y::l
def ZFA (c:Int):List Session→Session
 | []=>⟨0,0,0⟩
 | y::l=>if y.client=c then y else ZFA c l
def ZFx (l:List Session) (x:Session):List Session×Bool:=if (ZF l&&ZF [x])=true then (if x.seq≤(ZFA x.client l).seq then (l,false) else (insS x l,true)) else ([],false)
def ZFs (p:List Session×Bool):Option Ret:=some ⟨[.sc (.own (.par 0) p.1.length),B p.2],[.row 3 (p.1.map Session.u)],[]⟩
theorem ZH2 {l:List Session} (h:ZF l=true) {i:Nat} {p:Session} (hp:l[i]?=some p):inR p.client 0 3=true∧inR p.seq 1 999=true∧inR p.reply (-2) 999=true∧∀ q,0<i→l[i - 1]?=some q→q.client<p.client:=by
 have:=(ZFz (n:=l.length) (p:=ZZ l) _ 0 rfl).1 h i (by omega) (List.getElem?_eq_some_iff.1 hp).1
 simp only[ZZ,hp,Bool.and_eq_true,Bool.or_eq_true,decide_eq_true_eq] at this
 refine ⟨this.1.1.1,this.1.1.2,this.1.2,fun q h0 hq=>?_⟩
 rw [hq] at this
 rcases this.2 with h|h
 ·omega
 ·simpa using h
theorem ZJx {l:List Session} (h:ZF l=true):∀ (j i:Nat) (p q:Session),i<j→l[i]?=some p→l[j]?=some q→p.client<q.client
 | 0,i,p,q,hij,_,_=>by omega
 | j + 1,i,p,q,hij,hp,hq=>by
  obtain ⟨r,hr⟩:∃ r,l[j]?=some r:=⟨_,List.getElem?_eq_getElem (by have:=(List.getElem?_eq_some_iff.1 hq).1; omega)⟩
  have h1:=(ZH2 h hq).2.2.2 r (by omega) (by simpa using hr)
  by_cases e:i=j
  ·subst e; rw [hp] at hr; cases hr; exact h1
  ·have:=ZJx h j i p r (by omega) hp hr
   omega
def AscS:List Session→Prop
 | []=>True
 | x::l=>(∀ y,y∈l→x.client<y.client)∧AscS l
theorem ZMD:∀ (l:List Session),(∀ (i j:Nat) (p q:Session),i<j→l[i]?=some p→l[j]?=some q→p.client<q.client)→AscS l
 | [],_=>trivial
 | x::l,h=>by
  refine ⟨fun y hy=>?_,ZMD l fun i j p q hij hp hq=>h (i+1) (j+1) p q (by omega) (by simpa using hp) (by simpa using hq)⟩
  obtain ⟨k,hk⟩:=List.getElem?_of_mem hy
  exact h 0 (k+1) x y (by omega) (by simp) (by simpa using hk)
theorem ZIL {l:List Session} (h:ZF l=true):AscS l:=ZMD l fun i j p q=>ZJx h j i p q
/-- What the binary search says of a list. -/
theorem ZNx (x:Session):∀ (l:List Session) (i:Nat),i≤l.length→(∀ (k:Nat) p,k<i→l[k]?=some p→p.client<x.client)→(∀ q,l[i]?=some q→x.client≤q.client)→
  insS x l=(match l[i]? with
   | some q=>if q.client=x.client then rep l i 1 [x] else rep l i 0 [x]
   | none=>rep l i 0 [x])
 | [],i,hi,_,_=>by
  have:i=0:=by simpa using hi
  subst this; simp [insS,rep]
 | y::l,0,_,_,h2=>by
  have:=h2 y (by simp)
  have hn:¬y.client<x.client:=by omega
  by_cases e:y.client=x.client
  ·simp [insS,hn,e,rep]
  ·simp [insS,hn,e,rep]
 | y::l,i+1,hi,h1,h2=>by
  have hy:=h1 0 y (by omega) (by simp)
  have ih:=ZNx x l i (by simpa using hi) (fun k p hk hp=>h1 (k+1) p (by omega) (by simpa using hp)) (fun q hq=>h2 q (by simpa using hq))
  simp only[insS,hy,if_true,ih,List.getElem?_cons_succ]
  cases l[i]? with
  | none=>simp [rep]
  | some q=>by_cases e:q.client=x.client<;>simp [rep,e,Nat.add_right_comm]
theorem ZKV (c:Int):∀ (l:List Session) (i:Nat),AscS l→i≤l.length→(∀ (k:Nat) p,k<i→l[k]?=some p→p.client<c)→(∀ q,l[i]?=some q→c≤q.client)→
  ZFA c l=(match l[i]? with
   | some q=>if q.client=c then q else ⟨0,0,0⟩
   | none=>⟨0,0,0⟩)
 | [],i,_,hi,_,_=>by simp [ZFA]
 | y :: l,0,ha,_,_,h2=>by
  have hy:=h2 y (by simp)
  by_cases e:y.client=c
  ·simp [ZFA,e]
  ·have hno:∀ m:List Session,(∀ z,z∈m→c<z.client)→ZFA c m=⟨0,0,0⟩:=by
    intro m
    induction m with
    | nil=>intro _; rfl
    | cons z m ih=>
     intro hz
     have:=hz z (List.mem_cons_self ..)
     have hne:¬z.client=c:=by omega
     simp only[ZFA,hne,if_false]
     exact ih fun w hw=>hz w (List.mem_cons_of_mem _ hw)
   simp only[ZFA,e,if_false,List.getElem?_cons_zero]
   exact hno l fun z hz=>by have:=ha.1 z hz; omega
 | y::l,i+1,ha,hi,h1,h2=>by
  have hy:=h1 0 y (by omega) (by simp)
  have hne:¬y.client=c:=by omega
  have ih:=ZKV c l i ha.2 (by simpa using hi) (fun k p hk hp=>h1 (k+1) p (by omega) (by simpa using hp)) (fun q hq=>h2 q (by simpa using hq))
  simp only[ZFA,hne,if_false,ih,List.getElem?_cons_succ]
/-- What the reference's loop makes. -/
def sFin (x:Session):Bool→List Session→List Session
 | pl,[]=>if pl=true then [] else [x]
 | pl,y::l=>(if (!pl&&decide (x.client≤y.client))=true then [x] else [])++((if y.client=x.client then [] else [y])++sFin x (pl||decide (x.client≤y.client)) l)
theorem ZKL (x:Session):∀ l:List Session,(∀ y,y∈l→x.client<y.client)→sFin x true l=l
 | [],_=>rfl
 | y::l,h=>by
  have:=h y (List.mem_cons_self ..)
  have hne:¬y.client=x.client:=by omega
  simp [sFin,hne,ZKL x l fun z hz=>h z (List.mem_cons_of_mem _ hz)]
theorem ZLO (x:Session):∀ l:List Session,AscS l→sFin x false l=insS x l
 | [],_=>rfl
 | y :: l,h=>by
  by_cases h1:y.client<x.client
  ·have hn:¬x.client≤y.client:=by omega
   have hne:¬y.client=x.client:=by omega
   simp [sFin,insS,h1,hn,hne,ZLO x l h.2]
  ·have hn:x.client≤y.client:=by omega
   have ht:=ZKL x l fun z hz=>by have:=h.1 z hz; omega
   by_cases e:y.client=x.client
   ·simp [sFin,insS,hn,e,h1,ht]
   ·simp [sFin,insS,hn,e,h1,ht]
theorem ZI2 (l:List Session) (x:Int) (ha:∀ (i j:Nat) (p q:Session),i<j→l[i]?=some p→l[j]?=some q→p.client<q.client) (hn:l.length≤1048576):Ok (fun r=>∃ (i:Nat) (b:Bool),r=⟨[I i,B b],[],[]⟩∧i≤l.length∧(∀ (k:Nat) p,k<i→l[k]?=some p→p.client<x)∧(∀ q,l[i]?=some q→x≤q.client∧b=decide (q.client=x))∧(l[i]?=none→b=false)) (EE F 297 [L 3 (l.map Session.u),I x,.sc (.u (.fn 298 []))] []):=by
 refine Ok.run (fn:=i297) (by kernel_rfl) rfl ?_
 simp only[i297,b297,ZdN,ZcQ]
 simp only[↓xP,xT,rL,rB,rA,rS]
 refine ZM6 (fun (a:Nat×Nat) st=>a.1≤a.2∧a.2≤l.length∧(∀ (k:Nat) p,k<a.1→l[k]?=some p→p.client<x)∧(∀ (k:Nat) q,a.2≤k→l[k]?=some q→x≤q.client)∧st.s 0=DU (.sl 3 (l.map Session.u))∧st.s 1=DI x∧st.s 2=.t (.sc (.u (.fn 298 [])))∧st.s 8=DI l.length∧st.s 9=DI a.1∧st.s 10=DI a.2) (fun a=>a.2 - a.1) ?_ (0,l.length) ⟨by omega,by dsimp only; omega,fun k p hk=>by dsimp only at hk; omega,fun k q hk hq=>by have:=(List.getElem?_eq_some_iff.1 hq).1; dsimp only at hk; omega,by simp only[↓xP,xT,rL,rB,rA,rS],by simp only[↓xP,xT,rL,rB,rA,rS],by simp only[↓xP,xT,rL,rB,rA,rS],by simp only[↓xP,xT,rL,rB,rA,rS],by simp only[↓xP,xT,rL,rB,rA,rS]; rfl,by simp only[↓xP,xT,rL,rB,rA,rS]⟩
 rintro ⟨i,j⟩ st ⟨hij,hj,g1,g2,h0,h1,h2,h8,h9,h10⟩ ih
 dsimp only at hij hj g1 g2 h9 h10 ih
 by_cases h:i<j
 ·obtain ⟨⟨pa,pb,pc⟩,hp⟩:∃ p,l[(i+j) / 2]?=some p:=⟨_,List.getElem?_eq_getElem (by omega)⟩
  have hm:=ZN4 (i:=i) (j:=j) (by omega)
  have hw:=w_succ (i:=(i+j) / 2) (by omega)
  have hb:¬(1:Int)<0:=by omega
  by_cases hc:cmpI pa x<0
  ·have hlt:pa<x:=by
    by_cases h3:pa<x
    ·exact h3
    ·simp only[cmpI,h3,if_false] at hc
     split at hc<;>omega
   simp only[↓xP,xT,rL,rB,rA,rS,h0,h1,h2,h8,h9,h10,h,hb,hm,hp,hw,Session.u,ZIp,hc]
   refine ih ((i+j) / 2+1,j) _ (by dsimp only; omega) ⟨by dsimp only; omega,hj,?_,g2,by simp only[↓xP,xT,rL,rB,rA,rS,h0],by simp only[↓xP,xT,rL,rB,rA,rS,h1],by simp only[↓xP,xT,rL,rB,rA,rS,h2],by simp only[↓xP,xT,rL,rB,rA,rS,h8],by simp only[↓xP,xT,rL,rB,rA,rS],by simp only[↓xP,xT,rL,rB,rA,rS,h10]⟩
   intro k p hk hkp
   dsimp only at hk
   by_cases e:k=(i+j) / 2
   ·subst e; rw [hp] at hkp; cases hkp; exact hlt
   ·have:=ha k ((i+j) / 2) p _ (by omega) hkp hp
    dsimp only at this
    omega
  ·have hge:x≤pa:=by
    by_cases h3:pa<x
    ·simp [cmpI,h3] at hc
    ·omega
   simp only[↓xP,xT,rL,rB,rA,rS,h0,h1,h2,h8,h9,h10,h,hb,hm,hp,hw,Session.u,ZIp,hc]
   refine ih (i,(i+j) / 2) _ (by dsimp only; omega) ⟨by dsimp only; omega,by dsimp only; omega,g1,?_,by simp only[↓xP,xT,rL,rB,rA,rS,h0],by simp only[↓xP,xT,rL,rB,rA,rS,h1],by simp only[↓xP,xT,rL,rB,rA,rS,h2],by simp only[↓xP,xT,rL,rB,rA,rS,h8],by simp only[↓xP,xT,rL,rB,rA,rS,h9],by simp only[↓xP,xT,rL,rB,rA,rS]⟩
   intro k q hk hkq
   dsimp only at hk
   by_cases e:k=(i+j) / 2
   ·subst e; rw [hp] at hkq; cases hkq; exact hge
   ·have:=ha ((i+j) / 2) k _ q (by omega) hp hkq
    dsimp only at this
    omega
 ·obtain rfl:i=j:=by omega
  by_cases hi:i<l.length
  ·obtain ⟨⟨pa,pb,pc⟩,hp⟩:∃ p,l[i]?=some p:=⟨_,List.getElem?_eq_getElem hi⟩
   have hge:=g2 i _ (Nat.le_refl _) hp
   simp only[↓xP,xT,rL,rB,rA,rS,h0,h1,h2,h8,h9,h10,h,hi,hp,Session.u,ZIp]
   refine ⟨_,rfl,i,_,rfl,by omega,g1,fun q hq=>?_,fun hq=>?_⟩
   ·rw [hp] at hq; cases hq
    refine ⟨hge,?_⟩
    dsimp only at hge ⊢
    have hn:¬pa<x:=by omega
    by_cases e:pa=x
    ·subst e; simp [cmpI]
    ·have h4:x<pa:=by omega
     simp [cmpI,hn,h4,e]
   ·rw [hp] at hq; cases hq
  ·have hp:l[i]?=none:=List.getElem?_eq_none (by omega)
   simp only[↓xP,xT,rL,rB,rA,rS,h0,h1,h2,h8,h9,h10,h,hi,hp]
   refine ⟨_,rfl,i,_,rfl,by omega,g1,fun q hq=>?_,fun _=>rfl⟩
   rw [hp] at hq; cases hq
theorem ZHz (l:List Session) (x:Int) (ha:ZF l=true) (hn:l.length≤1048576):∃ (i:Nat) (b:Bool),EE F 274 [L 3 (l.map Session.u),I x] []=some ⟨[I i,B b],[],[]⟩∧i≤l.length∧(∀ (k:Nat) p,k<i→l[k]?=some p→p.client<x)∧(∀ q,l[i]?=some q→x≤q.client∧b=decide (q.client=x))∧(l[i]?=none→b=false):=by
 obtain ⟨r,hr,i,b,rfl,h1,h2,h3,h4⟩:=ZI2 l x (fun i j p q=>ZJx ha j i p q) hn
 refine ⟨i,b,?_,h1,h2,h3,h4⟩
 rw [R274,b274]
 simp only[↓xP,xT,rL,rB,rA,rS,hr]
theorem ZJt (l:List Session) (xc xs xr:Int) (hn:l.length≤100000):EE F 277 [L 3 (l.map Session.u),.ag [.u (.int .i64 xc),.u (.int .i64 xs),.u (.int .i64 xr)]] []=ZFs (ZFx l ⟨xc,xs,xr⟩):=by
 rw [R277,b277]
 have hv:=ZF3 l (by omega)
 have hv1:=ZF3 [⟨xc,xs,xr⟩] (by simp)
 simp only[List.map_cons,List.map_nil,Session.u] at hv1
 cases h1:ZF l
 ·simp only[↓xP,xT,rL,rB,rA,rS,hv,h1]
  simp [ZFx,h1,ZFs]
 cases h2:ZF [⟨xc,xs,xr⟩]
 ·simp only[↓xP,xT,rL,rB,rA,rS,hv,h1,hv1,h2]
  simp [ZFx,h2,ZFs]
 have hsq:1≤xs:=by
  have:=(ZH2 h2 (i:=0) (p:=⟨xc,xs,xr⟩) (by simp)).2.1
  simp only[inR,Bool.and_eq_true,decide_eq_true_eq] at this
  exact this.1
 obtain ⟨i,b,hpl,hi,g1,g2,g3⟩:=ZHz l xc h1 (by omega)
 have hins:=ZNx ⟨xc,xs,xr⟩ l i hi g1 (fun q hq=>(g2 q hq).1)
 have hfnd:=ZKV xc l i (ZIL h1) hi g1 (fun q hq=>(g2 q hq).1)
 have hc:=ZHB l (by omega)
 have hmap : [[U.int .i64 xc,U.int .i64 xs,U.int .i64 xr]]=List.map Session.u [⟨xc,xs,xr⟩]:=rfl
 have hput:ZFx l ⟨xc,xs,xr⟩=if xs≤(ZFA xc l).seq then (l,false) else (insS ⟨xc,xs,xr⟩ l,true):=by simp [ZFx,h1,h2]
 rw [hput]
 cases b
 ·have hre:=ZHg l [⟨xc,xs,xr⟩] i 0 (by omega) (by simp only[List.length_cons,List.length_nil]; omega)
  have e0:((0:Nat):Int)=0:=rfl
  rw [e0,←hmap] at hre
  have hf0:ZFA xc l=⟨0,0,0⟩:=by
   rw [hfnd]
   cases hq:l[i]? with
   | none=>rfl
   | some q=>
    have:=(g2 q hq).2
    have hne:¬q.client=xc:=by simpa using this
    simp [hne]
  have hi0:insS ⟨xc,xs,xr⟩ l=rep l i 0 [⟨xc,xs,xr⟩]:=by
   rw [hins]
   cases hq:l[i]? with
   | none=>rfl
   | some q=>
    have:=(g2 q hq).2
    have hne:¬q.client=xc:=by simpa using this
    simp [hne]
  have hno:¬xs≤0:=by omega
  rw [hf0,if_neg hno,hi0]
  simp only[↓xP,xT,rL,rB,rA,rS,hv,h1,hv1,h2,hpl,hre,ZFs,List.length_map]
 ·have hil:i<l.length:=by
   by_cases h:i<l.length
   ·exact h
   ·have:=g3 (List.getElem?_eq_none (by omega)); cases this
  obtain ⟨⟨yc,ys,yr⟩,hy⟩:∃ p,l[i]?=some p:=⟨_,List.getElem?_eq_getElem hil⟩
  have heq:yc=xc:=by have:=(g2 _ hy).2; simpa using this.symm
  rw [hy] at hins hfnd
  simp only[heq,if_true] at hins hfnd
  have hre:=ZHg l [⟨xc,xs,xr⟩] i 1 (by omega) (by simp only[List.length_cons,List.length_nil]; omega)
  have e0:((1:Nat):Int)=1:=rfl
  rw [e0,←hmap] at hre
  rw [hfnd,hins]
  by_cases h:xs≤ys
  ·have hge:ys≥xs:=h
   simp only[↓xP,xT,rL,rB,rA,rS,hv,h1,hv1,h2,hpl,hy,hil,Session.u,h,hge,hc,ZFs,List.length_map,ge_iff_le]
   try simp
  ·simp only[↓xP,xT,rL,rB,rA,rS,hv,h1,hv1,h2,hpl,hy,hil,Session.u,h,hre,ZFs,List.length_map,ge_iff_le]
   try simp
theorem ZKC (l:List Session) (c:Int) (hn:l.length≤1048576):EE F 270 [L 3 (l.map Session.u),I c] []=some ⟨[.ag [.u (.int .i64 (ZFA c l).client),.u (.int .i64 (ZFA c l).seq),.u (.int .i64 (ZFA c l).reply)]],[],[]⟩:=by
 rw [R270,b270]
 simp only[↓xP,xT,rL,rB,rA,rS]
 refine (Zjc (fun (i:Nat) st=>i≤l.length∧st.s 0=DU (.sl 3 (l.map Session.u))∧st.s 1=DI c∧st.s 4=.t (.sc (.ptr (.loc 4 0) 0 0))∧st.o (.loc 4 0)=some (.box [.u (.int .i64 0),.u (.int .i64 0),.u (.int .i64 0)])∧st.s 5=DI i) (fun i=>l.length - i) (fun i=>some ⟨[.ag [.u (.int .i64 (ZFA c (l.drop i)).client),.u (.int .i64 (ZFA c (l.drop i)).seq),.u (.int .i64 (ZFA c (l.drop i)).reply)]],[],[]⟩) ?_ 0 (by and_intros<;>first|omega|rfl|(simp only[↓xP,xT,rL,rB,rA,rS]<;>first|done|rfl|omega))).trans (by rfl)
 rintro i st ⟨hle,h0,h1,h4,ho4,h5⟩ ih
 by_cases hi:i<l.length
 ·obtain ⟨⟨xc,xs,xr⟩,hx⟩:∃ p,l[i]?=some p:=⟨_,List.getElem?_eq_getElem hi⟩
  have hw:=w_succ (i:=i) (by omega)
  rw [ZV hx]
  simp only[↓xP,xT,rL,rB,rA,rS,h0,h1,h4,ho4,h5,List.length_map,hi,hx,Session.u]
  refine ZiE (fun h=>?_) (fun h=>?_)
  ·simp only[decide_eq_true_eq] at h
   simp [ZFA,h]
  ·simp only[decide_eq_false_iff_not] at h
   rw [ih (i+1) _ (by omega) (by and_intros<;>first|omega|rfl|(simp only[↓xP,xT,rL,rB,rA,rS,h0,h1,h4,ho4,h5,hw]<;>first|done|rfl|omega))]
   simp [ZFA,h]
 ·simp only[↓xP,xT,rL,rB,rA,rS,h0,h1,h4,ho4,h5,List.length_map,hi]
  rw [List.drop_of_length_le (by omega)]; rfl
theorem ZKl (l:List Session) (c:Int) (hv0:ZF l=true) (hc:inR c 0 3=true) (hn:l.length≤1048576):EE F 296 [L 3 (l.map Session.u),I c] []=ok1 (I (ZFA c l).seq):=by
 have hv:=ZFG l (by omega)
 rw [R296,b296]
 simp only[↓xP,xT,rL,rB,rA,rS,hv,hv0,ZW,hc,ZKC l c hn]
theorem ZJu (l:List Session) (xc xs xr:Int) (hn:l.length≤100000):EE F 272 [L 3 (l.map Session.u),.ag [.u (.int .i64 xc),.u (.int .i64 xs),.u (.int .i64 xr)]] []=ZFs (ZFx l ⟨xc,xs,xr⟩):=by
  rw [R272,b272]
  have hv:=ZFG l (by omega)
  have hv1:=ZFG [⟨xc,xs,xr⟩] (by simp)
  simp only[List.map_cons,List.map_nil,Session.u] at hv1
  cases h1:ZF l
  · simp only[↓xP,xT,rL,rB,rA,rS,hv,h1]
    simp [ZFx,h1,ZFs]
  cases h2:ZF [⟨xc,xs,xr⟩]
  · simp only[↓xP,xT,rL,rB,rA,rS,hv,h1,hv1,h2]
    simp [ZFx,h2,ZFs]
  have hcr:=(ZH2 h2 (i:=0) (p:=⟨xc,xs,xr⟩) (by simp)).1
  simp only at hcr
  have hsq:=ZKl l xc h1 hcr (by omega)
  have q0:l.length≤maxLen∧l.length*24≤140737488355328:=ZL (by omega) (by omega)
  have hput:ZFx l ⟨xc,xs,xr⟩=if xs≤(ZFA xc l).seq then (l,false) else (insS ⟨xc,xs,xr⟩ l,true):=by simp [ZFx,h1,h2]
  rw [hput]
  by_cases h3:xs≤(ZFA xc l).seq
  · rw [if_pos h3]
    simp only[↓xP,xT,rL,rB,rA,rS,hv,h1,hv1,h2,hsq,h3,ge_iff_le,List.length_map,Nat.zero_add,List.nil_append,q0.1,q0.2,ZI,ZFs]
  rw [if_neg h3]
  have hfin:=ZLO ⟨xc,xs,xr⟩ l (ZIL h1)
  rw [←hfin]
  simp only[↓xP,xT,rL,rB,rA,rS,hv,h1,hv1,h2,hsq,h3,ge_iff_le]
  have app3:∀ (l:List Session) a b c,l.map Session.u++[[.int .i64 a,.int .i64 b,.int .i64 c]]=(l++[(⟨a,b,c⟩:Session)]).map Session.u:=fun l a b c=>by simp [Session.u]
  have htk:∀ (l:List Session) x,List.take (l.length+1) (List.map Session.u (l++[x]))=List.map Session.u (l++[x]):=fun l x=>List.take_of_length_le (by simp)
  refine (Zjc (fun (a:Nat×Bool×List Session) st=>a.1≤l.length∧a.2.2.length≤a.1+a.2.1.toNat∧st.s 0=DU (.sl 3 (l.map Session.u))∧st.s 3=.t (.sc (.ptr (.loc 3 0) 0 0))∧st.o (.loc 3 0)=some (.box [.u (.int .i64 xc),.u (.int .i64 xs),.u (.int .i64 xr)])∧st.s 6=.t (.sc (.own (.loc 9 0) a.2.2.length))∧st.o (.loc 9 0)=some (.row 3 (a.2.2.map Session.u))∧st.s 7=DB a.2.1∧st.s 8=DI a.1) (fun a=>l.length - a.1) (fun a=>ZFs (a.2.2++sFin ⟨xc,xs,xr⟩ a.2.1 (l.drop a.1),true)) ?_ (0,false,[]) ⟨by simp,by simp,(by and_intros<;>first|omega|rfl|(simp only[↓xP,xT,rL,rB,rA,rS]<;>first|done|rfl|omega))⟩).trans (by rfl)
  rintro ⟨i,pl,m⟩ st ⟨hle,hml,h0,h3,ho3,h6,ho6,h7,h8⟩ ih
  dsimp only at *
  have hpl1:pl.toNat≤1:=by cases pl<;>simp
  have q1:m.length+1≤maxLen∧(m.length+1)*24≤140737488355328:=ZL (by omega) (by omega)
  have q2:m.length+1+1≤maxLen∧(m.length+1+1)*24≤140737488355328:=ZL (by omega) (by omega)
  by_cases hi:i<l.length
  · obtain ⟨⟨yc,ys,yr⟩,hy⟩:∃ p,l[i]?=some p:=⟨_,List.getElem?_eq_getElem hi⟩
    have hw:=w_succ (i:=i) (by omega)
    rw [ZV hy]
    cases pl
    · simp only[Bool.toNat_false,Nat.add_zero] at hml
      by_cases g4:xc≤yc
      · by_cases g5:yc=xc
        · simp only[↓xP,xT,rL,rB,rA,rS,h0,h3,ho3,h6,ho6,h7,h8,List.length_map,hi,hy,Session.u,q1.1,q1.2,q2.1,q2.2,app3,hw,g4,g5,ge_iff_le,ne_eq,not_true_eq_false,decide_false,List.length_append,List.length_cons,List.length_nil,Nat.zero_add,Int.le_refl]
          rw [ih (i+1,true,m++[⟨xc,xs,xr⟩]) _ (by dsimp only; omega) ⟨by dsimp only; omega,by simp; omega,(by and_intros<;>first|omega|rfl|(simp only[↓xP,xT,rL,rB,rA,rS,h0,h3,ho3,h6,ho6,h7,h8,hw,app3,List.length_append,List.length_cons,List.length_nil,Nat.zero_add]<;>first|done|rfl|omega))⟩]
          simp [sFin,g5]
        · simp only[↓xP,xT,rL,rB,rA,rS,h0,h3,ho3,h6,ho6,h7,h8,List.length_map,hi,hy,Session.u,q1.1,q1.2,q2.1,q2.2,app3,hw,g4,g5,ge_iff_le,ne_eq,not_false_eq_true,List.length_append,List.length_cons,List.length_nil,Nat.zero_add]
          rw [ih (i+1,true,m++[⟨xc,xs,xr⟩]++[⟨yc,ys,yr⟩]) _ (by dsimp only; omega) ⟨by dsimp only; omega,by simp; omega,(by and_intros<;>first|omega|rfl|(simp only[↓xP,xT,rL,rB,rA,rS,h0,h3,ho3,h6,ho6,h7,h8,hw,app3,List.length_append,List.length_cons,List.length_nil,Nat.zero_add]<;>first|done|rfl|omega))⟩]
          simp [sFin,g4,g5]
      · have g5:¬yc=xc:=by omega
        simp only[↓xP,xT,rL,rB,rA,rS,h0,h3,ho3,h6,ho6,h7,h8,List.length_map,hi,hy,Session.u,q1.1,q1.2,q2.1,q2.2,app3,hw,g4,g5,ge_iff_le,ne_eq,not_false_eq_true,List.length_append,List.length_cons,List.length_nil,Nat.zero_add]
        rw [ih (i+1,false,m++[⟨yc,ys,yr⟩]) _ (by dsimp only; omega) ⟨by dsimp only; omega,by simp; omega,(by and_intros<;>first|omega|rfl|(simp only[↓xP,xT,rL,rB,rA,rS,h0,h3,ho3,h6,ho6,h7,h8,hw,app3,List.length_append,List.length_cons,List.length_nil,Nat.zero_add]<;>first|done|rfl|omega))⟩]
        simp [sFin,g4,g5]
    · simp only[Bool.toNat_true] at hml
      by_cases g5:yc=xc
      · simp only[↓xP,xT,rL,rB,rA,rS,h0,h3,ho3,h6,ho6,h7,h8,List.length_map,hi,hy,Session.u,hw,g5,ne_eq,not_true_eq_false,decide_false]
        rw [ih (i+1,true,m) _ (by dsimp only; omega) ⟨by dsimp only; omega,by simp; omega,(by and_intros<;>first|omega|rfl|(simp only[↓xP,xT,rL,rB,rA,rS,h0,h3,ho3,h6,ho6,h7,h8,hw]<;>first|done|rfl|omega))⟩]
        simp [sFin,g5]
      · simp only[↓xP,xT,rL,rB,rA,rS,h0,h3,ho3,h6,ho6,h7,h8,List.length_map,hi,hy,Session.u,q1.1,q1.2,app3,hw,g5,ne_eq,not_false_eq_true,List.length_append,List.length_cons,List.length_nil,Nat.zero_add]
        rw [ih (i+1,true,m++[⟨yc,ys,yr⟩]) _ (by dsimp only; omega) ⟨by dsimp only; omega,by simp; omega,(by and_intros<;>first|omega|rfl|(simp only[↓xP,xT,rL,rB,rA,rS,h0,h3,ho3,h6,ho6,h7,h8,hw,app3,List.length_append,List.length_cons,List.length_nil,Nat.zero_add]<;>first|done|rfl|omega))⟩]
        simp [sFin,g5]
  · rw [List.drop_of_length_le (by omega)]
    cases pl
    · simp only[Bool.toNat_false,Nat.add_zero] at hml
      simp only[↓xP,xT,rL,rB,rA,rS,h0,h3,ho3,h6,ho6,h7,h8,List.length_map,hi,q1.1,q1.2,app3,htk,List.length_append,List.length_cons,List.length_nil,Nat.zero_add,Nat.le_refl]
      simp [sFin,ZFs]
    · simp only[Bool.toNat_true] at hml
      simp only[↓xP,xT,rL,rB,rA,rS,h0,h3,ho3,h6,ho6,h7,h8,List.length_map,hi,ZI]
      simp [sFin,ZFs]
theorem ZLK {l:List Pair} (h:ZA l=true) {i:Nat} {p:Pair} (hp:l[i]?=some p):0≤p.value:=by
 simp only[ZA,Bool.and_eq_true] at h
 have:=(ZFz (n:=l.length) (p:=ZFp l) _ 0 rfl).1 h.2 i (by omega) (List.getElem?_eq_some_iff.1 hp).1
 simp only[ZFp,hp,inR,Bool.and_eq_true,decide_eq_true_eq] at this
 exact this.1.2.1
theorem ZLJ {l:List Pair} (key:Str) (h:ZA l=true):ZFj l key<0↔ZFj l key = -1:=by
 unfold ZFj
 rw [if_pos h]
 cases hh:hit key l with
 | none=>simp
 | some p=>
  have:=ZLK h (ZGl hh).1
  dsimp only
  omega
theorem ZIr (l:List Pair) (k:Int) (key:Str) (v o:Int) (hn:l.length≤1048576):EE F 276 [L 2 (l.map Pair.u),.ag [.u (.int .i64 k),.u (.str key),.u (.int .i64 v),.u (.int .i64 o)]] []=ZM (Z7 l ⟨k,key,v,o⟩):=by
  rw [R276,b276]
  have hv:=ZFL l
  have hcv:=ZGh k key v o
  cases h:ZA l
  · rw [h] at hv
    simp only[↓xP,xT,rL,rB,rA,rS,hv,Z7,h,Bool.false_eq_true,false_and,if_false,ZM,List.map_nil,List.length_nil]
  rw [h] at hv
  cases h2:Z2 ⟨k,key,v,o⟩
  · rw [h2] at hcv
    simp only[↓xP,xT,rL,rB,rA,rS,hv,hcv,Z7,h,h2,Bool.false_eq_true,false_and,and_false,if_false,ZM,List.map_nil,List.length_nil]
  rw [h2] at hcv
  by_cases h5:k=5
  · subst h5
    simp only[↓xP,xT,rL,rB,rA,rS,hv,hcv,Z7,not_true_eq_false,and_false,if_false,ZM,List.map_nil,List.length_nil]
  have hcy:=ZG3 l hn
  have hpg:=ZK2 l key
  have hpd:=ZKh l key hn
  have hpp:=ZK4 l key v hn
  have hng:=ZLJ key h
  generalize hgo:ZFj l key=old at hpg hng
  generalize hdo:ZFc l key=dr at hpd
  generalize hpo:Z0 l key v=pu at hpp
  obtain ⟨dl,db⟩:=dr
  obtain ⟨pl,pb⟩:=pu
  simp only[ZX] at hpd hpp
  by_cases h3:k=3
  · subst h3
    simp [Z7,h,h2,hgo,hdo]
    simp only[↓xP,xT,rL,rB,rA,rS,hv,hcv,h5,hpg,hpd,ZM]
  by_cases h1:k=1
  · subst h1
    simp [Z7,h,h2,hgo]
    simp only[↓xP,xT,rL,rB,rA,rS,hv,hcv,h5,h3,hpg,hcy,ZM]
  by_cases h4:k=4∧¬o=old
  · obtain ⟨rfl,ho⟩:=h4
    simp [Z7,h,h2,hgo,ho]
    simp only[↓xP,xT,rL,rB,rA,rS,hv,hcv,h5,h3,h1,hpg,hcy,ho,ne_eq,not_false_eq_true,ZM]
  have h4':(k=1∨(k=4∧¬o=old))=False:=by simp [h1]; simpa using h4
  have hap:Z7 l ⟨k,key,v,o⟩=if old<0∧8≤l.length then (l,-2) else (pl,old):=by
    simp only[Z7,h,h2,hgo,hpo,h5,h3,h4',not_false_eq_true,and_self,if_true,if_false]
  rw [hap]
  by_cases h8:old<0∧8≤l.length
  · have hm1:old = -1:=hng.1 h8.1
    have hge:(8:Int)≤(l.length:Int):=by omega
    rw [if_pos h8]
    by_cases h6:k=4
    · have ho:o=old:=by
        by_cases e:o=old
        · exact e
        · exact absurd ⟨h6,e⟩ h4
      subst h6
      have ho2:old=o:=ho.symm
      subst ho2
      subst hm1
      simp only[↓xP,xT,rL,rB,rA,rS,hv,hcv,h5,h3,h1,hpg,hcy,hge,ge_iff_le,ne_eq,not_true_eq_false,decide_false,ZM]
    · simp only[↓xP,xT,rL,rB,rA,rS,hv,hcv,h5,h3,h1,h6,hpg,hcy,hm1,hge,ge_iff_le,ZM]
  · rw [if_neg h8]
    by_cases h6:k=4
    · have ho:o=old:=by
        by_cases e:o=old
        · exact e
        · exact absurd ⟨h6,e⟩ h4
      subst h6
      have ho2:old=o:=ho.symm
      subst ho2
      by_cases h7:old = -1
      · have hge:¬(8:Int)≤(l.length:Int):=fun e=>h8 ⟨by omega,by omega⟩
        subst h7
        simp only[↓xP,xT,rL,rB,rA,rS,hv,hcv,h5,h3,h1,hpg,hpp,hge,ge_iff_le,ne_eq,not_true_eq_false,decide_false,ZM]
      · simp only[↓xP,xT,rL,rB,rA,rS,hv,hcv,h5,h3,h1,hpg,hpp,h7,ge_iff_le,ne_eq,not_true_eq_false,decide_false,ZM]
    · by_cases h7:old = -1
      · have hge:¬(8:Int)≤(l.length:Int):=fun e=>h8 ⟨by omega,by omega⟩
        simp only[↓xP,xT,rL,rB,rA,rS,hv,hcv,h5,h3,h1,h6,hpg,hpp,h7,hge,ge_iff_le,ZM]
      · simp only[↓xP,xT,rL,rB,rA,rS,hv,hcv,h5,h3,h1,h6,hpg,hpp,h7,ge_iff_le,ZM]
def ZFo (s:State) (c:Command):Bool:=if c.kind=5 then decide (c.key=[])||ZHx s.span c.key else ZFm s.span c.key
theorem ZKn (lo hi:Str) (l:List Pair) (k:List Session) (se:Bool) (cut:Str) (kd:Int) (key:Str) (v o:Int):EE F 275 [.ag [.u (.str lo),.u (.str hi),.u (.sl 2 (l.map Pair.u)),.u (.sl 3 (k.map Session.u)),.u (.bool se),.u (.str cut)],.ag [.u (.int .i64 kd),.u (.str key),.u (.int .i64 v),.u (.int .i64 o)]] []=ok1 (B (ZFo ⟨⟨lo,hi⟩,l,k,se,cut⟩ ⟨kd,key,v,o⟩)):=by
  rw [R275,b275]
  by_cases h5:kd=5
  · by_cases hk:key=[]
    · simp only[↓xP,xT,rL,rB,rA,rS,h5,hk,ne_eq,not_true_eq_false,decide_false]
      simp [ZFo,sel]
    · cases hc:ZHx ⟨lo,hi⟩ key
      · simp only[↓xP,xT,rL,rB,rA,rS,h5,hk,ne_eq,not_true_eq_false,decide_false,ZGs,ZG8,hc]
        simp [ZFo,sel,hk,hc]
      · simp only[↓xP,xT,rL,rB,rA,rS,h5,hk,ne_eq,not_true_eq_false,decide_false,ZGs,ZG8,hc]
        simp [ZFo,sel,hk,hc]
  · simp only[↓xP,xT,rL,rB,rA,rS,h5,ne_eq,not_false_eq_true,ZKB]
    simp [ZFo,h5]
def ZHQ (lo hi:Str) (l:List Pair) (k:List Session) (se:Bool) (cut:Str):Option Ret:=some ⟨[.ag [.u (.str lo),.u (.str hi),.own (.par 0) l.length,.own (.par 1) k.length,.u (.bool se),.u (.str cut)]],[.row 2 (l.map Pair.u),.row 3 (k.map Session.u)],[]⟩
theorem ZIv (lo hi:Str) (l:List Pair) (k:List Session) (se:Bool) (cut:Str) (hl:l.length≤1048576) (hk:k.length≤1048576):EE F 226 [.ag [.u (.str lo),.u (.str hi),.u (.sl 2 (l.map Pair.u)),.u (.sl 3 (k.map Session.u)),.u (.bool se),.u (.str cut)]] []=ZHQ lo hi l k se cut:=by
 rw [R226,b226]
 simp only[↓xP,xT,rL,rB,rA,rS,ZG3 l hl,ZHB k hk,ZHQ]
theorem ZJJ (lo hi:Str) (l:List Pair) (k:List Session) (se:Bool) (cut:Str) (hl:l.length≤1048576) (hk:k.length≤1048576):EE F 223 [.ag [.u (.str lo),.u (.str hi),.u (.sl 2 (l.map Pair.u)),.u (.sl 3 (k.map Session.u)),.u (.bool se),.u (.str cut)]] []=ZHQ lo hi l k se cut:=by
 have q0:l.length≤maxLen∧l.length*24≤140737488355328:=ZL (by omega) (by omega)
 have q1:k.length≤maxLen∧k.length*24≤140737488355328:=ZL (by omega) (by omega)
 rw [R223,b223]
 simp only[↓xP,xT,rL,rB,rA,rS,rdx,rdx2,q0.1,q0.2,q1.1,q1.2,List.length_map,ZHQ]
theorem ZMJ {l:List Session} (h:ZF l=true):∀ (i:Nat) (p:Session),l[i]?=some p→(i:Int)≤p.client
 | 0,p,hp=>by
  have:=(ZH2 h hp).1
  simp only[inR,Bool.and_eq_true,decide_eq_true_eq] at this
  omega
 | i+1,p,hp=>by
  obtain ⟨r,hr⟩:∃ r,l[i]?=some r:=⟨_,List.getElem?_eq_getElem (by have:=(List.getElem?_eq_some_iff.1 hp).1; omega)⟩
  have h1:=ZMJ h i r hr
  have h2:=ZJx h (i+1) i r p (by omega) hr hp
  omega
theorem ZH3 {l:List Session} (h:ZF l=true):l.length≤4:=by
 by_cases h4:l.length≤4
 ·exact h4
 ·obtain ⟨p,hp⟩:∃ p,l[4]?=some p:=⟨_,List.getElem?_eq_getElem (by omega)⟩
  have h1:=ZMJ h 4 p hp
  have h2:=(ZH2 h hp).1
  simp only[inR,Bool.and_eq_true,decide_eq_true_eq] at h2
  omega
def ZF1 (s:State) (e:Entry):State×Int:=
 if (ZFA e.client s.known).seq=e.seq then (s,(ZFA e.client s.known).reply)
 else if e.seq<(ZFA e.client s.known).seq then (s,-4)
 else if (s.sealed||!ZFo s e.cmd)=true then (s,-3)
 else if e.cmd.kind=5 then (⟨s.span,s.pairs,(ZFx s.known ⟨e.client,e.seq,0⟩).1,true,e.cmd.key⟩,0)
 else (⟨s.span,(Z7 s.pairs e.cmd).1,(ZFx s.known ⟨e.client,e.seq,(Z7 s.pairs e.cmd).2⟩).1,s.sealed,s.cut⟩,(Z7 s.pairs e.cmd).2)
def ZFM (p:State×Int):Option Ret:=some ⟨[.ag [.u (.str p.1.span.low),.u (.str p.1.span.high),.own (.par 0) p.1.pairs.length,.own (.par 1) p.1.known.length,.u (.bool p.1.sealed),.u (.str p.1.cut)],I p.2],[.row 2 (p.1.pairs.map Pair.u),.row 3 (p.1.known.map Session.u)],[]⟩
def ZI5 (r:Int):Option Ret:=some ⟨[.ag [.u (.str []),.u (.str []),.u (.sl 2 []),.u (.sl 3 []),.u (.bool false),.u (.str [])],I r],[],[]⟩
theorem ZG6 {s:State} (h:ZC s=true):ZE s.span=true∧ZA s.pairs=true∧ZF s.known=true:=by
 simp only[ZC,Bool.and_eq_true] at h
 exact ⟨h.1.1.1.1,h.1.1.1.2,h.1.1.2⟩
theorem ZJj (lo hi:Str) (l:List Pair) (k:List Session) (se:Bool) (cut:Str) (c s kd:Int) (key:Str) (v o:Int) (hl:l.length≤1048576) (hk:k.length≤1048576):EE F 227 [.ag [.u (.str lo),.u (.str hi),.u (.sl 2 (l.map Pair.u)),.u (.sl 3 (k.map Session.u)),.u (.bool se),.u (.str cut)],.ag [.u (.int .i64 c),.u (.int .i64 s),.u (.int .i64 kd),.u (.str key),.u (.int .i64 v),.u (.int .i64 o)]] []=if (ZC ⟨⟨lo,hi⟩,l,k,se,cut⟩&&ZN ⟨c,s,⟨kd,key,v,o⟩⟩)=true then ZFM (ZF1 ⟨⟨lo,hi⟩,l,k,se,cut⟩ ⟨c,s,⟨kd,key,v,o⟩⟩) else ZI5 (-3):=by
  rw [R227,b227]
  have hv:=ZGL lo hi l k se cut (by omega)
  have he:=ZGK c s kd key v o
  cases h1:ZC ⟨⟨lo,hi⟩,l,k,se,cut⟩
  · simp only[↓xP,xT,rL,rB,rA,rS,hv,h1]
    simp [ZI5]
  cases h2:ZN ⟨c,s,⟨kd,key,v,o⟩⟩
  · simp only[↓xP,xT,rL,rB,rA,rS,hv,h1,he,h2]
    simp [ZI5]
  obtain ⟨hp1,hp2,hp3⟩:=ZG6 h1
  simp only at hp1 hp2 hp3
  have hk4:=ZH3 hp3
  have hs1:1≤s:=by
    simp only[ZN,Bool.and_eq_true,inR,decide_eq_true_eq] at h2
    exact h2.1.2.1
  have hcs:=ZIv lo hi l k se cut hl hk
  simp only[ZHQ] at hcs
  have htk:=ZKn lo hi l k se cut kd key v o
  have hac:=ZIr l kd key v o hl
  have hsp:∀ r,EE F 277 [L 3 (k.map Session.u),.ag [.u (.int .i64 c),.u (.int .i64 s),.u (.int .i64 r)]] []=ZFs (ZFx k ⟨c,s,r⟩):=fun r=>ZJt k c s r (by omega)
  simp only[ZFs] at hsp
  obtain ⟨i,b,hpl,hi',g1,g2,g3⟩:=ZHz k c hp3 hk
  have hfnd:=ZKV c k i (ZIL hp3) hi' g1 (fun q hq=>(g2 q hq).1)
  rw [Bool.and_self,if_pos rfl]
  simp only[ZF1]
  generalize hag:Z7 l ⟨kd,key,v,o⟩=ac at hac
  obtain ⟨al,ar⟩:=ac
  simp only[ZM] at hac
  cases b
  · have hf0:ZFA c k=⟨0,0,0⟩:=by
      rw [hfnd]
      cases hq:k[i]? with
      | none=>rfl
      | some q=>
        have:=(g2 q hq).2
        have hne:¬q.client=c:=by simpa using this
        simp [hne]
    have n1:¬(0:Int)=s:=by omega
    have n2:¬s<0:=by omega
    rw [hf0]
    simp only[n1,n2,if_false]
    cases se
    · cases ht:ZFo ⟨⟨lo,hi⟩,l,k,false,cut⟩ ⟨kd,key,v,o⟩
      · simp only[↓xP,xT,rL,rB,rA,rS,rdx,rdx2,hv,h1,he,h2,hcs,hpl,htk,ht]
        simp [ZFM]
      · by_cases h5:kd=5
        · subst h5
          simp only[↓xP,xT,rL,rB,rA,rS,rdx,rdx2,hv,h1,he,h2,hcs,hpl,htk,ht,hsp]
          simp [ZFM]
        · simp only[↓xP,xT,rL,rB,rA,rS,rdx,rdx2,hv,h1,he,h2,hcs,hpl,htk,ht,h5,hac,hsp]
          simp [ZFM,h5]
    · simp only[↓xP,xT,rL,rB,rA,rS,rdx,rdx2,hv,h1,he,h2,hcs,hpl]
      simp [ZFM]
  · have hil:i<k.length:=by
      by_cases h:i<k.length
      · exact h
      · have:=g3 (List.getElem?_eq_none (by omega)); cases this
    obtain ⟨⟨yc,ys,yr⟩,hy⟩:∃ p,k[i]?=some p:=⟨_,List.getElem?_eq_getElem hil⟩
    have heq:yc=c:=by have:=(g2 _ hy).2; simpa using this.symm
    rw [hy] at hfnd
    simp only[heq,if_true] at hfnd
    rw [hfnd]
    by_cases m1:ys=s
    · have hle:s≤ys:=by omega
      have m1':s=ys:=m1.symm
      subst m1'
      simp only[↓xP,xT,rL,rB,rA,rS,rdx,rdx2,hv,h1,he,h2,hcs,hpl,hy,hil,Session.u,Int.le_refl,if_true]
      simp [ZFM]
    by_cases m2:s<ys
    · have hle:s≤ys:=by omega
      have m1':¬s=ys:=fun e=>m1 e.symm
      simp only[↓xP,xT,rL,rB,rA,rS,rdx,rdx2,hv,h1,he,h2,hcs,hpl,hy,hil,Session.u,hle,m1,m1',m2,if_true,if_false]
      simp [ZFM]
    have hle:¬s≤ys:=by omega
    simp only[m1,m2,if_false]
    cases se
    · cases ht:ZFo ⟨⟨lo,hi⟩,l,k,false,cut⟩ ⟨kd,key,v,o⟩
      · simp only[↓xP,xT,rL,rB,rA,rS,rdx,rdx2,hv,h1,he,h2,hcs,hpl,hy,hil,Session.u,hle,htk,ht]
        simp [ZFM]
      · by_cases h5:kd=5
        · subst h5
          simp only[↓xP,xT,rL,rB,rA,rS,rdx,rdx2,hv,h1,he,h2,hcs,hpl,hy,hil,Session.u,hle,htk,ht,hsp]
          simp [ZFM]
        · simp only[↓xP,xT,rL,rB,rA,rS,rdx,rdx2,hv,h1,he,h2,hcs,hpl,hy,hil,Session.u,hle,htk,ht,h5,hac,hsp]
          simp [ZFM,h5]
    · simp only[↓xP,xT,rL,rB,rA,rS,rdx,rdx2,hv,h1,he,h2,hcs,hpl,hy,hil,Session.u,hle]
      simp [ZFM]
theorem ZJk (lo hi:Str) (l:List Pair) (k:List Session) (se:Bool) (cut:Str) (c s kd:Int) (key:Str) (v o:Int) (hl:l.length≤1048576) (hk:k.length≤1048576):EE F 224 [.ag [.u (.str lo),.u (.str hi),.u (.sl 2 (l.map Pair.u)),.u (.sl 3 (k.map Session.u)),.u (.bool se),.u (.str cut)],.ag [.u (.int .i64 c),.u (.int .i64 s),.u (.int .i64 kd),.u (.str key),.u (.int .i64 v),.u (.int .i64 o)]] []=if (ZC ⟨⟨lo,hi⟩,l,k,se,cut⟩&&ZN ⟨c,s,⟨kd,key,v,o⟩⟩)=true then ZFM (ZF1 ⟨⟨lo,hi⟩,l,k,se,cut⟩ ⟨c,s,⟨kd,key,v,o⟩⟩) else ZI5 (-3):=by
 rw [R224,b224]
 have hv:=ZGM lo hi l k se cut (by omega)
 have he:=ZF0 c s kd key v o
 cases h1:ZC ⟨⟨lo,hi⟩,l,k,se,cut⟩
 ·simp only[↓xP,xT,rL,rB,rA,rS,hv,h1]
  simp [ZI5]
 cases h2:ZN ⟨c,s,⟨kd,key,v,o⟩⟩
 ·simp only[↓xP,xT,rL,rB,rA,rS,hv,h1,he,h2]
  simp [ZI5]
 obtain ⟨hp1,hp2,hp3⟩:=ZG6 h1
 simp only at hp1 hp2 hp3
 have hk4:=ZH3 hp3
 have hcs:=ZJJ lo hi l k se cut hl hk
 simp only[ZHQ] at hcs
 have hkey:¬kd=5→ZT key=true:=by
  intro h5
  simp only[ZN,Z2,h5,decide_false,Bool.false_and,Bool.or_false,Bool.and_eq_true] at h2
  exact h2.2.1
 have hac:=ZIs l kd key v o hl
 have hsp:∀ r,EE F 272 [L 3 (k.map Session.u),.ag [.u (.int .i64 c),.u (.int .i64 s),.u (.int .i64 r)]] []=ZFs (ZFx k ⟨c,s,r⟩):=fun r=>ZJu k c s r (by omega)
 simp only[ZFs] at hsp
 have hf:=ZKC k c hk
 rw [Bool.and_self,if_pos rfl]
 simp only[ZF1]
 generalize hag:Z7 l ⟨kd,key,v,o⟩=ac at hac
 obtain ⟨al,ar⟩:=ac
 simp only[ZM] at hac
 generalize ZFA c k=fd at hf
 obtain ⟨fc,fs,fr⟩:=fd
 dsimp only at hf
 by_cases m1:fs=s
 ·subst m1
  simp only[↓xP,xT,rL,rB,rA,rS,rdx,rdx2,hv,h1,he,h2,hcs,hf]
  simp [ZFM]
 by_cases m2:s<fs
 ·simp only[↓xP,xT,rL,rB,rA,rS,rdx,rdx2,hv,h1,he,h2,hcs,hf,m1,m2]
  simp [ZFM,m1,m2]
 cases se
 ·have hct:=ZHd lo hi key
  cases hc:ZHx ⟨lo,hi⟩ key
  ·simp only[ZG8,hc,sel] at hct
   by_cases h5:kd=5
   ·subst h5
    by_cases h6:key=[]
    ·subst h6
     simp only[↓xP,xT,rL,rB,rA,rS,rdx,rdx2,hv,h1,he,h2,hcs,hf,m1,m2,hct,hc,hsp,ZI,List.length_map,ne_eq,not_true_eq_false,decide_false]
     simp [ZFM,m1,m2,ZFo]
    ·simp only[↓xP,xT,rL,rB,rA,rS,rdx,rdx2,hv,h1,he,h2,hcs,hf,m1,m2,hct,hc,h6,hsp,ZI,List.length_map,ne_eq,not_false_eq_true]
     simp [ZFM,m1,m2,ZFo,hc,h6]
   ·have hih:ZFE ⟨lo,hi⟩ key=ZFm ⟨lo,hi⟩ key:=by simp [ZFE,hp1,hkey h5]
    cases h7:ZFm ⟨lo,hi⟩ key
    ·simp only[↓xP,xT,rL,rB,rA,rS,rdx,rdx2,hv,h1,he,h2,hcs,hf,m1,m2,hct,hc,h5,ZFB,hih,h7,ZI,List.length_map]
     simp [ZFM,m1,m2,ZFo,h5,h7]
    ·simp only[↓xP,xT,rL,rB,rA,rS,rdx,rdx2,hv,h1,he,h2,hcs,hf,m1,m2,hct,hc,h5,ZFB,hih,h7,hac,hsp,ZI,List.length_map]
     simp [ZFM,m1,m2,ZFo,h5,h7]
  ·simp only[ZG8,hc,sel] at hct
   by_cases h5:kd=5
   ·subst h5
    by_cases h6:key=[]
    ·subst h6
     simp only[↓xP,xT,rL,rB,rA,rS,rdx,rdx2,hv,h1,he,h2,hcs,hf,m1,m2,hct,hc,hsp,ZI,List.length_map,ne_eq,not_true_eq_false,decide_false]
     simp [ZFM,m1,m2,ZFo]
    ·simp only[↓xP,xT,rL,rB,rA,rS,rdx,rdx2,hv,h1,he,h2,hcs,hf,m1,m2,hct,hc,h6,hsp,ZI,List.length_map,ne_eq,not_false_eq_true]
     simp [ZFM,m1,m2,ZFo,hc,h6]
   ·have hih:ZFE ⟨lo,hi⟩ key=ZFm ⟨lo,hi⟩ key:=by simp [ZFE,hp1,hkey h5]
    cases h7:ZFm ⟨lo,hi⟩ key
    ·simp only[↓xP,xT,rL,rB,rA,rS,rdx,rdx2,hv,h1,he,h2,hcs,hf,m1,m2,hct,hc,h5,ZFB,hih,h7,ZI,List.length_map]
     simp [ZFM,m1,m2,ZFo,h5,h7]
    ·simp only[↓xP,xT,rL,rB,rA,rS,rdx,rdx2,hv,h1,he,h2,hcs,hf,m1,m2,hct,hc,h5,ZFB,hih,h7,hac,hsp,ZI,List.length_map]
     simp [ZFM,m1,m2,ZFo,h5,h7]
 ·simp only[↓xP,xT,rL,rB,rA,rS,rdx,rdx2,hv,h1,he,h2,hcs,hf,m1,m2]
  simp [ZFM,m1,m2]
theorem ZN0 {α:Type} {l:List α} {i:Nat} {a:α} (h:a∈l.take i):∃ t:Nat,t<i∧l[t]?=some a:=by
 obtain ⟨t,ht⟩:=List.getElem?_of_mem h
 rw [List.getElem?_take] at ht
 split at ht
 ·exact ⟨t,by assumption,ht⟩
 ·cases ht
theorem ZLu {α:Type} {l:List α} {i:Nat} {a:α} (h:a∈l.drop i):∃ t:Nat,i≤t∧l[t]?=some a:=by
 obtain ⟨t,ht⟩:=List.getElem?_of_mem h
 rw [List.getElem?_drop] at ht
 exact ⟨i+t,by omega,ht⟩
theorem ZNI {l:List Pair} {key:Str} {v:Int} {m:Nat} (hv:ZA l=true) (hk:ZT key=true) (hr:inR v 0 999=true) (hn:(rep l (place key l) m [⟨key,v⟩]).length≤48)
  (hd:∀ b,b∈l.drop (place key l+m)→ZaZ key b.key=true):ZA (rep l (place key l) m [⟨key,v⟩])=true:=by
 obtain ⟨h1,h2,h3⟩:=(ZFC l).1 hv
 have ht:∀ a,a∈l.take (place key l)→ZaZ a.key key=true:=fun a ha=>by
  obtain ⟨t,ht,hp⟩:=ZN0 ha
  exact ZLL ht hp
 refine (ZFC _).2 ⟨hn,fun p hp=>?_,?_⟩
 ·simp only[rep,List.mem_append,List.mem_singleton] at hp
  rcases hp with (hp|rfl)|hp
  ·exact h2 p (List.mem_of_mem_take hp)
  ·exact ⟨hk,hr⟩
  ·exact h2 p (List.mem_of_mem_drop hp)
 ·simp only[rep]
  refine List.pairwise_append.2 ⟨List.pairwise_append.2 ⟨h3.sublist (List.take_sublist ..),List.pairwise_singleton ..,fun a ha b hb=>?_⟩,h3.sublist (List.drop_sublist ..),fun a ha b hb=>?_⟩
  ·simp only[List.mem_singleton] at hb
   subst hb
   exact ht a ha
  ·rcases List.mem_append.1 ha with ha|ha
   ·exact lt_trans (ht a ha) (hd b hb)
   ·simp only[List.mem_singleton] at ha
    subst ha
    exact hd b hb
theorem ZNt {l:List Pair} {key:Str} {p:Pair} (hv:ZA l=true) (hh:hit key l=some p):∀ b,b∈l.drop (place key l+1)→ZaZ key b.key=true:=by
 intro b hb
 obtain ⟨h1,h2⟩:=ZGl hh
 obtain ⟨t,ht,hp⟩:=ZLu hb
 rw [←h2]
 exact ZIi hv _ t _ _ (by omega) h1 hp
theorem ZMW {l:List Pair} {key:Str} (hv:ZA l=true) (hh:hit key l=none):∀ b,b∈l.drop (place key l+0)→ZaZ key b.key=true:=by
  intro b hb
  obtain ⟨t,ht,hp⟩:=ZLu hb
  have h1:=ZNF (ZIi hv) ht hp
  rcases ZID key b.key with h|h|h
  · exact h
  · by_cases e:t=place key l
    · subst e; exact absurd h.symm (ZIy hh b hp)
    · obtain ⟨q,hq⟩:∃ q,l[place key l]?=some q:=⟨_,List.getElem?_eq_getElem (by have:=(List.getElem?_eq_some_iff.1 hp).1; omega)⟩
      have h2:=ZIi hv _ t _ _ (by omega) hq hp
      rw [←h,ZJV hq] at h2
      cases h2
  · rw [h1] at h; cases h
theorem ZNG:ZA []=true:=(ZFC []).2 ⟨by simp,fun p h=>(by cases h),List.Pairwise.nil⟩
theorem ZMe {l:List Pair} {key:Str} {v:Int} (hv:ZA l=true):ZA (Z0 l key v).1=true∧∀ w:Interval,(l.all fun q=>ZFm w q.key)=true→ZFm w key=true→((Z0 l key v).1.all fun q=>ZFm w q.key)=true:=by
 unfold Z0
 have hins:∀ (w:Interval) (m:Nat),(l.all fun q=>ZFm w q.key)=true→ZFm w key=true→((rep l (place key l) m [⟨key,v⟩]).all fun q=>ZFm w q.key)=true:=by
  intro w m ha hw
  rw [List.all_eq_true] at ha ⊢
  intro p hp
  simp only[rep,List.mem_append,List.mem_singleton] at hp
  rcases hp with (hp|rfl)|hp
  ·exact ha p (List.mem_of_mem_take hp)
  ·exact hw
  ·exact ha p (List.mem_of_mem_drop hp)
 split
 ·rename_i hc
  have h48:=ZFa hv
  have hpl:=ZG0 key l
  cases hh:hit key l with
  | some p=>
   have hlt:=(List.getElem?_eq_some_iff.1 (ZGl hh).1).1
   simp only[Option.isSome_some,if_true]
   exact ⟨ZNI hv hc.2.1 hc.2.2 (by rw [ZII (by omega)]; simp; omega) (ZNt hv hh),fun w ha hw=>hins w 1 ha hw⟩
  | none=>
   simp only[Option.isSome_none,Bool.false_eq_true,if_false]
   split
   ·exact ⟨hv,fun w ha _=>ha⟩
   ·exact ⟨ZNI hv hc.2.1 hc.2.2 (by rw [ZII (by omega)]; simp; omega) (ZMW hv hh),fun w ha hw=>hins w 0 ha hw⟩
 ·exact ⟨ZNG,fun _ _ _=>rfl⟩
theorem ZJd {l:List Pair} {key:Str} (hv:ZA l=true):ZA (ZFc l key).1=true∧∀ w:Interval,(l.all fun q=>ZFm w q.key)=true→((ZFc l key).1.all fun q=>ZFm w q.key)=true:=by
 unfold ZFc
 rw [if_pos hv]
 split
 ·obtain ⟨h1,h2,h3⟩:=(ZFC l).1 hv
  have hsub:List.Sublist (rep l (place key l) 1 []) l:=by
   simp only[rep,List.append_nil]
   conv=>rhs; rw [←List.take_append_drop (place key l) l]
   refine List.Sublist.append (List.Sublist.refl _) ?_
   rw [←List.drop_drop]
   exact List.drop_sublist ..
  refine ⟨(ZFC _).2 ⟨Nat.le_trans hsub.length_le h1,fun p hp=>h2 p (hsub.subset hp),h3.sublist hsub⟩,fun w ha=>?_⟩
  rw [List.all_eq_true] at ha ⊢
  exact fun p hp=>ha p (hsub.subset hp)
 ·exact ⟨hv,fun _ h=>h⟩
theorem ZMQ {l:List Pair} {c:Command} (hv:ZA l=true):ZA (Z7 l c).1=true∧∀ w:Interval,(l.all fun q=>ZFm w q.key)=true→ZFm w c.key=true→((Z7 l c).1.all fun q=>ZFm w q.key)=true:=by
 unfold Z7
 split
 ·split
  ·exact ⟨hv,fun _ h _=>h⟩
  ·split
   ·exact ⟨(ZJd hv).1,fun w h _=>(ZJd hv).2 w h⟩
   ·split
    ·exact ⟨hv,fun _ h _=>h⟩
    ·exact ZMe hv
 ·exact ⟨ZNG,fun _ _ _=>rfl⟩
def SFit (s:Session):Prop:=inR s.client 0 3=true∧inR s.seq 1 999=true∧inR s.reply (-2) 999=true
theorem ZMC:∀ (l:List Session),AscS l→∀ (i:Nat) (p q:Session),l[i]?=some p→l[i+1]?=some q→p.client<q.client
 | [],_,i,p,q,hp,_=>by simp at hp
 | x::l,h,0,p,q,hp,hq=>by
  simp only[List.getElem?_cons_zero,Option.some.injEq] at hp
  subst hp
  simp only[List.getElem?_cons_succ] at hq
  exact h.1 q (List.mem_of_getElem? hq)
 | x::l,h,i+1,p,q,hp,hq=>ZMC l h.2 i p q (by simpa using hp) (by simpa using hq)
theorem ZIM (l:List Session):ZF l=true↔(∀ p,p∈l→SFit p)∧AscS l:=by
 constructor
 ·intro h
  refine ⟨fun p hp=>?_,ZIL h⟩
  obtain ⟨i,hi⟩:=List.getElem?_of_mem hp
  have:=ZH2 h hi
  exact ⟨this.1,this.2.1,this.2.2.1⟩
 ·rintro ⟨h1,h2⟩
  refine (ZFz _ 0 rfl).2 fun j _ hj=>?_
  obtain ⟨p,hp⟩:∃ p,l[j]?=some p:=⟨_,List.getElem?_eq_getElem hj⟩
  obtain ⟨f1,f2,f3⟩:=h1 p (List.mem_of_getElem? hp)
  simp only[ZZ,hp,f1,f2,f3,Bool.true_and,Bool.or_eq_true,decide_eq_true_eq]
  cases j with
  | zero=>exact .inl rfl
  | succ j=>
   right
   obtain ⟨q,hq⟩:∃ q,l[j]?=some q:=⟨_,List.getElem?_eq_getElem (by omega)⟩
   simp only[Nat.add_sub_cancel,hq,decide_eq_true_eq]
   exact ZMC l h2 j q p hq hp
theorem ZJI (x:Session):∀ (l:List Session) (y:Session),y∈insS x l→y=x∨y∈l
 | [],y,h=>by simp [insS] at h; exact .inl h
 | z :: l,y,h=>by
  simp only[insS] at h
  split at h
  ·rcases List.mem_cons.1 h with rfl|h
   ·exact .inr (List.mem_cons_self ..)
   ·rcases ZJI x l y h with h|h
    ·exact .inl h
    ·exact .inr (List.mem_cons_of_mem _ h)
  ·split at h
   ·rcases List.mem_cons.1 h with h|h
    ·exact .inl h
    ·exact .inr (List.mem_cons_of_mem _ h)
   ·rcases List.mem_cons.1 h with h|h
    ·exact .inl h
    ·exact .inr h
theorem ZLF (x:Session):∀ l:List Session,AscS l→AscS (insS x l)
 | [],_=>⟨fun y h=>(by cases h),trivial⟩
 | z :: l,h=>by
  simp only[insS]
  split
  ·rename_i hz
   refine ⟨fun y hy=>?_,ZLF x l h.2⟩
   rcases ZJI x l y hy with rfl|hy
   ·exact hz
   ·exact h.1 y hy
  ·rename_i hz
   split
   ·rename_i he
    exact ⟨fun y hy=>by have:=h.1 y hy; omega,h.2⟩
   ·rename_i he
    refine ⟨fun y hy=>?_,h⟩
    rcases List.mem_cons.1 hy with rfl|hy
    ·omega
    ·have:=h.1 y hy; omega
theorem ZJ0 {l:List Session} (hv:ZF l=true) (x:Session):ZF (ZFx l x).1=true:=by
 unfold ZFx
 split
 ·rename_i hc
  rw [Bool.and_eq_true] at hc
  split
  ·exact hv
  ·obtain ⟨f1,a1⟩:=(ZIM l).1 hv
   obtain ⟨f2,_⟩:=(ZIM _).1 hc.2
   refine (ZIM _).2 ⟨fun p hp=>?_,ZLF x l a1⟩
   rcases ZJI x l p hp with rfl|hp
   ·exact f2 p (by simp)
   ·exact f1 p hp
 ·exact (ZIM []).2 ⟨fun p h=>(by cases h),trivial⟩
theorem ZMR {s:State} {e:Entry} (hs:ZC s=true) (he:ZN e=true):ZC (ZF1 s e).1=true:=by
 unfold ZF1
 split
 ·exact hs
 ·split
  ·exact hs
  ·split
   ·exact hs
   ·rename_i htk
    simp only[Bool.or_eq_true,Bool.not_eq_true',not_or,Bool.not_eq_true,Bool.not_eq_false] at htk
    obtain ⟨hse,htk⟩:=htk
    have hs':=hs
    simp only[ZC,Bool.and_eq_true] at hs'
    obtain ⟨⟨⟨⟨p1,p2⟩,p3⟩,p4⟩,p5⟩:=hs'
    split
    ·rename_i h5
     simp only[ZFo,h5,if_true] at htk
     simp only[ZC,p1,p2,p4,ZJ0 p3,Bool.true_and]
     exact htk
    ·rename_i h5
     simp only[ZFo,h5,if_false] at htk
     have hac:=ZMQ (c:=e.cmd) p2
     simp only[ZC,p1,hac.1,hac.2 _ p4 htk,ZJ0 p3,Bool.true_and]
     exact p5
def runE (s:State) (l:List Entry):State:=l.foldl (fun s e=>(ZF1 s e).1) s
def repE:State→List Entry→List Int
 | _,[]=>[]
 | s,e::l=>(ZF1 s e).2::repE (ZF1 s e).1 l
theorem ZKK {s:State} {l:List Entry} {i:Nat} {e:Entry} (h:l[i]?=some e):runE s (l.take (i+1))=(ZF1 (runE s (l.take i)) e).1:=by
 rw [runE,List.take_add_one,h,Option.toList_some,List.foldl_append]; rfl
theorem ZJe:∀ (s:State) (a:List Entry) (e:Entry),repE s (a++[e])=repE s a++[(ZF1 (runE s a) e).2]
 | s,[],e=>rfl
 | s,x::a,e=>by
  have:=ZJe (ZF1 s x).1 a e
  simp only[List.cons_append,repE,this]; rfl
theorem ZKI {s:State} {l:List Entry} {i:Nat} {e:Entry} (h:l[i]?=some e):repE s (l.take (i+1))=repE s (l.take i)++[(ZF1 (runE s (l.take i)) e).2]:=by
 rw [List.take_add_one,h,Option.toList_some,ZJe]
theorem ZJY:∀ (s:State) (l:List Entry),(repE s l).length=l.length
 | _,[]=>rfl
 | s,e::l=>by simp [repE,ZJY _ l]
theorem ZJw:∀ (l:List Entry) (s:State),ZC s=true→l.all ZN=true→ZC (runE s l)=true
 | [],_,h,_=>h
 | e::l,s,h,hl=>by
  rw [List.all_cons,Bool.and_eq_true] at hl
  exact ZJw l _ (ZMR h hl.1) hl.2
theorem ZLr {α:Type} {p:α→Bool} {l:List α} (h:l.all p=true) (i:Nat):(l.take i).all p=true:=by
 rw [List.all_eq_true] at h ⊢
 exact fun x hx=>h x (List.mem_of_mem_take hx)
theorem ZHR {s:State} (h:ZC s=true):s.pairs.length≤48∧s.known.length≤4:=by
 obtain ⟨_,h2,h3⟩:=ZG6 h
 exact ⟨ZFa h2,ZH3 h3⟩
def ZFN (s:State) (r:List Int):Option Ret:=some ⟨[.ag [.u (.str s.span.low),.u (.str s.span.high),.own (.par 0) s.pairs.length,.own (.par 1) s.known.length,.u (.bool s.sealed),.u (.str s.cut)],.sc (.own (.par 2) r.length)],[.row 2 (s.pairs.map Pair.u),.row 3 (s.known.map Session.u),.row 1 (r.map iU)],[]⟩
def ZGw:Option Ret:=some ⟨[.ag [.u (.str []),.u (.str []),.u (.sl 2 []),.u (.sl 3 []),.u (.bool false),.u (.str [])],.sc (.own (.par 0) 0)],[.row 1 []],[]⟩
def rid (a b:Nat):Nat→Nat→Id
 | 0,j=>.loc a j
 | _+1,j=>.loc b j
def ZFy (a b i:Nat) (s:State):List C:=[.u (.str s.span.low),.u (.str s.span.high),.own (rid a b i 0) s.pairs.length,.own (rid a b i 1) s.known.length,.u (.bool s.sealed),.u (.str s.cut)]
theorem ZLM (lo hi:Str) (l:List Pair) (k:List Session) (se:Bool) (cut:Str) (es:List Entry) (hl:l.length≤1048576) (hk:k.length≤1048576) (hes:es.length≤1048576):EE F 166 [.ag [.u (.str lo),.u (.str hi),.u (.sl 2 (l.map Pair.u)),.u (.sl 3 (k.map Session.u)),.u (.bool se),.u (.str cut)],L 6 (es.map Entry.u)] []=if (ZC ⟨⟨lo,hi⟩,l,k,se,cut⟩&&ZJ es)=true then ZFN (runE ⟨⟨lo,hi⟩,l,k,se,cut⟩ es) (repE ⟨⟨lo,hi⟩,l,k,se,cut⟩ es) else ZGw:=by
 rw [R166,b166]
 have hv:=ZGL lo hi l k se cut (by omega)
 have he:=ZGj es (by omega)
 cases h1:ZC ⟨⟨lo,hi⟩,l,k,se,cut⟩
 ·simp only[↓xP,xT,rL,rB,rA,rS,hv,h1]
  simp [ZGw]
 cases h2:ZJ es
 ·simp only[↓xP,xT,rL,rB,rA,rS,hv,h1,he,h2]
  simp [ZGw]
 have hcs:=ZIv lo hi l k se cut hl hk
 simp only[ZHQ] at hcs
 rw [Bool.and_self,if_pos rfl]
 simp only[ZJ,Bool.and_eq_true,decide_eq_true_eq] at h2
 obtain ⟨h24,hall⟩:=h2
 have he':EE F 225 [L 6 (es.map Entry.u)] []=ok1 (B true):=by rw [he]; simp [ZJ,h24,hall]
 rw [h1] at hv
 generalize hs0:(⟨⟨lo,hi⟩,l,k,se,cut⟩:State)=s0 at h1 ⊢
 simp only[↓xP,xT,rL,rB,rA,rS,hv,he',hcs]
 refine Zjc (fun (i:Nat) st=>i≤es.length∧st.s 4=.t (.sc (.ptr (.loc 4 0) 0 0))∧st.o (.loc 4 0)=some (.box [.u (.str []),.u (.str []),.u (.sl 2 []),.u (.sl 3 []),.u (.bool false),.u (.str [])])∧st.s 6=.t (.sc (.ptr (.loc 6 0) 0 0))∧st.o (.loc 6 0)=some (.box (ZFy 21 31 i (runE s0 (es.take i))))∧st.o (rid 21 31 i 0)=some (.row 2 ((runE s0 (es.take i)).pairs.map Pair.u))∧st.o (rid 21 31 i 1)=some (.row 3 ((runE s0 (es.take i)).known.map Session.u))∧st.s 7=.t (.sc (.own (.loc 7 0) (repE s0 (es.take i)).length))∧st.o (.loc 7 0)=some (.row 1 ((repE s0 (es.take i)).map iU))∧st.s 22=DU (.sl 6 (es.map Entry.u))∧st.s 23=DI es.length∧st.s 24=DI i) (fun i=>es.length - i) (fun _=>ZFN (runE s0 es) (repE s0 es)) ?_ 0 (by and_intros<;>first|omega|rfl|(simp only[↓xP,xT,rL,rB,rA,rS,←hs0,ZFy,rid,runE,repE,List.take_zero,List.foldl_nil,List.length_nil,List.map_nil]<;>first|done|rfl|omega))
 clear hcs hv he he'
 rintro i st ⟨hle,h4,ho4,h6,ho6,hop,hok,h7,ho7,h22,h23,h24'⟩ ih
 have hvs:=ZJw (es.take i) s0 h1 (ZLr hall i)
 have hsm:=ZHR hvs
 have hrl:(repE s0 (es.take i)).length≤24:=by rw [ZJY,List.length_take]; omega
 by_cases hi':i<es.length
 ·obtain ⟨⟨c,s,⟨kd,key,v,o⟩⟩,hx⟩:∃ x,es[i]?=some x:=⟨_,List.getElem?_eq_getElem hi'⟩
  have hw:=w_succ (i:=i) (by omega)
  have hev:ZN ⟨c,s,⟨kd,key,v,o⟩⟩=true:=List.all_eq_true.1 hall _ (List.mem_of_getElem? hx)
  have hr1:=ZKK (s:=s0) hx
  have hr2:=ZKI (s:=s0) hx
  generalize runE s0 (es.take i)=S at ho6 hop hok hr1 hr2 hvs hsm
  generalize repE s0 (es.take i)=R at h7 ho7 hr2 hrl
  obtain ⟨⟨lo',hi2⟩,l',k',se',cut'⟩:=S
  dsimp only at ho6 hop hok hsm
  have hae:=ZJj lo' hi2 l' k' se' cut' c s kd key v o (by omega) (by omega)
  rw [hvs,hev,Bool.and_self,if_pos rfl] at hae
  generalize ZF1 ⟨⟨lo',hi2⟩,l',k',se',cut'⟩ ⟨c,s,⟨kd,key,v,o⟩⟩=q at hae hr1 hr2
  obtain ⟨⟨⟨lo3,hi3⟩,l3,k3,se3,cut3⟩,rp⟩:=q
  simp only[ZFM] at hae hr1 hr2
  have m1:R.length+1≤maxLen:=by simp [maxLen]; omega
  have m2:(R.length+1)*8≤140737488355328:=by omega
  cases i with
  | zero=>
   simp only[rid,ZFy] at ho6 hop hok
   simp only[↓xP,xT,rL,rB,rA,rS,rdx,rdx2,h4,ho4,h6,ho6,hop,hok,h7,ho7,h22,h23,h24',hi',hx,hw,Entry.u,hae,ZI,List.length_map,m1,m2]
   exact ih 1 _ (by omega) (by and_intros<;>first|omega|rfl|(simp only[↓xP,xT,rL,rB,rA,rS,h4,ho4,h6,ho6,h7,ho7,h22,h23,hr1,hr2,rid,ZFy,List.length_append,List.map_append,List.length_cons,List.length_nil,List.map_cons,List.map_nil,iU]<;>first|done|rfl|omega))
  | succ i=>
   simp only[rid,ZFy] at ho6 hop hok
   simp only[↓xP,xT,rL,rB,rA,rS,rdx,rdx2,h4,ho4,h6,ho6,hop,hok,h7,ho7,h22,h23,h24',hi',hx,hw,Entry.u,hae,ZI,List.length_map,m1,m2]
   exact ih (i+1+1) _ (by omega) (by and_intros<;>first|omega|rfl|(simp only[↓xP,xT,rL,rB,rA,rS,h4,ho4,h6,ho6,h7,ho7,h22,h23,hr1,hr2,rid,ZFy,List.length_append,List.map_append,List.length_cons,List.length_nil,List.map_cons,List.map_nil,iU]<;>first|done|rfl|omega))
 ·have hta:es.take i=es:=List.take_of_length_le (by omega)
  rw [hta] at ho6 hop hok h7 ho7
  generalize runE s0 es=S at ho6 hop hok ⊢
  obtain ⟨⟨lo',hi2⟩,l',k',se',cut'⟩:=S
  cases i with
  | zero=>
   simp only[rid,ZFy] at ho6 hop hok
   simp only[↓xP,xT,rL,rB,rA,rS,h4,ho4,h6,ho6,hop,hok,h7,ho7,h22,h23,h24',hi',ZFN]
  | succ i=>
   simp only[rid,ZFy] at ho6 hop hok
   simp only[↓xP,xT,rL,rB,rA,rS,h4,ho4,h6,ho6,hop,hok,h7,ho7,h22,h23,h24',hi',ZFN]
theorem ZLN (lo hi:Str) (l:List Pair) (k:List Session) (se:Bool) (cut:Str) (es:List Entry) (hl:l.length≤1048576) (hk:k.length≤1048576) (hes:es.length≤1048576):EE F 164 [.ag [.u (.str lo),.u (.str hi),.u (.sl 2 (l.map Pair.u)),.u (.sl 3 (k.map Session.u)),.u (.bool se),.u (.str cut)],L 6 (es.map Entry.u)] []=if (ZC ⟨⟨lo,hi⟩,l,k,se,cut⟩&&ZJ es)=true then ZFN (runE ⟨⟨lo,hi⟩,l,k,se,cut⟩ es) (repE ⟨⟨lo,hi⟩,l,k,se,cut⟩ es) else ZGw:=by
 rw [R164,b164]
 have hv:=ZGM lo hi l k se cut (by omega)
 have he:=ZGk es (by omega)
 cases h1:ZC ⟨⟨lo,hi⟩,l,k,se,cut⟩
 ·simp only[↓xP,xT,rL,rB,rA,rS,hv,h1]
  simp [ZGw]
 cases h2:ZJ es
 ·simp only[↓xP,xT,rL,rB,rA,rS,hv,h1,he,h2]
  simp [ZGw]
 have hcs:=ZJJ lo hi l k se cut hl hk
 simp only[ZHQ] at hcs
 rw [Bool.and_self,if_pos rfl]
 simp only[ZJ,Bool.and_eq_true,decide_eq_true_eq] at h2
 obtain ⟨h24,hall⟩:=h2
 have he':EE F 222 [L 6 (es.map Entry.u)] []=ok1 (B true):=by rw [he]; simp [ZJ,h24,hall]
 rw [h1] at hv
 generalize hs0:(⟨⟨lo,hi⟩,l,k,se,cut⟩:State)=s0 at h1 ⊢
 simp only[↓xP,xT,rL,rB,rA,rS,hv,he',hcs]
 refine Zjc (fun (i:Nat) st=>i≤es.length∧st.s 4=.t (.sc (.ptr (.loc 4 0) 0 0))∧st.o (.loc 4 0)=some (.box [.u (.str []),.u (.str []),.u (.sl 2 []),.u (.sl 3 []),.u (.bool false),.u (.str [])])∧st.s 7=.t (.sc (.ptr (.loc 7 0) 0 0))∧st.o (.loc 7 0)=some (.box (ZFy 23 36 i (runE s0 (es.take i))))∧st.o (rid 23 36 i 0)=some (.row 2 ((runE s0 (es.take i)).pairs.map Pair.u))∧st.o (rid 23 36 i 1)=some (.row 3 ((runE s0 (es.take i)).known.map Session.u))∧st.s 6=.t (.sc (.own (.loc 11 0) (repE s0 (es.take i)).length))∧st.o (.loc 11 0)=some (.row 1 ((repE s0 (es.take i)).map iU))∧st.s 1=DU (.sl 6 (es.map Entry.u))∧st.s 8=DI i) (fun i=>es.length - i) (fun _=>ZFN (runE s0 es) (repE s0 es)) ?_ 0 (by and_intros<;>first|omega|rfl|(simp only[↓xP,xT,rL,rB,rA,rS,←hs0,ZFy,rid,runE,repE,List.take_zero,List.foldl_nil,List.length_nil,List.map_nil]<;>first|done|rfl|omega))
 clear hcs hv he he'
 rintro i st ⟨hle,h4,ho4,h6,ho6,hop,hok,h7,ho7,h22,h24'⟩ ih
 have hvs:=ZJw (es.take i) s0 h1 (ZLr hall i)
 have hsm:=ZHR hvs
 have hrl:(repE s0 (es.take i)).length≤24:=by rw [ZJY,List.length_take]; omega
 by_cases hi':i<es.length
 ·obtain ⟨⟨c,s,⟨kd,key,v,o⟩⟩,hx⟩:∃ x,es[i]?=some x:=⟨_,List.getElem?_eq_getElem hi'⟩
  have hw:=w_succ (i:=i) (by omega)
  have hev:ZN ⟨c,s,⟨kd,key,v,o⟩⟩=true:=List.all_eq_true.1 hall _ (List.mem_of_getElem? hx)
  have hr1:=ZKK (s:=s0) hx
  have hr2:=ZKI (s:=s0) hx
  generalize runE s0 (es.take i)=S at ho6 hop hok hr1 hr2 hvs hsm
  generalize repE s0 (es.take i)=R at h7 ho7 hr2 hrl
  obtain ⟨⟨lo',hi2⟩,l',k',se',cut'⟩:=S
  dsimp only at ho6 hop hok hsm
  have hae:=ZJk lo' hi2 l' k' se' cut' c s kd key v o (by omega) (by omega)
  rw [hvs,hev,Bool.and_self,if_pos rfl] at hae
  generalize ZF1 ⟨⟨lo',hi2⟩,l',k',se',cut'⟩ ⟨c,s,⟨kd,key,v,o⟩⟩=q at hae hr1 hr2
  obtain ⟨⟨⟨lo3,hi3⟩,l3,k3,se3,cut3⟩,rp⟩:=q
  simp only[ZFM] at hae hr1 hr2
  have m1:R.length+1≤maxLen:=by simp [maxLen]; omega
  have m2:(R.length+1)*8≤140737488355328:=by omega
  cases i with
  | zero=>
   simp only[rid,ZFy] at ho6 hop hok
   simp only[↓xP,xT,rL,rB,rA,rS,rdx,rdx2,ofR,List.getElem?_nil,h4,ho4,h6,ho6,hop,hok,h7,ho7,h22,h24',hi',hx,hw,Entry.u,hae,ZI,List.length_map,m1,m2]
   exact ih 1 _ (by omega) (by and_intros<;>first|omega|rfl|(simp only[↓xP,xT,rL,rB,rA,rS,h4,ho4,h6,ho6,h7,ho7,h22,hw,hr1,hr2,rid,ZFy,List.length_append,List.map_append,List.length_cons,List.length_nil,List.map_cons,List.map_nil,iU]<;>first|done|rfl|omega))
  | succ i=>
   simp only[rid,ZFy] at ho6 hop hok
   simp only[↓xP,xT,rL,rB,rA,rS,rdx,rdx2,ofR,List.getElem?_nil,h4,ho4,h6,ho6,hop,hok,h7,ho7,h22,h24',hi',hx,hw,Entry.u,hae,ZI,List.length_map,m1,m2]
   exact ih (i+1+1) _ (by omega) (by and_intros<;>first|omega|rfl|(simp only[↓xP,xT,rL,rB,rA,rS,h4,ho4,h6,ho6,h7,ho7,h22,hw,hr1,hr2,rid,ZFy,List.length_append,List.map_append,List.length_cons,List.length_nil,List.map_cons,List.map_nil,iU]<;>first|done|rfl|omega))
 ·have hta:es.take i=es:=List.take_of_length_le (by omega)
  rw [hta] at ho6 hop hok h7 ho7
  generalize runE s0 es=S at ho6 hop hok ⊢
  obtain ⟨⟨lo',hi2⟩,l',k',se',cut'⟩:=S
  cases i with
  | zero=>
   simp only[rid,ZFy] at ho6 hop hok
   simp only[↓xP,xT,rL,rB,rA,rS,h4,ho4,h6,ho6,hop,hok,h7,ho7,h22,h24',hi',List.length_map,ZFN]
  | succ i=>
   simp only[rid,ZFy] at ho6 hop hok
   simp only[↓xP,xT,rL,rB,rA,rS,h4,ho4,h6,ho6,hop,hok,h7,ho7,h22,h24',hi',List.length_map,ZFN]
theorem ZNr (st:St) (d:Nat):st.dead d 3=(isNo (st.o (.loc d 0))&&(isNo (st.o (.loc d 1))&&isNo (st.o (.loc d 2)))):=by simp [St.dead,isNo,List.range_succ,Bool.and_assoc]
theorem ZN1 (st:St) (d:Nat) (v:D) (a b c:Id) (x y z:Obj) (rd:List Id):Fx.app ⟨some d,v,[(a,x),(b,y),(c,z)],rd⟩ st=(((st.obj a (some x)).obj b (some y)).obj c (some z)).put d v:=rfl
def ZFh (l:List Answer):List Entry:=l.map (fun a=>a.asked)
theorem ZKx {l:List Answer} {i:Nat} {a:Answer} (h:l[i]?=some a):ZFh (l.take (i+1))=ZFh (l.take i)++[a.asked]:=by
 rw [ZFh,List.take_add_one,h]; simp [ZFh]
theorem ZHA (l:List Answer):(ZFh l).length=l.length:=by simp [ZFh]
def ZG2 (l:List Entry):Option Ret:=some ⟨[.sc (.own (.par 0) l.length)],[.row 6 (l.map Entry.u)],[]⟩
theorem ZL4 (l:List Answer) (hn:l.length≤1048576):EE F 167 [L 7 (l.map Answer.u)] []=ZG2 (ZFh l):=by
 rw [R167,b167]
 simp only[↓xP,xT,rL,rB,rA,rS]
 refine Zjc (fun (i:Nat) st=>i≤l.length∧st.s 3=.t (.sc (.own (.loc 3 0) (ZFh (l.take i)).length))∧st.o (.loc 3 0)=some (.row 6 ((ZFh (l.take i)).map Entry.u))∧st.s 6=DU (.sl 7 (l.map Answer.u))∧st.s 7=DI l.length∧st.s 8=DI i) (fun i=>l.length - i) (fun _=>ZG2 (ZFh l)) ?_ 0 (by and_intros<;>first|omega|rfl|(simp only[↓xP,xT,rL,rB,rA,rS]<;>first|done|rfl|omega))
 rintro i st ⟨hle,h3,ho,h6,h7,h8⟩ ih
 by_cases hi:i<l.length
 ·obtain ⟨⟨⟨c,s,⟨kd,key,v,o⟩⟩,rp⟩,hx⟩:∃ x,l[i]?=some x:=⟨_,List.getElem?_eq_getElem hi⟩
  have hw:=w_succ (i:=i) (by omega)
  have hst:=ZKx hx
  have hol:(ZFh (l.take i)).length=i:=by rw [ZHA,List.length_take]; omega
  generalize ZFh (l.take i)=O at h3 ho hst hol
  have m1:O.length+1≤maxLen:=by simp [maxLen]; omega
  have m2:(O.length+1)*56≤140737488355328:=by omega
  simp only[↓xP,xT,rL,rB,rA,rS,h3,ho,h6,h7,h8,hi,hx,hw,Answer.u,List.length_map,m1,m2]
  exact ih (i+1) _ (by omega) (by and_intros<;>first|omega|rfl|(simp only[↓xP,xT,rL,rB,rA,rS,h3,ho,h6,h7,hst,List.length_append,List.map_append,List.length_cons,List.length_nil,List.map_cons,List.map_nil,Entry.u]<;>first|done|rfl|omega))
 ·have hall:l.take i=l:=List.take_of_length_le (by omega)
  rw [hall] at h3 ho
  simp only[↓xP,xT,rL,rB,rA,rS,h3,ho,h6,h7,h8,hi,ZG2]
theorem ZJz (lo up:Str) (prs:List Pair) (kn:List Session) (sld:Bool) (cut:Str) (ep:Int) (ms:List Int) (fr:Bool) (nds:List Replica) (ups:List Bool) (bag:List Message) (ans:List Answer) (hs:Chain.Small ⟨⟨⟨lo,up⟩,prs,kn,sld,cut⟩,⟨ep,ms,fr⟩,nds,ups,bag,ans⟩) (hv:ZD ⟨⟨⟨lo,up⟩,prs,kn,sld,cut⟩,⟨ep,ms,fr⟩,nds,ups,bag,ans⟩=true):EE F 165 [.ag [.u (.str lo),.u (.str up),.u (.sl 2 (prs.map Pair.u)),.u (.sl 3 (kn.map Session.u)),.u (.bool sld),.u (.str cut),.u (.int .i64 ep),.u (.sl 1 (ms.map iU)),.u (.bool fr),.u (.sl 5 (nds.map Replica.u)),.u (.sl 1 (ups.map bU)),.u (.sl 7 (bag.map Message.u)),.u (.sl 7 (ans.map Answer.u))]] []=ZG2 (ZFh ans):=by
 have hch:=ZGJ lo up prs kn sld cut ep ms fr nds ups bag ans hs
 have hn:ans.length≤1048576:=hs.2.2.2.2.2.1.1
 rw [hv] at hch
 rw [R165,b165]
 simp only[↓xP,xT,rL,rB,rA,rS]
 refine Zjc (fun (i:Nat) st=>i≤ans.length∧st.s 1=.t (.sc (.ptr (.loc 1 0) 0 0))∧st.o (.loc 1 0)=some (.box [.u (.str lo),.u (.str up),.u (.sl 2 (prs.map Pair.u)),.u (.sl 3 (kn.map Session.u)),.u (.bool sld),.u (.str cut),.u (.int .i64 ep),.u (.sl 1 (ms.map iU)),.u (.bool fr),.u (.sl 5 (nds.map Replica.u)),.u (.sl 1 (ups.map bU)),.u (.sl 7 (bag.map Message.u)),.u (.sl 7 (ans.map Answer.u))])∧st.s 3=.t (.sc (.own (.loc 5 0) (ZFh (ans.take i)).length))∧st.o (.loc 5 0)=some (.row 6 ((ZFh (ans.take i)).map Entry.u))∧st.s 4=DI i) (fun i=>ans.length - i) (fun _=>ZG2 (ZFh ans)) ?_ 0 (by and_intros<;>first|omega|rfl|(simp only[↓xP,xT,rL,rB,rA,rS]<;>first|done|rfl|omega))
 rintro i st ⟨hle,h1,hb,h3,ho,h4⟩ ih
 by_cases hi:i<ans.length
 ·obtain ⟨⟨⟨c,s,⟨kd,key,v,o⟩⟩,rp⟩,hx⟩:∃ x,ans[i]?=some x:=⟨_,List.getElem?_eq_getElem hi⟩
  have hw:=w_succ (i:=i) (by omega)
  have hst:=ZKx hx
  have hol:(ZFh (ans.take i)).length=i:=by rw [ZHA,List.length_take]; omega
  generalize ZFh (ans.take i)=O at h3 ho hst hol
  have m1:O.length+1≤maxLen:=by simp [maxLen]; omega
  have m2:(O.length+1)*56≤140737488355328:=by omega
  simp only[↓xP,xT,rL,rB,rA,rS,rdx,rdx2,h1,hb,h3,ho,h4,hi,hx,hw,hch,Answer.u,List.length_map,m1,m2]
  exact ih (i+1) _ (by omega) (by and_intros<;>first|omega|rfl|(simp only[↓xP,xT,rL,rB,rA,rS,h1,hb,h3,ho,hw,hst,List.length_append,List.map_append,List.length_cons,List.length_nil,List.map_cons,List.map_nil,Entry.u]<;>first|done|rfl|omega))
 ·have hall:ans.take i=ans:=List.take_of_length_le (by omega)
  rw [hall] at h3 ho
  simp only[↓xP,xT,rL,rB,rA,rS,rdx,rdx2,h1,hb,h3,ho,h4,hi,hch,List.length_map,ZG2]
def ZFZ (c:Chain):State:=runE c.base (ZFh c.answers)
theorem ZIh {c:Chain} (h:ZD c=true):ZJ (ZFh c.answers)=true:=by
 simp only[ZD,ZU,Bool.and_eq_true,decide_eq_true_eq] at h
 simp only[ZJ,ZHA,Bool.and_eq_true,decide_eq_true_eq]
 refine ⟨h.2.1,?_⟩
 have h2:=h.2.2
 rw [List.all_eq_true] at h2 ⊢
 intro e he
 obtain ⟨a,ha,rfl⟩:=List.mem_map.1 he
 have:=h2 a ha
 simp only[ZFg,Bool.and_eq_true] at this
 exact this.1
theorem ZIj {c:Chain} (h:ZD c=true):ZC c.base=true:=by
 simp only[ZD,Bool.and_eq_true] at h
 exact h.1.1.1.1.1.1.1
def ZJU (s:State):Option Ret:=some ⟨[.ag [.u (.str s.span.low),.u (.str s.span.high),.own (.par 0) s.pairs.length,.own (.par 1) s.known.length,.u (.bool s.sealed),.u (.str s.cut)]],[.row 2 (s.pairs.map Pair.u),.row 3 (s.known.map Session.u)],[]⟩
def ZK0 (s:State):Option Ret:=some ⟨[.ag [.u (.str s.span.low),.u (.str s.span.high),.u (.sl 2 (s.pairs.map Pair.u)),.u (.sl 3 (s.known.map Session.u)),.u (.bool s.sealed),.u (.str s.cut)]],[],[]⟩
def ZJv:Option Ret:=some ⟨[.ag [.u (.str []),.u (.str []),.u (.sl 2 []),.u (.sl 3 []),.u (.bool false),.u (.str [])]],[],[]⟩
theorem ZIf (lo up:Str) (prs:List Pair) (kn:List Session) (sld:Bool) (cut:Str) (ep:Int) (ms:List Int) (fr:Bool) (nds:List Replica) (ups:List Bool) (bag:List Message) (ans:List Answer) (hs:Chain.Small ⟨⟨⟨lo,up⟩,prs,kn,sld,cut⟩,⟨ep,ms,fr⟩,nds,ups,bag,ans⟩):EE F 99 [.ag [.u (.str lo),.u (.str up),.u (.sl 2 (prs.map Pair.u)),.u (.sl 3 (kn.map Session.u)),.u (.bool sld),.u (.str cut),.u (.int .i64 ep),.u (.sl 1 (ms.map iU)),.u (.bool fr),.u (.sl 5 (nds.map Replica.u)),.u (.sl 1 (ups.map bU)),.u (.sl 7 (bag.map Message.u)),.u (.sl 7 (ans.map Answer.u))]] []=if ZD ⟨⟨⟨lo,up⟩,prs,kn,sld,cut⟩,⟨ep,ms,fr⟩,nds,ups,bag,ans⟩=true then ZJU (ZFZ ⟨⟨⟨lo,up⟩,prs,kn,sld,cut⟩,⟨ep,ms,fr⟩,nds,ups,bag,ans⟩) else ZJv:=by
 have hch:=ZHw lo up prs kn sld cut ep ms fr nds ups bag ans hs
 have hn:ans.length≤1048576:=hs.2.2.2.2.2.1.1
 rw [R99,b99]
 cases hv:ZD ⟨⟨⟨lo,up⟩,prs,kn,sld,cut⟩,⟨ep,ms,fr⟩,nds,ups,bag,ans⟩
 ·simp only[↓xP,xT,rL,rB,rA,rS,hch,hv]
  simp [ZJv]
 have hav:=ZIh hv
 have hbv:=ZIj hv
 have has:=ZL4 ans hn
 have hpl:prs.length≤1048576:=hs.1.2.1.1
 have hkl:kn.length≤1048576:=hs.1.2.2.1.1
 have hrp:=ZLM lo up prs kn sld cut (ZFh ans) hpl hkl (by rw [ZHA]; exact hn)
 simp only at hav hbv
 rw [hav,hbv,Bool.and_self,if_pos rfl] at hrp
 rw [if_pos rfl]
 simp only[ZFZ]
 generalize runE ⟨⟨lo,up⟩,prs,kn,sld,cut⟩ (ZFh ans)=S at hrp
 generalize repE ⟨⟨lo,up⟩,prs,kn,sld,cut⟩ (ZFh ans)=R at hrp
 obtain ⟨⟨lo2,up2⟩,p2,k2,s2,ct2⟩:=S
 simp only[ZFN] at hrp
 simp only[ZG2] at has
 simp only[↓xP,xT,rL,rB,rA,rS,rdx,rdx2,ofR,ZNr,ZN1,List.getElem?_nil,hch,hv,has,hrp,ZI,ZJU]
theorem ZIg (lo up:Str) (prs:List Pair) (kn:List Session) (sld:Bool) (cut:Str) (ep:Int) (ms:List Int) (fr:Bool) (nds:List Replica) (ups:List Bool) (bag:List Message) (ans:List Answer) (hs:Chain.Small ⟨⟨⟨lo,up⟩,prs,kn,sld,cut⟩,⟨ep,ms,fr⟩,nds,ups,bag,ans⟩):EE F 98 [.ag [.u (.str lo),.u (.str up),.u (.sl 2 (prs.map Pair.u)),.u (.sl 3 (kn.map Session.u)),.u (.bool sld),.u (.str cut),.u (.int .i64 ep),.u (.sl 1 (ms.map iU)),.u (.bool fr),.u (.sl 5 (nds.map Replica.u)),.u (.sl 1 (ups.map bU)),.u (.sl 7 (bag.map Message.u)),.u (.sl 7 (ans.map Answer.u))]] []=if ZD ⟨⟨⟨lo,up⟩,prs,kn,sld,cut⟩,⟨ep,ms,fr⟩,nds,ups,bag,ans⟩=true then ZK0 (ZFZ ⟨⟨⟨lo,up⟩,prs,kn,sld,cut⟩,⟨ep,ms,fr⟩,nds,ups,bag,ans⟩) else ZJv:=by
 have hch:=ZGJ lo up prs kn sld cut ep ms fr nds ups bag ans hs
 have hn:ans.length≤1048576:=hs.2.2.2.2.2.1.1
 rw [R98,b98]
 cases hv:ZD ⟨⟨⟨lo,up⟩,prs,kn,sld,cut⟩,⟨ep,ms,fr⟩,nds,ups,bag,ans⟩
 ·simp only[↓xP,xT,rL,rB,rA,rS,hch,hv]
  simp [ZJv]
 have hav:=ZIh hv
 have hbv:=ZIj hv
 have has:=ZJz lo up prs kn sld cut ep ms fr nds ups bag ans hs hv
 have hpl:prs.length≤1048576:=hs.1.2.1.1
 have hkl:kn.length≤1048576:=hs.1.2.2.1.1
 have hrp:=ZLN lo up prs kn sld cut (ZFh ans) hpl hkl (by rw [ZHA]; exact hn)
 simp only at hav hbv
 rw [hav,hbv,Bool.and_self,if_pos rfl] at hrp
 rw [if_pos rfl]
 simp only[ZFZ]
 generalize runE ⟨⟨lo,up⟩,prs,kn,sld,cut⟩ (ZFh ans)=S at hrp
 generalize repE ⟨⟨lo,up⟩,prs,kn,sld,cut⟩ (ZFh ans)=R at hrp
 obtain ⟨⟨lo2,up2⟩,p2,k2,s2,ct2⟩:=S
 simp only[ZFN] at hrp
 simp only[ZG2] at has
 simp only[↓xP,xT,rL,rB,rA,rS,rdx,rdx2,ofR,ZNr,ZN1,List.getElem?_nil,hch,hv,has,hrp,ZI,ZK0]
def ld3 (st:St) (d zl:Nat) (ids:List Id) (us:List U) (ok:Bool):Option St:=if ok=true then some (((st.killAll ids).obj (.loc d 0) (some (.deep zl [us]))).put d (.t (.sc (.down (.loc d 0) 1)))) else none
def ld2 (st:St) (d k zl:Nat) (ids:List Id) (us:Option (List U)):Option St:=us.bind fun us=>ld3 st d zl ids us (us.length==zl&&(k==1&&ZaV ids))
def ZI4 (st:St) (d k zl:Nat) (x:D):Option St:=match x with
 | .t v=>ld2 st d k zl v.ids (Zb1 st v.cells)
 | _=>none
@[congr] theorem ZK8 {st:St} {d k zl:Nat} {x x':D} (h:x=x'):ZI4 st d k zl x=ZI4 st d k zl x':=by rw [h]
@[congr] theorem ZM4 {st:St} {d k zl:Nat} {ids ids':List Id} {us us':Option (List U)} (h:ids=ids') (h2:us=us'):ld2 st d k zl ids us=ld2 st d k zl ids' us':=by rw [h,h2]
@[congr] theorem ZM5 {st:St} {d zl:Nat} {ids:List Id} {us:List U} {ok ok':Bool} (h:ok=ok'):ld3 st d zl ids us ok=ld3 st d zl ids us ok':=by rw [h]
theorem ZNX (E:Zb) (st:St) (d k:Nat) (zero:List U) (a:Arg):step E st (.litd d k zero a)=ZI4 (st.cool (.loc d 0)) d k zero.length ((st.cool (.loc d 0)).get a):=by
 simp only[step,ZI4]
 cases (st.cool (.loc d 0)).get a with
 | t v=>
  simp only[D.t?,Option.bind_some,ZeB,ld2]
  cases Zb1 (st.cool (.loc d 0)) v.cells with
  | none=>rfl
  | some us=>
   simp only[Option.bind_some,ld3,St.make,←ZcJ]
   by_cases h1:us.length=zero.length<;>by_cases h2:k=1<;>by_cases h3:v.ids.Nodup<;>simp [h1,h2,h3]
 | _=>rfl
def ap5 (st:St) (d sz:Nat) (idy:Id) (ry r:List (List U)) (id:Id) (n:Nat) (ok:Bool):Option St:=if ok=true then some ((((st.kill idy).kill id).obj id (some (.deep sz (r++ry)))).put d (.t (.sc (.down id n)))) else none
def ap6 (st:St) (d sz:Nat) (idy:Id) (ry:List (List U)) (m:Nat) (ok:Bool):Option St:=if ok=true then some ((((st.kill idy).cool (.loc d 0)).obj (.loc d 0) (some (.deep sz ry))).put d (.t (.sc (.down (.loc d 0) m)))) else none
def ap4 (st:St) (d sz:Nat) (idy:Id) (m:Nat) (ry:List (List U)) (bytes:Nat) (id:Id) (n:Nat) (ob:Option Obj):Option St:=match ob with
 | some (.deep z r)=>ap5 st d sz idy ry r id (n+m) (z==sz&&(r.length==n&&(Zk id&&(!(id==idy)&&(decide (n+m≤maxLen)&&decide ((n+m)*bytes≤140737488355328))))))
 | _=>none
def ap3 (st:St) (d sz:Nat) (idy:Id) (m:Nat) (ry:List (List U)) (bytes:Nat) (x:D) (ok:Bool):Option St:=if ok=true then (match x with
 | .t (.sc (.u .nil))|.emp=>ap6 st d sz idy ry m (decide (m≤maxLen)&&decide (m*bytes≤140737488355328))
 | .t (.sc (.down id n))=>ap4 st d sz idy m ry bytes id n (st.o id)
 | _=>none) else none
def ap2 (st:St) (d sz:Nat) (idy:Id) (m bytes:Nat) (x:D) (ob:Option Obj):Option St:=match ob with
 | some (.deep zy ry)=>ap3 st d sz idy m ry bytes x (zy==sz&&(ry.length==m&&(Zk idy&&decide (0<m))))
 | _=>none
def ZI3 (st:St) (d sz bytes:Nat) (x y:D):Option St:=match y with
 | .t (.sc (.down idy m))=>ap2 st d sz idy m bytes x (st.o idy)
 | _=>none
@[congr] theorem ZK7 {st:St} {d sz bytes:Nat} {x x' y y':D} (h:x=x') (h2:y=y'):ZI3 st d sz bytes x y=ZI3 st d sz bytes x' y':=by rw [h,h2]
@[congr] theorem ZML {st:St} {d sz m bytes:Nat} {idy:Id} {x x':D} {ob ob':Option Obj} (h:x=x') (h2:ob=ob'):ap2 st d sz idy m bytes x ob=ap2 st d sz idy m bytes x' ob':=by rw [h,h2]
@[congr] theorem ZMM {st:St} {d sz m bytes:Nat} {idy:Id} {ry:List (List U)} {x:D} {ok ok':Bool} (h:ok=ok'):ap3 st d sz idy m ry bytes x ok=ap3 st d sz idy m ry bytes x ok':=by rw [h]
@[congr] theorem ZMN {st:St} {d sz m bytes n:Nat} {idy id:Id} {ry:List (List U)} {ob ob':Option Obj} (h:ob=ob'):ap4 st d sz idy m ry bytes id n ob=ap4 st d sz idy m ry bytes id n ob':=by rw [h]
@[congr] theorem ZMO {st:St} {d sz n:Nat} {idy id:Id} {ry r:List (List U)} {ok ok':Bool} (h:ok=ok'):ap5 st d sz idy ry r id n ok=ap5 st d sz idy ry r id n ok':=by rw [h]
@[congr] theorem ZMP {st:St} {d sz m:Nat} {idy:Id} {ry:List (List U)} {ok ok':Bool} (h:ok=ok'):ap6 st d sz idy ry m ok=ap6 st d sz idy ry m ok':=by rw [h]
theorem ZNN (E:Zb) (st:St) (d sz:Nat) (x y:Arg) (bytes:Nat):step E st (.appd d sz x y bytes)=ZI3 st d sz bytes (st.get x) (st.get y):=by
  simp only[step,ZI3]
  cases st.get y with
  | t q =>
    cases q with
    | sc c=>
      cases c with
      | down idy m=>
        simp only[ap2]
        cases st.o idy with
        | none=>rfl
        | some ob =>
          cases ob with
          | deep zy ry=>
            simp only[ap3]
            have hc:(zy==sz&&(ry.length==m&&(Zk idy&&decide (0<m))))=decide (zy=sz∧ry.length=m∧Zk idy=true∧0<m):=by
              rw [Bool.eq_iff_iff]; simp
            rw [hc]
            by_cases h:zy=sz∧ry.length=m∧Zk idy=true∧0<m
            · rw [if_pos h,if_pos (decide_eq_true h)]
              cases st.get x with
              | t q =>
                cases q with
                | sc c=>
                  cases c with
                  | u v=>
                    cases v with
                    | nil=>
                      simp only[D.base?,ap6,St.make]
                      by_cases g1:m≤maxLen<;>by_cases g2:m*bytes≤140737488355328<;>simp [g1,g2]
                    | _=>rfl
                  | down id n=>
                    simp only[D.base?,ap4]
                    cases st.o id with
                    | none=>rfl
                    | some ob=>
                      cases ob with
                      | deep z r=>
                        simp only[ap5]
                        have hc2:(z==sz&&(r.length==n&&(Zk id&&(!(id==idy)&&(decide (n+m≤maxLen)&&decide ((n+m)*bytes≤140737488355328))))))=decide (z=sz∧r.length=n∧Zk id=true∧id≠idy∧n+m≤maxLen∧(n+m)*bytes≤140737488355328):=by
                          rw [Bool.eq_iff_iff]; simp
                        rw [hc2]
                        by_cases g:z=sz∧r.length=n∧Zk id=true∧id≠idy∧n+m≤maxLen∧(n+m)*bytes≤140737488355328
                        · rw [if_pos g,if_pos (decide_eq_true g)]
                        · rw [if_neg g,if_neg (fun e=>g (of_decide_eq_true e))]
                      | _=>rfl
                  | _=>rfl
                | _=>rfl
              | emp=>
                simp only[D.base?,ap6,St.make]
                by_cases g1:m≤maxLen<;>by_cases g2:m*bytes≤140737488355328<;>simp [g1,g2]
              | _=>rfl
            · rw [if_neg h,if_neg (fun e=>h (of_decide_eq_true e))]
          | _=>rfl
      | _=>rfl
    | _=>rfl
  | _=>rfl
theorem ZNs:(∀ (F:Nat→Option IFn) (fin:St→Option Ret) (is:List Za) (os:List GOp) (st:St) d k zero a,RR F fin is (⟨.litd d k zero a,none⟩::os) st=RS F fin is os (ZI4 (st.cool (.loc d 0)) d k zero.length ((st.cool (.loc d 0)).get a)))∧
 (∀ (st:St) d k zl v,ZI4 st d k zl (.t v)=ld2 st d k zl v.ids (Zb1 st v.cells))∧(∀ (st:St) d k zl ids us,ld2 st d k zl ids (some us)=ld3 st d zl ids us (us.length==zl&&(k==1&&ZaV ids)))∧
 (∀ (st:St) d zl ids us,ld3 st d zl ids us true=some (((st.killAll ids).obj (.loc d 0) (some (.deep zl [us]))).put d (.t (.sc (.down (.loc d 0) 1)))))∧
 (∀ (F:Nat→Option IFn) (fin:St→Option Ret) (is:List Za) (os:List GOp) (st:St) d sz x y bytes,RR F fin is (⟨.appd d sz x y bytes,none⟩::os) st=RS F fin is os (ZI3 st d sz bytes (st.get x) (st.get y)))∧
 (∀ (st:St) d sz bytes x idy m,ZI3 st d sz bytes x (.t (.sc (.down idy m)))=ap2 st d sz idy m bytes x (st.o idy))∧(∀ (st:St) d sz idy m bytes x zy ry,ap2 st d sz idy m bytes x (some (.deep zy ry))=ap3 st d sz idy m ry bytes x (zy==sz&&(ry.length==m&&(Zk idy&&decide (0<m)))))∧
 (∀ (st:St) d sz idy m ry bytes,ap3 st d sz idy m ry bytes (DU .nil) true=ap6 st d sz idy ry m (decide (m≤maxLen)&&decide (m*bytes≤140737488355328)))∧(∀ (st:St) d sz idy m ry bytes id n,ap3 st d sz idy m ry bytes (.t (.sc (.down id n))) true=ap4 st d sz idy m ry bytes id n (st.o id))∧
 (∀ (st:St) d sz idy m ry bytes id n z r,ap4 st d sz idy m ry bytes id n (some (.deep z r))=ap5 st d sz idy ry r id (n+m) (z==sz&&(r.length==n&&(Zk id&&(!(id==idy)&&(decide (n+m≤maxLen)&&decide ((n+m)*bytes≤140737488355328)))))))∧
 (∀ (st:St) d sz idy ry r id n,ap5 st d sz idy ry r id n true=some ((((st.kill idy).kill id).obj id (some (.deep sz (r++ry)))).put d (.t (.sc (.down id n)))))∧(∀ (st:St) d sz idy ry m,ap6 st d sz idy ry m true=some ((((st.kill idy).cool (.loc d 0)).obj (.loc d 0) (some (.deep sz ry))).put d (.t (.sc (.down (.loc d 0) m))))):=by
 have _c:=And.intro @ZK8 (And.intro @ZM4 (And.intro @ZM5 (And.intro @ZK7 (And.intro @ZML (And.intro @ZMM (And.intro @ZMN (And.intro @ZMO @ZMP)))))))
 exact ⟨fun F fin is os st d k zero a=>Zam F fin is os st (ZNX ..),fun st d k zl v=>rfl,fun st d k zl ids us=>rfl,fun st d zl ids us=>rfl,fun F fin is os st d sz x y bytes=>Zam F fin is os st (ZNN ..),
  fun st d sz bytes x idy m=>rfl,fun st d sz idy m bytes x zy ry=>rfl,fun st d sz idy m ry bytes=>rfl,fun st d sz idy m ry bytes id n=>rfl,fun st d sz idy m ry bytes id n z r=>rfl,fun st d sz idy ry r id n=>rfl,fun st d sz idy ry m=>rfl⟩
def ZG5 (l:List Shard) (r:Route):State:=match l[r.number.toNat]? with
 | some s=>ZFZ s.group
 | none=>⟨⟨[],[]⟩,[],[],false,[]⟩
def ZFi (l:List Shard) (R:List Route):List State:=R.map (ZG5 l)
theorem ZI9 {l:List Shard} {R:List Route} {i:Nat} {r:Route} (h:R[i]?=some r):ZFi l (R.take (i+1))=ZFi l (R.take i)++[ZG5 l r]:=by
 rw [ZFi,List.take_add_one,h]; simp [ZFi]
theorem ZIm (l:List Shard) (R:List Route):(ZFi l R).length=R.length:=by simp [ZFi]
def Z3 (x:Cluster):List State:=ZFi x.shards (ZFr x)
def lsD:Nat→List State→D
 | 0,_=>DU .nil
 | _+1,S=>.t (.sc (.down (.loc 26 0) S.length))
def lsO (st:St):Nat→List State→Prop
 | 0,_=>True
 | _+1,S=>st.o (.loc 26 0)=some (.deep 6 (S.map State.u))
theorem ZHP {c0:List Shard} {c1:List Caller} {c2:List Result} {w:Plan} {a b:Int} (h:ZB ⟨c0,c1,c2,w,a,b⟩=true):1≤(ZG c0).length∧(ZG c0).length≤8:=by
 have h8:=ZG7 h
 have hl:(ZG c0).length≤c0.length:=by rw [ZG,ZGa]; exact ZGu c0 0
 refine ⟨?_,by omega⟩
 have he:ZG9 ⟨c0,c1,c2,w,a,b⟩=true:=by simp only[ZB,Bool.and_eq_true] at h; exact h.2
 simp only[ZG9,Bool.and_eq_true] at he
 have hr:=he.1.1.1
 cases hq:ZG c0 with
 | nil=>rw [hq] at hr; simp [Z1,ZO,ZFw] at hr
 | cons r l=>simp
theorem ZJp (c0:List Shard) (c1:List Caller) (c2:List Result) (c3 c4 c5:Int) (c6:Str) (c7 c8 c9 c10 c11:Int) (hs:Cluster.Small ⟨c0,c1,c2,⟨c3,c4,c5,c6,c7,c8,c9⟩,c10,c11⟩):EE F 48 [.ag [.u (.sl 14 (c0.map Shard.u)),.u (.sl 8 (c1.map Caller.u)),.u (.sl 9 (c2.map Result.u)),.u (.int .i64 c3),.u (.int .i64 c4),.u (.int .i64 c5),.u (.str c6),.u (.int .i64 c7),.u (.int .i64 c8),.u (.int .i64 c9),.u (.int .i64 c10),.u (.int .i64 c11)]] []=if ZB ⟨c0,c1,c2,⟨c3,c4,c5,c6,c7,c8,c9⟩,c10,c11⟩=true then some ⟨[.sc (.down (.par 0) (Z3 ⟨c0,c1,c2,⟨c3,c4,c5,c6,c7,c8,c9⟩,c10,c11⟩).length)],[.deep 6 ((Z3 ⟨c0,c1,c2,⟨c3,c4,c5,c6,c7,c8,c9⟩,c10,c11⟩).map State.u)],[]⟩ else some ⟨[.sc (.u .nil)],[],[]⟩:=by
 have hcvs:=ZIt c0 c1 c2 c3 c4 c5 c6 c7 c8 c9 c10 c11 hs
 have hsh:=hs.1
 rw [R48,b48]
 cases hv:ZB ⟨c0,c1,c2,⟨c3,c4,c5,c6,c7,c8,c9⟩,c10,c11⟩
 ·simp only[↓xP,xT,rL,rB,rA,rS,hcvs,hv]
  try simp
 have h8:=ZG7 hv
 obtain ⟨hR1,hR8⟩:=ZHP hv
 have hlr:=ZH8 c0 c1 c2 c3 c4 c5 c6 c7 c8 c9 c10 c11 h8
 simp only[ZFq] at hlr
 have hrt:Z3 ⟨c0,c1,c2,⟨c3,c4,c5,c6,c7,c8,c9⟩,c10,c11⟩=ZFi c0 (ZG c0):=by simp [Z3,ZFr,hv]
 rw [if_pos rfl,hrt]
 have hmem:∀ r,r∈ZG c0→_:=fun r hr=>ZIn hr
 simp only[↓xP,xT,rL,rB,rA,rS,hcvs,hv,hlr]
 generalize ZG c0=R at hR1 hR8 hmem ⊢
 refine Zjc (fun (i:Nat) st=>i≤R.length∧st.s 1=.t (.sc (.ptr (.loc 1 0) 0 0))∧st.o (.loc 1 0)=some (.box [.u (.sl 14 (c0.map Shard.u)),.u (.sl 8 (c1.map Caller.u)),.u (.sl 9 (c2.map Result.u)),.u (.int .i64 c3),.u (.int .i64 c4),.u (.int .i64 c5),.u (.str c6),.u (.int .i64 c7),.u (.int .i64 c8),.u (.int .i64 c9),.u (.int .i64 c10),.u (.int .i64 c11)])∧st.s 3=lsD i (ZFi c0 (R.take i))∧lsO st i (ZFi c0 (R.take i))∧st.s 10=.t (.sc (.own (.loc 10 0) R.length))∧st.o (.loc 10 0)=some (.row 3 (R.map Route.u))∧st.s 11=DI R.length∧st.s 12=DI i) (fun i=>R.length - i) (fun _=>some ⟨[.sc (.down (.par 0) (ZFi c0 R).length)],[.deep 6 ((ZFi c0 R).map State.u)],[]⟩) ?_ 0 ⟨by omega,(by and_intros<;>first|omega|rfl|(simp only[↓xP,xT,rL,rB,rA,rS]<;>first|done|rfl|omega)),(by and_intros<;>first|omega|rfl|(simp only[↓xP,xT,rL,rB,rA,rS]<;>first|done|rfl|omega)),(by and_intros<;>first|omega|rfl|(simp only[↓xP,xT,rL,rB,rA,rS,lsD]<;>first|done|rfl|omega)),trivial,(by and_intros<;>first|omega|rfl|(simp only[↓xP,xT,rL,rB,rA,rS]<;>first|done|rfl|omega)),(by and_intros<;>first|omega|rfl|(simp only[↓xP,xT,rL,rB,rA,rS]<;>first|done|rfl|omega)),(by and_intros<;>first|omega|rfl|(simp only[↓xP,xT,rL,rB,rA,rS]<;>first|done|rfl|omega)),(by and_intros<;>first|omega|rfl|(simp only[↓xP,xT,rL,rB,rA,rS]<;>first|done|rfl|omega))⟩
 rintro i st ⟨hle,h1,hb,h3,h3o,h10,ho10,h11,h12⟩ ih
 by_cases hi:i<R.length
 ·obtain ⟨⟨rn,⟨rlo,rup⟩⟩,hr⟩:∃ x,R[i]?=some x:=⟨_,List.getElem?_eq_getElem hi⟩
  obtain ⟨j,s,hx,hrn,_⟩:=hmem _ (List.mem_of_getElem? hr)
  simp only at hrn
  subst hrn
  have hj:=(List.getElem?_eq_some_iff.1 hx).1
  have hw:=w_succ (i:=i) (by omega)
  have hst:=ZI9 (l:=c0) hr
  have hcv:=ZIq hv (List.mem_of_getElem? hx)
  have hsx:=hsh.2 _ (List.mem_of_getElem? hx)
  have hsa:ZG5 c0 ⟨(j:Int),⟨rlo,rup⟩⟩=ZFZ s.group:=by simp [ZG5,hx]
  rw [hsa] at hst
  obtain ⟨live,⟨⟨⟨lo,up⟩,prs,kn,sld,cut⟩,⟨ep,ms,fr⟩,nds,ups,bag,ans⟩⟩:=s
  simp only at hcv hst
  have has:=ZIf lo up prs kn sld cut ep ms fr nds ups bag ans hsx.1
  rw [if_pos hcv] at has
  have hll:(ZFi c0 (R.take i)).length=i:=by rw [ZIm,List.length_take]; omega
  generalize ZFi c0 (R.take i)=S at h3 h3o hst hll
  generalize ZFZ ⟨⟨⟨lo,up⟩,prs,kn,sld,cut⟩,⟨ep,ms,fr⟩,nds,ups,bag,ans⟩=q at has hst
  obtain ⟨⟨lo2,up2⟩,p2,k2,s2,ct2⟩:=q
  simp only[ZJU] at has
  have m1:S.length+1≤maxLen:=by simp [maxLen]; omega
  have m2:(S.length+1)*104≤140737488355328:=by omega
  have m3:1≤maxLen:=by simp [maxLen]
  have m4:1*104≤140737488355328:=by omega
  cases i with
  | zero=>
   simp only[lsD,lsO] at h3 h3o
   have hS:S=[]:=List.eq_nil_of_length_eq_zero hll
   subst hS
   simp only[↓xP,xT,rL,rB,rA,rS,ZNs,ZJZ,rdx2,h1,hb,h3,h10,ho10,h11,h12,hi,hr,hx,hj,hw,Route.u,Shard.u,has,ZI,List.length_map,List.length_cons,List.length_nil,m3,m4]
   exact ih 1 _ (by omega) ⟨(by and_intros<;>first|omega|rfl|(simp only[↓xP,xT,rL,rB,rA,rS]<;>first|done|rfl|omega)),(by and_intros<;>first|omega|rfl|(simp only[↓xP,xT,rL,rB,rA,rS,h1]<;>first|done|rfl|omega)),(by and_intros<;>first|omega|rfl|(simp only[↓xP,xT,rL,rB,rA,rS,hb]<;>first|done|rfl|omega)),(by and_intros<;>first|omega|rfl|(simp only[↓xP,xT,rL,rB,rA,rS,lsD,hst,List.length_append,List.length_cons,List.length_nil]<;>first|done|rfl|omega)),(by and_intros<;>first|omega|rfl|(simp only[↓xP,xT,rL,rB,rA,rS,lsO,hst,State.u,List.map_append,List.map_cons,List.map_nil,List.nil_append]<;>first|done|rfl|omega)),(by and_intros<;>first|omega|rfl|(simp only[↓xP,xT,rL,rB,rA,rS,h10]<;>first|done|rfl|omega)),(by and_intros<;>first|omega|rfl|(simp only[↓xP,xT,rL,rB,rA,rS,ho10]<;>first|done|rfl|omega)),(by and_intros<;>first|omega|rfl|(simp only[↓xP,xT,rL,rB,rA,rS,h11]<;>first|done|rfl|omega)),(by and_intros<;>first|omega|rfl|(simp only[↓xP,xT,rL,rB,rA,rS]<;>first|done|rfl|omega))⟩
  | succ i=>
   simp only[lsD,lsO] at h3 h3o
   simp only[↓xP,xT,rL,rB,rA,rS,ZNs,ZJZ,rdx2,h1,hb,h3,h3o,h10,ho10,h11,h12,hi,hr,hx,hj,hw,Route.u,Shard.u,has,ZI,List.length_map,List.length_cons,List.length_nil,m1,m2]
   exact ih (i+1+1) _ (by omega) ⟨(by and_intros<;>first|omega|rfl|(simp only[↓xP,xT,rL,rB,rA,rS]<;>first|done|rfl|omega)),(by and_intros<;>first|omega|rfl|(simp only[↓xP,xT,rL,rB,rA,rS,h1]<;>first|done|rfl|omega)),(by and_intros<;>first|omega|rfl|(simp only[↓xP,xT,rL,rB,rA,rS,hb]<;>first|done|rfl|omega)),(by and_intros<;>first|omega|rfl|(simp only[↓xP,xT,rL,rB,rA,rS,lsD,hst,List.length_append,List.length_cons,List.length_nil]<;>first|done|rfl|omega)),(by and_intros<;>first|omega|rfl|(simp only[↓xP,xT,rL,rB,rA,rS,lsO,hst,State.u,List.map_append,List.map_cons,List.map_nil]<;>first|done|rfl|omega)),(by and_intros<;>first|omega|rfl|(simp only[↓xP,xT,rL,rB,rA,rS,h10]<;>first|done|rfl|omega)),(by and_intros<;>first|omega|rfl|(simp only[↓xP,xT,rL,rB,rA,rS,ho10]<;>first|done|rfl|omega)),(by and_intros<;>first|omega|rfl|(simp only[↓xP,xT,rL,rB,rA,rS,h11]<;>first|done|rfl|omega)),(by and_intros<;>first|omega|rfl|(simp only[↓xP,xT,rL,rB,rA,rS]<;>first|done|rfl|omega))⟩
 ·have hall:R.take i=R:=List.take_of_length_le (by omega)
  rw [hall] at h3 h3o
  cases i with
  | zero=>omega
  | succ i=>
   simp only[lsD,lsO] at h3 h3o
   simp only[↓xP,xT,rL,rB,rA,rS,ZNs,h1,hb,h3,h3o,h10,ho10,h11,h12,hi,List.length_map]
theorem ZJq (c0:List Shard) (c1:List Caller) (c2:List Result) (c3 c4 c5:Int) (c6:Str) (c7 c8 c9 c10 c11:Int) (hs:Cluster.Small ⟨c0,c1,c2,⟨c3,c4,c5,c6,c7,c8,c9⟩,c10,c11⟩):EE F 47 [.ag [.u (.sl 14 (c0.map Shard.u)),.u (.sl 8 (c1.map Caller.u)),.u (.sl 9 (c2.map Result.u)),.u (.int .i64 c3),.u (.int .i64 c4),.u (.int .i64 c5),.u (.str c6),.u (.int .i64 c7),.u (.int .i64 c8),.u (.int .i64 c9),.u (.int .i64 c10),.u (.int .i64 c11)]] []=some ⟨[.sc (.own (.par 0) (Z3 ⟨c0,c1,c2,⟨c3,c4,c5,c6,c7,c8,c9⟩,c10,c11⟩).length)],[.row 6 ((Z3 ⟨c0,c1,c2,⟨c3,c4,c5,c6,c7,c8,c9⟩,c10,c11⟩).map State.u)],[]⟩:=by
 have hcr:=ZIk c0 c1 c2 c3 c4 c5 c6 c7 c8 c9 c10 c11 hs
 have hsh:=hs.1
 rw [R47,b47]
 have hR:(ZFr ⟨c0,c1,c2,⟨c3,c4,c5,c6,c7,c8,c9⟩,c10,c11⟩).length≤8∧∀ r,r∈ZFr ⟨c0,c1,c2,⟨c3,c4,c5,c6,c7,c8,c9⟩,c10,c11⟩→∃ (j:Nat) (s:Shard),c0[j]?=some s∧r.number=(j:Int)∧ZD s.group=true:=by
  unfold ZFr
  split
  ·rename_i hv
   refine ⟨(ZHP hv).2,fun r hr=>?_⟩
   obtain ⟨j,s,hx,hrn,_⟩:=ZIn hr
   exact ⟨j,s,hx,hrn,ZIq hv (List.mem_of_getElem? hx)⟩
  ·exact ⟨by simp,fun r hr=>by cases hr⟩
 have hls:Z3 ⟨c0,c1,c2,⟨c3,c4,c5,c6,c7,c8,c9⟩,c10,c11⟩=ZFi c0 (ZFr ⟨c0,c1,c2,⟨c3,c4,c5,c6,c7,c8,c9⟩,c10,c11⟩):=rfl
 rw [hls]
 generalize ZFr ⟨c0,c1,c2,⟨c3,c4,c5,c6,c7,c8,c9⟩,c10,c11⟩=R at hcr hR ⊢
 obtain ⟨hR8,hmem⟩:=hR
 simp only[↓xP,xT,rL,rB,rA,rS,hcr]
 refine Zjc (fun (i:Nat) st=>i≤R.length∧st.s 1=.t (.sc (.ptr (.loc 1 0) 0 0))∧st.o (.loc 1 0)=some (.box [.u (.sl 14 (c0.map Shard.u)),.u (.sl 8 (c1.map Caller.u)),.u (.sl 9 (c2.map Result.u)),.u (.int .i64 c3),.u (.int .i64 c4),.u (.int .i64 c5),.u (.str c6),.u (.int .i64 c7),.u (.int .i64 c8),.u (.int .i64 c9),.u (.int .i64 c10),.u (.int .i64 c11)])∧st.s 3=.t (.sc (.own (.loc 6 0) (ZFi c0 (R.take i)).length))∧st.o (.loc 6 0)=some (.row 6 ((ZFi c0 (R.take i)).map State.u))∧st.s 4=.t (.sc (.own (.loc 8 0) R.length))∧st.o (.loc 8 0)=some (.row 3 (R.map Route.u))∧st.s 5=DI i) (fun i=>R.length - i) (fun _=>some ⟨[.sc (.own (.par 0) (ZFi c0 R).length)],[.row 6 ((ZFi c0 R).map State.u)],[]⟩) ?_ 0 (by and_intros<;>first|omega|rfl|(simp only[↓xP,xT,rL,rB,rA,rS,ZFi,List.take_zero,List.map_nil,List.length_nil]<;>first|done|rfl|omega))
 rintro i st ⟨hle,h1,hb,h3,ho3,h4,ho4,h5⟩ ih
 by_cases hi:i<R.length
 ·obtain ⟨⟨rn,⟨rlo,rup⟩⟩,hr⟩:∃ x,R[i]?=some x:=⟨_,List.getElem?_eq_getElem hi⟩
  obtain ⟨j,s,hx,hrn,hcv⟩:=hmem _ (List.mem_of_getElem? hr)
  simp only at hrn
  subst hrn
  have hj:=(List.getElem?_eq_some_iff.1 hx).1
  have hw:=w_succ (i:=i) (by omega)
  have hst:=ZI9 (l:=c0) hr
  have hsx:=hsh.2 _ (List.mem_of_getElem? hx)
  have hsa:ZG5 c0 ⟨(j:Int),⟨rlo,rup⟩⟩=ZFZ s.group:=by simp [ZG5,hx]
  rw [hsa] at hst
  obtain ⟨live,⟨⟨⟨lo,up⟩,prs,kn,sld,cut⟩,⟨ep,ms,fr⟩,nds,ups,bag,ans⟩⟩:=s
  simp only at hcv hst
  have has:=ZIg lo up prs kn sld cut ep ms fr nds ups bag ans hsx.1
  rw [if_pos hcv] at has
  have hll:(ZFi c0 (R.take i)).length=i:=by rw [ZIm,List.length_take]; omega
  generalize ZFi c0 (R.take i)=S at h3 ho3 hst hll
  generalize ZFZ ⟨⟨⟨lo,up⟩,prs,kn,sld,cut⟩,⟨ep,ms,fr⟩,nds,ups,bag,ans⟩=q at has hst
  obtain ⟨⟨lo2,up2⟩,p2,k2,s2,ct2⟩:=q
  simp only[ZK0] at has
  have m1:S.length+1≤maxLen:=by simp [maxLen]; omega
  have m2:(S.length+1)*104≤140737488355328:=by omega
  simp only[↓xP,xT,rL,rB,rA,rS,rdx,rdx2,ofR,ZOe,Bool.or_true,List.getElem?_nil,h1,hb,h3,ho3,h4,ho4,h5,hi,hr,hx,hj,hw,Route.u,Shard.u,has,ZI,List.length_map,List.length_cons,List.length_nil,m1,m2]
  exact ih (i+1) _ (by omega) (by and_intros<;>first|omega|rfl|(simp only[↓xP,xT,rL,rB,rA,rS,h1,hb,h3,ho3,h4,ho4,hw,hst,State.u,List.length_append,List.map_append,List.length_cons,List.length_nil,List.map_cons,List.map_nil]<;>first|done|rfl|omega))
 ·have hall:R.take i=R:=List.take_of_length_le (by omega)
  rw [hall] at h3 ho3
  simp only[↓xP,xT,rL,rB,rA,rS,h1,hb,h3,ho3,h4,ho4,h5,hi,List.length_map]
theorem ZIU {s:Str} (h:ZT s=true):s.length≤1048576:=by
 simp only[ZT,Bool.and_eq_true,decide_eq_true_eq] at h
 omega
theorem ZJE {s:Str} (h:(decide (s=[])||ZT s)=true):s.length≤1048576:=by
 rw [Bool.or_eq_true,decide_eq_true_eq] at h
 rcases h with rfl|h
 ·simp
 ·exact ZIU h
theorem ZNa {s:State} (h:ZC s=true):State.Small s:=by
 obtain ⟨h1,h2,h3⟩:=ZG6 h
 obtain ⟨p1,p2,_⟩:=(ZFC _).1 h2
 have hk:=ZH3 h3
 have hi:=h1
 simp only[ZE,Bool.and_eq_true] at hi
 simp only[ZC,Bool.and_eq_true] at h
 have hc:=h.2
 rw [Bool.or_eq_true,decide_eq_true_eq] at hc
 refine ⟨⟨ZJE hi.1.1,ZJE hi.1.2,trivial⟩,⟨by omega,fun y hy=>⟨ZIU (p2 y hy).1,trivial⟩⟩,⟨by omega,trivial⟩,?_,trivial⟩
 rcases hc with hc|hc
 ·rw [hc]; simp
 ·rw [Bool.and_eq_true] at hc
  have:=hc.2
  simp only[ZHx,Bool.and_eq_true] at this
  exact ZIU this.1.1.2
def cSt (s:State):Nat:=2*s.pairs.length+3*s.known.length
def wSt (s:State):Nat:=4+cSt s
def mSt (K:Int):State→State
 | ⟨⟨lo,up⟩,prs,kn,sld,cut⟩=>⟨⟨ZGY (K),ZGY (K+1)⟩,mkL ZF2 2 (K+1+1) prs.length,mkL ZFe 3 (K+1+1+2 * (prs.length:Int)) kn.length,decide ((K+1+1+2 * (prs.length:Int)+3 * (kn.length:Int)).tmod 3=0),ZGY (K+1+1+2 * (prs.length:Int)+3 * (kn.length:Int)+1)⟩
theorem ZKf (l:List State) (K:Int) (h1:1≤K) (h2:K+sumW wSt l≤4611686018427387904):EE F 50 [.sc (.down (.par 0) l.length),I K] [.deep 6 (l.map State.u)]=some ⟨[I (K+sumW wSt l)],[],[.deep 6 ((mGo wSt mSt K l).map State.u)]⟩:=by
 have hln:4*l.length≤sumW wSt l:=by rw [show wSt=fun x=>4+cSt x from rfl,ZFS]; omega
 refine (EE_run (fn:=i50) (by kernel_rfl) rfl).trans ?_
 simp only[i50,b50,ZdN,ZcQ,List.length_cons,List.length_nil]
 simp only[↓xP,xT,rL,rB,rA,rS]
 refine (Zjc (fun (i:Nat) st=>i≤l.length∧st.s 0=.t (.sc (.down (.par 0) l.length))∧st.s 5=DI i∧st.s 1=DI (K+sumW wSt (l.take i))∧st.o (.par 0)=some (.deep 6 ((mMid wSt mSt K l i).map State.u))) (fun i=>l.length - i) (fun i=>some ⟨[I (K+sumW wSt l)],[],[.deep 6 ((mGo wSt mSt K l).map State.u)]⟩) ?_ 0 ⟨by omega,by simp only[↓xP,xT,rL,rB,rA,rS],by simp only[↓xP,xT,rL,rB,rA,rS]; rfl,by simp only[↓xP,xT,rL,rB,rA,rS,List.take_zero,sumW]; exact ZFk (by omega),by simp only[↓xP,xT,rL,rB,rA,rS,ZHe]⟩).trans rfl
 rintro i st ⟨hle,h0,h5,h1',ho⟩ ih
 by_cases hi:i<l.length
 ·obtain ⟨⟨⟨lo,up⟩,prs,kn,sld,cut⟩,hx⟩:∃ x,l[i]?=some x:=⟨_,List.getElem?_eq_getElem hi⟩
  have hw:=w_succ (i:=i) (by omega)
  have hg:=ZHJ (u:=State.u) wSt mSt K hx
  have hf:=ZHK (u:=State.u) wSt mSt K hx
  have hlen:i<((mMid wSt mSt K l i).map State.u).length:=by rw [List.length_map,ZHI]; omega
  have hst:=ZGQ wSt hx
  have hsl:=ZGR wSt l (i+1)
  simp only[wSt,cSt] at hst
  have hk0:1≤K+sumW wSt (l.take i):=by omega
  generalize (mMid wSt mSt K l i).map State.u=r at hg hf hlen ho
  obtain ⟨K',hK⟩:∃ K',K'=K+sumW wSt (l.take i):=⟨_,rfl⟩
  rw [←hK] at h1' hf
  have hK2:K+sumW wSt (l.take (i+1))=K'+1+1+2 * (prs.length:Int)+3 * (kn.length:Int)+1+1:=by omega
  have hK3:K'+1+1+2 * (prs.length:Int)+3 * (kn.length:Int)+1+1≤4611686018427387904:=by omega
  simp only[State.u,mSt] at hg hf
  have hgs:=ZFP r i hlen
  have hw0:IntKind.i64.wrap (K'+1)=K'+1:=by rw [w64 (by omega) (by omega)]
  have mt0:=ZQ (K') (by omega) (by omega)
  have hw1:IntKind.i64.wrap (K'+1+1)=K'+1+1:=by rw [w64 (by omega) (by omega)]
  have mt1:=ZQ (K'+1) (by omega) (by omega)
  have mk2:=ZIE prs (K'+1+1) (by omega) (by omega)
  have mk3:=ZHy kn (K'+1+1+2 * (prs.length:Int)) (by omega) (by omega)
  have hw4:IntKind.i64.wrap (K'+1+1+2 * (prs.length:Int)+3 * (kn.length:Int)+1)=K'+1+1+2 * (prs.length:Int)+3 * (kn.length:Int)+1:=by rw [w64 (by omega) (by omega)]
  have hw5:IntKind.i64.wrap (K'+1+1+2 * (prs.length:Int)+3 * (kn.length:Int)+1+1)=K'+1+1+2 * (prs.length:Int)+3 * (kn.length:Int)+1+1:=by rw [w64 (by omega) (by omega)]
  have mt5:=ZQ (K'+1+1+2 * (prs.length:Int)+3 * (kn.length:Int)+1) (by omega) (by omega)
  have h3_0:¬(3:Int)=0:=by omega
  simp only[↓xP,xT,rL,rB,rA,rS,h0,h5,h1',ho,hi,hg,hgs,List.set_set,List.set_cons_succ,List.set_cons_zero,ZHh hlen,ZIe,hw,hw0,mt0,hw1,mt1,mk2,mk3,hw4,hw5,mt5,h3_0,ZJZ,List.length_map,ZS,ZFn,hf]
  exact ih (i+1) _ (by omega) ⟨by omega,by simp only[↓xP,xT,rL,rB,rA,rS,h0],by simp only[↓xP,xT,rL,rB,rA,rS],by simp only[↓xP,xT,rL,rB,rA,rS]; exact ZFk (by omega),by simp only[↓xP,xT,rL,rB,rA,rS]⟩
 ·have:i=l.length:=by omega
  subst this
  rw [ZHH] at ho
  simp only[↓xP,xT,rL,rB,rA,rS,h0,h5,h1',ho,hi,ZIe,List.take_length,List.length_map,ZFn]
theorem ZJo (n:Nat) (K:Int) (h1:1≤K) (h2:K+3*n≤4611686018427387904):EE F 102 [L 3 ((mkL ZFe 3 K n).map Session.u),I K] []=ok1 (I (K+3*n)):=by
 rw [R102,b102]
 simp only[↓xP,xT,rL,rB,rA,rS]
 refine (Zjc (fun (i:Nat) st=>i≤n∧st.s 0=DU (.sl 3 ((mkL ZFe 3 K n).map Session.u))∧st.s 5=DI i∧st.s 1=DI (K+3*i)) (fun i=>n - i) (fun i=>ok1 (I (K+3*n))) ?_ 0 ⟨by omega,by simp only[↓xP,xT,rL,rB,rA,rS],by simp only[↓xP,xT,rL,rB,rA,rS]; rfl,by simp only[↓xP,xT,rL,rB,rA,rS]; exact ZFk (by omega)⟩).trans rfl
 rintro i st ⟨hle,h0,h5,h1'⟩ ih
 have hlen:=ZS ZFe 3 K n
 by_cases hi:i<n
 ·have hx:=ZMH ZFe 3 K hi
  have hw:=w_succ (i:=i) (by omega)
  have hk1:1≤K+3 * (i:Int):=by omega
  have hk2:K+3 * (i:Int)+3≤4611686018427387904:=by omega
  have hn:K+3 * ((i+1:Nat):Int)=K+3 * (i:Int)+3:=by omega
  obtain ⟨K',hK⟩:∃ K',K'=K+3 * (i:Int):=⟨_,rfl⟩
  rw [←hK] at h1' hx hn hk1 hk2
  have hw0:IntKind.i64.wrap (K'+1)=K'+1:=by rw [w64 (by omega) (by omega)]
  have hw1:IntKind.i64.wrap (K'+1+1)=K'+1+1:=by rw [w64 (by omega) (by omega)]
  have hw2:IntKind.i64.wrap (K'+1+1+1)=K'+1+1+1:=by rw [w64 (by omega) (by omega)]
  simp only[↓xP,xT,rL,rB,rA,rS,h0,h5,h1',hlen,hi,hx,hw,Session.u,ZFe,hw0,hw1,hw2,ne_eq,not_true_eq_false,decide_false]
  exact ih (i+1) _ (by omega) ⟨by omega,by simp only[↓xP,xT,rL,rB,rA,rS,h0],by simp only[↓xP,xT,rL,rB,rA,rS],by simp only[↓xP,xT,rL,rB,rA,rS]; exact ZFk (by omega)⟩
 ·have:i=n:=by omega
  subst this
  simp only[↓xP,xT,rL,rB,rA,rS,h0,h5,h1',hlen,hi]
theorem ZMG {α:Type} (w:α→Nat) (f:Int→α→α):∀ (l:List α) (K:Int) (i:Nat) (x:α),l[i]?=some x→(mGo w f K l)[i]?=some (f (K+sumW w (l.take i)) x)
 | [],K,i,x,h=>by simp at h
 | y::l,K,0,x,h=>by
  simp only[List.getElem?_cons_zero,Option.some.injEq] at h
  subst h; simp [mGo,sumW]
 | y::l,K,i+1,x,h=>by
  have:=ZMG w f l (K+w y) i x (by simpa using h)
  simp only[mGo,List.getElem?_cons_succ,this,List.take_succ_cons,sumW]
  rw [show K + (w y:Int) + (sumW w (l.take i):Int)=K + ((w y+sumW w (l.take i):Nat):Int) by omega]
theorem ZKc (l:List State) (K:Int) (h1:1≤K) (h2:K+sumW wSt l≤4611686018427387904):EE F 51 [L 6 ((mGo wSt mSt K l).map State.u),I K] []=ok1 (I (K+sumW wSt l)):=by
 have hln:4*l.length≤sumW wSt l:=by rw [show wSt=fun x=>4+cSt x from rfl,ZFS]; omega
 rw [R51,b51]
 simp only[↓xP,xT,rL,rB,rA,rS]
 refine (Zjc (fun (i:Nat) st=>i≤l.length∧st.s 0=DU (.sl 6 ((mGo wSt mSt K l).map State.u))∧st.s 5=DI i∧st.s 1=DI (K+sumW wSt (l.take i))) (fun i=>l.length - i) (fun i=>ok1 (I (K+sumW wSt l))) ?_ 0 ⟨by omega,by simp only[↓xP,xT,rL,rB,rA,rS],by simp only[↓xP,xT,rL,rB,rA,rS]; rfl,by simp only[↓xP,xT,rL,rB,rA,rS,List.take_zero,sumW]; exact ZFk (by omega)⟩).trans rfl
 rintro i st ⟨hle,h0,h5,h1'⟩ ih
 have hlen:=ZFn wSt mSt K l
 by_cases hi:i<l.length
 ·obtain ⟨⟨⟨lo,up⟩,prs,kn,sld,cut⟩,hx0⟩:∃ x,l[i]?=some x:=⟨_,List.getElem?_eq_getElem hi⟩
  have hx:=ZMG wSt mSt l K i _ hx0
  have hw:=w_succ (i:=i) (by omega)
  have hst:=ZGQ wSt hx0
  have hsl:=ZGR wSt l (i+1)
  simp only[wSt,cSt] at hst
  have hk0:1≤K+sumW wSt (l.take i):=by omega
  obtain ⟨K',hK⟩:∃ K',K'=K+sumW wSt (l.take i):=⟨_,rfl⟩
  rw [←hK] at h1' hx
  have hK2:K+sumW wSt (l.take (i+1))=K'+1+1+2 * (prs.length:Int)+3 * (kn.length:Int)+1+1:=by omega
  have hK3:K'+1+1+2 * (prs.length:Int)+3 * (kn.length:Int)+1+1≤4611686018427387904:=by omega
  have hw0:IntKind.i64.wrap (K'+1)=K'+1:=by rw [w64 (by omega) (by omega)]
  have hw1:IntKind.i64.wrap (K'+1+1)=K'+1+1:=by rw [w64 (by omega) (by omega)]
  have hw2:IntKind.i64.wrap (K'+1+1+2 * (prs.length:Int)+3 * (kn.length:Int)+1)=K'+1+1+2 * (prs.length:Int)+3 * (kn.length:Int)+1:=by rw [w64 (by omega) (by omega)]
  have hw3:IntKind.i64.wrap (K'+1+1+2 * (prs.length:Int)+3 * (kn.length:Int)+1+1)=K'+1+1+2 * (prs.length:Int)+3 * (kn.length:Int)+1+1:=by rw [w64 (by omega) (by omega)]
  have mt0:=ZQ K' (by omega) (by omega)
  have mt1:=ZQ (K'+1) (by omega) (by omega)
  have mt5:=ZQ (K'+1+1+2 * (prs.length:Int)+3 * (kn.length:Int)+1) (by omega) (by omega)
  have hp:=ZKW prs.length (K'+1+1) (by omega) (by omega)
  have hs:=ZJo kn.length (K'+1+1+2 * (prs.length:Int)) (by omega) (by omega)
  have n1:¬K'+1+1+2 * (prs.length:Int)<0:=by omega
  have n2:¬K'+1+1+2 * (prs.length:Int)+3 * (kn.length:Int)<0:=by omega
  have h3_0:¬(3:Int)=0:=by omega
  simp only[↓xP,xT,rL,rB,rA,rS,rdx,rdx2,h0,h5,h1',hlen,hi,hx,hw,State.u,mSt,hw0,hw1,hw2,hw3,mt0,mt1,mt5,hp,hs,n1,n2,h3_0,bne_self_eq_false,ne_eq,not_true_eq_false,decide_false]
  exact ih (i+1) _ (by omega) ⟨by omega,by simp only[↓xP,xT,rL,rB,rA,rS,h0],by simp only[↓xP,xT,rL,rB,rA,rS],by simp only[↓xP,xT,rL,rB,rA,rS]; exact ZFk (by omega)⟩
 ·have:i=l.length:=by omega
  subst this
  simp only[↓xP,xT,rL,rB,rA,rS,h0,h5,h1',hlen,hi,List.take_length]
theorem ZJT (K:Int):EE F 50 [.sc (.u .nil),I K] []=ok1 (I K):=by
 rw [R50,b50]
 simp only[↓xP,xT,rL,rB,rA,rS]
 refine (Zjc (fun (i:Nat) st=>i=0∧st.s 0=DU .nil∧st.s 5=DI 0∧st.s 1=DI K) (fun i=>0) (fun i=>ok1 (I K)) ?_ 0 ⟨rfl,by simp only[↓xP,xT,rL,rB,rA,rS],by simp only[↓xP,xT,rL,rB,rA,rS],by simp only[↓xP,xT,rL,rB,rA,rS]⟩).trans rfl
 rintro i st ⟨hi,h0,h5,h1'⟩ ih
 have:¬(0:Int)<0:=by omega
 have:¬(0:Int)<((0:Nat):Int):=by omega
 simp only[↓xP,xT,rL,rB,rA,rS,h0,h5,h1',List.length_nil, *]
theorem ZJG (K:Int):EE F 51 [.sc (.u .nil),I K] []=ok1 (I K):=by
 rw [R51,b51]
 simp only[↓xP,xT,rL,rB,rA,rS]
 refine (Zjc (fun (i:Nat) st=>i=0∧st.s 0=DU .nil∧st.s 5=DI 0∧st.s 1=DI K) (fun i=>0) (fun i=>ok1 (I K)) ?_ 0 ⟨rfl,by simp only[↓xP,xT,rL,rB,rA,rS],by simp only[↓xP,xT,rL,rB,rA,rS],by simp only[↓xP,xT,rL,rB,rA,rS]⟩).trans rfl
 rintro i st ⟨hi,h0,h5,h1'⟩ ih
 have:¬(0:Int)<0:=by omega
 have:¬(0:Int)<((0:Nat):Int):=by omega
 simp only[↓xP,xT,rL,rB,rA,rS,h0,h5,h1',List.length_nil, *]
theorem ZKU:EE F 49 [.sc (.u .nil),L 6 []] []=ok1 (B true):=by
 rw [R49,b49]
 simp only[↓xP,xT,rL,rB,rA,rS,List.length_nil,ne_eq,not_true_eq_false]
 refine (Zjc (fun (i:Nat) st=>i=0∧st.s 0=DU .nil∧st.s 1=DU (.sl 6 [])∧st.s 5=DI 0) (fun i=>0) (fun i=>ok1 (B true)) ?_ 0 ⟨rfl,by simp only[↓xP,xT,rL,rB,rA,rS],by simp only[↓xP,xT,rL,rB,rA,rS],by simp only[↓xP,xT,rL,rB,rA,rS]⟩).trans rfl
 rintro i st ⟨hi,h0,h1,h5⟩ ih
 have:¬(0:Int)<0:=by omega
 have:¬(0:Int)<((0:Nat):Int):=by omega
 simp only[↓xP,xT,rL,rB,rA,rS,h0,h1,h5,List.length_nil, *]
theorem ZMc {c0:List Shard} {c1:List Caller} {c2:List Result} {w:Plan} {a b:Int} (h:ZB ⟨c0,c1,c2,w,a,b⟩=true):∀ s,s∈Z3 ⟨c0,c1,c2,w,a,b⟩→ZC s=true:=by
 intro s hs
 simp only[Z3,ZFr,h,if_true,ZFi] at hs
 obtain ⟨r,hr,rfl⟩:=List.mem_map.1 hs
 obtain ⟨j,t,hx,hrn,_⟩:=ZIn hr
 have hcv:=ZIq h (List.mem_of_getElem? hx)
 have he:=ZIh hcv
 simp only[ZJ,Bool.and_eq_true] at he
 have:ZG5 c0 r=ZFZ t.group:=by simp [ZG5,hrn,hx]
 rw [this]
 exact ZJw _ _ (ZIj hcv) he.2
theorem ZNz {c0:List Shard} {c1:List Caller} {c2:List Result} {w:Plan} {a b:Int} (h:ZB ⟨c0,c1,c2,w,a,b⟩=true):(Z3 ⟨c0,c1,c2,w,a,b⟩).length≤8:=by
 simp only[Z3,ZFr,h,if_true,ZIm]
 exact (ZHP h).2
theorem ZLG:∀ l:List State,(∀ s,s∈l→ZC s=true)→sumW wSt l≤200*l.length
 | [],_=>by simp [sumW]
 | s::l,h=>by
  have h1:=ZLG l fun t ht=>h t (List.mem_cons_of_mem _ ht)
  have h2:=ZHR (h s (List.mem_cons_self ..))
  simp only[sumW,wSt,cSt,List.length_cons]
  omega
theorem ZN3 (st:St) (d:Nat):st.dead d 3=(isNo (st.o (.loc d 0))&&(isNo (st.o (.loc d 1))&&isNo (st.o (.loc d 2)))):=by simp [St.dead,isNo,List.range_succ,Bool.and_assoc]
theorem app3 (st:St) (d:Nat) (v:D) (a b c:Id) (x y z:Obj) (rd:List Id):Fx.app ⟨some d,v,[(a,x),(b,y),(c,z)],rd⟩ st=(((st.obj a (some x)).obj b (some y)).obj c (some z)).put d v:=rfl
theorem law_FnExactLiveStates (us:List U) (hl:us.length=12) (ht:∀ (j:Nat) ty u,[Ty.sl [.b,.s,.s,.sl [.s,.i .i64],.sl [.i .i64,.i .i64,.i .i64],.b,.s,.i .i64,.sl [.i .i64],.b,.sl [.i .i64,.sl [.i .i64],.b,.b,.sl [.i .i64,.i .i64,.i .i64,.s,.i .i64,.i .i64]],.sl [.b],.sl [.i .i64,.i .i64,.i .i64,.i .i64,.sl [.i .i64],.b,.sl [.i .i64,.i .i64,.i .i64,.s,.i .i64,.i .i64]],.sl [.i .i64,.i .i64,.i .i64,.s,.i .i64,.i .i64,.i .i64]],.sl [.sl [.i .i64,.s,.s],.i .i64,.b,.i .i64,.s,.i .i64,.i .i64,.i .i64],.sl [.i .i64,.i .i64,.i .i64,.s,.i .i64,.i .i64,.i .i64,.i .i64,.i .i64],.i .i64,.i .i64,.i .i64,.s,.i .i64,.i .i64,.i .i64,.i .i64,.i .i64][j]?=some ty→us[j]?=some u→UT ty u):EE F 11 [.ag (us.map .u)] []=ok1 (B true):=by
 obtain ⟨⟨c0,c1,c2,⟨c3,c4,c5,c6,c7,c8,c9⟩,c10,c11⟩,rfl,hf⟩:=Cluster.of us hl ht
 rw [R11,b11]
 simp only[↓xP,xT,rL,rB,rA,rS,Cluster.u,List.map,ZLe c0 c1 c2 c3 c4 c5 c6 c7 c8 c9 c10 c11 hf]
 refine ZiE (fun h=>?_) (fun h=>?_)
 ·rfl
 simp only[decide_eq_false_iff_not] at h
 have hs:=(ZLd _ hf 1048576 (by omega) (by omega)).2 (by omega)
 have hi:=ZJp c0 c1 c2 c3 c4 c5 c6 c7 c8 c9 c10 c11 hs
 have hsp:=ZJq c0 c1 c2 c3 c4 c5 c6 c7 c8 c9 c10 c11 hs
 have hcost:=(ZNm hs 1048576 (by omega) (by omega) (by omega)).2
 dsimp only at hcost
 have hmc:=ZJR c0 c1 c2 c3 c4 c5 c6 c7 c8 c9 c10 c11 1 (by omega) (by omega)
 have hg:¬(1:Int)+sumW Z8 c0+sumW wCal c1+9*c2.length<0:=by omega
 have h10:¬(1:Int)<0:=by omega
 cases hv:ZB ⟨c0,c1,c2,⟨c3,c4,c5,c6,c7,c8,c9⟩,c10,c11⟩
 ·have hz:Z3 ⟨c0,c1,c2,⟨c3,c4,c5,c6,c7,c8,c9⟩,c10,c11⟩=[]:=by simp [Z3,ZFr,hv,ZFi]
  simp only[hv,hz,List.map_nil,List.length_nil,Bool.false_eq_true,if_false] at hi hsp
  simp only[↓xP,xT,rL,rB,rA,rS,rdx,rdx2,ofR,ZN3,app3,ZNK,List.getElem?_nil,ZIP c0 c1 c2 c3 c4 c5 c6 c7 c8 c9 c10 c11 hs,hi,hsp,ZIw c0 c1 c2 c3 c4 c5 c6 c7 c8 c9 c10 c11 hs,ZKU,ZJT,ZJG,hmc,hg,h10,ZS,ZLH,ZFn,ZI,List.length_map,Nat.le_refl,ne_eq,not_true_eq_false]
 ·simp only[hv,if_true] at hi hsp
  have hl8:=ZNz hv
  have hva:=ZMc hv
  have hsu:=ZLG _ hva
  have hR:ZI6 (Z3 ⟨c0,c1,c2,⟨c3,c4,c5,c6,c7,c8,c9⟩,c10,c11⟩):=⟨by omega,fun y hy=>ZNa (hva y hy)⟩
  generalize Z3 ⟨c0,c1,c2,⟨c3,c4,c5,c6,c7,c8,c9⟩,c10,c11⟩=R at hi hsp hl8 hva hsu hR
  have he:=ZLA R hR
  have hm3:=ZKf R 1 (by omega) (by omega)
  have hh:=ZKc R 1 (by omega) (by omega)
  have hg2:¬(1:Int) + (sumW wSt R:Int)<0:=by omega
  have htk:List.take R.length (List.map State.u (mGo wSt mSt 1 R))=List.map State.u (mGo wSt mSt 1 R):=List.take_of_length_le (by rw [List.length_map,ZFn]; omega)
  cases hfl:ZcG (List.map State.u R)<;>simp only[↓xP,xT,rL,rB,rA,rS,rdx,rdx2,ofR,hfl,ZN3,app3,ZNK,List.getElem?_nil,ZIP c0 c1 c2 c3 c4 c5 c6 c7 c8 c9 c10 c11 hs,hi,hsp,ZIw c0 c1 c2 c3 c4 c5 c6 c7 c8 c9 c10 c11 hs,he,hmc,hm3,hh,hg,hg2,h10,htk,ZS,ZLH,ZFn,ZI,List.length_map,Nat.le_refl,ne_eq,not_true_eq_false]
end Go.Proofs.YtmfjkbbmhaofbaaGreatV
