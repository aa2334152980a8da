/- Lemmas of functions that the law FnExactClusterScan reaches. No conditions but those that the lemmas state. -/
import Derived.Test.YtfajcehhcjmofaaGreatA1
namespace Go.Proofs.YtfajcehhcjmofaaGreatV
open Go Go.RowKit
open Nat renaming reduceLT → rL, reduceAdd → rA, reduceSub → rS, reduceBEq → rB
open IOp (dst isF args)
set_option linter.unusedVariables false
set_option linter.unusedSimpArgs false
set_option maxRecDepth 4000
theorem ZGU (c0 c1:Str) (c2:List Yl) (c3:List Yr) (c4:Bool) (c5:Str) (c6:Int) (c7:List Int) (c8:Bool) (c9:List Yo) (c10:List Bool) (c11:List Yk) (c12:List Ya) (hs:Yc.Small ⟨⟨⟨c0,c1⟩,c2,c3,c4,c5⟩,⟨c6,c7,c8⟩,c9,c10,c11,c12⟩):EE F 95 [.ag [.u (.str c0),.u (.str c1),.u (.sl 2 (c2.map Yl.u)),.u (.sl 3 (c3.map Yr.u)),.u (.bool c4),.u (.str c5),.u (.int .i64 c6),.u (.sl 1 (c7.map iU)),.u (.bool c8),.u (.sl 5 (c9.map Yo.u)),.u (.sl 1 (c10.map bU)),.u (.sl 7 (c11.map Yk.u)),.u (.sl 7 (c12.map Ya.u))]] []=ok1 (B (ZE ⟨⟨⟨c0,c1⟩,c2,c3,c4,c5⟩,⟨c6,c7,c8⟩,c9,c10,c11,c12⟩)):=by
  rw [R95,b95]
  obtain ⟨hb,hcf,hnd,hup,hbag,hans,_⟩:=hs
  have a1:=ZF8 c0 c1 c2 c3 c4 c5 (by have:=hb.2.2.1.1; simp only at this; omega)
  have a2:=ZGA c6 c7 c8 (by have:=hcf.1.1; simp only at this; omega)
  have a3:=ZKv c11 hbag
  have hnl:c9.length≤1048576:=hnd.1
  have hbl:c11.length≤1048576:=hbag.1
  have hal:c12.length≤1048576:=hans.1
  simp only[↓xP,xT,rL,rB,rA,rS,a1,a2,a3,List.length_map,ne_eq]
  refine ZiE (fun h=>?_) (fun g1=>?_)
  · rw [Bool.not_eq_true'] at h; simp [ZE,h]
  refine ZiE (fun h=>?_) (fun g2=>?_)
  · rw [Bool.not_eq_true'] at h; simp [ZE,h]
  refine ZiE (fun h=>?_) (fun g3=>?_)
  · have:¬c9.length=5:=by simp at h; omega
    simp [ZE,this]
  refine ZiE (fun h=>?_) (fun g4=>?_)
  · have:¬c10.length=5:=by simp at h; omega
    simp [ZE,this]
  refine ZiE (fun h=>?_) (fun g5=>?_)
  · rw [Bool.not_eq_true'] at h; simp [ZE,h]
  refine ZiE (fun h=>?_) (fun g6=>?_)
  · have:¬c12.length≤24:=by simp at h; omega
    simp [ZE,ZW,this]
  rw [Bool.not_eq_false'] at g1 g2 g5
  have g3':c9.length=5:=by simp at g3; omega
  have g4':c10.length=5:=by simp at g4; omega
  have g6':c12.length≤24:=by simp at g6; omega
  have hcv:ZE ⟨⟨⟨c0,c1⟩,c2,c3,c4,c5⟩,⟨c6,c7,c8⟩,c9,c10,c11,c12⟩=((c9.all fun r=>ZFj r&&decide (r.conf.epoch≤c6))&&((c11.all fun m=>decide (m.epoch≤c6))&&ZW c12)):=by
    simp only[ZE,g1,g2,g3',g4',g5,decide_true,Bool.and_true,Bool.true_and,Bool.and_assoc]
  rw [hcv]
  refine Zjc (fun (i:Nat) st=>i≤5∧st.s 1=.t (.sc (.ptr (.loc 1 0) 0 0))∧st.o (.loc 1 0)=some (.box [.u (.str c0),.u (.str c1),.u (.sl 2 (c2.map Yl.u)),.u (.sl 3 (c3.map Yr.u)),.u (.bool c4),.u (.str c5),.u (.int .i64 c6),.u (.sl 1 (c7.map iU)),.u (.bool c8),.u (.sl 5 (c9.map Yo.u)),.u (.sl 1 (c10.map bU)),.u (.sl 7 (c11.map Yk.u)),.u (.sl 7 (c12.map Ya.u))])∧st.s 3=DI i) (fun i=>5 - i) (fun i=>ok1 (B (((c9.drop i).all fun r=>ZFj r&&decide (r.conf.epoch≤c6))&&((c11.all fun m=>decide (m.epoch≤c6))&&ZW c12)))) ?_ 0 (by and_intros<;>first|omega|rfl|(simp only[↓xP,xT,rL,rB,rA,rS]<;>first|done|rfl|omega))
  rintro i st ⟨hi5,h1,ho,h3⟩ ih
  by_cases hi:i<5
  · obtain ⟨⟨⟨e,ms,f⟩,rd,lg⟩,hx⟩:∃ x,c9[i]?=some x:=⟨_,List.getElem?_eq_getElem (by omega)⟩
    have hw:=w_succ (i:=i) (by omega)
    have hlt:((i:Int)<5)=True:=by simp; omega
    have hsx:=hnd.2 _ (List.mem_of_getElem? hx)
    have hr:=ZI0 e ms f rd lg (by have:=hsx.1.1.1; simp only at this; omega) (by have:=hsx.2.1.1; simp only at this; omega)
    rw [ZX hx,List.all_cons]
    cases q1:ZFj ⟨⟨e,ms,f⟩,rd,lg⟩
    · simp only[↓xP,xT,rL,rB,rA,rS,rdx2,h1,ho,h3,hlt,hx,hw,Yo.u,hr,q1]
      try simp
    · by_cases q2:e≤c6
      · have q2':(c6<e)=False:=by simp; omega
        simp only[↓xP,xT,rL,rB,rA,rS,rdx2,h1,ho,h3,hlt,hx,hw,Yo.u,hr,q1,q2']
        rw [ih (i+1) _ (by omega) ⟨by omega,(by and_intros<;>first|omega|rfl|(simp only[↓xP,xT,rL,rB,rA,rS,h1,ho,hw]<;>first|done|rfl|omega))⟩]
        simp [q2]
      · have q2':(c6<e)=True:=by simp; omega
        simp only[↓xP,xT,rL,rB,rA,rS,rdx2,h1,ho,h3,hlt,hx,hw,Yo.u,hr,q1,q2']
        try simp [q2]
  have hlt:((i:Int)<5)=False:=by simp; omega
  simp only[↓xP,xT,rL,rB,rA,rS,h1,ho,h3,hlt]
  rw [List.drop_of_length_le (by omega),List.all_nil,Bool.true_and]
  refine Zjc (fun (i:Nat) st=>st.s 1=.t (.sc (.ptr (.loc 1 0) 0 0))∧st.o (.loc 1 0)=some (.box [.u (.str c0),.u (.str c1),.u (.sl 2 (c2.map Yl.u)),.u (.sl 3 (c3.map Yr.u)),.u (.bool c4),.u (.str c5),.u (.int .i64 c6),.u (.sl 1 (c7.map iU)),.u (.bool c8),.u (.sl 5 (c9.map Yo.u)),.u (.sl 1 (c10.map bU)),.u (.sl 7 (c11.map Yk.u)),.u (.sl 7 (c12.map Ya.u))])∧st.s 4=DI i) (fun i=>c11.length - i) (fun i=>ok1 (B (((c11.drop i).all fun m=>decide (m.epoch≤c6))&&ZW c12))) ?_ 0 (by and_intros<;>first|omega|rfl|(simp only[↓xP,xT,rL,rB,rA,rS,h1,ho]<;>first|done|rfl|omega))
  clear h1 ho h3 hi ih hlt
  rintro i st ⟨h1,ho,h3⟩ ih
  by_cases hi:i<c11.length
  · obtain ⟨⟨k,t,ep,⟨e,ms,f⟩,lg⟩,hx⟩:∃ x,c11[i]?=some x:=⟨_,List.getElem?_eq_getElem hi⟩
    have hw:=w_succ (i:=i) (by omega)
    rw [ZX hx,List.all_cons]
    by_cases q2:ep≤c6
    · have q2':(c6<ep)=False:=by simp; omega
      simp only[↓xP,xT,rL,rB,rA,rS,rdx2,h1,ho,h3,hi,hx,hw,Yk.u,q2']
      rw [ih (i+1) _ (by omega) (by and_intros<;>first|omega|rfl|(simp only[↓xP,xT,rL,rB,rA,rS,h1,ho,hw]<;>first|done|rfl|omega))]
      try simp [q2]
    · have q2':(c6<ep)=True:=by simp; omega
      simp only[↓xP,xT,rL,rB,rA,rS,rdx2,h1,ho,h3,hi,hx,hw,Yk.u,q2']
      try simp [q2]
  simp only[↓xP,xT,rL,rB,rA,rS,h1,ho,h3,hi]
  rw [List.drop_of_length_le (by omega),List.all_nil,Bool.true_and]
  have han:ZW c12=(c12.drop 0).all ZFk:=by simp [ZW,g6']
  rw [han]
  refine Zjc (fun (i:Nat) st=>st.s 1=.t (.sc (.ptr (.loc 1 0) 0 0))∧st.o (.loc 1 0)=some (.box [.u (.str c0),.u (.str c1),.u (.sl 2 (c2.map Yl.u)),.u (.sl 3 (c3.map Yr.u)),.u (.bool c4),.u (.str c5),.u (.int .i64 c6),.u (.sl 1 (c7.map iU)),.u (.bool c8),.u (.sl 5 (c9.map Yo.u)),.u (.sl 1 (c10.map bU)),.u (.sl 7 (c11.map Yk.u)),.u (.sl 7 (c12.map Ya.u))])∧st.s 5=DI i) (fun i=>c12.length - i) (fun i=>ok1 (B ((c12.drop i).all ZFk))) ?_ 0 (by and_intros<;>first|omega|rfl|(simp only[↓xP,xT,rL,rB,rA,rS,h1,ho]<;>first|done|rfl|omega))
  clear h1 ho h3 hi ih
  rintro i st ⟨h1,ho,h3⟩ ih
  by_cases hi:i<c12.length
  · obtain ⟨⟨⟨c,s,k,key,v,o⟩,r⟩,hx⟩:∃ x,c12[i]?=some x:=⟨_,List.getElem?_eq_getElem hi⟩
    have hw:=w_succ (i:=i) (by omega)
    simp only[↓xP,xT,rL,rB,rA,rS,h1,ho,h3,hi,hx,hw,Ya.u,ZF6,ZU]
    rw [ZX hx,List.all_cons]
    refine ZiE (fun h=>?_) (fun q1=>?_)
    · rw [Bool.not_eq_true'] at h; simp [ZFk,h]
    refine ZiE (fun h=>?_) (fun q2=>?_)
    · rw [Bool.not_eq_true'] at h; simp [ZFk,h]
    rw [Bool.not_eq_false'] at q1 q2
    rw [ih (i+1) _ (by omega) (by and_intros<;>first|omega|rfl|(simp only[↓xP,xT,rL,rB,rA,rS,h1,ho]<;>first|done|rfl|omega))]
    simp [ZFk,q1,q2]
  simp only[↓xP,xT,rL,rB,rA,rS,h1,ho,h3,hi]
  rw [List.drop_of_length_le (by omega),List.all_nil]
def ZHz (l:List Yj) (j:Nat):Bool:=match l[j - 1]?,l[j]? with
 | some a,some b=>ZHA a b
 | _,_=>true
def ZG7 (l:List Yj) (j:Nat):Bool:=(match l[j]? with
 | some a=>ZA a
 | none=>true)&&(decide (j=0)||ZHz l j)
def ZQ (l:List Yj):Bool:=match l[0]?,l[l.length - 1]? with
 | some a,some b=>decide (l.length≤6)&&ZA a&&decide (a.low=[])&&decide (b.high=[])&&allF l.length (ZHz l) 1
 | _,_=>false
theorem ZML {l:List Yj} {a:Yj} (ha:l[0]?=some a):allF l.length (ZG7 l) 0=(ZA a&&allF l.length (ZHz l) 1):=by
 have h0:0<l.length:=(List.getElem?_eq_some_iff.1 ha).1
 rw [Bool.eq_iff_iff,Bool.and_eq_true,ZFE _ 0 rfl,ZFE _ 1 rfl]
 constructor
 ·intro h
  refine ⟨?_,fun j h1 h2=>?_⟩
  ·have:=h 0 (by omega) h0
   simpa [ZG7,ha] using this
  ·have:=h j (by omega) h2
   simp only[ZG7,Bool.and_eq_true,Bool.or_eq_true,decide_eq_true_eq] at this
   rcases this.2 with e|e
   ·omega
   ·exact e
 ·rintro ⟨h1,h2⟩ j _ hj
  by_cases e:j=0
  ·subst e; simp [ZG7,ha,h1]
  ·have hjn:=h2 j (by omega) hj
   obtain ⟨x,hx⟩:∃ x,l[j - 1]?=some x:=⟨_,List.getElem?_eq_getElem (by omega)⟩
   obtain ⟨y,hy⟩:∃ x,l[j]?=some x:=⟨_,List.getElem?_eq_getElem hj⟩
   have hjn2:=hjn
   simp only[ZHz,hx,hy,ZHA,Bool.and_eq_true] at hjn2
   simp [ZG7,hy,hjn,hjn2.1.1.2]
theorem ZIo (l:List Yj) (hn:l.length≤1048576):EE F 101 [L 2 (l.map Yj.u)] []=ok1 (B (ZQ l)):=by
 rw [R101,b101]
 by_cases hl:l=[]
 ·subst hl
  simp only[↓xP,xT,rL,rB,rA,rS,List.map_nil]
  rfl
 have h1:1≤l.length:=List.length_pos_iff.2 hl
 obtain ⟨⟨alo,ahi⟩,ha⟩:∃ a,l[0]?=some a:=⟨_,List.getElem?_eq_getElem (by omega)⟩
 obtain ⟨⟨blo,bhi⟩,hb⟩:∃ a,l[l.length - 1]?=some a:=⟨_,List.getElem?_eq_getElem (by omega)⟩
 have hw1:IntKind.i64.wrap ((l.length:Int) - 1)=((l.length - 1:Nat):Int):=by rw [w64 (by omega) (by omega)]; omega
 have hpv:ZQ l=(decide (l.length≤6)&&decide (alo=[])&&decide (bhi=[])&&allF l.length (ZG7 l) 0):=by
  rw [ZML ha]
  simp only[ZQ,ha,hb]
  cases decide (l.length≤6)<;>cases decide (alo=[])<;>cases decide (bhi=[])<;>cases ZA ⟨alo,ahi⟩<;>simp
 simp only[↓xP,xT,rL,rB,rA,rS,List.length_map,ha,hb,Yj.u,hw1,ne_eq]
 refine ZiE (fun h=>?_) (fun g1=>?_)
 ·simp at h; omega
 refine ZiE (fun h=>?_) (fun g2=>?_)
 ·have:¬l.length≤6:=by simp at h; omega
  rw [hpv]; simp [this]
 refine ZiE (fun h=>?_) (fun g3=>?_)
 ·have:¬alo=[]:=by simpa using h
  rw [hpv]; simp [this]
 refine ZiE (fun h=>?_) (fun g4=>?_)
 ·have:¬bhi=[]:=by simpa using h
  rw [hpv]; simp [this]
 have hg:(decide (l.length≤6)&&decide (alo=[])&&decide (bhi=[]))=true:=by
  have a1:l.length≤6:=by simp at g2; omega
  have a2:alo=[]:=by simpa using g3
  have a3:bhi=[]:=by simpa using g4
  simp [a1,a2,a3]
 rw [hpv,hg,Bool.true_and]
 refine Zjc (fun (i:Nat) st=>i≤l.length∧st.s 0=DU (.sl 2 (l.map Yj.u))∧st.s 32=DU (.sl 2 (l.map Yj.u))∧st.s 33=DI l.length∧st.s 34=DI i) (fun i=>l.length - i) (fun i=>ok1 (B (allF l.length (ZG7 l) i))) ?_ 0 (by and_intros<;>first|omega|rfl|(simp only[↓xP,xT,rL,rB,rA,rS]<;>first|done|rfl|omega))
 rintro i st ⟨hle,h0,h32,h33,h34⟩ ih
 by_cases hi:i<l.length
 ·obtain ⟨⟨lo,hi'⟩,hx⟩:∃ x,l[i]?=some x:=⟨_,List.getElem?_eq_getElem hi⟩
  have hw:=w_succ (i:=i) (by omega)
  rw [ZFW hi]
  by_cases e:i=0
  ·subst e
   have hgt:decide (((0:Nat):Int) > 0)=false:=by decide
   simp only[↓xP,xT,rL,rB,rA,rS,h0,h32,h33,h34,hi,hx,hw,Yj.u,ZI,hgt]
   refine ZiE (fun h=>?_) (fun h=>?_)
   ·simp_all [ZG7]
   ·rw [ih 1 _ (by omega) (by and_intros<;>first|omega|rfl|(simp only[↓xP,xT,rL,rB,rA,rS,h0,h32,h33]<;>first|done|rfl|omega))]; simp_all [ZG7]
  ·obtain ⟨k,rfl⟩:∃ k,i=k+1:=⟨i - 1,by omega⟩
   obtain ⟨⟨clo,chi⟩,hc⟩:∃ a,l[k]?=some a:=⟨_,List.getElem?_eq_getElem (by omega)⟩
   have hp:=ZKt (i:=k) (by omega)
   have hgt:decide (((k+1:Nat):Int) > 0)=true:=by simp
   have hjo:=ZIM clo chi lo hi'
   have hpa:ZG7 l (k+1)=(ZA ⟨lo,hi'⟩&&ZHA ⟨clo,chi⟩ ⟨lo,hi'⟩):=by simp [ZG7,ZHz,hx,hc]
   rw [hpa]
   cases hj:ZHA ⟨clo,chi⟩ ⟨lo,hi'⟩<;>simp only[ZIi,hj,↓xP,xT,rL,rB,rA,rS] at hjo
   all_goals simp only[↓xP,xT,rL,rB,rA,rS,rdx2,h0,h32,h33,h34,hi,hx,hc,hw,hp,hgt,Yj.u,ZI,hjo]
   all_goals refine ZiE (fun h=>?_) (fun h=>?_)
   ·simp_all
   ·simp_all
   ·simp_all
   ·rw [ih (k+1+1) _ (by omega) (by and_intros<;>first|omega|rfl|(simp only[↓xP,xT,rL,rB,rA,rS,h0,h32,h33,hw]<;>first|done|rfl|omega))]; simp_all
 ·simp only[↓xP,xT,rL,rB,rA,rS,h0,h32,h33,h34,hi]
  rw [ZFV hi]
theorem ZIp (l:List Yj) (hn:l.length≤1048576):EE F 188 [L 2 (l.map Yj.u)] []=ok1 (B (ZQ l)):=by
 rw [R188,b188]
 by_cases hl:l=[]
 ·subst hl
  have:inR (0:Int) 1 6=false:=by decide
  simp only[↓xP,xT,rL,rB,rA,rS,List.map_nil,ZU,List.length_nil,List.length_map]
  refine ZiE (fun h=>?_) (fun h=>?_)
  ·rfl
  ·exact absurd h (by decide)
 have h1:1≤l.length:=List.length_pos_iff.2 hl
 obtain ⟨⟨alo,ahi⟩,ha⟩:∃ a,l[0]?=some a:=⟨_,List.getElem?_eq_getElem (by omega)⟩
 obtain ⟨⟨blo,bhi⟩,hb⟩:∃ a,l[l.length - 1]?=some a:=⟨_,List.getElem?_eq_getElem (by omega)⟩
 have hw1:IntKind.i64.wrap ((l.length:Int) - 1)=((l.length - 1:Nat):Int):=by rw [w64 (by omega) (by omega)]; omega
 have hin:inR (l.length:Int) 1 6=decide (l.length≤6):=by
  rw [Bool.eq_iff_iff]; simp only[inR,Bool.and_eq_true,decide_eq_true_eq]; omega
 have hpv:ZQ l=(decide (l.length≤6)&&ZA ⟨alo,ahi⟩&&decide (alo=[])&&decide (bhi=[])&&allF l.length (ZHz l) 1):=by simp only[ZQ,ha,hb]
 rw [hpv]
 simp only[↓xP,xT,rL,rB,rA,rS,List.length_map,ZU,hin,ha,hb,ZY,Yj.u,hw1,ne_eq]
 refine ZiE (fun h=>?_) (fun g1=>?_)
 ·rw [Bool.not_eq_true'] at h; simp [h]
 refine ZiE (fun h=>?_) (fun g2=>?_)
 ·rw [Bool.not_eq_true'] at h; simp [h]
 refine ZiE (fun h=>?_) (fun g3=>?_)
 ·have:¬alo=[]:=by simpa using h
  simp [this]
 refine ZiE (fun h=>?_) (fun g4=>?_)
 ·have:¬bhi=[]:=by simpa using h
  simp [this]
 have hg:(decide (l.length≤6)&&ZA ⟨alo,ahi⟩&&decide (alo=[])&&decide (bhi=[]))=true:=by
  have a2:alo=[]:=by simpa using g3
  have a3:bhi=[]:=by simpa using g4
  rw [Bool.not_eq_false'] at g1 g2
  rw [g1,g2]; simp [a2,a3]
 rw [hg,Bool.true_and]
 refine Zjc (fun (i:Nat) st=>1≤i∧i≤l.length∧st.s 0=DU (.sl 2 (l.map Yj.u))∧st.s 3=DI i) (fun i=>l.length - i) (fun i=>ok1 (B (allF l.length (ZHz l) i))) ?_ 1 ⟨by omega,h1,(by and_intros<;>first|omega|rfl|(simp only[↓xP,xT,rL,rB,rA,rS]<;>first|done|rfl|omega))⟩
 rintro i st ⟨hi1,hle,hs0,hs3⟩ ih
 by_cases hi:i<l.length
 ·obtain ⟨i,rfl⟩:∃ k,i=k+1:=⟨i - 1,by omega⟩
  obtain ⟨⟨clo,chi⟩,hc⟩:∃ a,l[i]?=some a:=⟨_,List.getElem?_eq_getElem (by omega)⟩
  obtain ⟨⟨dlo,dhi⟩,hd⟩:∃ a,l[i+1]?=some a:=⟨_,List.getElem?_eq_getElem (by omega)⟩
  have hw:=w_succ (i:=i+1) (by omega)
  have hp:=ZKt (i:=i) (by omega)
  have hjo:=ZIN clo chi dlo dhi
  have hja:ZHz l (i+1)=ZHA ⟨clo,chi⟩ ⟨dlo,dhi⟩:=by simp [ZHz,hc,hd]
  rw [ZFW hi,hja]
  cases hj:ZHA ⟨clo,chi⟩ ⟨dlo,dhi⟩<;>simp only[ZIi,hj,↓xP,xT,rL,rB,rA,rS] at hjo
  ·simp only[↓xP,xT,rL,rB,rA,rS,rdx2,hs0,hs3,List.length_map,hi,hp,hc,hd,Yj.u,hjo,hw]
   try simp
  ·simp only[↓xP,xT,rL,rB,rA,rS,rdx2,hs0,hs3,List.length_map,hi,hp,hc,hd,Yj.u,hjo,hw]
   rw [ih (i+1+1) _ (by omega) ⟨by omega,by omega,(by and_intros<;>first|omega|rfl|(simp only[↓xP,xT,rL,rB,rA,rS,hs0,hs3,hw]<;>first|done|rfl|omega))⟩]
   try simp
 ·simp only[↓xP,xT,rL,rB,rA,rS,hs0,hs3,List.length_map,hi]
  rw [ZFV hi]
def ZGE (n:Int):List Yq→Nat→Int
 | [],_=>-1
 | r::l,i=>if r.number=n then (i:Int) else ZGE n l (i+1)
def ZFT (l:List Yq) (n:Int):Bool:=l.any (fun q=>decide (q.number=n))
theorem ZK8 (n:Int):∀ (l:List Yq) (i:Nat),decide (0≤ZGE n l i)=ZFT l n
 | [],i=>by simp [ZGE,ZFT]
 | r :: l,i=>by
  have h:=ZK8 n l (i+1)
  simp only[ZFT,List.any_cons] at h ⊢
  by_cases e:r.number=n
  ·have hp:ZGE n (r::l) i=(i:Int):=by simp only[ZGE,if_pos e]
   rw [hp]; simp [e]
  ·have hp:ZGE n (r::l) i=ZGE n l (i+1):=by simp only[ZGE,if_neg e]
   rw [hp,h]; simp [e]
theorem ZKK (l:List Yq) (n:Int) (hn:l.length≤1048576):EE F 190 [L 3 (l.map Yq.u),I n] []=ok1 (I (ZGE n l 0)):=by
 rw [R190,b190]
 simp only[↓xP,xT,rL,rB,rA,rS]
 refine (Zjc (fun (i:Nat) st=>st.s 7=DU (.sl 3 (l.map Yq.u))∧st.s 8=DI l.length∧st.s 9=DI i∧st.s 1=DI n) (fun i=>l.length - i) (fun i=>ok1 (I (ZGE n (l.drop i) i))) ?_ 0 (by and_intros<;>first|omega|rfl|(simp only[↓xP,xT,rL,rB,rA,rS]<;>first|done|rfl|omega))).trans (by simp)
 rintro i st ⟨h7,h8,h9,h1⟩ ih
 by_cases hi:i<l.length
 ·obtain ⟨⟨m,⟨lo,up⟩⟩,hx⟩:∃ x,l[i]?=some x:=⟨_,List.getElem?_eq_getElem hi⟩
  have hw:=w_succ (i:=i) (by omega)
  simp only[↓xP,xT,rL,rB,rA,rS,h7,h8,h9,h1,hi,hx,hw,Yq.u]
  rw [ZX hx,ZGE]
  refine ZiE (fun h=>?_) (fun h=>?_)
  ·have:m=n:=by simpa using h
   simp [this]
  ·have:¬m=n:=by simpa using h
   rw [ih (i+1) _ (by omega) (by and_intros<;>first|omega|rfl|(simp only[↓xP,xT,rL,rB,rA,rS,h7,h8,h1]<;>first|done|rfl|omega)),if_neg this]
 ·simp only[↓xP,xT,rL,rB,rA,rS,h7,h8,h9,hi]
  rw [List.drop_of_length_le (by omega)]; rfl
def ZGi (l:List Yq) (i:Nat):Bool:=match l[i]? with
 | some r=>inR r.number 0 7&&!ZFT (l.take i) r.number
 | none=>true
def ZFe (l:List Yq):Bool:=allF l.length (ZGi l) 0
theorem ZHq (l:List Yq) (hn:l.length≤1048576):EE F 103 [L 3 (l.map Yq.u)] []=ok1 (B (ZFe l)):=by
 rw [R103,b103]
 simp only[↓xP,xT,rL,rB,rA,rS]
 refine Zjc (fun (i:Nat) st=>st.s 0=DU (.sl 3 (l.map Yq.u))∧st.s 5=DU (.sl 3 (l.map Yq.u))∧st.s 6=DI l.length∧st.s 7=DI i) (fun i=>l.length - i) (fun i=>ok1 (B (allF l.length (ZGi l) i))) ?_ 0 (by and_intros<;>first|omega|rfl|(simp only[↓xP,xT,rL,rB,rA,rS]<;>first|done|rfl|omega))
 rintro i st ⟨h0,h5,h6,h7⟩ ih
 by_cases hi:i<l.length
 ·obtain ⟨⟨m,⟨lo,up⟩⟩,hx⟩:∃ x,l[i]?=some x:=⟨_,List.getElem?_eq_getElem hi⟩
  have hw:=w_succ (i:=i) (by omega)
  have hrp:=ZKK (l.take i) m (by rw [List.length_take]; omega)
  have hge:=ZK8 m (l.take i) 0
  rw [ZFW hi]
  have hct:vcut l.length none (some (DI (i:Int)))=some (0,i):=ZIy (by omega)
  have hna:ZGi l i=(inR m 0 7&&!ZFT (l.take i) m):=by simp [ZGi,hx]
  rw [hna]
  cases q1:inR m 0 7
  ·simp only[↓xP,xT,rL,rB,rA,rS,rdx2,h0,h5,h6,h7,hi,hx,hw,Yq.u,ZGx,q1]
   try simp
  ·cases q2:ZFT (l.take i) m<;>rw [q2] at hge
   ·have hge2:(0≤ZGE m (l.take i) 0)=False:=by simpa using hge
    simp only[↓xP,xT,rL,rB,rA,rS,rdx2,h0,h5,h6,h7,hi,hx,hw,Yq.u,ZGx,q1,hrp,ge_iff_le,hge2,hct,List.length_map,List.drop_zero,←List.map_take]
    rw [ih (i+1) _ (by omega) (by and_intros<;>first|omega|rfl|(simp only[↓xP,xT,rL,rB,rA,rS,h0,h5,h6,hw]<;>first|done|rfl|omega))]
    try simp
   ·have hge2:(0≤ZGE m (l.take i) 0)=True:=by simpa using hge
    simp only[↓xP,xT,rL,rB,rA,rS,rdx2,h0,h5,h6,h7,hi,hx,hw,Yq.u,ZGx,q1,hrp,ge_iff_le,hge2,hct,List.length_map,List.drop_zero,←List.map_take]
    try simp
 ·simp only[↓xP,xT,rL,rB,rA,rS,h0,h5,h6,h7,hi]
  rw [ZFV hi]
def ZFB (l:List Yq):List Yj:=l.map Yq.span
def ZI4 (l:List Yq):Option Ret:=some ⟨[.sc (.own (.par 0) l.length)],[.row 2 ((ZFB l).map Yj.u)],[]⟩
theorem ZKp {l:List Yq} {i:Nat} {m:Int} {lo up:Str} (hx:l[i]?=some ⟨m,⟨lo,up⟩⟩):(ZFB (l.take (i+1))).map Yj.u=(ZFB (l.take i)).map Yj.u++[[.str lo,.str up]]:=by
 rw [List.take_add_one,hx]; simp [Yj.u,ZFB]
theorem ZF0 (l:List Yq):(ZFB l).length=l.length:=by simp [ZFB]
theorem ZMS (l:List Yq) (hn:l.length≤1048576):EE F 102 [L 3 (l.map Yq.u)] []=ZI4 l:=by
 rw [R102,b102]
 simp only[↓xP,xT,rL,rB,rA,rS]
 refine Zjc (fun (i:Nat) st=>i≤l.length∧st.s 3=.t (.sc (.own (.loc 3 0) i))∧st.o (.loc 3 0)=some (.row 2 ((ZFB (l.take i)).map Yj.u))∧st.s 6=DU (.sl 3 (l.map Yq.u))∧st.s 7=DI l.length∧st.s 8=DI i) (fun a=>l.length - a) (fun _=>ZI4 l) ?_ 0 (by and_intros<;>first|omega|rfl|(simp only[↓xP,xT,rL,rB,rA,rS]<;>first|done|rfl|omega))
 rintro i st ⟨hle,h3,ho,h6,h7,h8⟩ ih
 by_cases hi:i<l.length
 ·obtain ⟨⟨m,⟨lo,up⟩⟩,hx⟩:∃ x,l[i]?=some x:=⟨_,List.getElem?_eq_getElem hi⟩
  have hw:=w_succ (i:=i) (by omega)
  obtain ⟨q1,q2⟩:=ZN (n:=i+1) (k:=32) (by omega) (by omega)
  have hst:=ZKp hx
  have hlt:(List.map Yj.u (ZFB (List.take i l))).length=i:=by rw [List.length_map,ZF0,List.length_take]; omega
  have hta:List.take i (List.map Yj.u (ZFB (List.take i l)))=List.map Yj.u (ZFB (List.take i l)):=List.take_of_length_le (by omega)
  simp only[↓xP,xT,rL,rB,rA,rS,h3,ho,h6,h7,h8,hi,hx,hw,Yq.u,q1,q2,hlt,hta]
  rw [ih (i+1) _ (by omega) (by and_intros<;>first|omega|rfl|(simp only[↓xP,xT,rL,rB,rA,rS,h3,ho,h6,h7,hst]<;>first|done|rfl|omega))]
 ·simp only[↓xP,xT,rL,rB,rA,rS,h3,ho,h6,h7,h8,hi]
  obtain rfl:i=l.length:=by omega
  rw [List.take_length,ZF0]; simp [ZI4,sel]
theorem ZJj (l:List Yq) (hn:l.length≤1048576):EE F 32 [L 3 (l.map Yq.u)] []=ok1 (B (decide (l.length≤6)&&ZQ (ZFB l)&&ZFe l)):=by
 rw [R32,b32]
 have hs:=ZMS l hn
 have hp:=ZIo (ZFB l) (by rw [ZF0]; omega)
 simp only[ZI4] at hs
 have hta:List.take l.length (List.map Yj.u (ZFB l))=List.map Yj.u (ZFB l):=List.take_of_length_le (by rw [List.length_map,ZF0]; omega)
 simp only[↓xP,xT,rL,rB,rA,rS,hs,hp,ZHq l hn,ZF0,hta,Nat.le_refl]
 refine ZiE (fun g1=>?_) (fun h=>?_)
 ·have g1':l.length≤6:=by simp at g1; omega
  refine ZiE (fun g2=>?_) (fun h=>?_)
  ·simp [g1',g2]
  ·simp [h]
 ·have:¬l.length≤6:=by simp at h; omega
  simp [this]
def ZH8 (a b:Str):Bool:=!ZaZ a b&&!decide (a=b)
def ZFQ (l:List Yq) (i:Nat):Bool:=match l[i]? with
 | some r=>ZA r.span&&!(match l[i - 1]? with
  | some q=>decide (0<i)&&(decide (q.span.high=[])||ZH8 q.span.high r.span.low)
  | none=>false)
 | none=>true
def ZFS (l:List Yq):Bool:=ZFe l&&allF l.length (ZFQ l) 0
theorem ZL6:∀ (n:Nat) (l:List Int),l.Pairwise (·≠·)→(∀ x,x∈l→0≤x∧x<(n:Int))→l.length≤n
 | 0,l,_,h=>by
  cases l with
  | nil=>simp
  | cons a l=>have:=h a (by simp); omega
 | n + 1,l,hd,h=>by
  have hk:∀ (m:List Int),m.Pairwise (·≠·)→m.length≤(m.filter (fun x=>decide (x≠(n:Int)))).length+1:=by
   intro m
   induction m with
   | nil=>intro _; simp
   | cons a m ih=>
    intro hp
    rw [List.pairwise_cons] at hp
    by_cases e:a=(n:Int)
    ·have:m.filter (fun x=>decide (x≠(n:Int)))=m:=List.filter_eq_self.2 (fun x hx=>by have:=hp.1 x hx; simp; omega)
     rw [List.filter_cons_of_neg (by simp [e]),this]; simp
    ·rw [List.filter_cons_of_pos (by simp [e])]
     have:=ih hp.2
     simp only[List.length_cons]; omega
  have h1:=hk l hd
  have h2:=ZL6 n (l.filter (fun x=>decide (x≠(n:Int)))) (hd.filter _) (by
   intro x hx
   rw [List.mem_filter] at hx
   have:=h x hx.1
   have h3:x≠(n:Int):=by simpa using hx.2
   omega)
  omega
theorem ZJp {l:List Yq} (h:ZFe l=true):(l.map Yq.number).Pairwise (·≠·)∧∀ x,x∈l.map Yq.number→0≤x∧x<8:=by
 have ha:=(ZFE _ 0 rfl).1 h
 refine ⟨?_,?_⟩
 ·rw [List.pairwise_iff_getElem]
  intro i j hi hj hij
  simp only[List.length_map] at hi hj
  have:=ha j (by omega) hj
  simp only[ZGi,List.getElem?_eq_getElem hj,Bool.and_eq_true,Bool.not_eq_true',ZFT] at this
  have h2:=List.any_eq_false.1 this.2 l[i] (by rw [List.mem_take_iff_getElem]; exact ⟨i,by omega,rfl⟩)
  simpa using h2
 ·intro x hx
  obtain ⟨r,hr,rfl⟩:=List.mem_map.1 hx
  obtain ⟨i,hi,rfl⟩:=List.mem_iff_getElem.1 hr
  have:=ha i (by omega) hi
  simp only[ZGi,List.getElem?_eq_getElem hi,Bool.and_eq_true,inR,decide_eq_true_eq] at this
  omega
theorem ZMA {l:List Yq} (h:ZFe l=true):l.length≤8:=by
 have:=ZL6 8 (l.map Yq.number) (ZJp h).1 (fun x hx=>by have:=(ZJp h).2 x hx; omega)
 simpa using this
theorem ZJF (l:List Yq) (hn:l.length≤1048576):EE F 172 [L 3 (l.map Yq.u)] []=ok1 (B (ZFS l)):=by
 rw [R172,b172]
 simp only[↓xP,xT,rL,rB,rA,rS,ZHq l hn,List.length_map]
 refine ZiE (fun h=>?_) (fun g1=>?_)
 ·have h8:¬l.length≤8:=by simp at h; omega
  have:ZFe l=false:=by
   cases hd:ZFe l
   ·rfl
   ·exact absurd (ZMA hd) h8
  simp [ZFS,this]
 refine ZiE (fun h=>?_) (fun g2=>?_)
 ·rw [Bool.not_eq_true'] at h; simp [ZFS,h]
 rw [Bool.not_eq_false'] at g2
 simp only[ZFS,g2,Bool.true_and]
 refine Zjc (fun (i:Nat) st=>i≤l.length∧st.s 0=DU (.sl 3 (l.map Yq.u))∧st.s 13=DU (.sl 3 (l.map Yq.u))∧st.s 14=DI l.length∧st.s 15=DI i) (fun i=>l.length - i) (fun i=>ok1 (B (allF l.length (ZFQ l) i))) ?_ 0 (by and_intros<;>first|omega|rfl|(simp only[↓xP,xT,rL,rB,rA,rS]<;>first|done|rfl|omega))
 rintro i st ⟨hle,h0,h13,h14,h15⟩ ih
 by_cases hi:i<l.length
 ·obtain ⟨⟨m,⟨lo,up⟩⟩,hx⟩:∃ x,l[i]?=some x:=⟨_,List.getElem?_eq_getElem hi⟩
  have hw:=w_succ (i:=i) (by omega)
  rw [ZFW hi]
  cases q1:ZA ⟨lo,up⟩
  ·have:ZFQ l i=false:=by simp [ZFQ,hx,q1]
   simp only[↓xP,xT,rL,rB,rA,rS,rdx2,h0,h13,h14,h15,hi,hx,hw,Yq.u,ZI,q1]
   simp [this]
  cases i with
  | zero=>
   have hgt:(((0:Nat):Int) > 0)=False:=by simp
   have:ZFQ l 0=true:=by simp only[ZFQ,hx,q1]; cases l[0 - 1]?<;>simp
   simp only[↓xP,xT,rL,rB,rA,rS,rdx2,h0,h13,h14,h15,hi,hx,hw,Yq.u,ZI,q1,hgt]
   rw [ih 1 _ (by omega) (by and_intros<;>first|omega|rfl|(simp only[↓xP,xT,rL,rB,rA,rS,h0,h13,h14,hw]<;>first|done|rfl|omega))]
   simp [this]
  | succ k=>
   have hgt:(((k+1:Nat):Int) > 0)=True:=by simp
   have hp:=ZKt (i:=k) (by omega)
   obtain ⟨⟨cm,⟨clo,chi⟩⟩,hc⟩:∃ a,l[k]?=some a:=⟨_,List.getElem?_eq_getElem (by omega)⟩
   have hsp:ZFQ l (k+1)=!(decide (chi=[])||ZH8 chi lo):=by simp [ZFQ,hx,hc,q1]
   rw [hsp]
   by_cases q2:chi=[]
   ·subst q2
    simp only[↓xP,xT,rL,rB,rA,rS,rdx2,h0,h13,h14,h15,hi,hx,hc,hw,hp,Yq.u,ZI,q1,hgt]
    try simp
   ·simp only[↓xP,xT,rL,rB,rA,rS,rdx2,h0,h13,h14,h15,hi,hx,hc,hw,hp,Yq.u,ZI,q1,hgt,q2]
    refine ZiE (fun h=>?_) (fun h=>?_)
    ·have:ZH8 chi lo=true:=by simpa [ZH8] using h
     simp [this]
    ·have:ZH8 chi lo=false:=by simpa [ZH8] using h
     rw [ih (k+1+1) _ (by omega) (by and_intros<;>first|omega|rfl|(simp only[↓xP,xT,rL,rB,rA,rS,h0,h13,h14,hw]<;>first|done|rfl|omega))]
     simp [this,q2]
 ·simp only[↓xP,xT,rL,rB,rA,rS,h0,h13,h14,h15,hi]
  rw [ZFV hi]
theorem ZJG (l:List Yq) (hn:l.length≤1048576):EE F 186 [L 3 (l.map Yq.u)] []=ok1 (B (ZFS l)):=by
 rw [R186,b186]
 simp only[↓xP,xT,rL,rB,rA,rS]
 have hc:ZFS l=allF l.length (fun i=>ZGi l i&&ZFQ l i) 0:=by
  rw [Bool.eq_iff_iff,ZFS,Bool.and_eq_true,ZFe,ZFE _ 0 rfl,ZFE _ 0 rfl,ZFE _ 0 rfl]
  simp only[Bool.and_eq_true]
  exact ⟨fun h j h1 h2=>⟨h.1 j h1 h2,h.2 j h1 h2⟩,fun h=>⟨fun j h1 h2=>(h j h1 h2).1,fun j h1 h2=>(h j h1 h2).2⟩⟩
 rw [hc]
 refine Zjc (fun (i:Nat) st=>i≤l.length∧st.s 0=DU (.sl 3 (l.map Yq.u))∧st.s 3=DI i) (fun i=>l.length - i) (fun i=>ok1 (B (allF l.length (fun i=>ZGi l i&&ZFQ l i) i))) ?_ 0 (by and_intros<;>first|omega|rfl|(simp only[↓xP,xT,rL,rB,rA,rS]<;>first|done|rfl|omega))
 rintro i st ⟨hle,h0,h3⟩ ih
 by_cases hi:i<l.length
 ·obtain ⟨⟨m,⟨lo,up⟩⟩,hx⟩:∃ x,l[i]?=some x:=⟨_,List.getElem?_eq_getElem hi⟩
  have hw:=w_succ (i:=i) (by omega)
  rw [ZFW hi]
  simp only[↓xP,xT,rL,rB,rA,rS,h0,h3,hi,hx,hw,Yq.u,ZY,ZU]
  refine ZiE (fun h=>?_) (fun q1=>?_)
  ·rw [Bool.not_eq_true'] at h
   have:ZFQ l i=false:=by simp [ZFQ,hx,h]
   simp [this]
  rw [Bool.not_eq_false'] at q1
  refine ZiE (fun h=>?_) (fun q2=>?_)
  ·rw [Bool.not_eq_true'] at h
   have:ZGi l i=false:=by simp [ZGi,hx,h]
   simp [this]
  rw [Bool.not_eq_false'] at q2
  have hna:ZGi l i=!ZFT ((l.take i).drop 0) m:=by simp [ZGi,hx,q2]
  rw [hna]
  refine Zjc (fun (j:Nat) st=>j≤i∧st.s 0=DU (.sl 3 (l.map Yq.u))∧st.s 3=DI i∧st.s 4=DI j) (fun j=>i - j) (fun j=>ok1 (B (!ZFT ((l.take i).drop j) m&&ZFQ l i&&allF l.length (fun i=>ZGi l i&&ZFQ l i) (i+1)))) ?_ 0 (by and_intros<;>first|omega|rfl|(simp only[↓xP,xT,rL,rB,rA,rS,h0,h3]<;>first|done|rfl|omega))
  clear h0 h3
  rintro j st ⟨hle2,h0,h3,h4⟩ ih2
  by_cases hj:j<i
  ·obtain ⟨⟨k,⟨lo2,up2⟩⟩,hy⟩:∃ x,l[j]?=some x:=⟨_,List.getElem?_eq_getElem (by omega)⟩
   have hyt:(l.take i)[j]?=some ⟨k,⟨lo2,up2⟩⟩:=by rw [List.getElem?_take,if_pos hj]; exact hy
   have hw2:=w_succ (i:=j) (by omega)
   have hh:ZFT ((l.take i).drop j) m=(decide (k=m)||ZFT ((l.take i).drop (j+1)) m):=by rw [ZX hyt]; rfl
   rw [hh]
   by_cases e:k=m
   ·simp only[↓xP,xT,rL,rB,rA,rS,rdx2,h0,h3,h4,hj,hx,hy,hw2,Yq.u,e]
    try simp
   ·simp only[↓xP,xT,rL,rB,rA,rS,rdx2,h0,h3,h4,hj,hx,hy,hw2,Yq.u,e]
    rw [ih2 (j+1) _ (by omega) (by and_intros<;>first|omega|rfl|(simp only[↓xP,xT,rL,rB,rA,rS,h0,h3,hw2]<;>first|done|rfl|omega))]
    try simp
  have hdr:(l.take i).drop j=[]:=List.drop_of_length_le (by rw [List.length_take]; omega)
  have hnn:ZFT ([]:List Yq) m=false:=rfl
  rw [hdr,hnn]
  cases i with
  | zero=>
   have hgt:(((0:Nat):Int) > 0)=False:=by simp
   have:ZFQ l 0=true:=by simp only[ZFQ,hx,q1]; cases l[0 - 1]?<;>simp
   simp only[↓xP,xT,rL,rB,rA,rS,rdx2,h0,h3,h4,hj,hx,hw,Yq.u,hgt]
   rw [ih 1 _ (by omega) (by and_intros<;>first|omega|rfl|(simp only[↓xP,xT,rL,rB,rA,rS,h0,hw]<;>first|done|rfl|omega))]
   simp [this]
  | succ k=>
   have hgt:(((k+1:Nat):Int) > 0)=True:=by simp
   have hp:=ZKt (i:=k) (by omega)
   obtain ⟨⟨cm,⟨clo,chi⟩⟩,hc⟩:∃ a,l[k]?=some a:=⟨_,List.getElem?_eq_getElem (by omega)⟩
   have hsp:ZFQ l (k+1)=!(decide (chi=[])||ZH8 chi lo):=by simp [ZFQ,hx,hc,q1]
   rw [hsp]
   by_cases q2:chi=[]
   ·subst q2
    simp only[↓xP,xT,rL,rB,rA,rS,rdx2,h0,h3,h4,hj,hx,hc,hw,hp,Yq.u,hgt]
    try simp
   ·simp only[↓xP,xT,rL,rB,rA,rS,rdx2,h0,h3,h4,hj,hx,hc,hw,hp,Yq.u,hgt,q2]
    refine ZiE (fun h=>?_) (fun h=>?_)
    ·have:ZH8 chi lo=true:=by simpa [ZH8] using h
     simp [this]
    ·have:ZH8 chi lo=false:=by simpa [ZH8] using h
     rw [ih (k+1+1) _ (by omega) (by and_intros<;>first|omega|rfl|(simp only[↓xP,xT,rL,rB,rA,rS,h0,hw]<;>first|done|rfl|omega))]
     simp [this,q2]
 ·simp only[↓xP,xT,rL,rB,rA,rS,h0,h3,hi]
  rw [ZFV hi]
def Z6 (l:List Yq):Bool:=decide (l.length≤6)&&ZQ (ZFB l)&&ZFe l
theorem ZJk (l:List Yq) (hn:l.length≤1048576):EE F 98 [L 3 (l.map Yq.u)] []=ok1 (B (Z6 l)):=by
 rw [R98,b98]
 simp only[↓xP,xT,rL,rB,rA,rS]
 have hdef:Z6 l=(decide (l.length≤6)&&allF l.length (ZGi l) 0&&ZQ (ZFB l)):=by
  simp only[Z6,ZFe]; cases decide (l.length≤6)<;>cases ZQ (ZFB l)<;>simp
 rw [hdef]
 refine Zjc (fun (i:Nat) st=>i≤6∧i≤l.length∧st.s 0=DU (.sl 3 (l.map Yq.u))∧st.s 3=.t (.sc (.own (.loc 6 0) i))∧st.o (.loc 6 0)=some (.row 2 ((ZFB (l.take i)).map Yj.u))∧st.s 4=DI i) (fun i=>l.length - i) (fun i=>ok1 (B (decide (l.length≤6)&&allF l.length (ZGi l) i&&ZQ (ZFB l)))) ?_ 0 (by and_intros<;>first|omega|rfl|(simp only[↓xP,xT,rL,rB,rA,rS]<;>first|done|rfl|omega))
 rintro i st ⟨hi6,hle,h0,h3,ho,h4⟩ ih
 by_cases hi:i<l.length
 ·obtain ⟨⟨m,⟨lo,up⟩⟩,hx⟩:∃ x,l[i]?=some x:=⟨_,List.getElem?_eq_getElem hi⟩
  have hw:=w_succ (i:=i) (by omega)
  rw [ZFW hi]
  by_cases h6:i=6
  ·have hge:((6:Int)≤(i:Int))=True:=by simp; omega
   have hl:¬l.length≤6:=by omega
   simp only[↓xP,xT,rL,rB,rA,rS,h0,h3,ho,h4,hi,hx,hw,Yq.u,ge_iff_le,hge]
   simp [hl]
  have hge:((6:Int)≤(i:Int))=False:=by simp; omega
  cases q2:inR m 0 7
  ·have:ZGi l i=false:=by simp [ZGi,hx,q2]
   simp only[↓xP,xT,rL,rB,rA,rS,h0,h3,ho,h4,hi,hx,hw,Yq.u,ge_iff_le,hge,ZU,q2]
   simp [this]
  simp only[↓xP,xT,rL,rB,rA,rS,h0,h3,ho,h4,hi,hx,hw,Yq.u,ge_iff_le,hge,ZU,q2]
  have hna:ZGi l i=!ZFT ((l.take i).drop 0) m:=by simp [ZGi,hx,q2]
  rw [hna]
  refine Zjc (fun (j:Nat) st=>j≤i∧st.s 0=DU (.sl 3 (l.map Yq.u))∧st.s 3=.t (.sc (.own (.loc 6 0) i))∧st.o (.loc 6 0)=some (.row 2 ((ZFB (l.take i)).map Yj.u))∧st.s 4=DI i∧st.s 5=DI j) (fun j=>i - j) (fun j=>ok1 (B (decide (l.length≤6)&&(!ZFT ((l.take i).drop j) m&&allF l.length (ZGi l) (i+1))&&ZQ (ZFB l)))) ?_ 0 (by and_intros<;>first|omega|rfl|(simp only[↓xP,xT,rL,rB,rA,rS,h0,h3,ho,h4]<;>first|done|rfl|omega))
  clear h0 h3 h4 ho
  rintro j st ⟨hle2,h0,h3,ho,h4,h5⟩ ih2
  by_cases hj:j<i
  ·obtain ⟨⟨k,⟨lo2,up2⟩⟩,hy⟩:∃ x,l[j]?=some x:=⟨_,List.getElem?_eq_getElem (by omega)⟩
   have hyt:(l.take i)[j]?=some ⟨k,⟨lo2,up2⟩⟩:=by rw [List.getElem?_take,if_pos hj]; exact hy
   have hw2:=w_succ (i:=j) (by omega)
   have hh:ZFT ((l.take i).drop j) m=(decide (k=m)||ZFT ((l.take i).drop (j+1)) m):=by rw [ZX hyt]; rfl
   rw [hh]
   by_cases e:k=m
   ·simp only[↓xP,xT,rL,rB,rA,rS,rdx2,h0,h3,ho,h4,h5,hj,hx,hy,hw2,Yq.u,e]
    try simp
   ·simp only[↓xP,xT,rL,rB,rA,rS,rdx2,h0,h3,ho,h4,h5,hj,hx,hy,hw2,Yq.u,e]
    rw [ih2 (j+1) _ (by omega) (by and_intros<;>first|omega|rfl|(simp only[↓xP,xT,rL,rB,rA,rS,h0,h3,ho,h4,hw2]<;>first|done|rfl|omega))]
    try simp
  have hdr:(l.take i).drop j=[]:=List.drop_of_length_le (by rw [List.length_take]; omega)
  have hnn:ZFT ([]:List Yq) m=false:=rfl
  rw [hdr,hnn]
  obtain ⟨q1,q2⟩:=ZN (n:=i+1) (k:=32) (by omega) (by omega)
  have hst:=ZKp hx
  have hlt:(List.map Yj.u (ZFB (List.take i l))).length=i:=by rw [List.length_map,ZF0,List.length_take]; omega
  have hta:List.take i (List.map Yj.u (ZFB (List.take i l)))=List.map Yj.u (ZFB (List.take i l)):=List.take_of_length_le (by omega)
  simp only[↓xP,xT,rL,rB,rA,rS,rdx2,h0,h3,ho,h4,h5,hj,hx,hw,Yq.u,q1,q2,hlt,hta]
  rw [ih (i+1) _ (by omega) ⟨by omega,by omega,(by and_intros<;>first|omega|rfl|(simp only[↓xP,xT,rL,rB,rA,rS,h0,h3,ho,hw,hst]<;>first|done|rfl|omega))⟩]
  try simp
 ·have hp:=ZIp (ZFB l) (by rw [ZF0]; omega)
  obtain rfl:i=l.length:=by omega
  have hta:List.take l.length (List.map Yj.u (ZFB l))=List.map Yj.u (ZFB l):=List.take_of_length_le (by rw [List.length_map,ZF0]; omega)
  rw [List.take_length] at ho
  simp only[↓xP,xT,rL,rB,rA,rS,h0,h3,ho,h4,hi,hp,ZF0,hta,Nat.le_refl]
  rw [ZFV (by omega)]
  simp [hi6]
theorem ZHI (n:Int):EE F 92 [I n] []=ok1 (B (inR n 0 200)):=by
 rw [R92,b92]
 simp only[↓xP,xT,rL,rB,rA,rS]
 repeat' (refine ZiE (fun h=>?_) (fun h=>?_))
 all_goals first|(simp_all [inR]; done)|(simp_all [inR]; omega)
theorem ZKJ (n:Int):EE F 176 [I n] []=ok1 (B (inR n (-4) 999)):=by
 rw [R176,b176]
 simp only[↓xP,xT,rL,rB,rA,rS]
 repeat' (refine ZiE (fun h=>?_) (fun h=>?_))
 all_goals first|(simp_all [inR]; done)|(simp_all [inR]; omega)
def ZGh (c:Ye):Bool:=decide (c.kind=0)&&decide (c.key=[])&&decide (c.value=0)&&decide (c.old=0)
def ZJ (c:Yb):Bool:=ZFS c.cache&&inR c.seq 0 999&&(if c.busy=true then decide (1≤c.seq)&&ZG5 c.wish&&inR c.called 0 200 else ZGh c.wish&&decide (c.called=0))
theorem ZI8 (l:List Yq) (s:Int) (bz:Bool) (k:Int) (key:Str) (v o cd:Int) (hn:l.length≤1048576):EE F 87 [.ag [.u (.sl 3 (l.map Yq.u)),.u (.int .i64 s),.u (.bool bz),.u (.int .i64 k),.u (.str key),.u (.int .i64 v),.u (.int .i64 o),.u (.int .i64 cd)]] []=ok1 (B (ZJ ⟨l,s,bz,⟨k,key,v,o⟩,cd⟩)):=by
 rw [R87,b87]
 have a:=ZJF l hn
 cases bz<;>simp only[↓xP,xT,rL,rB,rA,rS,a,ZI7,ZHI,ZU]
 all_goals repeat' (refine ZiE (fun h=>?_) (fun h=>?_))
 all_goals first|(simp_all [ZJ,ZGh,inR]; done)|(simp_all [ZJ,ZGh,inR]; grind)|skip
theorem ZI9 (l:List Yq) (s:Int) (bz:Bool) (k:Int) (key:Str) (v o cd:Int) (hn:l.length≤1048576):EE F 96 [.ag [.u (.sl 3 (l.map Yq.u)),.u (.int .i64 s),.u (.bool bz),.u (.int .i64 k),.u (.str key),.u (.int .i64 v),.u (.int .i64 o),.u (.int .i64 cd)]] []=ok1 (B (ZJ ⟨l,s,bz,⟨k,key,v,o⟩,cd⟩)):=by
 rw [R96,b96]
 have a:=ZJG l hn
 cases bz<;>simp only[↓xP,xT,rL,rB,rA,rS,a,ZJ4,ZU,ZU]
 all_goals repeat' (refine ZiE (fun h=>?_) (fun h=>?_))
 all_goals first|(simp_all [ZJ,ZGh,inR]; done)|(simp_all [ZJ,ZGh,inR]; grind)|skip
def ZM (r:Yp):Bool:=inR r.client 1 3&&inR r.seq 1 999&&ZG5 r.wish&&inR r.reply (-4) 999&&inR r.returned 0 200&&decide (0≤r.called)&&decide (r.called≤r.returned)
theorem ZJh (c s k:Int) (key:Str) (v o r cd rt:Int):EE F 88 [.ag [.u (.int .i64 c),.u (.int .i64 s),.u (.int .i64 k),.u (.str key),.u (.int .i64 v),.u (.int .i64 o),.u (.int .i64 r),.u (.int .i64 cd),.u (.int .i64 rt)]] []=ok1 (B (ZM ⟨c,s,⟨k,key,v,o⟩,r,cd,rt⟩)):=by
 rw [R88,b88]
 simp only[↓xP,xT,rL,rB,rA,rS,ZJH,ZHb,ZI7,ZKJ,ZHI]
 repeat' (refine ZiE (fun h=>?_) (fun h=>?_))
 all_goals first|(simp_all [ZM]; done)|(simp_all [ZM]; omega)
theorem ZJi (c s k:Int) (key:Str) (v o r cd rt:Int):EE F 97 [.ag [.u (.int .i64 c),.u (.int .i64 s),.u (.int .i64 k),.u (.str key),.u (.int .i64 v),.u (.int .i64 o),.u (.int .i64 r),.u (.int .i64 cd),.u (.int .i64 rt)]] []=ok1 (B (ZM ⟨c,s,⟨k,key,v,o⟩,r,cd,rt⟩)):=by
 rw [R97,b97]
 simp only[↓xP,xT,rL,rB,rA,rS,ZU,ZJ4]
 repeat' (refine ZiE (fun h=>?_) (fun h=>?_))
 all_goals first|(simp_all [ZM]; done)|(simp_all [ZM,inR]; done)|(simp_all [ZM,inR]; grind)|skip
theorem ZMd (l:List Yq) (s:Int) (bz:Bool) (k:Int) (key:Str) (v o cd:Int):EE F 91 [.ag [.u (.sl 3 (l.map Yq.u)),.u (.int .i64 s),.u (.bool bz),.u (.int .i64 k),.u (.str key),.u (.int .i64 v),.u (.int .i64 o),.u (.int .i64 cd)]] []=ok1 (B (decide (l.length=0)&&decide (s=0)&&!bz&&ZGh ⟨k,key,v,o⟩&&decide (cd=0))):=by
 rw [R91,b91]
 simp only[↓xP,xT,rL,rB,rA,rS]
 repeat' (refine ZiE (fun h=>?_) (fun h=>?_))
 all_goals simp_all [ZGh]
def rle (a b:Yq):Bool:=!ZaZ b.span.low a.span.low
def insL (l:List Yq) (x:Yq):List Yq:=l.takeWhile (fun q=>rle q x)++x::l.dropWhile (fun q=>rle q x)
def ZG8 (l:List Yq):Prop:=l.Pairwise (fun a b=>rle a b=true)
def ZFb (l:List Yq):List Yq:=l.foldl insL []
theorem ZOQ {s t:Str} (h1:ZaZ s t=false) (h2:ZaZ t s=false):s=t:=by
 have:=ZHB s t
 rw [h1,h2] at this
 simpa using this
theorem ZLb {a b c:Yq} (h1:rle a b=true) (h2:rle b c=true):rle a c=true:=by
 simp only[rle,Bool.not_eq_true'] at h1 h2 ⊢
 cases h:ZaZ c.span.low a.span.low
 ·rfl
 ·cases hb:ZaZ b.span.low c.span.low
  ·have e:=ZOQ hb h2
   rw [e] at h1
   rw [h1] at h; cases h
  ·have:=lt_trans hb h
   rw [h1] at this; cases this
theorem ZMP {a b:Yq} (h:rle a b=false):rle b a=true:=by
 simp only[rle,Bool.not_eq_true',Bool.not_eq_false'] at h ⊢
 exact ZJ8 h
theorem ZNd {a b:List Yq} {x:Yq} (ha:∀ q,q∈a→rle q x=true) (hb:∀ q,b.head?=some q→rle q x=false):insL (a++b) x=a++x::b:=by
 have h1:(a++b).takeWhile (fun q=>rle q x)=a:=by
  rw [List.takeWhile_append_of_pos ha]
  cases b with
  | nil=>simp
  | cons q b=>rw [List.takeWhile_cons_of_neg (by rw [hb q rfl]; simp)]; simp
 have h2:(a++b).dropWhile (fun q=>rle q x)=b:=by
  rw [List.dropWhile_append_of_pos ha]
  cases b with
  | nil=>simp
  | cons q b=>rw [List.dropWhile_cons_of_neg (by rw [hb q rfl]; simp)]
 rw [insL,h1,h2]
theorem ZJ1 (l:List Yq) (x:Yq):(insL l x).length=l.length+1:=by
 have:=congrArg List.length (List.takeWhile_append_dropWhile (p:=fun q=>rle q x) (l:=l))
 simp only[List.length_append] at this
 simp only[insL,List.length_append,List.length_cons]
 omega
theorem ZJZ (p:Yq→Bool):∀ (l:List Yq) (q:Yq),(l.dropWhile p).head?=some q→p q=false
 | [],q,h=>by simp at h
 | a :: l,q,h=>by
  by_cases e:p a=true
  ·rw [List.dropWhile_cons_of_pos e] at h; exact ZJZ p l q h
  ·rw [List.dropWhile_cons_of_neg e] at h
   simp at h; subst h; simpa using e
theorem ZL9 {l:List Yq} (h:ZG8 l) (x:Yq):ZG8 (insL l x):=by
 have hs:ZG8 (l.takeWhile (fun q=>rle q x)++l.dropWhile (fun q=>rle q x)):=by rw [List.takeWhile_append_dropWhile]; exact h
 simp only[ZG8,insL] at hs ⊢
 rw [List.pairwise_append] at hs ⊢
 have ht:∀ q,q∈l.takeWhile (fun q=>rle q x)→rle q x=true:=fun q hq=>by simpa using List.all_takeWhile (l:=l) (p:=fun q=>rle q x) |> List.all_eq_true.1 |> fun f=>f q hq
 have hd:∀ q,q∈l.dropWhile (fun q=>rle q x)→rle x q=true:=by
  have hh:=ZJZ (fun q=>rle q x) l
  have hp:=hs.2.1
  revert hh hp
  cases l.dropWhile (fun q=>rle q x) with
  | nil=>intro _ _ q hq; cases hq
  | cons c m=>
   intro hh hp q hq
   have hc:=ZMP (hh c rfl)
   rcases List.mem_cons.1 hq with rfl|hq
   ·exact hc
   ·exact ZLb hc ((List.pairwise_cons.1 hp).1 q hq)
 refine ⟨hs.1,List.pairwise_cons.2 ⟨hd,hs.2.1⟩,?_⟩
 intro a ha b hb
 rcases List.mem_cons.1 hb with rfl|hb
 ·exact ht a ha
 ·exact hs.2.2 a ha b hb
theorem ZIK:∀ (m l:List Yq),ZG8 l→ZG8 (m.foldl insL l)
 | [],l,h=>h
 | a::m,l,h=>ZIK m _ (ZL9 h a)
theorem ZLB (l:List Yq):ZG8 (ZFb l):=ZIK l [] List.Pairwise.nil
theorem ZK1:∀ (m l:List Yq),(m.foldl insL l).length=l.length+m.length
 | [],l=>by simp
 | a::m,l=>by rw [List.foldl_cons,ZK1 m,ZJ1]; simp only[List.length_cons]; omega
theorem ZGj (l:List Yq):(ZFb l).length=l.length:=by rw [ZFb,ZK1]; simp
theorem ZMR {l:List Yq} {i:Nat} {x:Yq} (hx:l[i]?=some x):ZFb (l.take (i+1))=insL (ZFb (l.take i)) x:=by
 rw [ZFb,List.take_add_one,hx]; simp [ZFb]
def midR (p r:List Yq) (x:Yq) (j:Nat):List Yq:=p.take j++x::(p.drop j++r)
theorem ZOa {p r:List Yq} {x:Yq} {j:Nat} (h:j≤p.length):(midR p r x j).length=p.length+r.length+1:=by
 simp only[midR,List.length_append,List.length_cons,List.length_take,List.length_drop]; omega
theorem ZOM {p r:List Yq} {x:Yq} {j:Nat} (h:j≤p.length):(midR p r x j)[j]?=some x:=by
 have hl:(p.take j).length=j:=by rw [List.length_take]; omega
 rw [midR,List.getElem?_append_right (by omega),hl]; simp
theorem ZON {p r:List Yq} {x:Yq} {k:Nat} (h:k+1≤p.length):(midR p r x (k+1))[k]?=p[k]?:=by
 have hl:(p.take (k+1)).length=k+1:=by rw [List.length_take]; omega
 rw [midR,List.getElem?_append_left (by omega),List.getElem?_take,if_pos (by omega)]
theorem ZNF {p r:List Yq} {x y:Yq} {k:Nat} (hy:p[k]?=some y):((midR p r x (k+1)).set (k+1) y).set k x=midR p r x k:=by
 have hk:k<p.length:=(List.getElem?_eq_some_iff.1 hy).1
 have hl:(p.take k).length=k:=by rw [List.length_take]; omega
 have h1:midR p r x (k+1)=p.take k++(y::x::(p.drop (k+1)++r)):=by
  rw [midR,List.take_add_one,hy]; simp
 have h2:midR p r x k=p.take k++(x::y::(p.drop (k+1)++r)):=by
  rw [midR,ZX hy]; simp
 rw [h1,h2,List.set_append_right _ _ (by omega),List.set_append_right _ _ (by omega),hl]
 have e1:k+1 - k=1:=by omega
 have e2:k - k=0:=by omega
 rw [e1,e2]; rfl
theorem ZN9 {p r:List Yq} {x:Yq} {j:Nat} (hs:ZG8 p) (hj:j≤p.length) (hd:∀ q,q∈p.drop j→rle q x=false) (hy:j=0∨∃ y,p[j - 1]?=some y∧rle y x=true):midR p r x j=insL p x++r:=by
 have ha:∀ q,q∈p.take j→rle q x=true:=by
  intro q hq
  rcases hy with rfl|⟨y,hy,hyx⟩
  ·simp at hq
  ·obtain ⟨t,ht,rfl⟩:=List.mem_take_iff_getElem.1 hq
   by_cases e:t=j - 1
   ·subst e
    rw [List.getElem?_eq_getElem (by omega)] at hy
    cases hy; exact hyx
   ·have h1:j - 1<p.length:=by omega
    have:=List.pairwise_iff_getElem.1 hs t (j - 1) (by omega) h1 (by omega)
    rw [List.getElem?_eq_getElem h1] at hy
    cases hy
    exact ZLb this hyx
 have:=ZNd (a:=p.take j) (b:=p.drop j) ha (fun q hq=>hd q (List.mem_of_mem_head? hq))
 rw [List.take_append_drop] at this
 rw [this,midR]; simp
theorem ZOq (a b:Str):(cmpS a b<0)=(ZaZ a b=true):=by
 unfold cmpS
 cases h:ZaZ a b
 ·cases h2:ZaZ b a<;>simp
 ·simp
theorem ZN6 (F:Nat→Option IFn) (fin:St→Option Ret) (is:List Za) (gs:List (GOp×List Nat)) (o:IOp) (t:Nat) (b:Bool) (free:List Nat) (done:List Fx) (st:St):KY F fin is gs o t b free done st true=RR F (KW F fin is gs done) [] [⟨o,some (t,b)⟩] st:=by
 simp only[KY,if_true,RR,Zap,KW,KD]
 cases Zaf (EE F) st ⟨o,some (t,b)⟩ with
 | none=>rfl
 | some s=>simp only[Option.bind_some,KK,Zf0,KW,KD]
theorem ZOf (n:Int) (a b:Str) (m:Int) (c d:Str):EE F 180 [.ag [.u (.int .i64 n),.u (.str a),.u (.str b)],.ag [.u (.int .i64 m),.u (.str c),.u (.str d)]] []=ok1 (I (cmpS a c)):=by
 rw [R180,b180]
 simp only[↓xP,xT,rL,rB,rA,rS,ZKZ]
theorem ZOz (l:List Yq) (n:Nat) (hn:n=l.length) (h8:l.length≤8):EE F 297 [.sc (.own (.par 0) n),I 0,I n,.sc (.u (.fn 180 []))] [.row 3 (l.map Yq.u)]=some ⟨[],[],[.row 3 ((ZFb l).map Yq.u)]⟩:=by
 refine (EE_run (fn:=i297) (by kernel_rfl) rfl).trans ?_
 simp only[i297,b297,ZdN,ZcQ,List.length_cons,List.length_nil]
 have hw0:IntKind.i64.wrap ((0:Int)+1)=((1:Nat):Int):=by decide
 simp only[↓xP,xT,rL,rB,rA,rS,hw0]
 have hF:∀ i,i<n→∃ x,l[i]?=some x:=fun i hi=>⟨_,List.getElem?_eq_getElem (by omega)⟩
 have hst1:ZFb (l.take 1)++l.drop 1=l:=by
  cases l with
  | nil=>rfl
  | cons a l=>rfl
 refine Zjc (fun (i:Nat) st=>i≤n+1∧(1≤i)∧st.s 0=.t (.sc (.own (.par 0) n))∧st.o (.par 0)=some (.row 3 ((ZFb (l.take i)++l.drop i).map Yq.u))∧st.s 1=DI 0∧st.s 2=DI n∧st.s 3=DU (.fn 180 [])∧st.s 8=DI i) (fun i=>n - i) (fun _=>some ⟨[],[],[.row 3 ((ZFb l).map Yq.u)]⟩) ?_ 1 (by and_intros<;>first|omega|rfl|(simp only[↓xP,xT,rL,rB,rA,rS,hst1]<;>first|done|rfl|omega))
 rintro i st ⟨hin,h1,hs0,ho,hs1,hs2,hs3,hs8⟩ ih
 by_cases hi:i<n
 ·have hw:=w_succ (i:=i) (by omega)
  obtain ⟨⟨xn,⟨xlo,xhi⟩⟩,hx⟩:=hF i hi
  have hpl:(ZFb (l.take i)).length=i:=by rw [ZGj,List.length_take]; omega
  have hsp:=ZLB (l.take i)
  have hst:=ZMR hx
  have hmid:ZFb (l.take i)++l.drop i=midR (ZFb (l.take i)) (l.drop (i+1)) ⟨xn,⟨xlo,xhi⟩⟩ i:=by
   have t1:(ZFb (l.take i)).take i=ZFb (l.take i):=List.take_of_length_le (by omega)
   have t2:(ZFb (l.take i)).drop i=[]:=List.drop_of_length_le (by omega)
   rw [ZX hx,midR,t1,t2]; rfl
  rw [hmid] at ho
  clear hmid
  obtain ⟨p,hP⟩:∃ p,p=ZFb (l.take i):=⟨_,rfl⟩
  obtain ⟨r,hRs⟩:∃ r,r=l.drop (i+1):=⟨_,rfl⟩
  rw [←hP] at hpl hsp hst
  rw [←hP,←hRs] at ho
  simp only[↓xP,xT,rL,rB,rA,rS,hs0,ho,hs1,hs2,hs3,hs8,hi]
  refine Zjc (fun (j:Nat) st=>j≤i∧(∀ q,q∈p.drop j→rle q ⟨xn,⟨xlo,xhi⟩⟩=false)∧st.s 0=.t (.sc (.own (.par 0) n))∧st.o (.par 0)=some (.row 3 ((midR p r ⟨xn,⟨xlo,xhi⟩⟩ j).map Yq.u))∧st.s 1=DI 0∧st.s 2=DI n∧st.s 3=DU (.fn 180 [])∧st.s 8=DI i∧st.s 9=DI j) (fun j=>j) (fun _=>some ⟨[],[],[.row 3 ((ZFb l).map Yq.u)]⟩) ?_ i ⟨by omega,(by rw [List.drop_of_length_le (by omega)]; intro q hq; cases hq),(by and_intros<;>first|omega|rfl|(simp only[↓xP,xT,rL,rB,rA,rS,hs0,ho,hs1,hs2,hs3,hs8]<;>first|done|rfl|omega))⟩
  clear hs0 ho hs1 hs2 hs3 hs8
  rintro j st ⟨hji,hdr,hs0,ho,hs1,hs2,hs3,hs8,hs9⟩ ih2
  have hml:=ZOa (p:=p) (r:=r) (x:=⟨xn,⟨xlo,xhi⟩⟩) (j:=j) (by omega)
  have hrl:p.length+r.length+1=n:=by rw [hpl,hRs,List.length_drop]; omega
  have hxm:=ZOM (p:=p) (r:=r) (x:=⟨xn,⟨xlo,xhi⟩⟩) (j:=j) (by omega)
  have hfin:(j=0∨∃ y,p[j - 1]?=some y∧rle y ⟨xn,⟨xlo,xhi⟩⟩=true)→(midR p r ⟨xn,⟨xlo,xhi⟩⟩ j)=ZFb (l.take (i+1))++l.drop (i+1):=by
   intro hy
   rw [hst,←hRs]
   exact ZN9 hsp (by omega) hdr hy
  cases j with
  | zero=>
   have hgt:(((0:Nat):Int) > 0)=False:=by simp
   have hfin2:=hfin (.inl rfl)
   simp only[↓xP,xT,rL,rB,rA,rS,rdx2,ZN6,hs0,ho,hs1,hs2,hs3,hs8,hs9,hgt]
   exact ih (i+1) _ (by omega) (by and_intros<;>first|omega|rfl|(simp only[↓xP,xT,rL,rB,rA,rS,hs0,ho,hs1,hs2,hs3,hs8,hw,hfin2]<;>first|done|rfl|omega))
  | succ k=>
   have hgt:(((k+1:Nat):Int) > 0)=True:=by simp
   have hp:=ZKt (i:=k) (by omega)
   have hkn:k+1<n:=by omega
   have hkn':k<n:=by omega
   obtain ⟨⟨yn,⟨ylo,yhi⟩⟩,hyp⟩:∃ a,p[k]?=some a:=⟨_,List.getElem?_eq_getElem (by omega)⟩
   have hy:(midR p r ⟨xn,⟨xlo,xhi⟩⟩ (k+1))[k]?=some ⟨yn,⟨ylo,yhi⟩⟩:=by rw [ZON (by omega)]; exact hyp
   have hsw:((midR p r ⟨xn,⟨xlo,xhi⟩⟩ (k+1)).map Yq.u).set (k+1) [.int .i64 yn,.str ylo,.str yhi]=((midR p r ⟨xn,⟨xlo,xhi⟩⟩ (k+1)).set (k+1) ⟨yn,⟨ylo,yhi⟩⟩).map Yq.u:=by rw [List.map_set]; rfl
   have hsw2:(((midR p r ⟨xn,⟨xlo,xhi⟩⟩ (k+1)).set (k+1) ⟨yn,⟨ylo,yhi⟩⟩).map Yq.u).set k [.int .i64 xn,.str xlo,.str xhi]=(midR p r ⟨xn,⟨xlo,xhi⟩⟩ k).map Yq.u:=by
    have h3:=congrArg (List.map Yq.u) (ZNF (r:=r) (x:=⟨xn,⟨xlo,xhi⟩⟩) hyp)
    rw [List.map_set] at h3; exact h3
   have hgk:(((midR p r ⟨xn,⟨xlo,xhi⟩⟩ (k+1)).map Yq.u).set (k+1) [.int .i64 yn,.str ylo,.str yhi])[k]?=some [.int .i64 yn,.str ylo,.str yhi]:=by
    rw [List.getElem?_set_ne (by omega),List.getElem?_map,hy]; rfl
   rw [←hsw] at hsw2
   have hlen1:(midR p r ⟨xn,⟨xlo,xhi⟩⟩ (k+1)).length=n:=by omega
   have hlen2:((midR p r ⟨xn,⟨xlo,xhi⟩⟩ (k+1)).set (k+1) ⟨yn,⟨ylo,yhi⟩⟩).length=n:=by rw [List.length_set]; exact hlen1
   simp only[↓xP,xT,rL,rB,rA,rS,rdx2,ZN6,hs0,ho,hs1,hs2,hs3,hs8,hs9,hgt,hp,hxm,hy,Yq.u,ZOf,hkn,hkn',hgk,List.length_map,ZOq]
   refine ZiE (fun h=>?_) (fun h=>?_)
   ·have hlt:ZaZ xlo ylo=true:=by simpa using h
    have hdk:∀ q,q∈p.drop k→rle q ⟨xn,⟨xlo,xhi⟩⟩=false:=by
     intro q hq
     rw [ZX hyp] at hq
     rcases List.mem_cons.1 hq with rfl|hq
     ·simp [rle,hlt]
     ·exact hdr q hq
    exact ih2 k _ (by omega) ⟨by omega,hdk,(by and_intros<;>first|omega|rfl|(simp only[↓xP,xT,rL,rB,rA,rS,hs0,ho,hs1,hs2,hs3,hs8,hp,hsw2]<;>first|done|rfl|omega))⟩
   ·have hlt:ZaZ xlo ylo=false:=by simpa using h
    have hfin2:=hfin (.inr ⟨_,hyp,by simp [rle,hlt]⟩)
    exact ih (i+1) _ (by omega) (by and_intros<;>first|omega|rfl|(simp only[↓xP,xT,rL,rB,rA,rS,hs0,ho,hs1,hs2,hs3,hs8,hw,hfin2]<;>first|done|rfl|omega))
 ·have e1:l.take i=l:=List.take_of_length_le (by omega)
  have e2:l.drop i=[]:=List.drop_of_length_le (by omega)
  rw [e1,e2,List.append_nil] at ho
  simp only[↓xP,xT,rL,rB,rA,rS,hs0,ho,hs1,hs2,hs3,hs8,hi]
def ZFa:List Ys→Nat→List Yq
 | [],_=>[]
 | s::l,i=>if s.live=true then ⟨(i:Int),s.group.base.span⟩::ZFa l (i+1) else ZFa l (i+1)
theorem ZK4:∀ (a b:List Ys) (i:Nat),ZFa (a++b) i=ZFa a i++ZFa b (i+a.length)
 | [],b,i=>by simp [ZFa]
 | s::a,b,i=>by
  have h:=ZK4 a b (i+1)
  have e:i+1+a.length=i + (s::a).length:=by simp only[List.length_cons]; omega
  rw [e] at h
  simp only[List.cons_append,ZFa,h]
  split<;>rfl
theorem ZGD:∀ (a:List Ys) (i:Nat),(ZFa a i).length≤a.length
 | [],i=>by simp [ZFa]
 | s::a,i=>by
  have h:=ZGD a (i+1)
  simp only[ZFa]; split<;>simp only[List.length_cons]<;>omega
theorem ZJ5 {l:List Ys} {i:Nat} {s:Ys} (h:l[i]?=some s):ZFa (l.take (i+1)) 0=ZFa (l.take i) 0++(if s.live=true then [⟨(i:Int),s.group.base.span⟩] else []):=by
 have hi:=(List.getElem?_eq_some_iff.1 h).1
 have hl:(l.take i).length=i:=by rw [List.length_take]; omega
 rw [List.take_add_one,h,Option.toList_some,ZK4,hl]
 simp [ZFa]
def ZH (l:List Ys):List Yq:=ZFb (ZFa l 0)
theorem ZNI (l:List Yq) (n:Nat) (hn:n=l.length) (h8:l.length≤8):EE F 246 [.sc (.own (.par 0) n),I n,.sc (.u (.fn 180 []))] [.row 3 (l.map Yq.u)]=some ⟨[],[],[.row 3 ((ZFb l).map Yq.u)]⟩:=by
 refine (EE_run (fn:=i246) (by kernel_rfl) rfl).trans ?_
 simp only[i246,b246,ZdN,ZcQ,List.length_cons,List.length_nil]
 have hs:=ZOz l n hn h8
 have h20:((20:Int)≤(n:Int))=False:=by simp; omega
 have h20':((20:Int)<(n:Int))=False:=by simp; omega
 simp only[↓xP,xT,rL,rB,rA,rS]
 refine Zjc (fun (_:Unit) st=>st.s 0=.t (.sc (.own (.par 0) n))∧st.o (.par 0)=some (.row 3 (l.map Yq.u))∧st.s 1=DI n∧st.s 2=DU (.fn 180 [])∧st.s 6=DI 20∧st.s 7=DI 0∧st.s 8=DI 20) (fun _=>0) (fun _=>some ⟨[],[],[.row 3 ((ZFb l).map Yq.u)]⟩) ?_ () (by and_intros<;>first|omega|rfl|(simp only[↓xP,xT,rL,rB,rA,rS]<;>first|done|rfl|omega))
 rintro _ st ⟨h0,ho,h1,h2,h6,h7,h8'⟩ _
 simp only[↓xP,xT,rL,rB,rA,rS,h0,ho,h1,h2,h6,h7,h8',h20,hs,ZGj,Nat.le_refl,List.length_map]
 refine Zjc (fun (_:Unit) st=>st.o (.par 0)=some (.row 3 ((ZFb l).map Yq.u))∧st.s 1=DI n∧st.s 6=DI 20) (fun _=>0) (fun _=>some ⟨[],[],[.row 3 ((ZFb l).map Yq.u)]⟩) ?_ () (by and_intros<;>first|omega|rfl|(simp only[↓xP,xT,rL,rB,rA,rS,h1,h6]<;>first|done|rfl|omega))
 rintro _ st ⟨ho,h1,h6⟩ _
 simp only[↓xP,xT,rL,rB,rA,rS,ho,h1,h6,h20']
theorem ZKM (l:List Yq) (n:Nat) (hn:n=l.length) (h8:l.length≤8):EE F 179 [.sc (.own (.par 0) n),.sc (.u (.fn 180 []))] [.row 3 (l.map Yq.u)]=some ⟨[],[],[.row 3 ((ZFb l).map Yq.u)]⟩:=by
 refine (EE_run (fn:=i179) (by kernel_rfl) rfl).trans ?_
 simp only[i179,b179,ZdN,ZcQ,List.length_cons,List.length_nil]
 have hs:=ZNI l n hn h8
 simp only[↓xP,xT,rL,rB,rA,rS,hs,ZGj,Nat.le_refl,List.length_map]
def ZFv (l:List Ys):Option Ret:=some ⟨[.sc (.own (.par 0) (ZH l).length)],[.row 3 ((ZH l).map Yq.u)],[]⟩
theorem ZIq (c0:List Ys) (c1:List Yb) (c2:List Yp) (c3 c4 c5:Int) (c6:Str) (c7 c8 c9 c10 c11:Int) (h8:c0.length≤8):EE F 90 [.ag [.u (.sl 14 (c0.map Ys.u)),.u (.sl 8 (c1.map Yb.u)),.u (.sl 9 (c2.map Yp.u)),.u (.int .i64 c3),.u (.int .i64 c4),.u (.int .i64 c5),.u (.str c6),.u (.int .i64 c7),.u (.int .i64 c8),.u (.int .i64 c9),.u (.int .i64 c10),.u (.int .i64 c11)]] []=ZFv c0:=by
 rw [R90,b90]
 simp only[↓xP,xT,rL,rB,rA,rS]
 refine Zjc (fun (i:Nat) st=>i≤c0.length∧st.s 3=.t (.sc (.own (.loc 3 0) (ZFa (c0.take i) 0).length))∧st.o (.loc 3 0)=some (.row 3 ((ZFa (c0.take i) 0).map Yq.u))∧st.s 7=DU (.sl 14 (c0.map Ys.u))∧st.s 8=DI c0.length∧st.s 9=DI i) (fun i=>c0.length - i) (fun _=>ZFv c0) ?_ 0 (by and_intros<;>first|omega|rfl|(simp only[↓xP,xT,rL,rB,rA,rS]<;>first|done|rfl|omega))
 rintro i st ⟨hle,h3,ho,h7,h8',h9⟩ ih
 by_cases hi:i<c0.length
 ·obtain ⟨⟨live,⟨⟨⟨lo,up⟩,prs,kn,sld,cut⟩,⟨ep,ms,fr⟩,nds,ups,bag,ans⟩⟩,hx⟩:∃ x,c0[i]?=some x:=⟨_,List.getElem?_eq_getElem hi⟩
  have hw:=w_succ (i:=i) (by omega)
  have hst:=ZJ5 hx
  have hll:=ZGD (c0.take i) 0
  have hlt:(c0.take i).length=i:=by rw [List.length_take]; omega
  obtain ⟨q1,q2⟩:=ZN (n:=(ZFa (c0.take i) 0).length+1) (k:=40) (by omega) (by omega)
  cases live
  ·simp only[Bool.false_eq_true,if_false,List.append_nil] at hst
   simp only[↓xP,xT,rL,rB,rA,rS,h3,ho,h7,h8',h9,hi,hx,hw,Ys.u]
   rw [ih (i+1) _ (by omega) (by and_intros<;>first|omega|rfl|(simp only[↓xP,xT,rL,rB,rA,rS,h3,ho,h7,h8',hst]<;>first|done|rfl|omega))]
  ·simp only[if_true] at hst
   simp only[↓xP,xT,rL,rB,rA,rS,h3,ho,h7,h8',h9,hi,hx,hw,Ys.u,List.length_map,q1,q2]
   have hm:(ZFa (c0.take i) 0).map Yq.u++[[.int .i64 (i:Int),.str lo,.str up]]=(ZFa (c0.take (i+1)) 0).map Yq.u:=by rw [hst]; simp [Yq.u]
   have hln:(ZFa (c0.take i) 0).length+1=(ZFa (c0.take (i+1)) 0).length:=by rw [hst]; simp
   rw [ih (i+1) _ (by omega) (by and_intros<;>first|omega|rfl|(simp only[↓xP,xT,rL,rB,rA,rS,h3,ho,h7,h8',hm,hln]<;>first|done|rfl|omega))]
 ·obtain rfl:i=c0.length:=by omega
  rw [List.take_length] at h3 ho
  have hll:=ZGD c0 0
  have hs:=ZKM (ZFa c0 0) _ rfl (by omega)
  have hsl:=ZGj (ZFa c0 0)
  simp only[↓xP,xT,rL,rB,rA,rS,h3,ho,h7,h8',h9,hi,hs,List.length_map,hsl,Nat.le_refl,ZFv,ZH]
theorem ZMQ (l:List Yq) (x:Yq):ZFb (l++[x])=insL (ZFb l) x:=by simp [ZFb]
def swid:Bool→Id
 | false=>.loc 8 0
 | true=>.loc 33 0
theorem ZOj {l:List Yq} {j:Nat} {x:Yq} (hj:j≤l.length) (ha:∀ q,q∈l.take j→rle q x=true) (hb:∀ q,l[j]?=some q→rle q x=false):l.take j++x::l.drop j=insL l x:=by
 have:=ZNd (a:=l.take j) (b:=l.drop j) (x:=x) ha (fun q hq=>hb q (by rw [List.head?_drop] at hq; exact hq))
 rw [List.take_append_drop] at this
 exact this.symm
theorem ZIQ (c0:List Ys) (c1:List Yb) (c2:List Yp) (c3 c4 c5:Int) (c6:Str) (c7 c8 c9 c10 c11:Int) (h8:c0.length≤8):EE F 99 [.ag [.u (.sl 14 (c0.map Ys.u)),.u (.sl 8 (c1.map Yb.u)),.u (.sl 9 (c2.map Yp.u)),.u (.int .i64 c3),.u (.int .i64 c4),.u (.int .i64 c5),.u (.str c6),.u (.int .i64 c7),.u (.int .i64 c8),.u (.int .i64 c9),.u (.int .i64 c10),.u (.int .i64 c11)]] []=ZFv c0:=by
 rw [R99,b99]
 simp only[↓xP,xT,rL,rB,rA,rS]
 refine Zjc (fun (a:Nat×Bool) st=>a.1≤c0.length∧(a.2=false→ZFb (ZFa (c0.take a.1) 0)=[])∧st.s 1=.t (.sc (.ptr (.loc 1 0) 0 0))∧st.o (.loc 1 0)=some (.box [.u (.sl 14 (c0.map Ys.u)),.u (.sl 8 (c1.map Yb.u)),.u (.sl 9 (c2.map Yp.u)),.u (.int .i64 c3),.u (.int .i64 c4),.u (.int .i64 c5),.u (.str c6),.u (.int .i64 c7),.u (.int .i64 c8),.u (.int .i64 c9),.u (.int .i64 c10),.u (.int .i64 c11)])∧st.s 3=.t (.sc (.own (swid a.2) (ZFb (ZFa (c0.take a.1) 0)).length))∧st.o (swid a.2)=some (.row 3 ((ZFb (ZFa (c0.take a.1) 0)).map Yq.u))∧st.s 4=DI a.1) (fun a=>c0.length - a.1) (fun _=>ZFv c0) ?_ (0,false) ⟨by omega,fun _=>rfl,(by and_intros<;>first|omega|rfl|(simp only[↓xP,xT,rL,rB,rA,rS]<;>first|done|rfl|omega))⟩
 rintro ⟨i,b⟩ st ⟨hle,hb,h1,hbx,h3,ho,h4⟩ ih
 dsimp only at *
 by_cases hi:i<c0.length
 ·obtain ⟨⟨live,⟨⟨⟨lo,up⟩,prs,kn,sld,cut⟩,⟨ep,ms,fr⟩,nds,ups,bag,ans⟩⟩,hx⟩:∃ x,c0[i]?=some x:=⟨_,List.getElem?_eq_getElem hi⟩
  have hw:=w_succ (i:=i) (by omega)
  have hst:=ZJ5 hx
  have hll:=ZGD (c0.take i) 0
  have hlt:(c0.take i).length=i:=by rw [List.length_take]; omega
  have hsl:=ZGj (ZFa (c0.take i) 0)
  cases live
  ·simp only[Bool.false_eq_true,if_false,List.append_nil] at hst
   rw [←hst] at hb h3 ho
   cases b<;>simp only[swid] at h3 ho<;>simp only[↓xP,xT,rL,rB,rA,rS,h1,hbx,h3,ho,h4,hi,hx,hw,Ys.u]
   ·exact ih (i+1,false) _ (by dsimp only; omega) ⟨by dsimp only; omega,hb,(by and_intros<;>first|omega|rfl|(simp only[↓xP,xT,rL,rB,rA,rS,h1,hbx,h3,ho,swid]<;>first|done|rfl|omega))⟩
   ·exact ih (i+1,true) _ (by dsimp only; omega) ⟨by dsimp only; omega,hb,(by and_intros<;>first|omega|rfl|(simp only[↓xP,xT,rL,rB,rA,rS,h1,hbx,h3,ho,swid]<;>first|done|rfl|omega))⟩
  ·simp only[if_true] at hst
   have hso:ZFb (ZFa (c0.take (i+1)) 0)=insL (ZFb (ZFa (c0.take i) 0)) ⟨(i:Int),⟨lo,up⟩⟩:=by rw [hst,ZMQ]
   obtain ⟨o,hoo⟩:∃ o,o=ZFb (ZFa (c0.take i) 0):=⟨_,rfl⟩
   rw [←hoo] at hb h3 ho hso hsl
   obtain ⟨q1,q2⟩:=ZN (n:=o.length+1) (k:=40) (by omega) (by omega)
   cases b
   ·have ho0:o=[]:=hb rfl
    subst ho0
    simp only[swid,List.length_nil,List.map_nil] at h3 ho
    simp only[↓xP,xT,rL,rB,rA,rS,h1,hbx,h3,ho,h4,hi,hx,hw,Ys.u]
    refine Zjc (fun (_:Unit) st=>st.s 1=.t (.sc (.ptr (.loc 1 0) 0 0))∧st.o (.loc 1 0)=some (.box [.u (.sl 14 (c0.map Ys.u)),.u (.sl 8 (c1.map Yb.u)),.u (.sl 9 (c2.map Yp.u)),.u (.int .i64 c3),.u (.int .i64 c4),.u (.int .i64 c5),.u (.str c6),.u (.int .i64 c7),.u (.int .i64 c8),.u (.int .i64 c9),.u (.int .i64 c10),.u (.int .i64 c11)])∧st.s 4=DI i∧st.s 5=.t (.sc (.ptr (.loc 5 0) 0 0))∧st.o (.loc 5 0)=some (.box [.u (.int .i64 (i:Int)),.u (.str lo),.u (.str up)])∧st.s 6=.t (.sc (.own (.loc 33 0) 0))∧st.o (.loc 33 0)=some (.row 3 [])∧st.s 7=DI 0∧st.s 3=.t (.sc (.own (.loc 8 0) 0))∧st.o (.loc 8 0)=some (.row 3 [])) (fun _=>0) (fun _=>ZFv c0) ?_ () (by and_intros<;>first|omega|rfl|(simp only[↓xP,xT,rL,rB,rA,rS,h1,hbx,h3,ho,h4]<;>first|done|rfl|omega))
    clear h1 hbx h3 ho h4
    rintro _ st ⟨h1,hbx,h4,h5,hb5,h6,hb6,h7,h3,ho⟩ _
    have hc1:vcut 0 none (some (DI 0))=some (0,0):=by decide
    have hc2:vcut 0 (some (DI 0)) none=some (0,0):=by decide
    have z1:0≤maxLen:=Nat.zero_le _
    have z2:0*40≤140737488355328:=by omega
    have z3:1≤maxLen:=by simp [maxLen]
    have z4:1*40≤140737488355328:=by omega
    have hz:((0:Int)<((0:Nat):Int))=False:=by simp
    simp only[↓xP,xT,rL,rB,rA,rS,rdx2,h1,hbx,h4,h5,hb5,h6,hb6,h7,h3,ho,hz,hc1,hc2,z1,z2,z3,z4,List.length_nil,List.length_cons,Nat.zero_add,Nat.add_zero,List.nil_append,List.append_nil]
    have hrow : [[U.int .i64 (i:Int),.str lo,.str up]]=(ZFb (ZFa (c0.take (i+1)) 0)).map Yq.u:=by rw [hso]; rfl
    have hlen2:1=(ZFb (ZFa (c0.take (i+1)) 0)).length:=by rw [hso]; rfl
    exact ih (i+1,true) _ (by dsimp only; omega) ⟨by dsimp only; omega,(fun h=>by cases h),(by and_intros<;>first|omega|rfl|(simp only[↓xP,xT,rL,rB,rA,rS,h1,hbx,hw,swid,hrow,←hlen2]<;>first|done|rfl|omega))⟩
   ·simp only[swid] at h3 ho
    simp only[↓xP,xT,rL,rB,rA,rS,h1,hbx,h3,ho,h4,hi,hx,hw,Ys.u]
    refine Zjc (fun (j:Nat) st=>j≤o.length∧(∀ q,q∈o.take j→rle q ⟨(i:Int),⟨lo,up⟩⟩=true)∧st.s 1=.t (.sc (.ptr (.loc 1 0) 0 0))∧st.o (.loc 1 0)=some (.box [.u (.sl 14 (c0.map Ys.u)),.u (.sl 8 (c1.map Yb.u)),.u (.sl 9 (c2.map Yp.u)),.u (.int .i64 c3),.u (.int .i64 c4),.u (.int .i64 c5),.u (.str c6),.u (.int .i64 c7),.u (.int .i64 c8),.u (.int .i64 c9),.u (.int .i64 c10),.u (.int .i64 c11)])∧st.s 4=DI i∧st.s 5=.t (.sc (.ptr (.loc 5 0) 0 0))∧st.o (.loc 5 0)=some (.box [.u (.int .i64 (i:Int)),.u (.str lo),.u (.str up)])∧st.s 6=.t (.sc (.own (.loc 33 0) 0))∧st.o (.loc 33 0)=some (.row 3 [])∧st.s 7=DI j∧st.s 3=DU (.sl 3 (o.map Yq.u))) (fun j=>o.length - j) (fun _=>ZFv c0) ?_ 0 ⟨by omega,(by intro q hq; simp at hq),(by and_intros<;>first|omega|rfl|(simp only[↓xP,xT,rL,rB,rA,rS,h1,hbx,h3,ho,h4]<;>first|done|rfl|omega))⟩
    clear h1 hbx h3 ho h4
    rintro j st ⟨hj,hta,h1,hbx,h4,h5,hb5,h6,hb6,h7,h3⟩ ih2
    have hdone:(∀ q,o[j]?=some q→rle q ⟨(i:Int),⟨lo,up⟩⟩=false)→o.take j++⟨(i:Int),⟨lo,up⟩⟩::o.drop j=insL o ⟨(i:Int),⟨lo,up⟩⟩:=fun h=>ZOj hj hta h
    have hc1:vcut o.length none (some (DI (j:Int)))=some (0,j):=ZIy (by omega)
    have hc2:vcut o.length (some (DI (j:Int))) none=some (j,o.length):=ZHR (by omega)
    obtain ⟨m1,m2⟩:=ZN (n:=j) (k:=40) (by omega) (by omega)
    obtain ⟨m3,m4⟩:=ZN (n:=j+1) (k:=40) (by omega) (by omega)
    obtain ⟨m5,m6⟩:=ZN (n:=j+1 + (o.length - j)) (k:=40) (by omega) (by omega)
    have ht1:(List.take j (o.map Yq.u)).length=j:=by rw [List.length_take,List.length_map]; omega
    have ht2:(List.drop j (o.map Yq.u)).length=o.length - j:=by rw [List.length_drop,List.length_map]
    by_cases hjo:j<o.length
    ·obtain ⟨⟨qn,⟨qlo,qup⟩⟩,hq⟩:∃ x,o[j]?=some x:=⟨_,List.getElem?_eq_getElem hjo⟩
     have hw2:=w_succ (i:=j) (by omega)
     cases hr:ZaZ lo qlo
     ·simp only[↓xP,xT,rL,rB,rA,rS,rdx2,h1,hbx,h4,h5,hb5,h6,hb6,h7,h3,hjo,hq,hw2,Yq.u,ZHB,hr]
      have hta':∀ q,q∈o.take (j+1)→rle q ⟨(i:Int),⟨lo,up⟩⟩=true:=by
       intro q hq2
       rw [List.take_add_one,hq] at hq2
       rcases List.mem_append.1 hq2 with hq2|hq2
       ·exact hta q hq2
       ·simp at hq2; subst hq2; simp [rle,hr]
      exact ih2 (j+1) _ (by omega) ⟨by omega,hta',(by and_intros<;>first|omega|rfl|(simp only[↓xP,xT,rL,rB,rA,rS,h1,hbx,h4,h5,hb5,h6,hb6,h3,hw2]<;>first|done|rfl|omega))⟩
     ·simp only[↓xP,xT,rL,rB,rA,rS,rdx2,h1,hbx,h4,h5,hb5,h6,hb6,h7,h3,hjo,hq,hw2,Yq.u,ZHB,hr,hc1,hc2,List.length_map,m1,m2,m3,m4,m5,m6,ht1,ht2,Nat.zero_add,List.nil_append,List.length_append,List.length_cons,List.length_nil,List.drop_zero]
      have hrow:List.take j (o.map Yq.u)++[[U.int .i64 (i:Int),.str lo,.str up]]++List.drop j (o.map Yq.u)=(ZFb (ZFa (c0.take (i+1)) 0)).map Yq.u:=by
       rw [hso,←hdone (fun q hq2=>by rw [hq] at hq2; cases hq2; simp [rle,hr])]; simp [Yq.u]
      have hlen2:j+1 + (o.length - j)=(ZFb (ZFa (c0.take (i+1)) 0)).length:=by rw [hso,ZJ1]; omega
      exact ih (i+1,true) _ (by dsimp only; omega) ⟨by dsimp only; omega,(fun h=>by cases h),(by and_intros<;>first|omega|rfl|(simp only[↓xP,xT,rL,rB,rA,rS,h1,hbx,hw,swid,hrow,hlen2]<;>first|done|rfl|omega))⟩
    ·simp only[↓xP,xT,rL,rB,rA,rS,rdx2,h1,hbx,h4,h5,hb5,h6,hb6,h7,h3,hjo,hc1,hc2,List.length_map,m1,m2,m3,m4,m5,m6,ht1,ht2,Nat.zero_add,List.nil_append,List.length_append,List.length_cons,List.length_nil,List.drop_zero]
     have hrow:List.take j (o.map Yq.u)++[[U.int .i64 (i:Int),.str lo,.str up]]++List.drop j (o.map Yq.u)=(ZFb (ZFa (c0.take (i+1)) 0)).map Yq.u:=by
      rw [hso,←hdone (fun q hq2=>by rw [List.getElem?_eq_none (by omega)] at hq2; cases hq2)]; simp [Yq.u]
     have hlen2:j+1 + (o.length - j)=(ZFb (ZFa (c0.take (i+1)) 0)).length:=by rw [hso,ZJ1]; omega
     exact ih (i+1,true) _ (by dsimp only; omega) ⟨by dsimp only; omega,(fun h=>by cases h),(by and_intros<;>first|omega|rfl|(simp only[↓xP,xT,rL,rB,rA,rS,h1,hbx,hw,swid,hrow,hlen2]<;>first|done|rfl|omega))⟩
 ·obtain rfl:i=c0.length:=by omega
  rw [List.take_length] at h3 ho
  cases b<;>simp only[swid] at h3 ho<;>simp only[↓xP,xT,rL,rB,rA,rS,h1,hbx,h3,ho,h4,hi,ZFv,ZH,List.length_map]
def ZJg (p:Yn):Bool:=decide (p.kind=0)&&decide (p.first=0)&&decide (p.second=0)&&decide (p.key=[])&&decide (p.from_=0)&&decide (p.to_=0)&&decide (p.step=0)
def ZIh (p:Yn) (n:Nat):Bool:=ZJg p||(ZFH p&&decide (p.first<n)&&decide (p.second<n))
theorem ZMH (k f s:Int) (key:Str) (a b c:Int) (n:Nat):EE F 94 [.ag [.u (.int .i64 k),.u (.int .i64 f),.u (.int .i64 s),.u (.str key),.u (.int .i64 a),.u (.int .i64 b),.u (.int .i64 c)],I n] []=ok1 (B (ZIh ⟨k,f,s,key,a,b,c⟩ n)):=by
 rw [R94,b94]
 simp only[↓xP,xT,rL,rB,rA,rS,ZKk]
 repeat' (refine ZiE (fun h=>?_) (fun h=>?_))
 all_goals first|(simp_all [ZIh,ZJg]; done)|(simp_all [ZIh,ZJg]; grind)|skip
theorem ZNz (l m:List Bool) (hn:l.length≤1048576):EE F 86 [L 1 (l.map bU),L 1 (m.map bU)] []=ok1 (B (decide (l=m))):=by
 rw [R86,b86]
 by_cases hl:l.length=m.length
 ·have hl':((l.length:Int)=(m.length:Int))=True:=by simp; omega
  simp only[↓xP,xT,rL,rB,rA,rS,List.length_map,ne_eq,hl',not_true_eq_false]
  refine (Zjc (fun (i:Nat) st=>st.s 0=DU (.sl 1 (l.map bU))∧st.s 1=DU (.sl 1 (m.map bU))∧st.s 11=DU (.sl 1 (l.map bU))∧st.s 12=DI l.length∧st.s 13=DI i) (fun i=>l.length - i) (fun i=>ok1 (B (decide (l.drop i=m.drop i)))) ?_ 0 (by and_intros<;>first|omega|rfl|(simp only[↓xP,xT,rL,rB,rA,rS]<;>first|done|rfl|omega))).trans (by simp)
  rintro i st ⟨h0,h1,h11,h12,h13⟩ ih
  by_cases hi:i<l.length
  ·obtain ⟨x,hx⟩:∃ x,l[i]?=some x:=⟨_,List.getElem?_eq_getElem hi⟩
   obtain ⟨y,hy⟩:∃ x,m[i]?=some x:=⟨_,List.getElem?_eq_getElem (by omega)⟩
   have hi2:i<m.length:=by omega
   have hw:=w_succ (i:=i) (by omega)
   rw [ZX hx,ZX hy]
   by_cases e:x=y
   ·subst e
    simp only[↓xP,xT,rL,rB,rA,rS,rdx2,h0,h1,h11,h12,h13,hi,hi2,hx,hy,hw,bU]
    rw [ih (i+1) _ (by omega) (by and_intros<;>first|omega|rfl|(simp only[↓xP,xT,rL,rB,rA,rS,h0,h1,h11,h12]<;>first|done|rfl|omega))]
    simp
   ·have hb:(x==y)=false:=by simpa using e
    simp only[↓xP,xT,rL,rB,rA,rS,rdx2,h0,h1,h11,h12,h13,hi,hi2,hx,hy,hw,bU,hb]
    simp [e]
  ·simp only[↓xP,xT,rL,rB,rA,rS,h0,h1,h11,h12,h13,hi]
   rw [List.drop_of_length_le (by omega),List.drop_of_length_le (by omega)]; rfl
 ·have hl':((l.length:Int)=(m.length:Int))=False:=by simp; omega
  have:¬l=m:=fun e=>hl (by rw [e])
  simp only[↓xP,xT,rL,rB,rA,rS,List.length_map,ne_eq,hl',not_false_eq_true]
  simp [this]
def ZFI (c:Yb):Bool:=decide (c.cache.length=0)&&decide (c.seq=0)
def upOf (l:List Ys):List Bool:=match l with
 | []=>[]
 | s::_=>s.group.up
def ZFX (l:List Yb):Bool:=match l with
 | []=>false
 | c::_=>ZFI c
def ZGO (u:List Bool) (s:Ys):Bool:=ZE s.group&&decide (s.group.up=u)
def ZFK (x:Yd):Bool:=decide (1≤x.shards.length)&&decide (x.shards.length≤8)&&decide (x.clients.length=4)&&decide (x.results.length≤40)
def ZHh (x:Yd):Bool:=Z6 (ZH x.shards)&&ZFX x.clients&&inR x.turn 0 999&&inR x.clock 0 200
def ZC (x:Yd):Bool:=ZFK x&&x.shards.all (ZGO (upOf x.shards))&&x.clients.all ZJ&&x.results.all ZM&&ZIh x.work x.shards.length&&ZHh x
theorem ZKF {c:Yb} (h:ZJ c=true):(decide (c.cache.length=0)&&decide (c.seq=0)&&!c.busy&&ZGh c.wish&&decide (c.called=0))=ZFI c:=by
 obtain ⟨l,s,bz,w,cd⟩:=c
 simp only[ZJ,Bool.and_eq_true] at h
 obtain ⟨_,h⟩:=h
 cases bz
 ·simp only[Bool.false_eq_true,if_false,Bool.and_eq_true] at h
  simp [ZFI,h.1,h.2]
 ·simp only[if_true,Bool.and_eq_true,decide_eq_true_eq] at h
  have:¬s=0:=by have:=h.1.1; omega
  simp [ZFI,this]
theorem ZNv (np pv a b rv ff t0 t9 ck:Bool):sel (!np) (sel pv (sel a (sel (!b) (ok1 (B false)) (sel rv (sel ff (sel t0 (sel t9 (ok1 (B ck)) (ok1 (B false))) (ok1 (B false))) (ok1 (B false))) (ok1 (B false)))) (ok1 (B false))) (ok1 (B false))) (sel rv (sel ff (sel t0 (sel t9 (ok1 (B ck)) (ok1 (B false))) (ok1 (B false))) (ok1 (B false))) (ok1 (B false)))=ok1 (B ((np||(pv&&a&&b))&&(rv&&ff&&(t0&&t9)&&ck))):=by
 cases np<;>cases pv<;>cases a<;>cases b<;>cases rv<;>cases ff<;>cases t0<;>cases t9<;>cases ck<;>rfl
theorem ZIG (c0:List Ys) (c1:List Yb) (c2:List Yp) (c3 c4 c5:Int) (c6:Str) (c7 c8 c9 c10 c11:Int) (hs:Yd.Small ⟨c0,c1,c2,⟨c3,c4,c5,c6,c7,c8,c9⟩,c10,c11⟩):EE F 25 [.ag [.u (.sl 14 (c0.map Ys.u)),.u (.sl 8 (c1.map Yb.u)),.u (.sl 9 (c2.map Yp.u)),.u (.int .i64 c3),.u (.int .i64 c4),.u (.int .i64 c5),.u (.str c6),.u (.int .i64 c7),.u (.int .i64 c8),.u (.int .i64 c9),.u (.int .i64 c10),.u (.int .i64 c11)]] []=ok1 (B (ZC ⟨c0,c1,c2,⟨c3,c4,c5,c6,c7,c8,c9⟩,c10,c11⟩)):=by
 obtain ⟨hsh,hcl,hrs,hwk,_⟩:=hs
 have hn0:c0.length≤1048576:=hsh.1
 have hn1:c1.length≤1048576:=hcl.1
 have hn2:c2.length≤1048576:=hrs.1
 rw [R25,b25]
 simp only[↓xP,xT,rL,rB,rA,rS,List.length_map,ne_eq]
 refine ZiE (fun h=>?_) (fun g1=>?_)
 ·have:¬1≤c0.length:=by simp at h; omega
  simp [ZC,ZFK,this]
 refine ZiE (fun h=>?_) (fun g2=>?_)
 ·have:¬c0.length≤8:=by simp at h; omega
  simp [ZC,ZFK,this]
 refine ZiE (fun h=>?_) (fun g3=>?_)
 ·have:¬c1.length=4:=by simp at h; omega
  simp [ZC,ZFK,this]
 refine ZiE (fun h=>?_) (fun g4=>?_)
 ·have:¬c2.length≤40:=by simp at h; omega
  simp [ZC,ZFK,this]
 have g1':1≤c0.length:=by simp at g1; omega
 have g2':c0.length≤8:=by simp at g2; omega
 have g3':c1.length=4:=by simp at g3; omega
 have g4':c2.length≤40:=by simp at g4; omega
 have hsz:ZFK ⟨c0,c1,c2,⟨c3,c4,c5,c6,c7,c8,c9⟩,c10,c11⟩=true:=by simp [ZFK,g1',g2',g3',g4']
 obtain ⟨fs,hf0⟩:∃ x,c0[0]?=some x:=⟨_,List.getElem?_eq_getElem (by omega)⟩
 have hup:upOf c0=fs.group.up:=by
  cases c0 with
  | nil=>simp at hf0
  | cons a l=>simp at hf0; subst hf0; rfl
 obtain ⟨flive,⟨⟨⟨flo,fup⟩,fprs,fkn,fsld,fcut⟩,⟨fep,fms,ffr⟩,fnds,fups,fbag,fans⟩⟩:=fs
 simp only at hup
 have hcv:ZC ⟨c0,c1,c2,⟨c3,c4,c5,c6,c7,c8,c9⟩,c10,c11⟩=((c0.drop 0).all (ZGO fups)&&(c1.all ZJ&&(c2.all ZM&&(ZIh ⟨c3,c4,c5,c6,c7,c8,c9⟩ c0.length&&ZHh ⟨c0,c1,c2,⟨c3,c4,c5,c6,c7,c8,c9⟩,c10,c11⟩)))):=by
  simp only[ZC,hsz,hup,Bool.true_and,Bool.and_assoc,List.drop_zero]
 rw [hcv]
 refine Zjc (fun (i:Nat) st=>st.s 1=.t (.sc (.ptr (.loc 1 0) 0 0))∧st.o (.loc 1 0)=some (.box [.u (.sl 14 (c0.map Ys.u)),.u (.sl 8 (c1.map Yb.u)),.u (.sl 9 (c2.map Yp.u)),.u (.int .i64 c3),.u (.int .i64 c4),.u (.int .i64 c5),.u (.str c6),.u (.int .i64 c7),.u (.int .i64 c8),.u (.int .i64 c9),.u (.int .i64 c10),.u (.int .i64 c11)])∧st.s 32=DU (.sl 14 (c0.map Ys.u))∧st.s 33=DI c0.length∧st.s 34=DI i) (fun i=>c0.length - i) (fun i=>ok1 (B ((c0.drop i).all (ZGO fups)&&(c1.all ZJ&&(c2.all ZM&&(ZIh ⟨c3,c4,c5,c6,c7,c8,c9⟩ c0.length&&ZHh ⟨c0,c1,c2,⟨c3,c4,c5,c6,c7,c8,c9⟩,c10,c11⟩)))))) ?_ 0 (by and_intros<;>first|omega|rfl|(simp only[↓xP,xT,rL,rB,rA,rS]<;>first|done|rfl|omega))
 rintro i st ⟨h1,hb,h32,h33,h34⟩ ih
 by_cases hi:i<c0.length
 ·obtain ⟨⟨live,⟨⟨⟨lo,up⟩,prs,kn,sld,cut⟩,⟨ep,ms,fr⟩,nds,ups,bag,ans⟩⟩,hx⟩:∃ x,c0[i]?=some x:=⟨_,List.getElem?_eq_getElem hi⟩
  have hw:=w_succ (i:=i) (by omega)
  have hsx:=hsh.2 _ (List.mem_of_getElem? hx)
  have hch:=ZHK lo up prs kn sld cut ep ms fr nds ups bag ans hsx.1
  have heq:=ZNz ups fups hsx.1.2.2.2.1.1
  rw [ZX hx,List.all_cons,ZGO]
  cases q1:ZE ⟨⟨⟨lo,up⟩,prs,kn,sld,cut⟩,⟨ep,ms,fr⟩,nds,ups,bag,ans⟩
  ·simp only[↓xP,xT,rL,rB,rA,rS,rdx2,h1,hb,h32,h33,h34,hi,hx,hw,Ys.u,hch,q1]
   try simp
  ·cases q2:decide (ups=fups)
   ·simp only[↓xP,xT,rL,rB,rA,rS,rdx2,h1,hb,h32,h33,h34,hi,hx,hf0,hw,Ys.u,hch,q1,heq,q2]
    try simp
   ·simp only[↓xP,xT,rL,rB,rA,rS,rdx2,h1,hb,h32,h33,h34,hi,hx,hf0,hw,Ys.u,hch,q1,heq,q2]
    rw [ih (i+1) _ (by omega) (by and_intros<;>first|omega|rfl|(simp only[↓xP,xT,rL,rB,rA,rS,h1,hb,h32,h33,hw]<;>first|done|rfl|omega))]
    try simp
 simp only[↓xP,xT,rL,rB,rA,rS,h1,hb,h32,h33,h34,hi]
 rw [List.drop_of_length_le (by omega),List.all_nil,Bool.true_and]
 refine Zjc (fun (i:Nat) st=>st.s 1=.t (.sc (.ptr (.loc 1 0) 0 0))∧st.o (.loc 1 0)=some (.box [.u (.sl 14 (c0.map Ys.u)),.u (.sl 8 (c1.map Yb.u)),.u (.sl 9 (c2.map Yp.u)),.u (.int .i64 c3),.u (.int .i64 c4),.u (.int .i64 c5),.u (.str c6),.u (.int .i64 c7),.u (.int .i64 c8),.u (.int .i64 c9),.u (.int .i64 c10),.u (.int .i64 c11)])∧st.s 57=DU (.sl 8 (c1.map Yb.u))∧st.s 58=DI c1.length∧st.s 59=DI i∧(∀ c,c∈c1.take i→ZJ c=true)) (fun i=>c1.length - i) (fun i=>ok1 (B ((c1.drop i).all ZJ&&(c2.all ZM&&(ZIh ⟨c3,c4,c5,c6,c7,c8,c9⟩ c0.length&&ZHh ⟨c0,c1,c2,⟨c3,c4,c5,c6,c7,c8,c9⟩,c10,c11⟩))))) ?_ 0 ⟨(by and_intros<;>first|omega|rfl|(simp only[↓xP,xT,rL,rB,rA,rS,h1]<;>first|done|rfl|omega)),(by and_intros<;>first|omega|rfl|(simp only[↓xP,xT,rL,rB,rA,rS,hb]<;>first|done|rfl|omega)),(by and_intros<;>first|omega|rfl|(simp only[↓xP,xT,rL,rB,rA,rS,h1,hb]<;>first|done|rfl|omega)),(by and_intros<;>first|omega|rfl|(simp only[↓xP,xT,rL,rB,rA,rS,h1,hb]<;>first|done|rfl|omega)),(by and_intros<;>first|omega|rfl|(simp only[↓xP,xT,rL,rB,rA,rS,h1,hb]<;>first|done|rfl|omega)),by simp⟩
 clear h1 hb h32 h33 h34 hi ih
 rintro i st ⟨h1,hb,h32,h33,h34,hall⟩ ih
 by_cases hi:i<c1.length
 ·obtain ⟨⟨cch,csq,cbz,⟨ck,ckey,cv,co⟩,ccd⟩,hx⟩:∃ x,c1[i]?=some x:=⟨_,List.getElem?_eq_getElem hi⟩
  have hw:=w_succ (i:=i) (by omega)
  have hsx:=hcl.2 _ (List.mem_of_getElem? hx)
  have hch:=ZI8 cch csq cbz ck ckey cv co ccd hsx.1.1
  simp only[↓xP,xT,rL,rB,rA,rS,h1,hb,h32,h33,h34,hi,hx,hw,Yb.u,hch]
  rw [ZX hx,List.all_cons]
  refine ZiE (fun h=>?_) (fun q1=>?_)
  ·rw [Bool.not_eq_true'] at h; simp [h]
  rw [Bool.not_eq_false'] at q1
  have hall2:∀ c,c∈c1.take (i+1)→ZJ c=true:=by
   intro c hc
   rw [List.take_add_one,hx] at hc
   rcases List.mem_append.1 hc with hc|hc
   ·exact hall c hc
   ·simp at hc; subst hc; exact q1
  rw [ih (i+1) _ (by omega) ⟨(by and_intros<;>first|omega|rfl|(simp only[↓xP,xT,rL,rB,rA,rS,h1]<;>first|done|rfl|omega)),(by and_intros<;>first|omega|rfl|(simp only[↓xP,xT,rL,rB,rA,rS,hb]<;>first|done|rfl|omega)),(by and_intros<;>first|omega|rfl|(simp only[↓xP,xT,rL,rB,rA,rS,h32]<;>first|done|rfl|omega)),(by and_intros<;>first|omega|rfl|(simp only[↓xP,xT,rL,rB,rA,rS,h33]<;>first|done|rfl|omega)),(by and_intros<;>first|omega|rfl|(simp only[↓xP,xT,rL,rB,rA,rS,hw]<;>first|done|rfl|omega)),hall2⟩]
  simp [q1]
 simp only[↓xP,xT,rL,rB,rA,rS,h1,hb,h32,h33,h34,hi]
 rw [List.drop_of_length_le (by omega),List.all_nil,Bool.true_and]
 have hall4:∀ c,c∈c1→ZJ c=true:=by rw [List.take_of_length_le (by omega)] at hall; exact hall
 refine Zjc (fun (i:Nat) st=>st.s 1=.t (.sc (.ptr (.loc 1 0) 0 0))∧st.o (.loc 1 0)=some (.box [.u (.sl 14 (c0.map Ys.u)),.u (.sl 8 (c1.map Yb.u)),.u (.sl 9 (c2.map Yp.u)),.u (.int .i64 c3),.u (.int .i64 c4),.u (.int .i64 c5),.u (.str c6),.u (.int .i64 c7),.u (.int .i64 c8),.u (.int .i64 c9),.u (.int .i64 c10),.u (.int .i64 c11)])∧st.s 68=DU (.sl 9 (c2.map Yp.u))∧st.s 69=DI c2.length∧st.s 70=DI i) (fun i=>c2.length - i) (fun i=>ok1 (B ((c2.drop i).all ZM&&(ZIh ⟨c3,c4,c5,c6,c7,c8,c9⟩ c0.length&&ZHh ⟨c0,c1,c2,⟨c3,c4,c5,c6,c7,c8,c9⟩,c10,c11⟩)))) ?_ 0 (by and_intros<;>first|omega|rfl|(simp only[↓xP,xT,rL,rB,rA,rS,h1,hb]<;>first|done|rfl|omega))
 clear h1 hb h32 h33 h34 hi ih hall
 rintro i st ⟨h1,hb,h32,h33,h34⟩ ih
 by_cases hi:i<c2.length
 ·obtain ⟨⟨rc,rs,⟨rk,rkey,rv,ro⟩,rr,rcd,rrt⟩,hx⟩:∃ x,c2[i]?=some x:=⟨_,List.getElem?_eq_getElem hi⟩
  have hw:=w_succ (i:=i) (by omega)
  simp only[↓xP,xT,rL,rB,rA,rS,h1,hb,h32,h33,h34,hi,hx,hw,Yp.u,ZJh]
  rw [ZX hx,List.all_cons]
  refine ZiE (fun h=>?_) (fun q1=>?_)
  ·rw [Bool.not_eq_true'] at h; simp [h]
  rw [Bool.not_eq_false'] at q1
  rw [ih (i+1) _ (by omega) (by and_intros<;>first|omega|rfl|(simp only[↓xP,xT,rL,rB,rA,rS,h1,hb,h32,h33]<;>first|done|rfl|omega))]
  simp [q1]
 simp only[↓xP,xT,rL,rB,rA,rS,h1,hb,h32,h33,h34,hi]
 rw [List.drop_of_length_le (by omega),List.all_nil,Bool.true_and]
 obtain ⟨⟨cch,csq,cbz,⟨ck,ckey,cv,co⟩,ccd⟩,hc0⟩:∃ x,c1[0]?=some x:=⟨_,List.getElem?_eq_getElem (by omega)⟩
 have hq:=hall4 _ (List.mem_of_getElem? hc0)
 have hnc:=ZMd cch csq cbz ck ckey cv co ccd
 have hfree:=ZKF hq
 have hff:ZFX c1=ZFI ⟨cch,csq,cbz,⟨ck,ckey,cv,co⟩,ccd⟩:=by
  cases c1 with
  | nil=>simp at hc0
  | cons a l=>simp at hc0; subst hc0; rfl
 simp only at hfree
 rw [hfree,←hff] at hnc
 have hlr:=ZIq c0 c1 c2 c3 c4 c5 c6 c7 c8 c9 c10 c11 g2'
 simp only[ZFv] at hlr
 have hrl:(ZH c0).length≤1048576:=by
  have:=ZGj (ZFa c0 0)
  have:=ZGD c0 0
  simp only[ZH]; omega
 have hrv:=ZJj (ZH c0) hrl
 have htk:List.take (ZH c0).length (List.map Yq.u (ZH c0))=List.map Yq.u (ZH c0):=List.take_of_length_le (by simp)
 simp only[↓xP,xT,rL,rB,rA,rS,h1,hb,hc0,Yb.u,ZKj,hlr,hrv,htk,Nat.le_refl,List.length_map,hnc,ZHI]
 have hnp:(decide (c3=0)&&(decide (c4=0)&&(decide (c5=0)&&(decide (c6=[])&&(decide (c7=0)&&(decide (c8=0)&&decide (c9=0)))))))=ZJg ⟨c3,c4,c5,c6,c7,c8,c9⟩:=by simp only[ZJg,Bool.and_assoc]
 rw [hnp]
 refine (ZNv (ZJg ⟨c3,c4,c5,c6,c7,c8,c9⟩) (ZFH ⟨c3,c4,c5,c6,c7,c8,c9⟩) (decide (c4<(c0.length:Int))) (decide (c5<(c0.length:Int))) (Z6 (ZH c0)) (ZFX c1) (decide (0≤c10)) (decide (c10≤999)) (inR c11 0 200)).trans ?_
 rfl
theorem ZKw {c:Yc} (h:ZE c=true):c.up.length=5:=by
 simp only[ZE,Bool.and_eq_true,decide_eq_true_eq] at h
 exact h.1.1.1.1.2
def ZHT (l:List Yb) (i:Nat):Bool:=if i=0 then ZFX l else true
theorem ZIH (c0:List Ys) (c1:List Yb) (c2:List Yp) (c3 c4 c5:Int) (c6:Str) (c7 c8 c9 c10 c11:Int) (hs:Yd.Small ⟨c0,c1,c2,⟨c3,c4,c5,c6,c7,c8,c9⟩,c10,c11⟩):EE F 26 [.ag [.u (.sl 14 (c0.map Ys.u)),.u (.sl 8 (c1.map Yb.u)),.u (.sl 9 (c2.map Yp.u)),.u (.int .i64 c3),.u (.int .i64 c4),.u (.int .i64 c5),.u (.str c6),.u (.int .i64 c7),.u (.int .i64 c8),.u (.int .i64 c9),.u (.int .i64 c10),.u (.int .i64 c11)]] []=ok1 (B (ZC ⟨c0,c1,c2,⟨c3,c4,c5,c6,c7,c8,c9⟩,c10,c11⟩)):=by
 obtain ⟨hsh,hcl,hrs,hwk,_⟩:=hs
 have hn0:c0.length≤1048576:=hsh.1
 have hn1:c1.length≤1048576:=hcl.1
 have hn2:c2.length≤1048576:=hrs.1
 rw [R26,b26]
 simp only[↓xP,xT,rL,rB,rA,rS,List.length_map,ne_eq,ZU,ZMH]
 refine ZiE (fun h=>?_) (fun g1=>?_)
 ·have:¬(1≤c0.length∧c0.length≤8):=by simp [inR] at h; omega
  have:ZFK ⟨c0,c1,c2,⟨c3,c4,c5,c6,c7,c8,c9⟩,c10,c11⟩=false:=by
   by_cases e1:1≤c0.length
   ·have e2:¬c0.length≤8:=fun e2=>this ⟨e1,e2⟩
    simp [ZFK,e2]
   ·simp [ZFK,e1]
  simp [ZC,this]
 refine ZiE (fun h=>?_) (fun g3=>?_)
 ·have:¬c1.length=4:=by simp at h; omega
  simp [ZC,ZFK,this]
 refine ZiE (fun h=>?_) (fun g4=>?_)
 ·have:¬c2.length≤40:=by simp at h; omega
  simp [ZC,ZFK,this]
 refine ZiE (fun h=>?_) (fun g5=>?_)
 ·rw [Bool.not_eq_true'] at h; simp [ZC,h]
 refine ZiE (fun h=>?_) (fun g6=>?_)
 ·rw [Bool.not_eq_true'] at h; simp [ZC,ZHh,h]
 refine ZiE (fun h=>?_) (fun g7=>?_)
 ·rw [Bool.not_eq_true'] at h; simp [ZC,ZHh,h]
 rw [Bool.not_eq_false'] at g1 g5 g6 g7
 have g12:1≤c0.length∧c0.length≤8:=by simp [inR] at g1; omega
 have g3':c1.length=4:=by simp at g3; omega
 have g4':c2.length≤40:=by simp at g4; omega
 have hsz:ZFK ⟨c0,c1,c2,⟨c3,c4,c5,c6,c7,c8,c9⟩,c10,c11⟩=true:=by simp [ZFK,g12.1,g12.2,g3',g4']
 obtain ⟨fs,hf0⟩:∃ x,c0[0]?=some x:=⟨_,List.getElem?_eq_getElem (by omega)⟩
 have hup:upOf c0=fs.group.up:=by
  cases c0 with
  | nil=>simp at hf0
  | cons a l=>simp at hf0; subst hf0; rfl
 obtain ⟨flive,⟨⟨⟨flo,fup⟩,fprs,fkn,fsld,fcut⟩,⟨fep,fms,ffr⟩,fnds,fups,fbag,fans⟩⟩:=fs
 simp only at hup
 have hcv:ZC ⟨c0,c1,c2,⟨c3,c4,c5,c6,c7,c8,c9⟩,c10,c11⟩=((c0.drop 0).all (ZGO fups)&&(c1.all ZJ&&ZFX c1&&(c2.all ZM&&Z6 (ZH c0)))):=by
  simp only[ZC,hsz,hup,ZHh,g5,g6,g7,Bool.true_and,Bool.and_true,List.drop_zero]
  cases c0.all (ZGO fups)<;>cases c1.all ZJ<;>cases c2.all ZM<;>cases ZFX c1<;>cases Z6 (ZH c0)<;>rfl
 rw [hcv]
 refine Zjc (fun (i:Nat) st=>st.s 1=.t (.sc (.ptr (.loc 1 0) 0 0))∧st.o (.loc 1 0)=some (.box [.u (.sl 14 (c0.map Ys.u)),.u (.sl 8 (c1.map Yb.u)),.u (.sl 9 (c2.map Yp.u)),.u (.int .i64 c3),.u (.int .i64 c4),.u (.int .i64 c5),.u (.str c6),.u (.int .i64 c7),.u (.int .i64 c8),.u (.int .i64 c9),.u (.int .i64 c10),.u (.int .i64 c11)])∧st.s 3=DI i∧(i=0∨fups.length=5)) (fun i=>c0.length - i) (fun i=>ok1 (B ((c0.drop i).all (ZGO fups)&&(c1.all ZJ&&ZFX c1&&(c2.all ZM&&Z6 (ZH c0)))))) ?_ 0 (by and_intros<;>first|omega|rfl|(simp only[↓xP,xT,rL,rB,rA,rS]<;>first|done|rfl|omega))
 rintro i st ⟨h1,hb,h3,hf5⟩ ih
 by_cases hi:i<c0.length
 ·obtain ⟨⟨live,⟨⟨⟨lo,up⟩,prs,kn,sld,cut⟩,⟨ep,ms,fr⟩,nds,ups,bag,ans⟩⟩,hx⟩:∃ x,c0[i]?=some x:=⟨_,List.getElem?_eq_getElem hi⟩
  have hw:=w_succ (i:=i) (by omega)
  have hsx:=hsh.2 _ (List.mem_of_getElem? hx)
  have hch:=ZGU lo up prs kn sld cut ep ms fr nds ups bag ans hsx.1
  rw [ZX hx,List.all_cons,ZGO]
  cases q1:ZE ⟨⟨⟨lo,up⟩,prs,kn,sld,cut⟩,⟨ep,ms,fr⟩,nds,ups,bag,ans⟩
  ·simp only[↓xP,xT,rL,rB,rA,rS,rdx2,h1,hb,h3,hi,hx,hw,Ys.u,hch,q1]
   try simp
  have hu5:ups.length=5:=ZKw q1
  have hfu5:fups.length=5:=by
   rcases hf5 with rfl|e
   ·rw [hf0] at hx; cases hx; exact hu5
   ·exact e
  have hd0:decide (ups=fups)=decide (ups.drop 0=fups.drop 0):=by simp
  simp only[↓xP,xT,rL,rB,rA,rS,rdx2,h1,hb,h3,hi,hx,hw,Ys.u,hch,q1]
  try rw [Bool.true_and]
  rw [hd0]
  refine Zjc (fun (j:Nat) st=>j≤5∧st.s 1=.t (.sc (.ptr (.loc 1 0) 0 0))∧st.o (.loc 1 0)=some (.box [.u (.sl 14 (c0.map Ys.u)),.u (.sl 8 (c1.map Yb.u)),.u (.sl 9 (c2.map Yp.u)),.u (.int .i64 c3),.u (.int .i64 c4),.u (.int .i64 c5),.u (.str c6),.u (.int .i64 c7),.u (.int .i64 c8),.u (.int .i64 c9),.u (.int .i64 c10),.u (.int .i64 c11)])∧st.s 3=DI i∧st.s 4=DI j) (fun j=>5 - j) (fun j=>ok1 (B (decide (ups.drop j=fups.drop j)&&(c0.drop (i+1)).all (ZGO fups)&&(c1.all ZJ&&ZFX c1&&(c2.all ZM&&Z6 (ZH c0)))))) ?_ 0 (by and_intros<;>first|omega|rfl|(simp only[↓xP,xT,rL,rB,rA,rS,h1,hb,h3]<;>first|done|rfl|omega))
  clear h1 hb h3
  rintro j st ⟨hj5,h1,hb,h3,h4⟩ ih2
  by_cases hj:j<5
  ·obtain ⟨x,hxx⟩:∃ x,ups[j]?=some x:=⟨_,List.getElem?_eq_getElem (by omega)⟩
   obtain ⟨y,hyy⟩:∃ x,fups[j]?=some x:=⟨_,List.getElem?_eq_getElem (by omega)⟩
   have hw2:=w_succ (i:=j) (by omega)
   have hlt:((j:Int)<5)=True:=by simp; omega
   rw [ZX hxx,ZX hyy]
   by_cases e:x=y
   ·subst e
    simp only[↓xP,xT,rL,rB,rA,rS,rdx2,h1,hb,h3,h4,hi,hx,hf0,hxx,hyy,hw2,hlt,Ys.u,bU]
    rw [ih2 (j+1) _ (by omega) (by and_intros<;>first|omega|rfl|(simp only[↓xP,xT,rL,rB,rA,rS,h1,hb,h3,hw2]<;>first|done|rfl|omega))]
    simp
   ·have hbe:(x==y)=false:=by simpa using e
    simp only[↓xP,xT,rL,rB,rA,rS,rdx2,h1,hb,h3,h4,hi,hx,hf0,hxx,hyy,hw2,hlt,Ys.u,bU,hbe]
    simp [e]
  have hlt:((j:Int)<5)=False:=by simp; omega
  simp only[↓xP,xT,rL,rB,rA,rS,h1,hb,h3,h4,hlt]
  rw [List.drop_of_length_le (by omega),List.drop_of_length_le (by omega)]
  rw [ih (i+1) _ (by omega) ⟨(by and_intros<;>first|omega|rfl|(simp only[↓xP,xT,rL,rB,rA,rS,h1]<;>first|done|rfl|omega)),(by and_intros<;>first|omega|rfl|(simp only[↓xP,xT,rL,rB,rA,rS,hb]<;>first|done|rfl|omega)),(by and_intros<;>first|omega|rfl|(simp only[↓xP,xT,rL,rB,rA,rS,hw]<;>first|done|rfl|omega)),.inr hfu5⟩]
  simp
 simp only[↓xP,xT,rL,rB,rA,rS,h1,hb,h3,hi]
 rw [List.drop_of_length_le (by omega),List.all_nil,Bool.true_and]
 have hc10:(c1.all ZJ&&ZFX c1&&(c2.all ZM&&Z6 (ZH c0)))=((c1.drop 0).all ZJ&&ZHT c1 0&&(c2.all ZM&&Z6 (ZH c0))):=rfl
 rw [hc10]
 refine Zjc (fun (i:Nat) st=>i≤4∧st.s 1=.t (.sc (.ptr (.loc 1 0) 0 0))∧st.o (.loc 1 0)=some (.box [.u (.sl 14 (c0.map Ys.u)),.u (.sl 8 (c1.map Yb.u)),.u (.sl 9 (c2.map Yp.u)),.u (.int .i64 c3),.u (.int .i64 c4),.u (.int .i64 c5),.u (.str c6),.u (.int .i64 c7),.u (.int .i64 c8),.u (.int .i64 c9),.u (.int .i64 c10),.u (.int .i64 c11)])∧st.s 5=DI i) (fun i=>4 - i) (fun i=>ok1 (B ((c1.drop i).all ZJ&&ZHT c1 i&&(c2.all ZM&&Z6 (ZH c0))))) ?_ 0 (by and_intros<;>first|omega|rfl|(simp only[↓xP,xT,rL,rB,rA,rS,h1,hb]<;>first|done|rfl|omega))
 clear h1 hb h3 hi ih
 rintro i st ⟨hi4,h1,hb,h3⟩ ih
 by_cases hi:i<4
 ·obtain ⟨⟨cch,csq,cbz,⟨ck,ckey,cv,co⟩,ccd⟩,hx⟩:∃ x,c1[i]?=some x:=⟨_,List.getElem?_eq_getElem (by omega)⟩
  have hw:=w_succ (i:=i) (by omega)
  have hlt:((i:Int)<4)=True:=by simp; omega
  have hsx:=hcl.2 _ (List.mem_of_getElem? hx)
  have hch:=ZI9 cch csq cbz ck ckey cv co ccd hsx.1.1
  rw [ZX hx,List.all_cons]
  have hnext:ZHT c1 (i+1)=true:=rfl
  by_cases e0:i=0
  ·subst e0
   have hff:ZHT c1 0=ZFI ⟨cch,csq,cbz,⟨ck,ckey,cv,co⟩,ccd⟩:=by
    cases c1 with
    | nil=>simp at hx
    | cons a l=>simp at hx; subst hx; rfl
   have hz:(((0:Nat):Int)=0)=True:=by simp
   rw [hff]
   simp only[↓xP,xT,rL,rB,rA,rS,h1,hb,h3,hlt,hx,hw,hz,Yb.u,hch,ne_eq,List.length_map]
   refine ZiE (fun h=>?_) (fun q1=>?_)
   ·rw [Bool.not_eq_true'] at h; simp [h]
   rw [Bool.not_eq_false'] at q1
   refine ZiE (fun h=>?_) (fun q2=>?_)
   ·have:¬csq=0:=by simpa using h
    simp [ZFI,this]
   refine ZiE (fun h=>?_) (fun q3=>?_)
   ·have:¬cch=[]:=by intro e; subst e; simp at h
    simp [ZFI,this]
   have q2':csq=0:=by simpa using q2
   have q3':cch.length=0:=by simp at q3; simpa using q3
   rw [ih 1 _ (by omega) (by and_intros<;>first|omega|rfl|(simp only[↓xP,xT,rL,rB,rA,rS,h1,hb]<;>first|done|rfl|omega))]
   rw [q1]; simp [ZFI,q2',q3',ZHT]
  ·have hz:((i:Int)=0)=False:=by simp; omega
   simp only[↓xP,xT,rL,rB,rA,rS,h1,hb,h3,hlt,hx,hw,hz,Yb.u,hch,ne_eq,List.length_map]
   refine ZiE (fun h=>?_) (fun q1=>?_)
   ·rw [Bool.not_eq_true'] at h; simp [h]
   rw [Bool.not_eq_false'] at q1
   rw [ih (i+1) _ (by omega) (by and_intros<;>first|omega|rfl|(simp only[↓xP,xT,rL,rB,rA,rS,h1,hb]<;>first|done|rfl|omega))]
   simp [q1,ZHT,e0]
 have hlt:((i:Int)<4)=False:=by simp; omega
 have hfi:ZHT c1 i=true:=by simp only[ZHT]; rw [if_neg (by omega)]
 simp only[↓xP,xT,rL,rB,rA,rS,h1,hb,h3,hlt]
 rw [List.drop_of_length_le (by omega),List.all_nil,hfi,Bool.true_and,Bool.true_and]
 refine Zjc (fun (i:Nat) st=>st.s 1=.t (.sc (.ptr (.loc 1 0) 0 0))∧st.o (.loc 1 0)=some (.box [.u (.sl 14 (c0.map Ys.u)),.u (.sl 8 (c1.map Yb.u)),.u (.sl 9 (c2.map Yp.u)),.u (.int .i64 c3),.u (.int .i64 c4),.u (.int .i64 c5),.u (.str c6),.u (.int .i64 c7),.u (.int .i64 c8),.u (.int .i64 c9),.u (.int .i64 c10),.u (.int .i64 c11)])∧st.s 6=DI i) (fun i=>c2.length - i) (fun i=>ok1 (B ((c2.drop i).all ZM&&Z6 (ZH c0)))) ?_ 0 (by and_intros<;>first|omega|rfl|(simp only[↓xP,xT,rL,rB,rA,rS,h1,hb]<;>first|done|rfl|omega))
 clear h1 hb h3 hi ih hlt hfi
 rintro i st ⟨h1,hb,h3⟩ ih
 by_cases hi:i<c2.length
 ·obtain ⟨⟨rc,rs,⟨rk,rkey,rv,ro⟩,rr,rcd,rrt⟩,hx⟩:∃ x,c2[i]?=some x:=⟨_,List.getElem?_eq_getElem hi⟩
  have hw:=w_succ (i:=i) (by omega)
  simp only[↓xP,xT,rL,rB,rA,rS,h1,hb,h3,hi,hx,hw,Yp.u,ZJi]
  rw [ZX hx,List.all_cons]
  refine ZiE (fun h=>?_) (fun q1=>?_)
  ·rw [Bool.not_eq_true'] at h; simp [h]
  rw [Bool.not_eq_false'] at q1
  rw [ih (i+1) _ (by omega) (by and_intros<;>first|omega|rfl|(simp only[↓xP,xT,rL,rB,rA,rS,h1,hb]<;>first|done|rfl|omega))]
  simp [q1]
 have hlr:=ZIQ c0 c1 c2 c3 c4 c5 c6 c7 c8 c9 c10 c11 g12.2
 simp only[ZFv] at hlr
 have hrl:(ZH c0).length≤1048576:=by
  have:=ZGj (ZFa c0 0)
  have:=ZGD c0 0
  simp only[ZH]; omega
 have hrv:=ZJk (ZH c0) hrl
 have htk:List.take (ZH c0).length (List.map Yq.u (ZH c0))=List.map Yq.u (ZH c0):=List.take_of_length_le (by simp)
 simp only[↓xP,xT,rL,rB,rA,rS,h1,hb,h3,hi,hlr,hrv,htk,Nat.le_refl,List.length_map]
 rw [List.drop_of_length_le (by omega),List.all_nil,Bool.true_and]
theorem ZID {c0:List Ys} {c1:List Yb} {c2:List Yp} {w:Yn} {a b:Int} (h:ZC ⟨c0,c1,c2,w,a,b⟩=true) {s:Ys} (hs:s∈c0):ZE s.group=true:=by
 simp only[ZC,Bool.and_eq_true] at h
 have:=List.all_eq_true.1 h.1.1.1.1.2 s hs
 simp only[ZGO,Bool.and_eq_true] at this
 exact this.1
theorem ZHf {c0:List Ys} {c1:List Yb} {c2:List Yp} {w:Yn} {a b:Int} (h:ZC ⟨c0,c1,c2,w,a,b⟩=true):c0.length≤8:=by
 simp only[ZC,ZFK,Bool.and_eq_true,decide_eq_true_eq] at h
 exact h.1.1.1.1.1.1.1.2
theorem ZN8 {l:List Yq} {x y:Yq} (h:y∈insL l x):y=x∨y∈l:=by
 simp only[insL,List.mem_append,List.mem_cons] at h
 rcases h with h|h|h
 ·exact .inr ((List.takeWhile_sublist _).mem h)
 ·exact .inl h
 ·exact .inr ((List.dropWhile_sublist _).mem h)
theorem ZK6:∀ (m l:List Yq) (y:Yq),y∈m.foldl insL l→y∈l∨y∈m
 | [],l,y,h=>.inl h
 | a :: m,l,y,h=>by
  rcases ZK6 m (insL l a) y h with h|h
  ·rcases ZN8 h with rfl|h
   ·exact .inr (by simp)
   ·exact .inl h
  ·exact .inr (by simp [h])
theorem ZJf:∀ (l:List Ys) (i:Nat) (r:Yq),r∈ZFa l i→∃ (j:Nat) (s:Ys),l[j]?=some s∧r.number=((i+j:Nat):Int)∧s.live=true
 | [],i,r,h=>by simp [ZFa] at h
 | s :: l,i,r,h=>by
  simp only[ZFa] at h
  split at h
  ·rcases List.mem_cons.1 h with rfl|h
   ·exact ⟨0,s,rfl,by simp,by assumption⟩
   ·obtain ⟨j,s',h1,h2,h3⟩:=ZJf l (i+1) r h
    exact ⟨j+1,s',by simpa using h1,by rw [h2]; congr 1; omega,h3⟩
  ·obtain ⟨j,s',h1,h2,h3⟩:=ZJf l (i+1) r h
   exact ⟨j+1,s',by simpa using h1,by rw [h2]; congr 1; omega,h3⟩
theorem ZIA {l:List Ys} {r:Yq} (h:r∈ZH l):∃ (j:Nat) (s:Ys),l[j]?=some s∧r.number=(j:Int)∧s.live=true:=by
 rcases ZK6 _ _ _ h with h|h
 ·cases h
 ·obtain ⟨j,s,h1,h2,h3⟩:=ZJf l 0 r h
  exact ⟨j,s,h1,by rw [h2]; simp,h3⟩
def ZFw (x:Yd):List Yq:=if ZC x=true then ZH x.shards else []
theorem ZIx (c0:List Ys) (c1:List Yb) (c2:List Yp) (c3 c4 c5:Int) (c6:Str) (c7 c8 c9 c10 c11:Int) (hs:Yd.Small ⟨c0,c1,c2,⟨c3,c4,c5,c6,c7,c8,c9⟩,c10,c11⟩):EE F 31 [.ag [.u (.sl 14 (c0.map Ys.u)),.u (.sl 8 (c1.map Yb.u)),.u (.sl 9 (c2.map Yp.u)),.u (.int .i64 c3),.u (.int .i64 c4),.u (.int .i64 c5),.u (.str c6),.u (.int .i64 c7),.u (.int .i64 c8),.u (.int .i64 c9),.u (.int .i64 c10),.u (.int .i64 c11)]] []=some ⟨[.sc (.own (.par 0) (ZFw ⟨c0,c1,c2,⟨c3,c4,c5,c6,c7,c8,c9⟩,c10,c11⟩).length)],[.row 3 ((ZFw ⟨c0,c1,c2,⟨c3,c4,c5,c6,c7,c8,c9⟩,c10,c11⟩).map Yq.u)],[]⟩:=by
 have hcvs:=ZIH c0 c1 c2 c3 c4 c5 c6 c7 c8 c9 c10 c11 hs
 rw [R31,b31]
 cases hv:ZC ⟨c0,c1,c2,⟨c3,c4,c5,c6,c7,c8,c9⟩,c10,c11⟩
 ·simp only[↓xP,xT,rL,rB,rA,rS,hcvs,hv]
  simp [ZFw,hv]
 ·have hlr:=ZIQ c0 c1 c2 c3 c4 c5 c6 c7 c8 c9 c10 c11 (ZHf hv)
  simp only[ZFv] at hlr
  simp only[↓xP,xT,rL,rB,rA,rS,hcvs,hv,hlr,List.length_map,Nat.le_refl]
  simp [ZFw,hv]
def ZHC (K:Int):Bool:=(decide ((K).tmod 3=0))
theorem ZLq (l:List Bool) (K:Int) (h1:1≤K) (h2:K+1*l.length≤4611686018427387904):EE F 156 [.sc (.own (.par 0) l.length),I K] [.row 1 (l.map bU)]=some ⟨[I (K+1*l.length)],[],[.row 1 ((mkL ZHC 1 K l.length).map bU)]⟩:=by
 refine (EE_run (fn:=i156) (by kernel_rfl) rfl).trans ?_
 simp only[i156,b156,ZdN,ZcQ,List.length_cons,List.length_nil]
 simp only[↓xP,xT,rL,rB,rA,rS]
 refine (Zjc (fun (i:Nat) st=>i≤l.length∧st.s 0=.t (.sc (.own (.par 0) l.length))∧st.s 5=DI i∧st.s 1=DI (K+1*i)∧st.o (.par 0)=some (.row 1 ((mkL ZHC 1 K i++l.drop i).map bU))) (fun i=>l.length - i) (fun i=>some ⟨[I (K+1*l.length)],[],[.row 1 ((mkL ZHC 1 K l.length).map bU)]⟩) ?_ 0 ⟨by omega,by simp only[↓xP,xT,rL,rB,rA,rS],by simp only[↓xP,xT,rL,rB,rA,rS]; rfl,by simp only[↓xP,xT,rL,rB,rA,rS]; exact ZFs (by omega),by simp only[↓xP,xT,rL,rB,rA,rS]; simp [mkL]⟩).trans rfl
 rintro i st ⟨hle,h0,h5,h1',ho⟩ ih
 by_cases hi:i<l.length
 ·obtain ⟨x,hx⟩:∃ x,l[i]?=some x:=⟨_,List.getElem?_eq_getElem hi⟩
  have hw:=w_succ (i:=i) (by omega)
  have hg:=ZH3 (u:=bU) (f:=ZHC) (w:=1) (K:=K) hx
  have hf:=ZH4 (u:=bU) (f:=ZHC) (w:=1) (K:=K) hx
  have hlen:i<((mkL ZHC 1 K i++l.drop i).map bU).length:=by simp [ZV]; omega
  have hk1:1≤K+1 * (i:Int):=by omega
  have hk2:K+1 * (i:Int)+1≤4611686018427387904:=by omega
  have hn:K+1 * ((i+1:Nat):Int)=K+1 * (i:Int)+1:=by omega
  generalize (mkL ZHC 1 K i++l.drop i).map bU=r at hg hf hlen ho
  obtain ⟨K',hK⟩:∃ K',K'=K+1 * (i:Int):=⟨_,rfl⟩
  rw [←hK] at h1' hf hn hk1 hk2
  
  simp only[bU,ZHC] at hg hf
  have hgs:=ZFR r i hlen
  have hw0:IntKind.i64.wrap (K'+1)=K'+1:=by rw [w64 (by omega) (by omega)]
  have h3_0:¬(3:Int)=0:=by omega
  simp only[↓xP,xT,rL,rB,rA,rS,h0,h5,h1',ho,hi,hg,hgs,List.set_set,hw,hf,hw0,h3_0]
  exact ih (i+1) _ (by omega) ⟨by omega,by simp only[↓xP,xT,rL,rB,rA,rS,h0],by simp only[↓xP,xT,rL,rB,rA,rS],by simp only[↓xP,xT,rL,rB,rA,rS]; exact ZFs (by omega),by simp only[↓xP,xT,rL,rB,rA,rS]⟩
 ·have:i=l.length:=by omega
  subst this
  simp only[↓xP,xT,rL,rB,rA,rS,h0,h5,h1',ho,hi,List.drop_length,List.append_nil,List.length_map,ZV]
def ZGN (K:Int):Yh:=⟨(K),(K+1),⟨(K+1+1),(ZHa (K+1+1+1)),(K+1+1+1+1),(K+1+1+1+1+1)⟩⟩
theorem ZIr (l:List Yh) (K:Int) (h1:1≤K) (h2:K+6*l.length≤4611686018427387904):EE F 231 [.sc (.own (.par 0) l.length),I K] [.row 6 (l.map Yh.u)]=some ⟨[I (K+6*l.length)],[],[.row 6 ((mkL ZGN 6 K l.length).map Yh.u)]⟩:=by
 refine (EE_run (fn:=i231) (by kernel_rfl) rfl).trans ?_
 simp only[i231,b231,ZdN,ZcQ,List.length_cons,List.length_nil]
 simp only[↓xP,xT,rL,rB,rA,rS]
 refine (Zjc (fun (i:Nat) st=>i≤l.length∧st.s 0=.t (.sc (.own (.par 0) l.length))∧st.s 5=DI i∧st.s 1=DI (K+6*i)∧st.o (.par 0)=some (.row 6 ((mkL ZGN 6 K i++l.drop i).map Yh.u))) (fun i=>l.length - i) (fun i=>some ⟨[I (K+6*l.length)],[],[.row 6 ((mkL ZGN 6 K l.length).map Yh.u)]⟩) ?_ 0 ⟨by omega,by simp only[↓xP,xT,rL,rB,rA,rS],by simp only[↓xP,xT,rL,rB,rA,rS]; rfl,by simp only[↓xP,xT,rL,rB,rA,rS]; exact ZFs (by omega),by simp only[↓xP,xT,rL,rB,rA,rS]; simp [mkL]⟩).trans rfl
 rintro i st ⟨hle,h0,h5,h1',ho⟩ ih
 by_cases hi:i<l.length
 ·obtain ⟨x,hx⟩:∃ x,l[i]?=some x:=⟨_,List.getElem?_eq_getElem hi⟩
  have hw:=w_succ (i:=i) (by omega)
  have hg:=ZH3 (u:=Yh.u) (f:=ZGN) (w:=6) (K:=K) hx
  have hf:=ZH4 (u:=Yh.u) (f:=ZGN) (w:=6) (K:=K) hx
  have hlen:i<((mkL ZGN 6 K i++l.drop i).map Yh.u).length:=by simp [ZV]; omega
  have hk1:1≤K+6 * (i:Int):=by omega
  have hk2:K+6 * (i:Int)+6≤4611686018427387904:=by omega
  have hn:K+6 * ((i+1:Nat):Int)=K+6 * (i:Int)+6:=by omega
  generalize (mkL ZGN 6 K i++l.drop i).map Yh.u=r at hg hf hlen ho
  obtain ⟨K',hK⟩:∃ K',K'=K+6 * (i:Int):=⟨_,rfl⟩
  rw [←hK] at h1' hf hn hk1 hk2
  obtain ⟨c1,c2,⟨c3,c4,c5,c6⟩⟩:=x
  simp only[Yh.u,ZGN] at hg hf
  have hgs:=ZFR r i hlen
  have hw0:IntKind.i64.wrap (K'+1)=K'+1:=by rw [w64 (by omega) (by omega)]
  have hw1:IntKind.i64.wrap (K'+1+1)=K'+1+1:=by rw [w64 (by omega) (by omega)]
  have hw2:IntKind.i64.wrap (K'+1+1+1)=K'+1+1+1:=by rw [w64 (by omega) (by omega)]
  have hw3:IntKind.i64.wrap (K'+1+1+1+1)=K'+1+1+1+1:=by rw [w64 (by omega) (by omega)]
  have hw4:IntKind.i64.wrap (K'+1+1+1+1+1)=K'+1+1+1+1+1:=by rw [w64 (by omega) (by omega)]
  have hw5:IntKind.i64.wrap (K'+1+1+1+1+1+1)=K'+1+1+1+1+1+1:=by rw [w64 (by omega) (by omega)]
  have mt3:=ZZ (K'+1+1+1) (by omega) (by omega)
  simp only[↓xP,xT,rL,rB,rA,rS,h0,h5,h1',ho,hi,hg,hgs,List.set_set,hw,hf,hw0,hw1,hw2,hw3,hw4,hw5,mt3]
  exact ih (i+1) _ (by omega) ⟨by omega,by simp only[↓xP,xT,rL,rB,rA,rS,h0],by simp only[↓xP,xT,rL,rB,rA,rS],by simp only[↓xP,xT,rL,rB,rA,rS]; exact ZFs (by omega),by simp only[↓xP,xT,rL,rB,rA,rS]⟩
 ·have:i=l.length:=by omega
  subst this
  simp only[↓xP,xT,rL,rB,rA,rS,h0,h5,h1',ho,hi,List.drop_length,List.append_nil,List.length_map,ZV]
def ZGX (K:Int):Yq:=⟨(K),⟨(ZHa (K+1)),(ZHa (K+1+1))⟩⟩
theorem ZKD (l:List Yq) (K:Int) (h1:1≤K) (h2:K+3*l.length≤4611686018427387904):EE F 159 [.sc (.own (.par 0) l.length),I K] [.row 3 (l.map Yq.u)]=some ⟨[I (K+3*l.length)],[],[.row 3 ((mkL ZGX 3 K l.length).map Yq.u)]⟩:=by
 refine (EE_run (fn:=i159) (by kernel_rfl) rfl).trans ?_
 simp only[i159,b159,ZdN,ZcQ,List.length_cons,List.length_nil]
 simp only[↓xP,xT,rL,rB,rA,rS]
 refine (Zjc (fun (i:Nat) st=>i≤l.length∧st.s 0=.t (.sc (.own (.par 0) l.length))∧st.s 5=DI i∧st.s 1=DI (K+3*i)∧st.o (.par 0)=some (.row 3 ((mkL ZGX 3 K i++l.drop i).map Yq.u))) (fun i=>l.length - i) (fun i=>some ⟨[I (K+3*l.length)],[],[.row 3 ((mkL ZGX 3 K l.length).map Yq.u)]⟩) ?_ 0 ⟨by omega,by simp only[↓xP,xT,rL,rB,rA,rS],by simp only[↓xP,xT,rL,rB,rA,rS]; rfl,by simp only[↓xP,xT,rL,rB,rA,rS]; exact ZFs (by omega),by simp only[↓xP,xT,rL,rB,rA,rS]; simp [mkL]⟩).trans rfl
 rintro i st ⟨hle,h0,h5,h1',ho⟩ ih
 by_cases hi:i<l.length
 ·obtain ⟨x,hx⟩:∃ x,l[i]?=some x:=⟨_,List.getElem?_eq_getElem hi⟩
  have hw:=w_succ (i:=i) (by omega)
  have hg:=ZH3 (u:=Yq.u) (f:=ZGX) (w:=3) (K:=K) hx
  have hf:=ZH4 (u:=Yq.u) (f:=ZGX) (w:=3) (K:=K) hx
  have hlen:i<((mkL ZGX 3 K i++l.drop i).map Yq.u).length:=by simp [ZV]; omega
  have hk1:1≤K+3 * (i:Int):=by omega
  have hk2:K+3 * (i:Int)+3≤4611686018427387904:=by omega
  have hn:K+3 * ((i+1:Nat):Int)=K+3 * (i:Int)+3:=by omega
  generalize (mkL ZGX 3 K i++l.drop i).map Yq.u=r at hg hf hlen ho
  obtain ⟨K',hK⟩:∃ K',K'=K+3 * (i:Int):=⟨_,rfl⟩
  rw [←hK] at h1' hf hn hk1 hk2
  obtain ⟨c1,⟨c2,c3⟩⟩:=x
  simp only[Yq.u,ZGX] at hg hf
  have hgs:=ZFR r i hlen
  have hw0:IntKind.i64.wrap (K'+1)=K'+1:=by rw [w64 (by omega) (by omega)]
  have hw1:IntKind.i64.wrap (K'+1+1)=K'+1+1:=by rw [w64 (by omega) (by omega)]
  have hw2:IntKind.i64.wrap (K'+1+1+1)=K'+1+1+1:=by rw [w64 (by omega) (by omega)]
  have mt1:=ZZ (K'+1) (by omega) (by omega)
  have mt2:=ZZ (K'+1+1) (by omega) (by omega)
  simp only[↓xP,xT,rL,rB,rA,rS,h0,h5,h1',ho,hi,hg,hgs,List.set_set,hw,hf,hw0,hw1,hw2,mt1,mt2]
  exact ih (i+1) _ (by omega) ⟨by omega,by simp only[↓xP,xT,rL,rB,rA,rS,h0],by simp only[↓xP,xT,rL,rB,rA,rS],by simp only[↓xP,xT,rL,rB,rA,rS]; exact ZFs (by omega),by simp only[↓xP,xT,rL,rB,rA,rS]⟩
 ·have:i=l.length:=by omega
  subst this
  simp only[↓xP,xT,rL,rB,rA,rS,h0,h5,h1',ho,hi,List.drop_length,List.append_nil,List.length_map,ZV]
def ZGw (K:Int):Yp:=⟨(K),(K+1),⟨(K+1+1),(ZHa (K+1+1+1)),(K+1+1+1+1),(K+1+1+1+1+1)⟩,(K+1+1+1+1+1+1),(K+1+1+1+1+1+1+1),(K+1+1+1+1+1+1+1+1)⟩
theorem ZKe (l:List Yp) (K:Int) (h1:1≤K) (h2:K+9*l.length≤4611686018427387904):EE F 79 [.sc (.own (.par 0) l.length),I K] [.row 9 (l.map Yp.u)]=some ⟨[I (K+9*l.length)],[],[.row 9 ((mkL ZGw 9 K l.length).map Yp.u)]⟩:=by
 refine (EE_run (fn:=i79) (by kernel_rfl) rfl).trans ?_
 simp only[i79,b79,ZdN,ZcQ,List.length_cons,List.length_nil]
 simp only[↓xP,xT,rL,rB,rA,rS]
 refine (Zjc (fun (i:Nat) st=>i≤l.length∧st.s 0=.t (.sc (.own (.par 0) l.length))∧st.s 5=DI i∧st.s 1=DI (K+9*i)∧st.o (.par 0)=some (.row 9 ((mkL ZGw 9 K i++l.drop i).map Yp.u))) (fun i=>l.length - i) (fun i=>some ⟨[I (K+9*l.length)],[],[.row 9 ((mkL ZGw 9 K l.length).map Yp.u)]⟩) ?_ 0 ⟨by omega,by simp only[↓xP,xT,rL,rB,rA,rS],by simp only[↓xP,xT,rL,rB,rA,rS]; rfl,by simp only[↓xP,xT,rL,rB,rA,rS]; exact ZFs (by omega),by simp only[↓xP,xT,rL,rB,rA,rS]; simp [mkL]⟩).trans rfl
 rintro i st ⟨hle,h0,h5,h1',ho⟩ ih
 by_cases hi:i<l.length
 ·obtain ⟨x,hx⟩:∃ x,l[i]?=some x:=⟨_,List.getElem?_eq_getElem hi⟩
  have hw:=w_succ (i:=i) (by omega)
  have hg:=ZH3 (u:=Yp.u) (f:=ZGw) (w:=9) (K:=K) hx
  have hf:=ZH4 (u:=Yp.u) (f:=ZGw) (w:=9) (K:=K) hx
  have hlen:i<((mkL ZGw 9 K i++l.drop i).map Yp.u).length:=by simp [ZV]; omega
  have hk1:1≤K+9 * (i:Int):=by omega
  have hk2:K+9 * (i:Int)+9≤4611686018427387904:=by omega
  have hn:K+9 * ((i+1:Nat):Int)=K+9 * (i:Int)+9:=by omega
  generalize (mkL ZGw 9 K i++l.drop i).map Yp.u=r at hg hf hlen ho
  obtain ⟨K',hK⟩:∃ K',K'=K+9 * (i:Int):=⟨_,rfl⟩
  rw [←hK] at h1' hf hn hk1 hk2
  obtain ⟨c1,c2,⟨c3,c4,c5,c6⟩,c7,c8,c9⟩:=x
  simp only[Yp.u,ZGw] at hg hf
  have hgs:=ZFR r i hlen
  have hw0:IntKind.i64.wrap (K'+1)=K'+1:=by rw [w64 (by omega) (by omega)]
  have hw1:IntKind.i64.wrap (K'+1+1)=K'+1+1:=by rw [w64 (by omega) (by omega)]
  have hw2:IntKind.i64.wrap (K'+1+1+1)=K'+1+1+1:=by rw [w64 (by omega) (by omega)]
  have hw3:IntKind.i64.wrap (K'+1+1+1+1)=K'+1+1+1+1:=by rw [w64 (by omega) (by omega)]
  have hw4:IntKind.i64.wrap (K'+1+1+1+1+1)=K'+1+1+1+1+1:=by rw [w64 (by omega) (by omega)]
  have hw5:IntKind.i64.wrap (K'+1+1+1+1+1+1)=K'+1+1+1+1+1+1:=by rw [w64 (by omega) (by omega)]
  have hw6:IntKind.i64.wrap (K'+1+1+1+1+1+1+1)=K'+1+1+1+1+1+1+1:=by rw [w64 (by omega) (by omega)]
  have hw7:IntKind.i64.wrap (K'+1+1+1+1+1+1+1+1)=K'+1+1+1+1+1+1+1+1:=by rw [w64 (by omega) (by omega)]
  have hw8:IntKind.i64.wrap (K'+1+1+1+1+1+1+1+1+1)=K'+1+1+1+1+1+1+1+1+1:=by rw [w64 (by omega) (by omega)]
  have mt3:=ZZ (K'+1+1+1) (by omega) (by omega)
  simp only[↓xP,xT,rL,rB,rA,rS,h0,h5,h1',ho,hi,hg,hgs,List.set_set,hw,hf,hw0,hw1,hw2,hw3,hw4,hw5,hw6,hw7,hw8,mt3]
  exact ih (i+1) _ (by omega) ⟨by omega,by simp only[↓xP,xT,rL,rB,rA,rS,h0],by simp only[↓xP,xT,rL,rB,rA,rS],by simp only[↓xP,xT,rL,rB,rA,rS]; exact ZFs (by omega),by simp only[↓xP,xT,rL,rB,rA,rS]⟩
 ·have:i=l.length:=by omega
  subst this
  simp only[↓xP,xT,rL,rB,rA,rS,h0,h5,h1',ho,hi,List.drop_length,List.append_nil,List.length_map,ZV]
def mGo {α:Type} (w:α→Nat) (f:Int→α→α):Int→List α→List α
 | _,[]=>[]
 | K,x::xs=>f K x::mGo w f (K+w x) xs
def sumW {α:Type} (w:α→Nat):List α→Nat
 | []=>0
 | x::xs=>w x+sumW w xs
theorem ZH9 {α:Type} (w:α→Nat) (b:List α):∀ a:List α,sumW w (a++b)=sumW w a+sumW w b
 | []=>by simp [sumW]
 | x::xs=>by simp only[List.cons_append,sumW,ZH9 w b xs]; omega
theorem ZJ9 {α:Type} (w:α→Nat) (f:Int→α→α) (b:List α):∀ (K:Int) (a:List α),mGo w f K (a++b)=mGo w f K a++mGo w f (K+sumW w a) b
 | K,[]=>by simp [mGo,sumW]
 | K,x::xs=>by
  simp only[List.cons_append,mGo,sumW,ZJ9 w f b (K+w x) xs]
  rw [show K + (w x:Int) + (sumW w xs:Int)=K + ((w x+sumW w xs:Nat):Int) by omega]
theorem ZFq {α:Type} (w:α→Nat) (f:Int→α→α):∀ (K:Int) (l:List α),(mGo w f K l).length=l.length
 | _,[]=>rfl
 | K,x::xs=>by simp only[mGo,List.length_cons,ZFq w f _ xs]
theorem ZGZ {α:Type} (w:α→Nat) {l:List α} {i:Nat} {x:α} (h:l[i]?=some x):sumW w (l.take (i+1))=sumW w (l.take i)+w x:=by
 rw [List.take_add_one,h,Option.toList_some,ZH9]; simp [sumW]
theorem ZG0 {α:Type} (w:α→Nat) (l:List α) (i:Nat):sumW w (l.take i)≤sumW w l:=by
 have:=ZH9 w (l.drop i) (l.take i)
 rw [List.take_append_drop] at this; omega
theorem ZFU {α:Type} (c:Nat) (w:α→Nat):∀ l:List α,sumW (fun x=>c+w x) l=c*l.length+sumW w l
 | []=>by simp [sumW]
 | x::xs=>by simp only[sumW,List.length_cons,ZFU c w xs,Nat.mul_add]; omega
def mMid {α:Type} (w:α→Nat) (f:Int→α→α) (K:Int) (l:List α) (i:Nat):List α:=mGo w f K (l.take i)++l.drop i
theorem ZHX {α:Type} (w:α→Nat) (f:Int→α→α) (K:Int) (l:List α) (i:Nat):(mMid w f K l i).length=l.length:=by
 simp only[mMid,List.length_append,ZFq,List.length_take,List.length_drop]; omega
theorem ZHp {α:Type} (w:α→Nat) (f:Int→α→α) (K:Int) (l:List α):mMid w f K l 0=l:=by simp [mMid,mGo]
theorem ZHW {α:Type} (w:α→Nat) (f:Int→α→α) (K:Int) (l:List α):mMid w f K l l.length=mGo w f K l:=by simp [mMid]
theorem ZN7 {α:Type} (w:α→Nat) (f:Int→α→α) (K:Int) {l:List α} {i:Nat} {x:α} (h:l[i]?=some x):(mMid w f K l i)[i]?=some x:=by
 have hi:=(List.getElem?_eq_some_iff.1 h).1
 have e:(mGo w f K (l.take i)).length=i:=by rw [ZFq,List.length_take]; omega
 rw [mMid,List.getElem?_append_right (by omega),e,List.getElem?_drop]
 simpa using h
theorem ZHY {α β:Type} {u:α→β} (w:α→Nat) (f:Int→α→α) (K:Int) {l:List α} {i:Nat} {x:α} (h:l[i]?=some x):((mMid w f K l i).map u)[i]?=some (u x):=by rw [List.getElem?_map,ZN7 w f K h]; rfl
theorem ZHZ {α β:Type} {u:α→β} (w:α→Nat) (f:Int→α→α) (K:Int) {l:List α} {i:Nat} {x:α} (h:l[i]?=some x):((mMid w f K l i).map u).set i (u (f (K+sumW w (l.take i)) x))=(mMid w f K l (i+1)).map u:=by
 have hi:=(List.getElem?_eq_some_iff.1 h).1
 have e:(mGo w f K (l.take i)).length=i:=by rw [ZFq,List.length_take]; omega
 have e2:mGo w f K (l.take (i+1))=mGo w f K (l.take i)++[f (K+sumW w (l.take i)) x]:=by
  rw [List.take_add_one,h,Option.toList_some,ZJ9]; simp [mGo]
 rw [mMid,mMid,←List.map_set,List.set_append_right _ _ (by omega),e,Nat.sub_self,ZX h,List.set_cons_zero,e2,List.append_assoc]
 rfl
def Cost (g:Int→Int) (w:Nat):Prop:=∀ a,0≤a→a≤1048576→0≤g a→g a≤a∧9*g a+w≤9*a
theorem Cost.nil:Cost (fun a=>a) 0:=fun a _ _ _=>⟨Int.le_refl _,by show 9*a + ((0:Nat):Int)≤9*a; omega⟩
theorem Cost.off {n:Nat} {k:Int→Int} {w w':Nat} (hn:n≤1048576) (hw:w≤9*n+w') (hk:Cost k w'):Cost (fun a=>offZ a n k) w:=by
 intro a h0 h1 h2
 simp only[offZ] at h2 ⊢
 rw [w64 (by omega) (by omega)] at h2 ⊢
 split at h2
 ·omega
 ·rename_i hlt
  rw [if_neg hlt]
  obtain ⟨h3,h4⟩:=hk (a - n) (by omega) (by omega) h2
  omega
theorem Cost.chk {g k:Int→Int} {w w':Nat} (hg:Cost g w) (hk:Cost k w'):Cost (fun a=>chkZ (g a) k) (w+w'):=by
 intro a h0 h1 h2
 simp only[chkZ] at h2 ⊢
 split at h2
 ·omega
 ·rename_i hlt
  rw [if_neg hlt]
  obtain ⟨h3,h4⟩:=hg a h0 h1 (by omega)
  obtain ⟨h5,h6⟩:=hk (g a) (by omega) (by omega) h2
  omega
theorem Cost.all {α:Type} {g:α→Int→Int} {w:α→Nat}:∀ {l:List α},(∀ x,x∈l→Cost (g x) (w x))→Cost (allZ g l) (sumW w l)
 | [],_=>Cost.nil
 | x::xs,h=>(h x (List.mem_cons_self ..)).chk (Cost.all (l:=xs) fun y hy=>h y (List.mem_cons_of_mem _ hy))
theorem Cost.less {g:Int→Int} {w w':Nat} (h:Cost g w) (hw:w'≤w):Cost g w':=fun a h0 h1 h2=>by
 have:=h a h0 h1 h2
 omega
theorem Cost.none {α:Type} {g:α→Int→Int} {l:List α} (h:∀ x,x∈l→Cost (g x) 0):Cost (allZ g l) 0:=(Cost.all (w:=fun _=>0) h).less (by omega)
theorem Cost.key {n:Nat} (h:n≤1048576):Cost (fun a=>offZ a n fun a=>a) 0:=Cost.off h (by omega) Cost.nil
theorem ZOP {l:List Int} (h:ZHm l):Cost (ZI5 l) l.length:=Cost.off h.1 (by omega) Cost.nil
theorem ZOG {l:List Bool} (h:ZG6 l):Cost (ZIa l) l.length:=Cost.off h.1 (by omega) Cost.nil
theorem ZNs {l:List Yr} (h:ZF3 l):Cost (ZGT l) (3*l.length):=Cost.off h.1 (by omega) Cost.nil
theorem ZOI {l:List Yl} (h:ZGy l):Cost (ZHt l) (2*l.length):=Cost.off h.1 (by omega) (Cost.none fun x hx=>Cost.key (h.2 x hx).1)
theorem ZJV {c:Ye} (h:Ye.Small c):Cost (ZGc c) 0:=Cost.key h.1
theorem ZNW {e:Yh} (h:Yh.Small e):Cost (ZGS e) 0:=(ZJV h.1).chk Cost.nil
theorem ZOn {e:Ya} (h:Ya.Small e):Cost (ZGH e) 0:=(ZNW h.1).chk Cost.nil
theorem ZKY {x:Yj} (h:Yj.Small x):Cost (ZGk x) 0:=Cost.off h.1 (by omega) (Cost.key h.2.1)
theorem ZLX {l:List Yh} (h:ZGf l):Cost (ZGL l) (6*l.length):=Cost.off h.1 (by omega) (Cost.none fun x hx=>ZNW (h.2 x hx))
theorem ZNT {l:List Ya} (h:ZGn l):Cost (ZGI l) (7*l.length):=Cost.off h.1 (by omega) (Cost.none fun x hx=>ZOn (h.2 x hx))
theorem ZOo {l:List Yq} (h:ZGQ l):Cost (ZG3 l) (3*l.length):=Cost.off h.1 (by omega) (Cost.none fun x hx=>(ZKY (h.2 x hx).1).chk Cost.nil)
theorem ZNZ {l:List Yp} (h:ZGp l):Cost (ZGM l) (9*l.length):=Cost.off h.1 (by omega) (Cost.none fun x hx=>(ZJV (h.2 x hx).1).chk Cost.nil)
theorem ZOJ {x:Yt} (h:Yt.Small x):Cost (ZIe x) (2*x.pairs.length+3*x.known.length):=((ZKY h.1).chk ((ZOI h.2.1).chk ((ZNs h.2.2.1).chk (Cost.key h.2.2.2.1)))).less (by omega)
theorem ZLe {x:Yf} (h:Yf.Small x):Cost (ZGK x) x.members.length:=((ZOP h.1).chk Cost.nil).less (by omega)
def cRep (r:Yo):Nat:=r.conf.members.length+6*r.log.length
def cMsg (m:Yk):Nat:=m.conf.members.length+6*m.log.length
def wRep (r:Yo):Nat:=3+cRep r
def wMsg (m:Yk):Nat:=5+cMsg m
theorem ZNY {r:Yo} (h:Yo.Small r):Cost (ZGe r) (cRep r):=((ZLe h.1).chk ((ZLX h.2.1).chk Cost.nil)).less (by simp only[cRep]; omega)
theorem ZNX {r:Yk} (h:Yk.Small r):Cost (ZGd r) (cMsg r):=((ZLe h.1).chk ((ZLX h.2.1).chk Cost.nil)).less (by simp only[cMsg]; omega)
theorem ZNr {l:List Yo} (h:ZF2 l):Cost (ZGm l) (sumW wRep l):=Cost.off h.1 (by rw [show wRep=fun r=>3+cRep r from rfl,ZFU]; omega) (Cost.all fun x hx=>ZNY (h.2 x hx))
theorem ZNq {l:List Yk} (h:ZFy l):Cost (ZGl l) (sumW wMsg l):=Cost.off h.1 (by rw [show wMsg=fun r=>5+cMsg r from rfl,ZFU]; omega) (Cost.all fun x hx=>ZNX (h.2 x hx))
def cChn (c:Yc):Nat:=2*c.base.pairs.length+3*c.base.known.length+c.conf.members.length+sumW wRep c.nodes+c.up.length+sumW wMsg c.bag+7*c.answers.length
def ZFd (s:Ys):Nat:=7+cChn s.group
theorem ZOH {c:Yc} (h:Yc.Small c):Cost (ZIb c) (cChn c):=((ZOJ h.1).chk ((ZLe h.2.1).chk ((ZNr h.2.2.1).chk ((ZOG h.2.2.2.1).chk ((ZNq h.2.2.2.2.1).chk ((ZNT h.2.2.2.2.2.1).chk Cost.nil)))))).less (by simp only[cChn]; omega)
theorem ZOp {l:List Ys} (h:ZGR l):Cost (ZG4 l) (sumW ZFd l):=Cost.off h.1 (by rw [show ZFd=fun s=>7+cChn s.group from rfl,ZFU]; omega) (Cost.all (w:=fun s:Ys=>cChn s.group) fun x hx=>((ZOH (h.2 x hx).1).chk Cost.nil).less (by omega))
def cCal (c:Yb):Nat:=3*c.cache.length
def wCal (c:Yb):Nat:=7+cCal c
theorem ZNU {l:List Yb} (h:ZGo l):Cost (ZGJ l) (sumW wCal l):=Cost.off h.1 (by rw [show wCal=fun c=>7+cCal c from rfl,ZFU]; omega) (Cost.all (w:=cCal) fun x hx=>((ZOo (h.2 x hx).1).chk ((ZJV (h.2 x hx).2.1).chk Cost.nil)).less (by simp only[cCal]; omega))
theorem ZNV {x:Yd} (h:Yd.Small x):Cost (ZHF x) (sumW ZFd x.shards+sumW wCal x.clients+9*x.results.length):=((ZOp h.1).chk ((ZNU h.2.1).chk ((ZNZ h.2.2.1).chk ((Cost.key h.2.2.2.1.1).chk Cost.nil)))).less (by omega)
theorem ZI1:(∀ l:List Int,Zbi (l.map iU)=true)∧(∀ l:List Bool,Zbi (l.map bU)=true)∧(∀ l:List Yh,Zbi (l.map Yh.u)=true)∧(∀ l:List Yl,Zbi (l.map Yl.u)=true)∧(∀ l:List Yr,Zbi (l.map Yr.u)=true)∧(∀ l:List Ya,Zbi (l.map Ya.u)=true)∧(∀ l:List Yq,Zbi (l.map Yq.u)=true):=
 ⟨Zjd fun _=>rfl,Zjd fun _=>rfl,Zjd fun _=>rfl,Zjd fun _=>rfl,Zjd fun _=>rfl,Zjd fun _=>rfl,Zjd fun _=>rfl⟩
theorem ZIg:(∀ i n,vlen (.t (.sc (.down i n)))=some (DI (n:Int)))∧(∀ i a b n,vlen (.t (.sc (.sub i a b n)))=some (DI (n:Int))):=⟨fun _ _=>rfl,fun _ _ _ _=>rfl⟩
theorem ZHs {rows:List (List U)} {i c:Nat} {x:U} {row:List U} (h:i<rows.length):Zal (rows.set i row) i c x=rows.set i (row.set c x):=by
 rw [ZhY (ZFR rows i h row),List.set_set]
def mRep (K:Int) (r:Yo):Yo:=⟨⟨K,mkL ZH2 1 (K+1) r.conf.members.length,decide ((K+1+1 * (r.conf.members.length:Int)).tmod 3=0)⟩,decide ((K+1+1 * (r.conf.members.length:Int)+1).tmod 3=0),mkL ZGN 6 (K+1+1 * (r.conf.members.length:Int)+1+1) r.log.length⟩
theorem ZJL (l:List Yo) (K:Int) (h1:1≤K) (h2:K+sumW wRep l≤4611686018427387904):EE F 155 [.sc (.down (.par 0) l.length),I K] [.deep 5 (l.map Yo.u)]=some ⟨[I (K+sumW wRep l)],[],[.deep 5 ((mGo wRep mRep K l).map Yo.u)]⟩:=by
 have hln:3*l.length≤sumW wRep l:=by rw [show wRep=fun r=>3+cRep r from rfl,ZFU]; omega
 refine (EE_run (fn:=i155) (by kernel_rfl) rfl).trans ?_
 simp only[i155,b155,ZdN,ZcQ,List.length_cons,List.length_nil]
 simp only[↓xP,xT,rL,rB,rA,rS]
 refine (Zjc (fun (i:Nat) st=>i≤l.length∧st.s 0=.t (.sc (.down (.par 0) l.length))∧st.s 5=DI i∧st.s 1=DI (K+sumW wRep (l.take i))∧st.o (.par 0)=some (.deep 5 ((mMid wRep mRep K l i).map Yo.u))) (fun i=>l.length - i) (fun i=>some ⟨[I (K+sumW wRep l)],[],[.deep 5 ((mGo wRep mRep K l).map Yo.u)]⟩) ?_ 0 ⟨by omega,by simp only[↓xP,xT,rL,rB,rA,rS],by simp only[↓xP,xT,rL,rB,rA,rS]; rfl,by simp only[↓xP,xT,rL,rB,rA,rS,List.take_zero,sumW]; exact ZFs (by omega),by simp only[↓xP,xT,rL,rB,rA,rS,ZHp]⟩).trans rfl
 rintro i st ⟨hle,h0,h5,h1',ho⟩ ih
 by_cases hi:i<l.length
 ·obtain ⟨⟨⟨e,ms,f⟩,rd,lg⟩,hx⟩:∃ x,l[i]?=some x:=⟨_,List.getElem?_eq_getElem hi⟩
  have hw:=w_succ (i:=i) (by omega)
  have hg:=ZHY (u:=Yo.u) wRep mRep K hx
  have hf:=ZHZ (u:=Yo.u) wRep mRep K hx
  have hlen:i<((mMid wRep mRep K l i).map Yo.u).length:=by rw [List.length_map,ZHX]; omega
  have hst:=ZGZ wRep hx
  have hsl:=ZG0 wRep l (i+1)
  simp only[wRep,cRep] at hst
  have hk0:1≤K+sumW wRep (l.take i):=by omega
  generalize (mMid wRep mRep K l i).map Yo.u=r at hg hf hlen ho
  obtain ⟨K',hK⟩:∃ K',K'=K+sumW wRep (l.take i):=⟨_,rfl⟩
  rw [←hK] at h1' hf
  have hK2:K+sumW wRep (l.take (i+1))=K'+1+1 * (ms.length:Int)+1+1+6 * (lg.length:Int):=by omega
  have hK3:K'+1+1 * (ms.length:Int)+1+1+6 * (lg.length:Int)≤4611686018427387904:=by omega
  simp only[Yo.u,mRep] at hg hf
  have hgs:=ZFR r i hlen
  have hw0:IntKind.i64.wrap (K'+1)=K'+1:=by rw [w64 (by omega) (by omega)]
  have mk1:=ZH0 ms (K'+1) (by omega) (by omega)
  have hw2:IntKind.i64.wrap (K'+1+1 * (ms.length:Int)+1)=K'+1+1 * (ms.length:Int)+1:=by rw [w64 (by omega) (by omega)]
  have hw3:IntKind.i64.wrap (K'+1+1 * (ms.length:Int)+1+1)=K'+1+1 * (ms.length:Int)+1+1:=by rw [w64 (by omega) (by omega)]
  have mk4:=ZIr lg (K'+1+1 * (ms.length:Int)+1+1) (by omega) (by omega)
  have h3_0:¬(3:Int)=0:=by omega
  simp only[↓xP,xT,rL,rB,rA,rS,h0,h5,h1',ho,hi,hg,hgs,List.set_set,List.set_cons_succ,List.set_cons_zero,ZHs hlen,ZIg,hw,hw0,hw2,hw3,mk1,mk4,h3_0,ZI1,List.length_map,ZV,hf]
  exact ih (i+1) _ (by omega) ⟨by omega,by simp only[↓xP,xT,rL,rB,rA,rS,h0],by simp only[↓xP,xT,rL,rB,rA,rS],by simp only[↓xP,xT,rL,rB,rA,rS]; exact ZFs (by omega),by simp only[↓xP,xT,rL,rB,rA,rS]⟩
 ·have:i=l.length:=by omega
  subst this
  rw [ZHW] at ho
  simp only[↓xP,xT,rL,rB,rA,rS,h0,h5,h1',ho,hi,ZIg,List.take_length,List.length_map,ZFq]
def mMsg (K:Int):Yk→Yk
 | ⟨kd,tt,eo,⟨ep,ms,fr⟩,lg⟩=>⟨K,K+1,K+1+1,⟨K+1+1+1,mkL ZH2 1 (K+1+1+1+1) ms.length,decide ((K+1+1+1+1+1 * (ms.length:Int)).tmod 3=0)⟩,mkL ZGN 6 (K+1+1+1+1+1 * (ms.length:Int)+1) lg.length⟩
theorem ZJK (l:List Yk) (K:Int) (h1:1≤K) (h2:K+sumW wMsg l≤4611686018427387904):EE F 157 [.sc (.down (.par 0) l.length),I K] [.deep 7 (l.map Yk.u)]=some ⟨[I (K+sumW wMsg l)],[],[.deep 7 ((mGo wMsg mMsg K l).map Yk.u)]⟩:=by
 have hln:5*l.length≤sumW wMsg l:=by rw [show wMsg=fun x=>5+cMsg x from rfl,ZFU]; omega
 refine (EE_run (fn:=i157) (by kernel_rfl) rfl).trans ?_
 simp only[i157,b157,ZdN,ZcQ,List.length_cons,List.length_nil]
 simp only[↓xP,xT,rL,rB,rA,rS]
 refine (Zjc (fun (i:Nat) st=>i≤l.length∧st.s 0=.t (.sc (.down (.par 0) l.length))∧st.s 5=DI i∧st.s 1=DI (K+sumW wMsg (l.take i))∧st.o (.par 0)=some (.deep 7 ((mMid wMsg mMsg K l i).map Yk.u))) (fun i=>l.length - i) (fun i=>some ⟨[I (K+sumW wMsg l)],[],[.deep 7 ((mGo wMsg mMsg K l).map Yk.u)]⟩) ?_ 0 ⟨by omega,by simp only[↓xP,xT,rL,rB,rA,rS],by simp only[↓xP,xT,rL,rB,rA,rS]; rfl,by simp only[↓xP,xT,rL,rB,rA,rS,List.take_zero,sumW]; exact ZFs (by omega),by simp only[↓xP,xT,rL,rB,rA,rS,ZHp]⟩).trans rfl
 rintro i st ⟨hle,h0,h5,h1',ho⟩ ih
 by_cases hi:i<l.length
 ·obtain ⟨⟨kd,tt,eo,⟨ep,ms,fr⟩,lg⟩,hx⟩:∃ x,l[i]?=some x:=⟨_,List.getElem?_eq_getElem hi⟩
  have hw:=w_succ (i:=i) (by omega)
  have hg:=ZHY (u:=Yk.u) wMsg mMsg K hx
  have hf:=ZHZ (u:=Yk.u) wMsg mMsg K hx
  have hlen:i<((mMid wMsg mMsg K l i).map Yk.u).length:=by rw [List.length_map,ZHX]; omega
  have hst:=ZGZ wMsg hx
  have hsl:=ZG0 wMsg l (i+1)
  simp only[wMsg,cMsg] at hst
  have hk0:1≤K+sumW wMsg (l.take i):=by omega
  generalize (mMid wMsg mMsg K l i).map Yk.u=r at hg hf hlen ho
  obtain ⟨K',hK⟩:∃ K',K'=K+sumW wMsg (l.take i):=⟨_,rfl⟩
  rw [←hK] at h1' hf
  have hK2:K+sumW wMsg (l.take (i+1))=K'+1+1+1+1+1 * (ms.length:Int)+1+6 * (lg.length:Int):=by omega
  have hK3:K'+1+1+1+1+1 * (ms.length:Int)+1+6 * (lg.length:Int)≤4611686018427387904:=by omega
  simp only[Yk.u,mMsg] at hg hf
  have hgs:=ZFR r i hlen
  have hw0:IntKind.i64.wrap (K'+1)=K'+1:=by rw [w64 (by omega) (by omega)]
  have hw1:IntKind.i64.wrap (K'+1+1)=K'+1+1:=by rw [w64 (by omega) (by omega)]
  have hw2:IntKind.i64.wrap (K'+1+1+1)=K'+1+1+1:=by rw [w64 (by omega) (by omega)]
  have hw3:IntKind.i64.wrap (K'+1+1+1+1)=K'+1+1+1+1:=by rw [w64 (by omega) (by omega)]
  have mk4:=ZH0 ms (K'+1+1+1+1) (by omega) (by omega)
  have hw5:IntKind.i64.wrap (K'+1+1+1+1+1 * (ms.length:Int)+1)=K'+1+1+1+1+1 * (ms.length:Int)+1:=by rw [w64 (by omega) (by omega)]
  have mk6:=ZIr lg (K'+1+1+1+1+1 * (ms.length:Int)+1) (by omega) (by omega)
  have h3_0:¬(3:Int)=0:=by omega
  simp only[↓xP,xT,rL,rB,rA,rS,h0,h5,h1',ho,hi,hg,hgs,List.set_set,List.set_cons_succ,List.set_cons_zero,ZHs hlen,ZIg,hw,hw0,hw1,hw2,hw3,mk4,hw5,mk6,h3_0,ZI1,List.length_map,ZV,ZFq,hf]
  exact ih (i+1) _ (by omega) ⟨by omega,by simp only[↓xP,xT,rL,rB,rA,rS,h0],by simp only[↓xP,xT,rL,rB,rA,rS],by simp only[↓xP,xT,rL,rB,rA,rS]; exact ZFs (by omega),by simp only[↓xP,xT,rL,rB,rA,rS]⟩
 ·have:i=l.length:=by omega
  subst this
  rw [ZHW] at ho
  simp only[↓xP,xT,rL,rB,rA,rS,h0,h5,h1',ho,hi,ZIg,List.take_length,List.length_map,ZFq]
def mCal (K:Int):Yb→Yb
 | ⟨cch,sq,bz,⟨ck,ckey,cv,co⟩,cd⟩=>⟨mkL ZGX 3 (K) cch.length,K+3 * (cch.length:Int),decide ((K+3 * (cch.length:Int)+1).tmod 3=0),⟨K+3 * (cch.length:Int)+1+1,ZHa (K+3 * (cch.length:Int)+1+1+1),K+3 * (cch.length:Int)+1+1+1+1,K+3 * (cch.length:Int)+1+1+1+1+1⟩,K+3 * (cch.length:Int)+1+1+1+1+1+1⟩
theorem ZKb (l:List Yb) (K:Int) (h1:1≤K) (h2:K+sumW wCal l≤4611686018427387904):EE F 78 [.sc (.down (.par 0) l.length),I K] [.deep 8 (l.map Yb.u)]=some ⟨[I (K+sumW wCal l)],[],[.deep 8 ((mGo wCal mCal K l).map Yb.u)]⟩:=by
 have hln:7*l.length≤sumW wCal l:=by rw [show wCal=fun x=>7+cCal x from rfl,ZFU]; omega
 refine (EE_run (fn:=i78) (by kernel_rfl) rfl).trans ?_
 simp only[i78,b78,ZdN,ZcQ,List.length_cons,List.length_nil]
 simp only[↓xP,xT,rL,rB,rA,rS]
 refine (Zjc (fun (i:Nat) st=>i≤l.length∧st.s 0=.t (.sc (.down (.par 0) l.length))∧st.s 5=DI i∧st.s 1=DI (K+sumW wCal (l.take i))∧st.o (.par 0)=some (.deep 8 ((mMid wCal mCal K l i).map Yb.u))) (fun i=>l.length - i) (fun i=>some ⟨[I (K+sumW wCal l)],[],[.deep 8 ((mGo wCal mCal K l).map Yb.u)]⟩) ?_ 0 ⟨by omega,by simp only[↓xP,xT,rL,rB,rA,rS],by simp only[↓xP,xT,rL,rB,rA,rS]; rfl,by simp only[↓xP,xT,rL,rB,rA,rS,List.take_zero,sumW]; exact ZFs (by omega),by simp only[↓xP,xT,rL,rB,rA,rS,ZHp]⟩).trans rfl
 rintro i st ⟨hle,h0,h5,h1',ho⟩ ih
 by_cases hi:i<l.length
 ·obtain ⟨⟨cch,sq,bz,⟨ck,ckey,cv,co⟩,cd⟩,hx⟩:∃ x,l[i]?=some x:=⟨_,List.getElem?_eq_getElem hi⟩
  have hw:=w_succ (i:=i) (by omega)
  have hg:=ZHY (u:=Yb.u) wCal mCal K hx
  have hf:=ZHZ (u:=Yb.u) wCal mCal K hx
  have hlen:i<((mMid wCal mCal K l i).map Yb.u).length:=by rw [List.length_map,ZHX]; omega
  have hst:=ZGZ wCal hx
  have hsl:=ZG0 wCal l (i+1)
  simp only[wCal,cCal] at hst
  have hk0:1≤K+sumW wCal (l.take i):=by omega
  generalize (mMid wCal mCal K l i).map Yb.u=r at hg hf hlen ho
  obtain ⟨K',hK⟩:∃ K',K'=K+sumW wCal (l.take i):=⟨_,rfl⟩
  rw [←hK] at h1' hf
  have hK2:K+sumW wCal (l.take (i+1))=K'+3 * (cch.length:Int)+1+1+1+1+1+1+1:=by omega
  have hK3:K'+3 * (cch.length:Int)+1+1+1+1+1+1+1≤4611686018427387904:=by omega
  simp only[Yb.u,mCal] at hg hf
  have hgs:=ZFR r i hlen
  have hks:=fun c x=>ZhY (c:=c) (x:=x) hg
  have mk0:=ZKD cch (K') (by omega) (by omega)
  have hw1:IntKind.i64.wrap (K'+3 * (cch.length:Int)+1)=K'+3 * (cch.length:Int)+1:=by rw [w64 (by omega) (by omega)]
  have hw2:IntKind.i64.wrap (K'+3 * (cch.length:Int)+1+1)=K'+3 * (cch.length:Int)+1+1:=by rw [w64 (by omega) (by omega)]
  have hw3:IntKind.i64.wrap (K'+3 * (cch.length:Int)+1+1+1)=K'+3 * (cch.length:Int)+1+1+1:=by rw [w64 (by omega) (by omega)]
  have hw4:IntKind.i64.wrap (K'+3 * (cch.length:Int)+1+1+1+1)=K'+3 * (cch.length:Int)+1+1+1+1:=by rw [w64 (by omega) (by omega)]
  have mt4:=ZZ (K'+3 * (cch.length:Int)+1+1+1) (by omega) (by omega)
  have hw5:IntKind.i64.wrap (K'+3 * (cch.length:Int)+1+1+1+1+1)=K'+3 * (cch.length:Int)+1+1+1+1+1:=by rw [w64 (by omega) (by omega)]
  have hw6:IntKind.i64.wrap (K'+3 * (cch.length:Int)+1+1+1+1+1+1)=K'+3 * (cch.length:Int)+1+1+1+1+1+1:=by rw [w64 (by omega) (by omega)]
  have hw7:IntKind.i64.wrap (K'+3 * (cch.length:Int)+1+1+1+1+1+1+1)=K'+3 * (cch.length:Int)+1+1+1+1+1+1+1:=by rw [w64 (by omega) (by omega)]
  have h3_0:¬(3:Int)=0:=by omega
  simp only[↓xP,xT,rL,rB,rA,rS,h0,h5,h1',ho,hi,hg,hgs,List.set_set,List.set_cons_succ,List.set_cons_zero,ZHs hlen,ZIg,hw,mk0,hw1,hw2,hw3,hw4,mt4,hw5,hw6,hw7,h3_0,hks,ZI1,List.length_map,ZV,ZFq,hf]
  exact ih (i+1) _ (by omega) ⟨by omega,by simp only[↓xP,xT,rL,rB,rA,rS,h0],by simp only[↓xP,xT,rL,rB,rA,rS],by simp only[↓xP,xT,rL,rB,rA,rS]; exact ZFs (by omega),by simp only[↓xP,xT,rL,rB,rA,rS]⟩
 ·have:i=l.length:=by omega
  subst this
  rw [ZHW] at ho
  simp only[↓xP,xT,rL,rB,rA,rS,h0,h5,h1',ho,hi,ZIg,List.take_length,List.length_map,ZFq]
def mShd (K:Int):Ys→Ys
 | ⟨lv,⟨⟨⟨lo,up⟩,prs,kn,sld,cut⟩,⟨ep,ms,fr⟩,nds,ups,bag,ans⟩⟩=>⟨decide ((K).tmod 3=0),⟨⟨⟨ZHa (K+1),ZHa (K+1+1)⟩,mkL ZGa 2 (K+1+1+1) prs.length,mkL ZFY 3 (K+1+1+1+2 * (prs.length:Int)) kn.length,decide ((K+1+1+1+2 * (prs.length:Int)+3 * (kn.length:Int)).tmod 3=0),ZHa (K+1+1+1+2 * (prs.length:Int)+3 * (kn.length:Int)+1)⟩,⟨K+1+1+1+2 * (prs.length:Int)+3 * (kn.length:Int)+1+1,mkL ZH2 1 (K+1+1+1+2 * (prs.length:Int)+3 * (kn.length:Int)+1+1+1) ms.length,decide ((K+1+1+1+2 * (prs.length:Int)+3 * (kn.length:Int)+1+1+1+1 * (ms.length:Int)).tmod 3=0)⟩,mGo wRep mRep (K+1+1+1+2 * (prs.length:Int)+3 * (kn.length:Int)+1+1+1+1 * (ms.length:Int)+1) nds,mkL ZHC 1 (K+1+1+1+2 * (prs.length:Int)+3 * (kn.length:Int)+1+1+1+1 * (ms.length:Int)+1 + (sumW wRep nds:Int)) ups.length,mGo wMsg mMsg (K+1+1+1+2 * (prs.length:Int)+3 * (kn.length:Int)+1+1+1+1 * (ms.length:Int)+1 + (sumW wRep nds:Int)+1 * (ups.length:Int)) bag,mkL ZGv 7 (K+1+1+1+2 * (prs.length:Int)+3 * (kn.length:Int)+1+1+1+1 * (ms.length:Int)+1 + (sumW wRep nds:Int)+1 * (ups.length:Int) + (sumW wMsg bag:Int)) ans.length⟩⟩
theorem ZKE (l:List Ys) (K:Int) (h1:1≤K) (h2:K+sumW ZFd l≤4611686018427387904):EE F 77 [.sc (.down (.par 0) l.length),I K] [.deep 14 (l.map Ys.u)]=some ⟨[I (K+sumW ZFd l)],[],[.deep 14 ((mGo ZFd mShd K l).map Ys.u)]⟩:=by
 have hln:7*l.length≤sumW ZFd l:=by rw [show ZFd=fun x=>7+cChn x.group from rfl,ZFU]; omega
 refine (EE_run (fn:=i77) (by kernel_rfl) rfl).trans ?_
 simp only[i77,b77,ZdN,ZcQ,List.length_cons,List.length_nil]
 simp only[↓xP,xT,rL,rB,rA,rS]
 refine (Zjc (fun (i:Nat) st=>i≤l.length∧st.s 0=.t (.sc (.down (.par 0) l.length))∧st.s 5=DI i∧st.s 1=DI (K+sumW ZFd (l.take i))∧st.o (.par 0)=some (.deep 14 ((mMid ZFd mShd K l i).map Ys.u))) (fun i=>l.length - i) (fun i=>some ⟨[I (K+sumW ZFd l)],[],[.deep 14 ((mGo ZFd mShd K l).map Ys.u)]⟩) ?_ 0 ⟨by omega,by simp only[↓xP,xT,rL,rB,rA,rS],by simp only[↓xP,xT,rL,rB,rA,rS]; rfl,by simp only[↓xP,xT,rL,rB,rA,rS,List.take_zero,sumW]; exact ZFs (by omega),by simp only[↓xP,xT,rL,rB,rA,rS,ZHp]⟩).trans rfl
 rintro i st ⟨hle,h0,h5,h1',ho⟩ ih
 by_cases hi:i<l.length
 ·obtain ⟨⟨lv,⟨⟨⟨lo,up⟩,prs,kn,sld,cut⟩,⟨ep,ms,fr⟩,nds,ups,bag,ans⟩⟩,hx⟩:∃ x,l[i]?=some x:=⟨_,List.getElem?_eq_getElem hi⟩
  have hw:=w_succ (i:=i) (by omega)
  have hg:=ZHY (u:=Ys.u) ZFd mShd K hx
  have hf:=ZHZ (u:=Ys.u) ZFd mShd K hx
  have hlen:i<((mMid ZFd mShd K l i).map Ys.u).length:=by rw [List.length_map,ZHX]; omega
  have hst:=ZGZ ZFd hx
  have hsl:=ZG0 ZFd l (i+1)
  simp only[ZFd,cChn] at hst
  have hk0:1≤K+sumW ZFd (l.take i):=by omega
  generalize (mMid ZFd mShd K l i).map Ys.u=r at hg hf hlen ho
  obtain ⟨K',hK⟩:∃ K',K'=K+sumW ZFd (l.take i):=⟨_,rfl⟩
  rw [←hK] at h1' hf
  have hK2:K+sumW ZFd (l.take (i+1))=K'+1+1+1+2 * (prs.length:Int)+3 * (kn.length:Int)+1+1+1+1 * (ms.length:Int)+1 + (sumW wRep nds:Int)+1 * (ups.length:Int) + (sumW wMsg bag:Int)+7 * (ans.length:Int):=by omega
  have hK3:K'+1+1+1+2 * (prs.length:Int)+3 * (kn.length:Int)+1+1+1+1 * (ms.length:Int)+1 + (sumW wRep nds:Int)+1 * (ups.length:Int) + (sumW wMsg bag:Int)+7 * (ans.length:Int)≤4611686018427387904:=by omega
  simp only[Ys.u,mShd] at hg hf
  have hgs:=ZFR r i hlen
  have hw0:IntKind.i64.wrap (K'+1)=K'+1:=by rw [w64 (by omega) (by omega)]
  have hw1:IntKind.i64.wrap (K'+1+1)=K'+1+1:=by rw [w64 (by omega) (by omega)]
  have mt1:=ZZ (K'+1) (by omega) (by omega)
  have hw2:IntKind.i64.wrap (K'+1+1+1)=K'+1+1+1:=by rw [w64 (by omega) (by omega)]
  have mt2:=ZZ (K'+1+1) (by omega) (by omega)
  have mk3:=ZIT prs (K'+1+1+1) (by omega) (by omega)
  have mk4:=ZJM kn (K'+1+1+1+2 * (prs.length:Int)) (by omega) (by omega)
  have hw5:IntKind.i64.wrap (K'+1+1+1+2 * (prs.length:Int)+3 * (kn.length:Int)+1)=K'+1+1+1+2 * (prs.length:Int)+3 * (kn.length:Int)+1:=by rw [w64 (by omega) (by omega)]
  have hw6:IntKind.i64.wrap (K'+1+1+1+2 * (prs.length:Int)+3 * (kn.length:Int)+1+1)=K'+1+1+1+2 * (prs.length:Int)+3 * (kn.length:Int)+1+1:=by rw [w64 (by omega) (by omega)]
  have mt6:=ZZ (K'+1+1+1+2 * (prs.length:Int)+3 * (kn.length:Int)+1) (by omega) (by omega)
  have hw7:IntKind.i64.wrap (K'+1+1+1+2 * (prs.length:Int)+3 * (kn.length:Int)+1+1+1)=K'+1+1+1+2 * (prs.length:Int)+3 * (kn.length:Int)+1+1+1:=by rw [w64 (by omega) (by omega)]
  have mk8:=ZH0 ms (K'+1+1+1+2 * (prs.length:Int)+3 * (kn.length:Int)+1+1+1) (by omega) (by omega)
  have hw9:IntKind.i64.wrap (K'+1+1+1+2 * (prs.length:Int)+3 * (kn.length:Int)+1+1+1+1 * (ms.length:Int)+1)=K'+1+1+1+2 * (prs.length:Int)+3 * (kn.length:Int)+1+1+1+1 * (ms.length:Int)+1:=by rw [w64 (by omega) (by omega)]
  have mk10:=ZJL nds (K'+1+1+1+2 * (prs.length:Int)+3 * (kn.length:Int)+1+1+1+1 * (ms.length:Int)+1) (by omega) (by omega)
  have mk11:=ZLq ups (K'+1+1+1+2 * (prs.length:Int)+3 * (kn.length:Int)+1+1+1+1 * (ms.length:Int)+1 + (sumW wRep nds:Int)) (by omega) (by omega)
  have mk12:=ZJK bag (K'+1+1+1+2 * (prs.length:Int)+3 * (kn.length:Int)+1+1+1+1 * (ms.length:Int)+1 + (sumW wRep nds:Int)+1 * (ups.length:Int)) (by omega) (by omega)
  have mk13:=ZKa ans (K'+1+1+1+2 * (prs.length:Int)+3 * (kn.length:Int)+1+1+1+1 * (ms.length:Int)+1 + (sumW wRep nds:Int)+1 * (ups.length:Int) + (sumW wMsg bag:Int)) (by omega) (by omega)
  have h3_0:¬(3:Int)=0:=by omega
  simp only[↓xP,xT,rL,rB,rA,rS,h0,h5,h1',ho,hi,hg,hgs,List.set_set,List.set_cons_succ,List.set_cons_zero,ZHs hlen,ZIg,hw,hw0,hw1,mt1,hw2,mt2,mk3,mk4,hw5,hw6,mt6,hw7,mk8,hw9,mk10,mk11,mk12,mk13,h3_0,ZI1,List.length_map,ZV,ZFq,hf]
  exact ih (i+1) _ (by omega) ⟨by omega,by simp only[↓xP,xT,rL,rB,rA,rS,h0],by simp only[↓xP,xT,rL,rB,rA,rS],by simp only[↓xP,xT,rL,rB,rA,rS]; exact ZFs (by omega),by simp only[↓xP,xT,rL,rB,rA,rS]⟩
 ·have:i=l.length:=by omega
  subst this
  rw [ZHW] at ho
  simp only[↓xP,xT,rL,rB,rA,rS,h0,h5,h1',ho,hi,ZIg,List.take_length,List.length_map,ZFq]
theorem ZOg:∀ z r z' r',ZaJ (some (.deep z r)) (.deep z' r')=decide (r.length≤r'.length):=fun _ _ _ _=>rfl
theorem ZKc (c0:List Ys) (c1:List Yb) (c2:List Yp) (c3 c4 c5:Int) (c6:Str) (c7 c8 c9 c10 c11:Int) (K:Int) (h1:1≤K) (h2:K+sumW ZFd c0+sumW wCal c1+9*c2.length≤4611686018427387904):EE F 21 [.ag [.down (.par 0) c0.length,.down (.par 1) c1.length,.own (.par 2) c2.length,.u (.int .i64 c3),.u (.int .i64 c4),.u (.int .i64 c5),.u (.str c6),.u (.int .i64 c7),.u (.int .i64 c8),.u (.int .i64 c9),.u (.int .i64 c10),.u (.int .i64 c11)],I K] [.deep 14 (c0.map Ys.u),.deep 8 (c1.map Yb.u),.row 9 (c2.map Yp.u)] =
  some ⟨[I (K+sumW ZFd c0+sumW wCal c1+9*c2.length)],[],[.deep 14 ((mGo ZFd mShd K c0).map Ys.u),.deep 8 ((mGo wCal mCal (K+sumW ZFd c0) c1).map Yb.u),.row 9 ((mkL ZGw 9 (K+sumW ZFd c0+sumW wCal c1) c2.length).map Yp.u)]⟩:=by
 refine (EE_run (fn:=i21) (by kernel_rfl) rfl).trans ?_
 have m1:=ZKE c0 K h1 (by omega)
 have m2:=ZKb c1 (K+sumW ZFd c0) (by omega) (by omega)
 have m3:=ZKe c2 (K+sumW ZFd c0+sumW wCal c1) (by omega) (by omega)
 simp only[i21,b21,ZdN,ZcQ,List.length_cons,List.length_nil]
 simp only[↓xP,xT,rL,rB,rA,rS,m1,m2,m3,ZOg,Nat.le_refl,List.length_map,ZFq,ZV]
def insS (x:Yr):List Yr→List Yr
 | []=>[x]
 | y::l=>if y.client<x.client then y::insS x l else if y.client=x.client then x::l else x::y::l
def ZFF (c:Int):List Yr→Yr
 | []=>⟨0,0,0⟩
 | y::l=>if y.client=c then y else ZFF c l
def ZFC (l:List Yr) (x:Yr):List Yr×Bool:=if (ZF l&&ZF [x])=true then (if x.seq≤(ZFF x.client l).seq then (l,false) else (insS x l,true)) else ([],false)
def ZFx (p:List Yr×Bool):Option Ret:=some ⟨[.sc (.own (.par 0) p.1.length),B p.2],[.row 3 (p.1.map Yr.u)],[]⟩
theorem ZIl {l:List Yr} (h:ZF l=true) {i:Nat} {p:Yr} (hp:l[i]?=some p):inR p.client 0 3=true∧inR p.seq 1 999=true∧inR p.reply (-2) 999=true∧∀ q,0<i→l[i - 1]?=some q→q.client<p.client:=by
 have:=(ZFE (n:=l.length) (p:=Z3 l) _ 0 rfl).1 h i (by omega) (List.getElem?_eq_some_iff.1 hp).1
 simp only[Z3,hp,Bool.and_eq_true,Bool.or_eq_true,decide_eq_true_eq] at this
 refine ⟨this.1.1.1,this.1.1.2,this.1.2,fun q h0 hq=>?_⟩
 rw [hq] at this
 rcases this.2 with h|h
 ·omega
 ·simpa using h
theorem ZJS {l:List Yr} (h:ZF l=true):∀ (j i:Nat) (p q:Yr),i<j→l[i]?=some p→l[j]?=some q→p.client<q.client
 | 0,i,p,q,hij,_,_=>by omega
 | j + 1,i,p,q,hij,hp,hq=>by
  obtain ⟨r,hr⟩:∃ r,l[j]?=some r:=⟨_,List.getElem?_eq_getElem (by have:=(List.getElem?_eq_some_iff.1 hq).1; omega)⟩
  have h1:=(ZIl h hq).2.2.2 r (by omega) (by simpa using hr)
  by_cases e:i=j
  ·subst e; rw [hp] at hr; cases hr; exact h1
  ·have:=ZJS h j i p r (by omega) hp hr
   omega
def AscS:List Yr→Prop
 | []=>True
 | x::l=>(∀ y,y∈l→x.client<y.client)∧AscS l
theorem ZNc:∀ (l:List Yr),(∀ (i j:Nat) (p q:Yr),i<j→l[i]?=some p→l[j]?=some q→p.client<q.client)→AscS l
 | [],_=>trivial
 | x::l,h=>by
  refine ⟨fun y hy=>?_,ZNc l fun i j p q hij hp hq=>h (i+1) (j+1) p q (by omega) (by simpa using hp) (by simpa using hq)⟩
  obtain ⟨k,hk⟩:=List.getElem?_of_mem hy
  exact h 0 (k+1) x y (by omega) (by simp) (by simpa using hk)
theorem ZI2 {l:List Yr} (h:ZF l=true):AscS l:=ZNc l fun i j p q=>ZJS h j i p q
theorem ZN5 (x:Yr):∀ (l:List Yr) (i:Nat),i≤l.length→(∀ (k:Nat) p,k<i→l[k]?=some p→p.client<x.client)→(∀ q,l[i]?=some q→x.client≤q.client)→
  insS x l=(match l[i]? with
   | some q=>if q.client=x.client then rep l i 1 [x] else rep l i 0 [x]
   | none=>rep l i 0 [x])
 | [],i,hi,_,_=>by
  have:i=0:=by simpa using hi
  subst this; simp [insS,rep]
 | y::l,0,_,_,h2=>by
  have:=h2 y (by simp)
  have hn:¬y.client<x.client:=by omega
  by_cases e:y.client=x.client
  ·simp [insS,hn,e,rep]
  ·simp [insS,hn,e,rep]
 | y::l,i+1,hi,h1,h2=>by
  have hy:=h1 0 y (by omega) (by simp)
  have ih:=ZN5 x l i (by simpa using hi) (fun k p hk hp=>h1 (k+1) p (by omega) (by simpa using hp)) (fun q hq=>h2 q (by simpa using hq))
  simp only[insS,hy,if_true,ih,List.getElem?_cons_succ]
  cases l[i]? with
  | none=>simp [rep]
  | some q=>by_cases e:q.client=x.client<;>simp [rep,e,Nat.add_right_comm]
theorem ZLn (c:Int):∀ (l:List Yr) (i:Nat),AscS l→i≤l.length→(∀ (k:Nat) p,k<i→l[k]?=some p→p.client<c)→(∀ q,l[i]?=some q→c≤q.client)→
  ZFF c l=(match l[i]? with
   | some q=>if q.client=c then q else ⟨0,0,0⟩
   | none=>⟨0,0,0⟩)
 | [],i,_,hi,_,_=>by simp [ZFF]
 | y :: l,0,ha,_,_,h2=>by
  have hy:=h2 y (by simp)
  by_cases e:y.client=c
  ·simp [ZFF,e]
  ·have hno:∀ m:List Yr,(∀ z,z∈m→c<z.client)→ZFF c m=⟨0,0,0⟩:=by
    intro m
    induction m with
    | nil=>intro _; rfl
    | cons z m ih=>
     intro hz
     have:=hz z (List.mem_cons_self ..)
     have hne:¬z.client=c:=by omega
     simp only[ZFF,hne,if_false]
     exact ih fun w hw=>hz w (List.mem_cons_of_mem _ hw)
   simp only[ZFF,e,if_false,List.getElem?_cons_zero]
   exact hno l fun z hz=>by have:=ha.1 z hz; omega
 | y::l,i+1,ha,hi,h1,h2=>by
  have hy:=h1 0 y (by omega) (by simp)
  have hne:¬y.client=c:=by omega
  have ih:=ZLn c l i ha.2 (by simpa using hi) (fun k p hk hp=>h1 (k+1) p (by omega) (by simpa using hp)) (fun q hq=>h2 q (by simpa using hq))
  simp only[ZFF,hne,if_false,ih,List.getElem?_cons_succ]
def sFin (x:Yr):Bool→List Yr→List Yr
 | pl,[]=>if pl=true then [] else [x]
 | pl,y::l=>(if (!pl&&decide (x.client≤y.client))=true then [x] else [])++((if y.client=x.client then [] else [y])++sFin x (pl||decide (x.client≤y.client)) l)
theorem ZLd (x:Yr):∀ l:List Yr,(∀ y,y∈l→x.client<y.client)→sFin x true l=l
 | [],_=>rfl
 | y::l,h=>by
  have:=h y (List.mem_cons_self ..)
  have hne:¬y.client=x.client:=by omega
  simp [sFin,hne,ZLd x l fun z hz=>h z (List.mem_cons_of_mem _ hz)]
theorem ZMj (x:Yr):∀ l:List Yr,AscS l→sFin x false l=insS x l
 | [],_=>rfl
 | y :: l,h=>by
  by_cases h1:y.client<x.client
  ·have hn:¬x.client≤y.client:=by omega
   have hne:¬y.client=x.client:=by omega
   simp [sFin,insS,h1,hn,hne,ZMj x l h.2]
  ·have hn:x.client≤y.client:=by omega
   have ht:=ZLd x l fun z hz=>by have:=h.1 z hz; omega
   by_cases e:y.client=x.client
   ·simp [sFin,insS,hn,e,h1,ht]
   ·simp [sFin,insS,hn,e,h1,ht]
theorem ZJl (l:List Yr) (x:Int) (ha:∀ (i j:Nat) (p q:Yr),i<j→l[i]?=some p→l[j]?=some q→p.client<q.client) (hn:l.length≤1048576):Ok (fun r=>∃ (i:Nat) (b:Bool),r=⟨[I i,B b],[],[]⟩∧i≤l.length∧(∀ (k:Nat) p,k<i→l[k]?=some p→p.client<x)∧(∀ q,l[i]?=some q→x≤q.client∧b=decide (q.client=x))∧(l[i]?=none→b=false)) (EE F 312 [L 3 (l.map Yr.u),I x,.sc (.u (.fn 313 []))] []):=by
 refine Ok.run (fn:=i312) (by kernel_rfl) rfl ?_
 simp only[i312,b312,ZdN,ZcQ]
 simp only[↓xP,xT,rL,rB,rA,rS]
 refine ZNE (fun (a:Nat×Nat) st=>a.1≤a.2∧a.2≤l.length∧(∀ (k:Nat) p,k<a.1→l[k]?=some p→p.client<x)∧(∀ (k:Nat) q,a.2≤k→l[k]?=some q→x≤q.client)∧st.s 0=DU (.sl 3 (l.map Yr.u))∧st.s 1=DI x∧st.s 2=.t (.sc (.u (.fn 313 [])))∧st.s 8=DI l.length∧st.s 9=DI a.1∧st.s 10=DI a.2) (fun a=>a.2 - a.1) ?_ (0,l.length) ⟨by omega,by dsimp only; omega,fun k p hk=>by dsimp only at hk; omega,fun k q hk hq=>by have:=(List.getElem?_eq_some_iff.1 hq).1; dsimp only at hk; omega,by simp only[↓xP,xT,rL,rB,rA,rS],by simp only[↓xP,xT,rL,rB,rA,rS],by simp only[↓xP,xT,rL,rB,rA,rS],by simp only[↓xP,xT,rL,rB,rA,rS],by simp only[↓xP,xT,rL,rB,rA,rS]; rfl,by simp only[↓xP,xT,rL,rB,rA,rS]⟩
 rintro ⟨i,j⟩ st ⟨hij,hj,g1,g2,h0,h1,h2,h8,h9,h10⟩ ih
 dsimp only at hij hj g1 g2 h9 h10 ih
 by_cases h:i<j
 ·obtain ⟨⟨pa,pb,pc⟩,hp⟩:∃ p,l[(i+j) / 2]?=some p:=⟨_,List.getElem?_eq_getElem (by omega)⟩
  have hm:=ZOF (i:=i) (j:=j) (by omega)
  have hw:=w_succ (i:=(i+j) / 2) (by omega)
  have hb:¬(1:Int)<0:=by omega
  by_cases hc:cmpI pa x<0
  ·have hlt:pa<x:=by
    by_cases h3:pa<x
    ·exact h3
    ·simp only[cmpI,h3,if_false] at hc
     split at hc<;>omega
   simp only[↓xP,xT,rL,rB,rA,rS,h0,h1,h2,h8,h9,h10,h,hb,hm,hp,hw,Yr.u,ZIC,hc]
   refine ih ((i+j) / 2+1,j) _ (by dsimp only; omega) ⟨by dsimp only; omega,hj,?_,g2,by simp only[↓xP,xT,rL,rB,rA,rS,h0],by simp only[↓xP,xT,rL,rB,rA,rS,h1],by simp only[↓xP,xT,rL,rB,rA,rS,h2],by simp only[↓xP,xT,rL,rB,rA,rS,h8],by simp only[↓xP,xT,rL,rB,rA,rS],by simp only[↓xP,xT,rL,rB,rA,rS,h10]⟩
   intro k p hk hkp
   dsimp only at hk
   by_cases e:k=(i+j) / 2
   ·subst e; rw [hp] at hkp; cases hkp; exact hlt
   ·have:=ha k ((i+j) / 2) p _ (by omega) hkp hp
    dsimp only at this
    omega
  ·have hge:x≤pa:=by
    by_cases h3:pa<x
    ·simp [cmpI,h3] at hc
    ·omega
   simp only[↓xP,xT,rL,rB,rA,rS,h0,h1,h2,h8,h9,h10,h,hb,hm,hp,hw,Yr.u,ZIC,hc]
   refine ih (i,(i+j) / 2) _ (by dsimp only; omega) ⟨by dsimp only; omega,by dsimp only; omega,g1,?_,by simp only[↓xP,xT,rL,rB,rA,rS,h0],by simp only[↓xP,xT,rL,rB,rA,rS,h1],by simp only[↓xP,xT,rL,rB,rA,rS,h2],by simp only[↓xP,xT,rL,rB,rA,rS,h8],by simp only[↓xP,xT,rL,rB,rA,rS,h9],by simp only[↓xP,xT,rL,rB,rA,rS]⟩
   intro k q hk hkq
   dsimp only at hk
   by_cases e:k=(i+j) / 2
   ·subst e; rw [hp] at hkq; cases hkq; exact hge
   ·have:=ha ((i+j) / 2) k _ q (by omega) hp hkq
    dsimp only at this
    omega
 ·obtain rfl:i=j:=by omega
  by_cases hi:i<l.length
  ·obtain ⟨⟨pa,pb,pc⟩,hp⟩:∃ p,l[i]?=some p:=⟨_,List.getElem?_eq_getElem hi⟩
   have hge:=g2 i _ (Nat.le_refl _) hp
   simp only[↓xP,xT,rL,rB,rA,rS,h0,h1,h2,h8,h9,h10,h,hi,hp,Yr.u,ZIC]
   refine ⟨_,rfl,i,_,rfl,by omega,g1,fun q hq=>?_,fun hq=>?_⟩
   ·rw [hp] at hq; cases hq
    refine ⟨hge,?_⟩
    dsimp only at hge ⊢
    have hn:¬pa<x:=by omega
    by_cases e:pa=x
    ·subst e; simp [cmpI]
    ·have h4:x<pa:=by omega
     simp [cmpI,hn,h4,e]
   ·rw [hp] at hq; cases hq
  ·have hp:l[i]?=none:=List.getElem?_eq_none (by omega)
   simp only[↓xP,xT,rL,rB,rA,rS,h0,h1,h2,h8,h9,h10,h,hi,hp]
   refine ⟨_,rfl,i,_,rfl,by omega,g1,fun q hq=>?_,fun _=>rfl⟩
   rw [hp] at hq; cases hq
theorem ZHM (l:List Yr) (x:Int) (ha:ZF l=true) (hn:l.length≤1048576):∃ (i:Nat) (b:Bool),EE F 270 [L 3 (l.map Yr.u),I x] []=some ⟨[I i,B b],[],[]⟩∧i≤l.length∧(∀ (k:Nat) p,k<i→l[k]?=some p→p.client<x)∧(∀ q,l[i]?=some q→x≤q.client∧b=decide (q.client=x))∧(l[i]?=none→b=false):=by
 obtain ⟨r,hr,i,b,rfl,h1,h2,h3,h4⟩:=ZJl l x (fun i j p q=>ZJS ha j i p q) hn
 refine ⟨i,b,?_,h1,h2,h3,h4⟩
 rw [R270,b270]
 simp only[↓xP,xT,rL,rB,rA,rS,hr]
theorem ZJN (l:List Yr) (xc xs xr:Int) (hn:l.length≤100000):EE F 273 [L 3 (l.map Yr.u),.ag [.u (.int .i64 xc),.u (.int .i64 xs),.u (.int .i64 xr)]] []=ZFx (ZFC l ⟨xc,xs,xr⟩):=by
 rw [R273,b273]
 have hv:=ZGb l (by omega)
 have hv1:=ZGb [⟨xc,xs,xr⟩] (by simp)
 simp only[List.map_cons,List.map_nil,Yr.u] at hv1
 cases h1:ZF l
 ·simp only[↓xP,xT,rL,rB,rA,rS,hv,h1]
  simp [ZFC,h1,ZFx]
 cases h2:ZF [⟨xc,xs,xr⟩]
 ·simp only[↓xP,xT,rL,rB,rA,rS,hv,h1,hv1,h2]
  simp [ZFC,h2,ZFx]
 have hsq:1≤xs:=by
  have:=(ZIl h2 (i:=0) (p:=⟨xc,xs,xr⟩) (by simp)).2.1
  simp only[inR,Bool.and_eq_true,decide_eq_true_eq] at this
  exact this.1
 obtain ⟨i,b,hpl,hi,g1,g2,g3⟩:=ZHM l xc h1 (by omega)
 have hins:=ZN5 ⟨xc,xs,xr⟩ l i hi g1 (fun q hq=>(g2 q hq).1)
 have hfnd:=ZLn xc l i (ZI2 h1) hi g1 (fun q hq=>(g2 q hq).1)
 have hc:=ZHQ l (by omega)
 have hmap : [[U.int .i64 xc,U.int .i64 xs,U.int .i64 xr]]=List.map Yr.u [⟨xc,xs,xr⟩]:=rfl
 have hput:ZFC l ⟨xc,xs,xr⟩=if xs≤(ZFF xc l).seq then (l,false) else (insS ⟨xc,xs,xr⟩ l,true):=by simp [ZFC,h1,h2]
 rw [hput]
 cases b
 ·have hre:=ZHr l [⟨xc,xs,xr⟩] i 0 (by omega) (by simp only[List.length_cons,List.length_nil]; omega)
  have e0:((0:Nat):Int)=0:=rfl
  rw [e0,←hmap] at hre
  have hf0:ZFF xc l=⟨0,0,0⟩:=by
   rw [hfnd]
   cases hq:l[i]? with
   | none=>rfl
   | some q=>
    have:=(g2 q hq).2
    have hne:¬q.client=xc:=by simpa using this
    simp [hne]
  have hi0:insS ⟨xc,xs,xr⟩ l=rep l i 0 [⟨xc,xs,xr⟩]:=by
   rw [hins]
   cases hq:l[i]? with
   | none=>rfl
   | some q=>
    have:=(g2 q hq).2
    have hne:¬q.client=xc:=by simpa using this
    simp [hne]
  have hno:¬xs≤0:=by omega
  rw [hf0,if_neg hno,hi0]
  simp only[↓xP,xT,rL,rB,rA,rS,hv,h1,hv1,h2,hpl,hre,ZFx,List.length_map]
 ·have hil:i<l.length:=by
   by_cases h:i<l.length
   ·exact h
   ·have:=g3 (List.getElem?_eq_none (by omega)); cases this
  obtain ⟨⟨yc,ys,yr⟩,hy⟩:∃ p,l[i]?=some p:=⟨_,List.getElem?_eq_getElem hil⟩
  have heq:yc=xc:=by have:=(g2 _ hy).2; simpa using this.symm
  rw [hy] at hins hfnd
  simp only[heq,if_true] at hins hfnd
  have hre:=ZHr l [⟨xc,xs,xr⟩] i 1 (by omega) (by simp only[List.length_cons,List.length_nil]; omega)
  have e0:((1:Nat):Int)=1:=rfl
  rw [e0,←hmap] at hre
  rw [hfnd,hins]
  by_cases h:xs≤ys
  ·have hge:ys≥xs:=h
   simp only[↓xP,xT,rL,rB,rA,rS,hv,h1,hv1,h2,hpl,hy,hil,Yr.u,h,hge,hc,ZFx,List.length_map,ge_iff_le]
   try simp
  ·simp only[↓xP,xT,rL,rB,rA,rS,hv,h1,hv1,h2,hpl,hy,hil,Yr.u,h,hre,ZFx,List.length_map,ge_iff_le]
   try simp
theorem ZK3 (l:List Yr) (c:Int) (hn:l.length≤1048576):EE F 259 [L 3 (l.map Yr.u),I c] []=some ⟨[.ag [.u (.int .i64 (ZFF c l).client),.u (.int .i64 (ZFF c l).seq),.u (.int .i64 (ZFF c l).reply)]],[],[]⟩:=by
 rw [R259,b259]
 simp only[↓xP,xT,rL,rB,rA,rS]
 refine (Zjc (fun (i:Nat) st=>i≤l.length∧st.s 0=DU (.sl 3 (l.map Yr.u))∧st.s 1=DI c∧st.s 4=.t (.sc (.ptr (.loc 4 0) 0 0))∧st.o (.loc 4 0)=some (.box [.u (.int .i64 0),.u (.int .i64 0),.u (.int .i64 0)])∧st.s 5=DI i) (fun i=>l.length - i) (fun i=>some ⟨[.ag [.u (.int .i64 (ZFF c (l.drop i)).client),.u (.int .i64 (ZFF c (l.drop i)).seq),.u (.int .i64 (ZFF c (l.drop i)).reply)]],[],[]⟩) ?_ 0 (by and_intros<;>first|omega|rfl|(simp only[↓xP,xT,rL,rB,rA,rS]<;>first|done|rfl|omega))).trans (by rfl)
 rintro i st ⟨hle,h0,h1,h4,ho4,h5⟩ ih
 by_cases hi:i<l.length
 ·obtain ⟨⟨xc,xs,xr⟩,hx⟩:∃ p,l[i]?=some p:=⟨_,List.getElem?_eq_getElem hi⟩
  have hw:=w_succ (i:=i) (by omega)
  rw [ZX hx]
  simp only[↓xP,xT,rL,rB,rA,rS,h0,h1,h4,ho4,h5,List.length_map,hi,hx,Yr.u]
  refine ZiE (fun h=>?_) (fun h=>?_)
  ·simp only[decide_eq_true_eq] at h
   simp [ZFF,h]
  ·simp only[decide_eq_false_iff_not] at h
   rw [ih (i+1) _ (by omega) (by and_intros<;>first|omega|rfl|(simp only[↓xP,xT,rL,rB,rA,rS,h0,h1,h4,ho4,h5,hw]<;>first|done|rfl|omega))]
   simp [ZFF,h]
 ·simp only[↓xP,xT,rL,rB,rA,rS,h0,h1,h4,ho4,h5,List.length_map,hi]
  rw [List.drop_of_length_le (by omega)]; rfl
theorem ZKL (l:List Yr) (c:Int) (hv0:ZF l=true) (hc:inR c 0 3=true) (hn:l.length≤1048576):EE F 305 [L 3 (l.map Yr.u),I c] []=ok1 (I (ZFF c l).seq):=by
 have hv:=ZFJ l (by omega)
 rw [R305,b305]
 simp only[↓xP,xT,rL,rB,rA,rS,hv,hv0,ZU,hc,ZK3 l c hn]
theorem ZJO (l:List Yr) (xc xs xr:Int) (hn:l.length≤100000):EE F 261 [L 3 (l.map Yr.u),.ag [.u (.int .i64 xc),.u (.int .i64 xs),.u (.int .i64 xr)]] []=ZFx (ZFC l ⟨xc,xs,xr⟩):=by
  rw [R261,b261]
  have hv:=ZFJ l (by omega)
  have hv1:=ZFJ [⟨xc,xs,xr⟩] (by simp)
  simp only[List.map_cons,List.map_nil,Yr.u] at hv1
  cases h1:ZF l
  · simp only[↓xP,xT,rL,rB,rA,rS,hv,h1]
    simp [ZFC,h1,ZFx]
  cases h2:ZF [⟨xc,xs,xr⟩]
  · simp only[↓xP,xT,rL,rB,rA,rS,hv,h1,hv1,h2]
    simp [ZFC,h2,ZFx]
  have hcr:=(ZIl h2 (i:=0) (p:=⟨xc,xs,xr⟩) (by simp)).1
  simp only at hcr
  have hsq:=ZKL l xc h1 hcr (by omega)
  have q0:l.length≤maxLen∧l.length*24≤140737488355328:=ZN (by omega) (by omega)
  have hput:ZFC l ⟨xc,xs,xr⟩=if xs≤(ZFF xc l).seq then (l,false) else (insS ⟨xc,xs,xr⟩ l,true):=by simp [ZFC,h1,h2]
  rw [hput]
  by_cases h3:xs≤(ZFF xc l).seq
  · rw [if_pos h3]
    simp only[↓xP,xT,rL,rB,rA,rS,hv,h1,hv1,h2,hsq,h3,ge_iff_le,List.length_map,Nat.zero_add,List.nil_append,q0.1,q0.2,ZG,ZFx]
  rw [if_neg h3]
  have hfin:=ZMj ⟨xc,xs,xr⟩ l (ZI2 h1)
  rw [←hfin]
  simp only[↓xP,xT,rL,rB,rA,rS,hv,h1,hv1,h2,hsq,h3,ge_iff_le]
  have app3:∀ (l:List Yr) a b c,l.map Yr.u++[[.int .i64 a,.int .i64 b,.int .i64 c]]=(l++[(⟨a,b,c⟩:Yr)]).map Yr.u:=fun l a b c=>by simp [Yr.u]
  have htk:∀ (l:List Yr) x,List.take (l.length+1) (List.map Yr.u (l++[x]))=List.map Yr.u (l++[x]):=fun l x=>List.take_of_length_le (by simp)
  refine (Zjc (fun (a:Nat×Bool×List Yr) st=>a.1≤l.length∧a.2.2.length≤a.1+a.2.1.toNat∧st.s 0=DU (.sl 3 (l.map Yr.u))∧st.s 3=.t (.sc (.ptr (.loc 3 0) 0 0))∧st.o (.loc 3 0)=some (.box [.u (.int .i64 xc),.u (.int .i64 xs),.u (.int .i64 xr)])∧st.s 6=.t (.sc (.own (.loc 9 0) a.2.2.length))∧st.o (.loc 9 0)=some (.row 3 (a.2.2.map Yr.u))∧st.s 7=DB a.2.1∧st.s 8=DI a.1) (fun a=>l.length - a.1) (fun a=>ZFx (a.2.2++sFin ⟨xc,xs,xr⟩ a.2.1 (l.drop a.1),true)) ?_ (0,false,[]) ⟨by simp,by simp,(by and_intros<;>first|omega|rfl|(simp only[↓xP,xT,rL,rB,rA,rS]<;>first|done|rfl|omega))⟩).trans (by rfl)
  rintro ⟨i,pl,m⟩ st ⟨hle,hml,h0,h3,ho3,h6,ho6,h7,h8⟩ ih
  dsimp only at *
  have hpl1:pl.toNat≤1:=by cases pl<;>simp
  have q1:m.length+1≤maxLen∧(m.length+1)*24≤140737488355328:=ZN (by omega) (by omega)
  have q2:m.length+1+1≤maxLen∧(m.length+1+1)*24≤140737488355328:=ZN (by omega) (by omega)
  by_cases hi:i<l.length
  · obtain ⟨⟨yc,ys,yr⟩,hy⟩:∃ p,l[i]?=some p:=⟨_,List.getElem?_eq_getElem hi⟩
    have hw:=w_succ (i:=i) (by omega)
    rw [ZX hy]
    cases pl
    · simp only[Bool.toNat_false,Nat.add_zero] at hml
      by_cases g4:xc≤yc
      · by_cases g5:yc=xc
        · simp only[↓xP,xT,rL,rB,rA,rS,h0,h3,ho3,h6,ho6,h7,h8,List.length_map,hi,hy,Yr.u,q1.1,q1.2,q2.1,q2.2,app3,hw,g4,g5,ge_iff_le,ne_eq,not_true_eq_false,decide_false,List.length_append,List.length_cons,List.length_nil,Nat.zero_add,Int.le_refl]
          rw [ih (i+1,true,m++[⟨xc,xs,xr⟩]) _ (by dsimp only; omega) ⟨by dsimp only; omega,by simp; omega,(by and_intros<;>first|omega|rfl|(simp only[↓xP,xT,rL,rB,rA,rS,h0,h3,ho3,h6,ho6,h7,h8,hw,app3,List.length_append,List.length_cons,List.length_nil,Nat.zero_add]<;>first|done|rfl|omega))⟩]
          simp [sFin,g5]
        · simp only[↓xP,xT,rL,rB,rA,rS,h0,h3,ho3,h6,ho6,h7,h8,List.length_map,hi,hy,Yr.u,q1.1,q1.2,q2.1,q2.2,app3,hw,g4,g5,ge_iff_le,ne_eq,not_false_eq_true,List.length_append,List.length_cons,List.length_nil,Nat.zero_add]
          rw [ih (i+1,true,m++[⟨xc,xs,xr⟩]++[⟨yc,ys,yr⟩]) _ (by dsimp only; omega) ⟨by dsimp only; omega,by simp; omega,(by and_intros<;>first|omega|rfl|(simp only[↓xP,xT,rL,rB,rA,rS,h0,h3,ho3,h6,ho6,h7,h8,hw,app3,List.length_append,List.length_cons,List.length_nil,Nat.zero_add]<;>first|done|rfl|omega))⟩]
          simp [sFin,g4,g5]
      · have g5:¬yc=xc:=by omega
        simp only[↓xP,xT,rL,rB,rA,rS,h0,h3,ho3,h6,ho6,h7,h8,List.length_map,hi,hy,Yr.u,q1.1,q1.2,q2.1,q2.2,app3,hw,g4,g5,ge_iff_le,ne_eq,not_false_eq_true,List.length_append,List.length_cons,List.length_nil,Nat.zero_add]
        rw [ih (i+1,false,m++[⟨yc,ys,yr⟩]) _ (by dsimp only; omega) ⟨by dsimp only; omega,by simp; omega,(by and_intros<;>first|omega|rfl|(simp only[↓xP,xT,rL,rB,rA,rS,h0,h3,ho3,h6,ho6,h7,h8,hw,app3,List.length_append,List.length_cons,List.length_nil,Nat.zero_add]<;>first|done|rfl|omega))⟩]
        simp [sFin,g4,g5]
    · simp only[Bool.toNat_true] at hml
      by_cases g5:yc=xc
      · simp only[↓xP,xT,rL,rB,rA,rS,h0,h3,ho3,h6,ho6,h7,h8,List.length_map,hi,hy,Yr.u,hw,g5,ne_eq,not_true_eq_false,decide_false]
        rw [ih (i+1,true,m) _ (by dsimp only; omega) ⟨by dsimp only; omega,by simp; omega,(by and_intros<;>first|omega|rfl|(simp only[↓xP,xT,rL,rB,rA,rS,h0,h3,ho3,h6,ho6,h7,h8,hw]<;>first|done|rfl|omega))⟩]
        simp [sFin,g5]
      · simp only[↓xP,xT,rL,rB,rA,rS,h0,h3,ho3,h6,ho6,h7,h8,List.length_map,hi,hy,Yr.u,q1.1,q1.2,app3,hw,g5,ne_eq,not_false_eq_true,List.length_append,List.length_cons,List.length_nil,Nat.zero_add]
        rw [ih (i+1,true,m++[⟨yc,ys,yr⟩]) _ (by dsimp only; omega) ⟨by dsimp only; omega,by simp; omega,(by and_intros<;>first|omega|rfl|(simp only[↓xP,xT,rL,rB,rA,rS,h0,h3,ho3,h6,ho6,h7,h8,hw,app3,List.length_append,List.length_cons,List.length_nil,Nat.zero_add]<;>first|done|rfl|omega))⟩]
        simp [sFin,g5]
  · rw [List.drop_of_length_le (by omega)]
    cases pl
    · simp only[Bool.toNat_false,Nat.add_zero] at hml
      simp only[↓xP,xT,rL,rB,rA,rS,h0,h3,ho3,h6,ho6,h7,h8,List.length_map,hi,q1.1,q1.2,app3,htk,List.length_append,List.length_cons,List.length_nil,Nat.zero_add,Nat.le_refl]
      simp [sFin,ZFx]
    · simp only[Bool.toNat_true] at hml
      simp only[↓xP,xT,rL,rB,rA,rS,h0,h3,ho3,h6,ho6,h7,h8,List.length_map,hi,ZG]
      simp [sFin,ZFx]
theorem ZMg {l:List Yl} (h:ZB l=true) {i:Nat} {p:Yl} (hp:l[i]?=some p):0≤p.value:=by
 simp only[ZB,Bool.and_eq_true] at h
 have:=(ZFE (n:=l.length) (p:=ZFt l) _ 0 rfl).1 h.2 i (by omega) (List.getElem?_eq_some_iff.1 hp).1
 simp only[ZFt,hp,inR,Bool.and_eq_true,decide_eq_true_eq] at this
 exact this.1.2.1
theorem ZMe {l:List Yl} (key:Str) (h:ZB l=true):ZFn l key<0↔ZFn l key = -1:=by
 unfold ZFn
 rw [if_pos h]
 cases hh:hit key l with
 | none=>simp
 | some p=>
  have:=ZMg h (ZGu hh).1
  dsimp only
  omega
theorem ZIE (l:List Yl) (k:Int) (key:Str) (v o:Int) (hn:l.length≤1048576):EE F 272 [L 2 (l.map Yl.u),.ag [.u (.int .i64 k),.u (.str key),.u (.int .i64 v),.u (.int .i64 o)]] []=ZO (ZFc l ⟨k,key,v,o⟩):=by
  rw [R272,b272]
  have hv:=ZFu l
  have hcv:=ZGq k key v o
  cases h:ZB l
  · rw [h] at hv
    simp only[↓xP,xT,rL,rB,rA,rS,hv,ZFc,h,Bool.false_eq_true,false_and,if_false,ZO,List.map_nil,List.length_nil]
  rw [h] at hv
  cases h2:Z7 ⟨k,key,v,o⟩
  · rw [h2] at hcv
    simp only[↓xP,xT,rL,rB,rA,rS,hv,hcv,ZFc,h,h2,Bool.false_eq_true,false_and,and_false,if_false,ZO,List.map_nil,List.length_nil]
  rw [h2] at hcv
  by_cases h5:k=5
  · subst h5
    simp only[↓xP,xT,rL,rB,rA,rS,hv,hcv,ZFc,not_true_eq_false,and_false,if_false,ZO,List.map_nil,List.length_nil]
  have hcy:=ZGg l hn
  have hpg:=ZLu l key
  have hpd:=ZKG l key hn
  have hpp:=ZLw l key v hn
  have hng:=ZMe key h
  generalize hgo:ZFn l key=old at hpg hng
  generalize hdo:ZFg l key=dr at hpd
  generalize hpo:Z5 l key v=pu at hpp
  obtain ⟨dl,db⟩:=dr
  obtain ⟨pl,pb⟩:=pu
  simp only[Z1] at hpd hpp
  by_cases h3:k=3
  · subst h3
    simp [ZFc,h,h2,hgo,hdo]
    simp only[↓xP,xT,rL,rB,rA,rS,hv,hcv,h5,hpg,hpd,ZO]
  by_cases h1:k=1
  · subst h1
    simp [ZFc,h,h2,hgo]
    simp only[↓xP,xT,rL,rB,rA,rS,hv,hcv,h5,h3,hpg,hcy,ZO]
  by_cases h4:k=4∧¬o=old
  · obtain ⟨rfl,ho⟩:=h4
    simp [ZFc,h,h2,hgo,ho]
    simp only[↓xP,xT,rL,rB,rA,rS,hv,hcv,h5,h3,h1,hpg,hcy,ho,ne_eq,not_false_eq_true,ZO]
  have h4':(k=1∨(k=4∧¬o=old))=False:=by simp [h1]; simpa using h4
  have hap:ZFc l ⟨k,key,v,o⟩=if old<0∧8≤l.length then (l,-2) else (pl,old):=by
    simp only[ZFc,h,h2,hgo,hpo,h5,h3,h4',not_false_eq_true,and_self,if_true,if_false]
  rw [hap]
  by_cases h8:old<0∧8≤l.length
  · have hm1:old = -1:=hng.1 h8.1
    have hge:(8:Int)≤(l.length:Int):=by omega
    rw [if_pos h8]
    by_cases h6:k=4
    · have ho:o=old:=by
        by_cases e:o=old
        · exact e
        · exact absurd ⟨h6,e⟩ h4
      subst h6
      have ho2:old=o:=ho.symm
      subst ho2
      subst hm1
      simp only[↓xP,xT,rL,rB,rA,rS,hv,hcv,h5,h3,h1,hpg,hcy,hge,ge_iff_le,ne_eq,not_true_eq_false,decide_false,ZO]
    · simp only[↓xP,xT,rL,rB,rA,rS,hv,hcv,h5,h3,h1,h6,hpg,hcy,hm1,hge,ge_iff_le,ZO]
  · rw [if_neg h8]
    by_cases h6:k=4
    · have ho:o=old:=by
        by_cases e:o=old
        · exact e
        · exact absurd ⟨h6,e⟩ h4
      subst h6
      have ho2:old=o:=ho.symm
      subst ho2
      by_cases h7:old = -1
      · have hge:¬(8:Int)≤(l.length:Int):=fun e=>h8 ⟨by omega,by omega⟩
        subst h7
        simp only[↓xP,xT,rL,rB,rA,rS,hv,hcv,h5,h3,h1,hpg,hpp,hge,ge_iff_le,ne_eq,not_true_eq_false,decide_false,ZO]
      · simp only[↓xP,xT,rL,rB,rA,rS,hv,hcv,h5,h3,h1,hpg,hpp,h7,ge_iff_le,ne_eq,not_true_eq_false,decide_false,ZO]
    · by_cases h7:old = -1
      · have hge:¬(8:Int)≤(l.length:Int):=fun e=>h8 ⟨by omega,by omega⟩
        simp only[↓xP,xT,rL,rB,rA,rS,hv,hcv,h5,h3,h1,h6,hpg,hpp,h7,hge,ge_iff_le,ZO]
      · simp only[↓xP,xT,rL,rB,rA,rS,hv,hcv,h5,h3,h1,h6,hpg,hpp,h7,ge_iff_le,ZO]
def ZFr (s:Yt) (c:Ye):Bool:=if c.kind=5 then decide (c.key=[])||ZHL s.span c.key else ZFf s.span c.key
theorem ZKN (lo hi:Str) (l:List Yl) (k:List Yr) (se:Bool) (cut:Str) (kd:Int) (key:Str) (v o:Int):EE F 271 [.ag [.u (.str lo),.u (.str hi),.u (.sl 2 (l.map Yl.u)),.u (.sl 3 (k.map Yr.u)),.u (.bool se),.u (.str cut)],.ag [.u (.int .i64 kd),.u (.str key),.u (.int .i64 v),.u (.int .i64 o)]] []=ok1 (B (ZFr ⟨⟨lo,hi⟩,l,k,se,cut⟩ ⟨kd,key,v,o⟩)):=by
  rw [R271,b271]
  by_cases h5:kd=5
  · by_cases hk:key=[]
    · simp only[↓xP,xT,rL,rB,rA,rS,h5,hk,ne_eq,not_true_eq_false,decide_false]
      simp [ZFr,sel]
    · cases hc:ZHL ⟨lo,hi⟩ key
      · simp only[↓xP,xT,rL,rB,rA,rS,h5,hk,ne_eq,not_true_eq_false,decide_false,ZGB,ZHg,hc]
        simp [ZFr,sel,hk,hc]
      · simp only[↓xP,xT,rL,rB,rA,rS,h5,hk,ne_eq,not_true_eq_false,decide_false,ZGB,ZHg,hc]
        simp [ZFr,sel,hk,hc]
  · simp only[↓xP,xT,rL,rB,rA,rS,h5,ne_eq,not_false_eq_true,ZK2]
    simp [ZFr,h5]
def ZH7 (lo hi:Str) (l:List Yl) (k:List Yr) (se:Bool) (cut:Str):Option Ret:=some ⟨[.ag [.u (.str lo),.u (.str hi),.own (.par 0) l.length,.own (.par 1) k.length,.u (.bool se),.u (.str cut)]],[.row 2 (l.map Yl.u),.row 3 (k.map Yr.u)],[]⟩
theorem ZII (lo hi:Str) (l:List Yl) (k:List Yr) (se:Bool) (cut:Str) (hl:l.length≤1048576) (hk:k.length≤1048576):EE F 214 [.ag [.u (.str lo),.u (.str hi),.u (.sl 2 (l.map Yl.u)),.u (.sl 3 (k.map Yr.u)),.u (.bool se),.u (.str cut)]] []=ZH7 lo hi l k se cut:=by
 rw [R214,b214]
 simp only[↓xP,xT,rL,rB,rA,rS,ZGg l hl,ZHQ k hk,ZH7]
theorem ZJ3 (lo hi:Str) (l:List Yl) (k:List Yr) (se:Bool) (cut:Str) (hl:l.length≤1048576) (hk:k.length≤1048576):EE F 206 [.ag [.u (.str lo),.u (.str hi),.u (.sl 2 (l.map Yl.u)),.u (.sl 3 (k.map Yr.u)),.u (.bool se),.u (.str cut)]] []=ZH7 lo hi l k se cut:=by
 have q0:l.length≤maxLen∧l.length*24≤140737488355328:=ZN (by omega) (by omega)
 have q1:k.length≤maxLen∧k.length*24≤140737488355328:=ZN (by omega) (by omega)
 rw [R206,b206]
 simp only[↓xP,xT,rL,rB,rA,rS,rdx,rdx2,q0.1,q0.2,q1.1,q1.2,List.length_map,ZH7]
theorem ZNh {l:List Yr} (h:ZF l=true):∀ (i:Nat) (p:Yr),l[i]?=some p→(i:Int)≤p.client
 | 0,p,hp=>by
  have:=(ZIl h hp).1
  simp only[inR,Bool.and_eq_true,decide_eq_true_eq] at this
  omega
 | i+1,p,hp=>by
  obtain ⟨r,hr⟩:∃ r,l[i]?=some r:=⟨_,List.getElem?_eq_getElem (by have:=(List.getElem?_eq_some_iff.1 hp).1; omega)⟩
  have h1:=ZNh h i r hr
  have h2:=ZJS h (i+1) i r p (by omega) hr hp
  omega
theorem ZIm {l:List Yr} (h:ZF l=true):l.length≤4:=by
 by_cases h4:l.length≤4
 ·exact h4
 ·obtain ⟨p,hp⟩:∃ p,l[4]?=some p:=⟨_,List.getElem?_eq_getElem (by omega)⟩
  have h1:=ZNh h 4 p hp
  have h2:=(ZIl h hp).1
  simp only[inR,Bool.and_eq_true,decide_eq_true_eq] at h2
  omega
def ZF9 (s:Yt) (e:Yh):Yt×Int:=
 if (ZFF e.client s.known).seq=e.seq then (s,(ZFF e.client s.known).reply)
 else if e.seq<(ZFF e.client s.known).seq then (s,-4)
 else if (s.sealed||!ZFr s e.cmd)=true then (s,-3)
 else if e.cmd.kind=5 then (⟨s.span,s.pairs,(ZFC s.known ⟨e.client,e.seq,0⟩).1,true,e.cmd.key⟩,0)
 else (⟨s.span,(ZFc s.pairs e.cmd).1,(ZFC s.known ⟨e.client,e.seq,(ZFc s.pairs e.cmd).2⟩).1,s.sealed,s.cut⟩,(ZFc s.pairs e.cmd).2)
def ZFO (p:Yt×Int):Option Ret:=some ⟨[.ag [.u (.str p.1.span.low),.u (.str p.1.span.high),.own (.par 0) p.1.pairs.length,.own (.par 1) p.1.known.length,.u (.bool p.1.sealed),.u (.str p.1.cut)],I p.2],[.row 2 (p.1.pairs.map Yl.u),.row 3 (p.1.known.map Yr.u)],[]⟩
def ZJo (r:Int):Option Ret:=some ⟨[.ag [.u (.str []),.u (.str []),.u (.sl 2 []),.u (.sl 3 []),.u (.bool false),.u (.str [])],I r],[],[]⟩
theorem ZHd {s:Yt} (h:ZD s=true):ZA s.span=true∧ZB s.pairs=true∧ZF s.known=true:=by
 simp only[ZD,Bool.and_eq_true] at h
 exact ⟨h.1.1.1.1,h.1.1.1.2,h.1.1.2⟩
theorem ZJD (lo hi:Str) (l:List Yl) (k:List Yr) (se:Bool) (cut:Str) (c s kd:Int) (key:Str) (v o:Int) (hl:l.length≤1048576) (hk:k.length≤1048576):EE F 215 [.ag [.u (.str lo),.u (.str hi),.u (.sl 2 (l.map Yl.u)),.u (.sl 3 (k.map Yr.u)),.u (.bool se),.u (.str cut)],.ag [.u (.int .i64 c),.u (.int .i64 s),.u (.int .i64 kd),.u (.str key),.u (.int .i64 v),.u (.int .i64 o)]] []=if (ZD ⟨⟨lo,hi⟩,l,k,se,cut⟩&&ZP ⟨c,s,⟨kd,key,v,o⟩⟩)=true then ZFO (ZF9 ⟨⟨lo,hi⟩,l,k,se,cut⟩ ⟨c,s,⟨kd,key,v,o⟩⟩) else ZJo (-3):=by
  rw [R215,b215]
  have hv:=ZF7 lo hi l k se cut (by omega)
  have he:=ZGV c s kd key v o
  cases h1:ZD ⟨⟨lo,hi⟩,l,k,se,cut⟩
  · simp only[↓xP,xT,rL,rB,rA,rS,hv,h1]
    simp [ZJo]
  cases h2:ZP ⟨c,s,⟨kd,key,v,o⟩⟩
  · simp only[↓xP,xT,rL,rB,rA,rS,hv,h1,he,h2]
    simp [ZJo]
  obtain ⟨hp1,hp2,hp3⟩:=ZHd h1
  simp only at hp1 hp2 hp3
  have hk4:=ZIm hp3
  have hs1:1≤s:=by
    simp only[ZP,Bool.and_eq_true,inR,decide_eq_true_eq] at h2
    exact h2.1.2.1
  have hcs:=ZII lo hi l k se cut hl hk
  simp only[ZH7] at hcs
  have htk:=ZKN lo hi l k se cut kd key v o
  have hac:=ZIE l kd key v o hl
  have hsp:∀ r,EE F 273 [L 3 (k.map Yr.u),.ag [.u (.int .i64 c),.u (.int .i64 s),.u (.int .i64 r)]] []=ZFx (ZFC k ⟨c,s,r⟩):=fun r=>ZJN k c s r (by omega)
  simp only[ZFx] at hsp
  obtain ⟨i,b,hpl,hi',g1,g2,g3⟩:=ZHM k c hp3 hk
  have hfnd:=ZLn c k i (ZI2 hp3) hi' g1 (fun q hq=>(g2 q hq).1)
  rw [Bool.and_self,if_pos rfl]
  simp only[ZF9]
  generalize hag:ZFc l ⟨kd,key,v,o⟩=ac at hac
  obtain ⟨al,ar⟩:=ac
  simp only[ZO] at hac
  cases b
  · have hf0:ZFF c k=⟨0,0,0⟩:=by
      rw [hfnd]
      cases hq:k[i]? with
      | none=>rfl
      | some q=>
        have:=(g2 q hq).2
        have hne:¬q.client=c:=by simpa using this
        simp [hne]
    have n1:¬(0:Int)=s:=by omega
    have n2:¬s<0:=by omega
    rw [hf0]
    simp only[n1,n2,if_false]
    cases se
    · cases ht:ZFr ⟨⟨lo,hi⟩,l,k,false,cut⟩ ⟨kd,key,v,o⟩
      · simp only[↓xP,xT,rL,rB,rA,rS,rdx,rdx2,hv,h1,he,h2,hcs,hpl,htk,ht]
        simp [ZFO]
      · by_cases h5:kd=5
        · subst h5
          simp only[↓xP,xT,rL,rB,rA,rS,rdx,rdx2,hv,h1,he,h2,hcs,hpl,htk,ht,hsp]
          simp [ZFO]
        · simp only[↓xP,xT,rL,rB,rA,rS,rdx,rdx2,hv,h1,he,h2,hcs,hpl,htk,ht,h5,hac,hsp]
          simp [ZFO,h5]
    · simp only[↓xP,xT,rL,rB,rA,rS,rdx,rdx2,hv,h1,he,h2,hcs,hpl]
      simp [ZFO]
  · have hil:i<k.length:=by
      by_cases h:i<k.length
      · exact h
      · have:=g3 (List.getElem?_eq_none (by omega)); cases this
    obtain ⟨⟨yc,ys,yr⟩,hy⟩:∃ p,k[i]?=some p:=⟨_,List.getElem?_eq_getElem hil⟩
    have heq:yc=c:=by have:=(g2 _ hy).2; simpa using this.symm
    rw [hy] at hfnd
    simp only[heq,if_true] at hfnd
    rw [hfnd]
    by_cases m1:ys=s
    · have hle:s≤ys:=by omega
      have m1':s=ys:=m1.symm
      subst m1'
      simp only[↓xP,xT,rL,rB,rA,rS,rdx,rdx2,hv,h1,he,h2,hcs,hpl,hy,hil,Yr.u,Int.le_refl,if_true]
      simp [ZFO]
    by_cases m2:s<ys
    · have hle:s≤ys:=by omega
      have m1':¬s=ys:=fun e=>m1 e.symm
      simp only[↓xP,xT,rL,rB,rA,rS,rdx,rdx2,hv,h1,he,h2,hcs,hpl,hy,hil,Yr.u,hle,m1,m1',m2,if_true,if_false]
      simp [ZFO]
    have hle:¬s≤ys:=by omega
    simp only[m1,m2,if_false]
    cases se
    · cases ht:ZFr ⟨⟨lo,hi⟩,l,k,false,cut⟩ ⟨kd,key,v,o⟩
      · simp only[↓xP,xT,rL,rB,rA,rS,rdx,rdx2,hv,h1,he,h2,hcs,hpl,hy,hil,Yr.u,hle,htk,ht]
        simp [ZFO]
      · by_cases h5:kd=5
        · subst h5
          simp only[↓xP,xT,rL,rB,rA,rS,rdx,rdx2,hv,h1,he,h2,hcs,hpl,hy,hil,Yr.u,hle,htk,ht,hsp]
          simp [ZFO]
        · simp only[↓xP,xT,rL,rB,rA,rS,rdx,rdx2,hv,h1,he,h2,hcs,hpl,hy,hil,Yr.u,hle,htk,ht,h5,hac,hsp]
          simp [ZFO,h5]
    · simp only[↓xP,xT,rL,rB,rA,rS,rdx,rdx2,hv,h1,he,h2,hcs,hpl,hy,hil,Yr.u,hle]
      simp [ZFO]
theorem ZJE (lo hi:Str) (l:List Yl) (k:List Yr) (se:Bool) (cut:Str) (c s kd:Int) (key:Str) (v o:Int) (hl:l.length≤1048576) (hk:k.length≤1048576):EE F 207 [.ag [.u (.str lo),.u (.str hi),.u (.sl 2 (l.map Yl.u)),.u (.sl 3 (k.map Yr.u)),.u (.bool se),.u (.str cut)],.ag [.u (.int .i64 c),.u (.int .i64 s),.u (.int .i64 kd),.u (.str key),.u (.int .i64 v),.u (.int .i64 o)]] []=if (ZD ⟨⟨lo,hi⟩,l,k,se,cut⟩&&ZP ⟨c,s,⟨kd,key,v,o⟩⟩)=true then ZFO (ZF9 ⟨⟨lo,hi⟩,l,k,se,cut⟩ ⟨c,s,⟨kd,key,v,o⟩⟩) else ZJo (-3):=by
 rw [R207,b207]
 have hv:=ZF8 lo hi l k se cut (by omega)
 have he:=ZF6 c s kd key v o
 cases h1:ZD ⟨⟨lo,hi⟩,l,k,se,cut⟩
 ·simp only[↓xP,xT,rL,rB,rA,rS,hv,h1]
  simp [ZJo]
 cases h2:ZP ⟨c,s,⟨kd,key,v,o⟩⟩
 ·simp only[↓xP,xT,rL,rB,rA,rS,hv,h1,he,h2]
  simp [ZJo]
 obtain ⟨hp1,hp2,hp3⟩:=ZHd h1
 simp only at hp1 hp2 hp3
 have hk4:=ZIm hp3
 have hcs:=ZJ3 lo hi l k se cut hl hk
 simp only[ZH7] at hcs
 have hkey:¬kd=5→ZT key=true:=by
  intro h5
  simp only[ZP,Z7,h5,decide_false,Bool.false_and,Bool.or_false,Bool.and_eq_true] at h2
  exact h2.2.1
 have hac:=ZIF l kd key v o hl
 have hsp:∀ r,EE F 261 [L 3 (k.map Yr.u),.ag [.u (.int .i64 c),.u (.int .i64 s),.u (.int .i64 r)]] []=ZFx (ZFC k ⟨c,s,r⟩):=fun r=>ZJO k c s r (by omega)
 simp only[ZFx] at hsp
 have hf:=ZK3 k c hk
 rw [Bool.and_self,if_pos rfl]
 simp only[ZF9]
 generalize hag:ZFc l ⟨kd,key,v,o⟩=ac at hac
 obtain ⟨al,ar⟩:=ac
 simp only[ZO] at hac
 generalize ZFF c k=fd at hf
 obtain ⟨fc,fs,fr⟩:=fd
 dsimp only at hf
 by_cases m1:fs=s
 ·subst m1
  simp only[↓xP,xT,rL,rB,rA,rS,rdx,rdx2,hv,h1,he,h2,hcs,hf]
  simp [ZFO]
 by_cases m2:s<fs
 ·simp only[↓xP,xT,rL,rB,rA,rS,rdx,rdx2,hv,h1,he,h2,hcs,hf,m1,m2]
  simp [ZFO,m1,m2]
 cases se
 ·have hct:=ZHo lo hi key
  cases hc:ZHL ⟨lo,hi⟩ key
  ·simp only[ZHg,hc,sel] at hct
   by_cases h5:kd=5
   ·subst h5
    by_cases h6:key=[]
    ·subst h6
     simp only[↓xP,xT,rL,rB,rA,rS,rdx,rdx2,hv,h1,he,h2,hcs,hf,m1,m2,hct,hc,hsp,ZG,List.length_map,ne_eq,not_true_eq_false,decide_false]
     simp [ZFO,m1,m2,ZFr]
    ·simp only[↓xP,xT,rL,rB,rA,rS,rdx,rdx2,hv,h1,he,h2,hcs,hf,m1,m2,hct,hc,h6,hsp,ZG,List.length_map,ne_eq,not_false_eq_true]
     simp [ZFO,m1,m2,ZFr,hc,h6]
   ·have hih:ZFo ⟨lo,hi⟩ key=ZFf ⟨lo,hi⟩ key:=by simp [ZFo,hp1,hkey h5]
    cases h7:ZFf ⟨lo,hi⟩ key
    ·simp only[↓xP,xT,rL,rB,rA,rS,rdx,rdx2,hv,h1,he,h2,hcs,hf,m1,m2,hct,hc,h5,ZFh,hih,h7,ZG,List.length_map]
     simp [ZFO,m1,m2,ZFr,h5,h7]
    ·simp only[↓xP,xT,rL,rB,rA,rS,rdx,rdx2,hv,h1,he,h2,hcs,hf,m1,m2,hct,hc,h5,ZFh,hih,h7,hac,hsp,ZG,List.length_map]
     simp [ZFO,m1,m2,ZFr,h5,h7]
  ·simp only[ZHg,hc,sel] at hct
   by_cases h5:kd=5
   ·subst h5
    by_cases h6:key=[]
    ·subst h6
     simp only[↓xP,xT,rL,rB,rA,rS,rdx,rdx2,hv,h1,he,h2,hcs,hf,m1,m2,hct,hc,hsp,ZG,List.length_map,ne_eq,not_true_eq_false,decide_false]
     simp [ZFO,m1,m2,ZFr]
    ·simp only[↓xP,xT,rL,rB,rA,rS,rdx,rdx2,hv,h1,he,h2,hcs,hf,m1,m2,hct,hc,h6,hsp,ZG,List.length_map,ne_eq,not_false_eq_true]
     simp [ZFO,m1,m2,ZFr,hc,h6]
   ·have hih:ZFo ⟨lo,hi⟩ key=ZFf ⟨lo,hi⟩ key:=by simp [ZFo,hp1,hkey h5]
    cases h7:ZFf ⟨lo,hi⟩ key
    ·simp only[↓xP,xT,rL,rB,rA,rS,rdx,rdx2,hv,h1,he,h2,hcs,hf,m1,m2,hct,hc,h5,ZFh,hih,h7,ZG,List.length_map]
     simp [ZFO,m1,m2,ZFr,h5,h7]
    ·simp only[↓xP,xT,rL,rB,rA,rS,rdx,rdx2,hv,h1,he,h2,hcs,hf,m1,m2,hct,hc,h5,ZFh,hih,h7,hac,hsp,ZG,List.length_map]
     simp [ZFO,m1,m2,ZFr,h5,h7]
 ·simp only[↓xP,xT,rL,rB,rA,rS,rdx,rdx2,hv,h1,he,h2,hcs,hf,m1,m2]
  simp [ZFO,m1,m2]
theorem ZOA {α:Type} {l:List α} {i:Nat} {a:α} (h:a∈l.take i):∃ t:Nat,t<i∧l[t]?=some a:=by
 obtain ⟨t,ht⟩:=List.getElem?_of_mem h
 rw [List.getElem?_take] at ht
 split at ht
 ·exact ⟨t,by assumption,ht⟩
 ·cases ht
theorem ZLZ {α:Type} {l:List α} {i:Nat} {a:α} (h:a∈l.drop i):∃ t:Nat,i≤t∧l[t]?=some a:=by
 obtain ⟨t,ht⟩:=List.getElem?_of_mem h
 rw [List.getElem?_drop] at ht
 exact ⟨i+t,by omega,ht⟩
theorem ZOe {l:List Yl} {key:Str} {v:Int} {m:Nat} (hv:ZB l=true) (hk:ZT key=true) (hr:inR v 0 999=true) (hn:(rep l (place key l) m [⟨key,v⟩]).length≤48)
  (hd:∀ b,b∈l.drop (place key l+m)→ZaZ key b.key=true):ZB (rep l (place key l) m [⟨key,v⟩])=true:=by
 obtain ⟨h1,h2,h3⟩:=(ZFG l).1 hv
 have ht:∀ a,a∈l.take (place key l)→ZaZ a.key key=true:=fun a ha=>by
  obtain ⟨t,ht,hp⟩:=ZOA ha
  exact ZH5 ht hp
 refine (ZFG _).2 ⟨hn,fun p hp=>?_,?_⟩
 ·simp only[rep,List.mem_append,List.mem_singleton] at hp
  rcases hp with (hp|rfl)|hp
  ·exact h2 p (List.mem_of_mem_take hp)
  ·exact ⟨hk,hr⟩
  ·exact h2 p (List.mem_of_mem_drop hp)
 ·simp only[rep]
  refine List.pairwise_append.2 ⟨List.pairwise_append.2 ⟨h3.sublist (List.take_sublist ..),List.pairwise_singleton ..,fun a ha b hb=>?_⟩,h3.sublist (List.drop_sublist ..),fun a ha b hb=>?_⟩
  ·simp only[List.mem_singleton] at hb
   subst hb
   exact ht a ha
  ·rcases List.mem_append.1 ha with ha|ha
   ·exact lt_trans (ht a ha) (hd b hb)
   ·simp only[List.mem_singleton] at ha
    subst ha
    exact hd b hb
theorem ZN1 {l:List Yl} {key:Str} {p:Yl} (hv:ZB l=true) (hh:hit key l=some p):∀ b,b∈l.drop (place key l+1)→ZaZ key b.key=true:=by
 intro b hb
 obtain ⟨h1,h2⟩:=ZGu hh
 obtain ⟨t,ht,hp⟩:=ZLZ hb
 rw [←h2]
 exact ZHO hv _ t _ _ (by omega) h1 hp
theorem ZNu {l:List Yl} {key:Str} (hv:ZB l=true) (hh:hit key l=none):∀ b,b∈l.drop (place key l+0)→ZaZ key b.key=true:=by
  intro b hb
  obtain ⟨t,ht,hp⟩:=ZLZ hb
  have h1:=ZKi (ZHO hv) ht hp
  rcases ZIS key b.key with h|h|h
  · exact h
  · by_cases e:t=place key l
    · subst e; exact absurd h.symm (ZIL hh b hp)
    · obtain ⟨q,hq⟩:∃ q,l[place key l]?=some q:=⟨_,List.getElem?_eq_getElem (by have:=(List.getElem?_eq_some_iff.1 hp).1; omega)⟩
      have h2:=ZHO hv _ t _ _ (by omega) hq hp
      rw [←h,ZIW hq] at h2
      cases h2
  · rw [h1] at h; cases h
theorem ZOc:ZB []=true:=(ZFG []).2 ⟨by simp,fun p h=>(by cases h),List.Pairwise.nil⟩
theorem ZMK {l:List Yl} {key:Str} {v:Int} (hv:ZB l=true):ZB (Z5 l key v).1=true∧∀ w:Yj,(l.all fun q=>ZFf w q.key)=true→ZFf w key=true→((Z5 l key v).1.all fun q=>ZFf w q.key)=true:=by
 unfold Z5
 have hins:∀ (w:Yj) (m:Nat),(l.all fun q=>ZFf w q.key)=true→ZFf w key=true→((rep l (place key l) m [⟨key,v⟩]).all fun q=>ZFf w q.key)=true:=by
  intro w m ha hw
  rw [List.all_eq_true] at ha ⊢
  intro p hp
  simp only[rep,List.mem_append,List.mem_singleton] at hp
  rcases hp with (hp|rfl)|hp
  ·exact ha p (List.mem_of_mem_take hp)
  ·exact hw
  ·exact ha p (List.mem_of_mem_drop hp)
 split
 ·rename_i hc
  have h48:=Z0 hv
  have hpl:=ZF5 key l
  cases hh:hit key l with
  | some p=>
   have hlt:=(List.getElem?_eq_some_iff.1 (ZGu hh).1).1
   simp only[Option.isSome_some,if_true]
   exact ⟨ZOe hv hc.2.1 hc.2.2 (by rw [ZIY (by omega)]; simp; omega) (ZN1 hv hh),fun w ha hw=>hins w 1 ha hw⟩
  | none=>
   simp only[Option.isSome_none,Bool.false_eq_true,if_false]
   split
   ·exact ⟨hv,fun w ha _=>ha⟩
   ·exact ⟨ZOe hv hc.2.1 hc.2.2 (by rw [ZIY (by omega)]; simp; omega) (ZNu hv hh),fun w ha hw=>hins w 0 ha hw⟩
 ·exact ⟨ZOc,fun _ _ _=>rfl⟩
theorem ZJv {l:List Yl} {key:Str} (hv:ZB l=true):ZB (ZFg l key).1=true∧∀ w:Yj,(l.all fun q=>ZFf w q.key)=true→((ZFg l key).1.all fun q=>ZFf w q.key)=true:=by
 unfold ZFg
 rw [if_pos hv]
 split
 ·obtain ⟨h1,h2,h3⟩:=(ZFG l).1 hv
  have hsub:List.Sublist (rep l (place key l) 1 []) l:=by
   simp only[rep,List.append_nil]
   conv=>rhs; rw [←List.take_append_drop (place key l) l]
   refine List.Sublist.append (List.Sublist.refl _) ?_
   rw [←List.drop_drop]
   exact List.drop_sublist ..
  refine ⟨(ZFG _).2 ⟨Nat.le_trans hsub.length_le h1,fun p hp=>h2 p (hsub.subset hp),h3.sublist hsub⟩,fun w ha=>?_⟩
  rw [List.all_eq_true] at ha ⊢
  exact fun p hp=>ha p (hsub.subset hp)
 ·exact ⟨hv,fun _ h=>h⟩
theorem ZNo {l:List Yl} {c:Ye} (hv:ZB l=true):ZB (ZFc l c).1=true∧∀ w:Yj,(l.all fun q=>ZFf w q.key)=true→ZFf w c.key=true→((ZFc l c).1.all fun q=>ZFf w q.key)=true:=by
 unfold ZFc
 split
 ·split
  ·exact ⟨hv,fun _ h _=>h⟩
  ·split
   ·exact ⟨(ZJv hv).1,fun w h _=>(ZJv hv).2 w h⟩
   ·split
    ·exact ⟨hv,fun _ h _=>h⟩
    ·exact ZMK hv
 ·exact ⟨ZOc,fun _ _ _=>rfl⟩
def SFit (s:Yr):Prop:=inR s.client 0 3=true∧inR s.seq 1 999=true∧inR s.reply (-2) 999=true
theorem ZNb:∀ (l:List Yr),AscS l→∀ (i:Nat) (p q:Yr),l[i]?=some p→l[i+1]?=some q→p.client<q.client
 | [],_,i,p,q,hp,_=>by simp at hp
 | x::l,h,0,p,q,hp,hq=>by
  simp only[List.getElem?_cons_zero,Option.some.injEq] at hp
  subst hp
  simp only[List.getElem?_cons_succ] at hq
  exact h.1 q (List.mem_of_getElem? hq)
 | x::l,h,i+1,p,q,hp,hq=>ZNb l h.2 i p q (by simpa using hp) (by simpa using hq)
theorem ZI3 (l:List Yr):ZF l=true↔(∀ p,p∈l→SFit p)∧AscS l:=by
 constructor
 ·intro h
  refine ⟨fun p hp=>?_,ZI2 h⟩
  obtain ⟨i,hi⟩:=List.getElem?_of_mem hp
  have:=ZIl h hi
  exact ⟨this.1,this.2.1,this.2.2.1⟩
 ·rintro ⟨h1,h2⟩
  refine (ZFE _ 0 rfl).2 fun j _ hj=>?_
  obtain ⟨p,hp⟩:∃ p,l[j]?=some p:=⟨_,List.getElem?_eq_getElem hj⟩
  obtain ⟨f1,f2,f3⟩:=h1 p (List.mem_of_getElem? hp)
  simp only[Z3,hp,f1,f2,f3,Bool.true_and,Bool.or_eq_true,decide_eq_true_eq]
  cases j with
  | zero=>exact .inl rfl
  | succ j=>
   right
   obtain ⟨q,hq⟩:∃ q,l[j]?=some q:=⟨_,List.getElem?_eq_getElem (by omega)⟩
   simp only[Nat.add_sub_cancel,hq,decide_eq_true_eq]
   exact ZNb l h2 j q p hq hp
theorem ZJ2 (x:Yr):∀ (l:List Yr) (y:Yr),y∈insS x l→y=x∨y∈l
 | [],y,h=>by simp [insS] at h; exact .inl h
 | z :: l,y,h=>by
  simp only[insS] at h
  split at h
  ·rcases List.mem_cons.1 h with rfl|h
   ·exact .inr (List.mem_cons_self ..)
   ·rcases ZJ2 x l y h with h|h
    ·exact .inl h
    ·exact .inr (List.mem_cons_of_mem _ h)
  ·split at h
   ·rcases List.mem_cons.1 h with h|h
    ·exact .inl h
    ·exact .inr (List.mem_cons_of_mem _ h)
   ·rcases List.mem_cons.1 h with h|h
    ·exact .inl h
    ·exact .inr h
theorem ZMa (x:Yr):∀ l:List Yr,AscS l→AscS (insS x l)
 | [],_=>⟨fun y h=>(by cases h),trivial⟩
 | z :: l,h=>by
  simp only[insS]
  split
  ·rename_i hz
   refine ⟨fun y hy=>?_,ZMa x l h.2⟩
   rcases ZJ2 x l y hy with rfl|hy
   ·exact hz
   ·exact h.1 y hy
  ·rename_i hz
   split
   ·rename_i he
    exact ⟨fun y hy=>by have:=h.1 y hy; omega,h.2⟩
   ·rename_i he
    refine ⟨fun y hy=>?_,h⟩
    rcases List.mem_cons.1 hy with rfl|hy
    ·omega
    ·have:=h.1 y hy; omega
theorem ZKo {l:List Yr} (hv:ZF l=true) (x:Yr):ZF (ZFC l x).1=true:=by
 unfold ZFC
 split
 ·rename_i hc
  rw [Bool.and_eq_true] at hc
  split
  ·exact hv
  ·obtain ⟨f1,a1⟩:=(ZI3 l).1 hv
   obtain ⟨f2,_⟩:=(ZI3 _).1 hc.2
   refine (ZI3 _).2 ⟨fun p hp=>?_,ZMa x l a1⟩
   rcases ZJ2 x l p hp with rfl|hp
   ·exact f2 p (by simp)
   ·exact f1 p hp
 ·exact (ZI3 []).2 ⟨fun p h=>(by cases h),trivial⟩
theorem ZNp {s:Yt} {e:Yh} (hs:ZD s=true) (he:ZP e=true):ZD (ZF9 s e).1=true:=by
 unfold ZF9
 split
 ·exact hs
 ·split
  ·exact hs
  ·split
   ·exact hs
   ·rename_i htk
    simp only[Bool.or_eq_true,Bool.not_eq_true',not_or,Bool.not_eq_true,Bool.not_eq_false] at htk
    obtain ⟨hse,htk⟩:=htk
    have hs':=hs
    simp only[ZD,Bool.and_eq_true] at hs'
    obtain ⟨⟨⟨⟨p1,p2⟩,p3⟩,p4⟩,p5⟩:=hs'
    split
    ·rename_i h5
     simp only[ZFr,h5,if_true] at htk
     simp only[ZD,p1,p2,p4,ZKo p3,Bool.true_and]
     exact htk
    ·rename_i h5
     simp only[ZFr,h5,if_false] at htk
     have hac:=ZNo (c:=e.cmd) p2
     simp only[ZD,p1,hac.1,hac.2 _ p4 htk,ZKo p3,Bool.true_and]
     exact p5
def runE (s:Yt) (l:List Yh):Yt:=l.foldl (fun s e=>(ZF9 s e).1) s
def repE:Yt→List Yh→List Int
 | _,[]=>[]
 | s,e::l=>(ZF9 s e).2::repE (ZF9 s e).1 l
theorem ZLc {s:Yt} {l:List Yh} {i:Nat} {e:Yh} (h:l[i]?=some e):runE s (l.take (i+1))=(ZF9 (runE s (l.take i)) e).1:=by
 rw [runE,List.take_add_one,h,Option.toList_some,List.foldl_append]; rfl
theorem ZJy:∀ (s:Yt) (a:List Yh) (e:Yh),repE s (a++[e])=repE s a++[(ZF9 (runE s a) e).2]
 | s,[],e=>rfl
 | s,x::a,e=>by
  have:=ZJy (ZF9 s x).1 a e
  simp only[List.cons_append,repE,this]; rfl
theorem ZLa {s:Yt} {l:List Yh} {i:Nat} {e:Yh} (h:l[i]?=some e):repE s (l.take (i+1))=repE s (l.take i)++[(ZF9 (runE s (l.take i)) e).2]:=by
 rw [List.take_add_one,h,Option.toList_some,ZJy]
theorem ZKl:∀ (s:Yt) (l:List Yh),(repE s l).length=l.length
 | _,[]=>rfl
 | s,e::l=>by simp [repE,ZKl _ l]
theorem ZJQ:∀ (l:List Yh) (s:Yt),ZD s=true→l.all ZP=true→ZD (runE s l)=true
 | [],_,h,_=>h
 | e::l,s,h,hl=>by
  rw [List.all_cons,Bool.and_eq_true] at hl
  exact ZJQ l _ (ZNp h hl.1) hl.2
theorem ZLW {α:Type} {p:α→Bool} {l:List α} (h:l.all p=true) (i:Nat):(l.take i).all p=true:=by
 rw [List.all_eq_true] at h ⊢
 exact fun x hx=>h x (List.mem_of_mem_take hx)
theorem ZHe {s:Yt} (h:ZD s=true):s.pairs.length≤48∧s.known.length≤4:=by
 obtain ⟨_,h2,h3⟩:=ZHd h
 exact ⟨Z0 h2,ZIm h3⟩
def ZFP (s:Yt) (r:List Int):Option Ret:=some ⟨[.ag [.u (.str s.span.low),.u (.str s.span.high),.own (.par 0) s.pairs.length,.own (.par 1) s.known.length,.u (.bool s.sealed),.u (.str s.cut)],.sc (.own (.par 2) r.length)],[.row 2 (s.pairs.map Yl.u),.row 3 (s.known.map Yr.u),.row 1 (r.map iU)],[]⟩
def ZGF:Option Ret:=some ⟨[.ag [.u (.str []),.u (.str []),.u (.sl 2 []),.u (.sl 3 []),.u (.bool false),.u (.str [])],.sc (.own (.par 0) 0)],[.row 1 []],[]⟩
def rid (a b:Nat):Nat→Nat→Id
 | 0,j=>.loc a j
 | _+1,j=>.loc b j
def ZFD (a b i:Nat) (s:Yt):List C:=[.u (.str s.span.low),.u (.str s.span.high),.own (rid a b i 0) s.pairs.length,.own (rid a b i 1) s.known.length,.u (.bool s.sealed),.u (.str s.cut)]
theorem ZMh (lo hi:Str) (l:List Yl) (k:List Yr) (se:Bool) (cut:Str) (es:List Yh) (hl:l.length≤1048576) (hk:k.length≤1048576) (hes:es.length≤1048576):EE F 140 [.ag [.u (.str lo),.u (.str hi),.u (.sl 2 (l.map Yl.u)),.u (.sl 3 (k.map Yr.u)),.u (.bool se),.u (.str cut)],L 6 (es.map Yh.u)] []=if (ZD ⟨⟨lo,hi⟩,l,k,se,cut⟩&&ZL es)=true then ZFP (runE ⟨⟨lo,hi⟩,l,k,se,cut⟩ es) (repE ⟨⟨lo,hi⟩,l,k,se,cut⟩ es) else ZGF:=by
 rw [R140,b140]
 have hv:=ZF7 lo hi l k se cut (by omega)
 have he:=ZGs es (by omega)
 cases h1:ZD ⟨⟨lo,hi⟩,l,k,se,cut⟩
 ·simp only[↓xP,xT,rL,rB,rA,rS,hv,h1]
  simp [ZGF]
 cases h2:ZL es
 ·simp only[↓xP,xT,rL,rB,rA,rS,hv,h1,he,h2]
  simp [ZGF]
 have hcs:=ZII lo hi l k se cut hl hk
 simp only[ZH7] at hcs
 rw [Bool.and_self,if_pos rfl]
 simp only[ZL,Bool.and_eq_true,decide_eq_true_eq] at h2
 obtain ⟨h24,hall⟩:=h2
 have he':EE F 213 [L 6 (es.map Yh.u)] []=ok1 (B true):=by rw [he]; simp [ZL,h24,hall]
 rw [h1] at hv
 generalize hs0:(⟨⟨lo,hi⟩,l,k,se,cut⟩:Yt)=s0 at h1 ⊢
 simp only[↓xP,xT,rL,rB,rA,rS,hv,he',hcs]
 refine Zjc (fun (i:Nat) st=>i≤es.length∧st.s 4=.t (.sc (.ptr (.loc 4 0) 0 0))∧st.o (.loc 4 0)=some (.box [.u (.str []),.u (.str []),.u (.sl 2 []),.u (.sl 3 []),.u (.bool false),.u (.str [])])∧st.s 6=.t (.sc (.ptr (.loc 6 0) 0 0))∧st.o (.loc 6 0)=some (.box (ZFD 21 31 i (runE s0 (es.take i))))∧st.o (rid 21 31 i 0)=some (.row 2 ((runE s0 (es.take i)).pairs.map Yl.u))∧st.o (rid 21 31 i 1)=some (.row 3 ((runE s0 (es.take i)).known.map Yr.u))∧st.s 7=.t (.sc (.own (.loc 7 0) (repE s0 (es.take i)).length))∧st.o (.loc 7 0)=some (.row 1 ((repE s0 (es.take i)).map iU))∧st.s 22=DU (.sl 6 (es.map Yh.u))∧st.s 23=DI es.length∧st.s 24=DI i) (fun i=>es.length - i) (fun _=>ZFP (runE s0 es) (repE s0 es)) ?_ 0 (by and_intros<;>first|omega|rfl|(simp only[↓xP,xT,rL,rB,rA,rS,←hs0,ZFD,rid,runE,repE,List.take_zero,List.foldl_nil,List.length_nil,List.map_nil]<;>first|done|rfl|omega))
 clear hcs hv he he'
 rintro i st ⟨hle,h4,ho4,h6,ho6,hop,hok,h7,ho7,h22,h23,h24'⟩ ih
 have hvs:=ZJQ (es.take i) s0 h1 (ZLW hall i)
 have hsm:=ZHe hvs
 have hrl:(repE s0 (es.take i)).length≤24:=by rw [ZKl,List.length_take]; omega
 by_cases hi':i<es.length
 ·obtain ⟨⟨c,s,⟨kd,key,v,o⟩⟩,hx⟩:∃ x,es[i]?=some x:=⟨_,List.getElem?_eq_getElem hi'⟩
  have hw:=w_succ (i:=i) (by omega)
  have hev:ZP ⟨c,s,⟨kd,key,v,o⟩⟩=true:=List.all_eq_true.1 hall _ (List.mem_of_getElem? hx)
  have hr1:=ZLc (s:=s0) hx
  have hr2:=ZLa (s:=s0) hx
  generalize runE s0 (es.take i)=S at ho6 hop hok hr1 hr2 hvs hsm
  generalize repE s0 (es.take i)=R at h7 ho7 hr2 hrl
  obtain ⟨⟨lo',hi2⟩,l',k',se',cut'⟩:=S
  dsimp only at ho6 hop hok hsm
  have hae:=ZJD lo' hi2 l' k' se' cut' c s kd key v o (by omega) (by omega)
  rw [hvs,hev,Bool.and_self,if_pos rfl] at hae
  generalize ZF9 ⟨⟨lo',hi2⟩,l',k',se',cut'⟩ ⟨c,s,⟨kd,key,v,o⟩⟩=q at hae hr1 hr2
  obtain ⟨⟨⟨lo3,hi3⟩,l3,k3,se3,cut3⟩,rp⟩:=q
  simp only[ZFO] at hae hr1 hr2
  have m1:R.length+1≤maxLen:=by simp [maxLen]; omega
  have m2:(R.length+1)*8≤140737488355328:=by omega
  cases i with
  | zero=>
   simp only[rid,ZFD] at ho6 hop hok
   simp only[↓xP,xT,rL,rB,rA,rS,rdx,rdx2,h4,ho4,h6,ho6,hop,hok,h7,ho7,h22,h23,h24',hi',hx,hw,Yh.u,hae,ZG,List.length_map,m1,m2]
   exact ih 1 _ (by omega) (by and_intros<;>first|omega|rfl|(simp only[↓xP,xT,rL,rB,rA,rS,h4,ho4,h6,ho6,h7,ho7,h22,h23,hr1,hr2,rid,ZFD,List.length_append,List.map_append,List.length_cons,List.length_nil,List.map_cons,List.map_nil,iU]<;>first|done|rfl|omega))
  | succ i=>
   simp only[rid,ZFD] at ho6 hop hok
   simp only[↓xP,xT,rL,rB,rA,rS,rdx,rdx2,h4,ho4,h6,ho6,hop,hok,h7,ho7,h22,h23,h24',hi',hx,hw,Yh.u,hae,ZG,List.length_map,m1,m2]
   exact ih (i+1+1) _ (by omega) (by and_intros<;>first|omega|rfl|(simp only[↓xP,xT,rL,rB,rA,rS,h4,ho4,h6,ho6,h7,ho7,h22,h23,hr1,hr2,rid,ZFD,List.length_append,List.map_append,List.length_cons,List.length_nil,List.map_cons,List.map_nil,iU]<;>first|done|rfl|omega))
 ·have hta:es.take i=es:=List.take_of_length_le (by omega)
  rw [hta] at ho6 hop hok h7 ho7
  generalize runE s0 es=S at ho6 hop hok ⊢
  obtain ⟨⟨lo',hi2⟩,l',k',se',cut'⟩:=S
  cases i with
  | zero=>
   simp only[rid,ZFD] at ho6 hop hok
   simp only[↓xP,xT,rL,rB,rA,rS,h4,ho4,h6,ho6,hop,hok,h7,ho7,h22,h23,h24',hi',ZFP]
  | succ i=>
   simp only[rid,ZFD] at ho6 hop hok
   simp only[↓xP,xT,rL,rB,rA,rS,h4,ho4,h6,ho6,hop,hok,h7,ho7,h22,h23,h24',hi',ZFP]
theorem ZMi (lo hi:Str) (l:List Yl) (k:List Yr) (se:Bool) (cut:Str) (es:List Yh) (hl:l.length≤1048576) (hk:k.length≤1048576) (hes:es.length≤1048576):EE F 133 [.ag [.u (.str lo),.u (.str hi),.u (.sl 2 (l.map Yl.u)),.u (.sl 3 (k.map Yr.u)),.u (.bool se),.u (.str cut)],L 6 (es.map Yh.u)] []=if (ZD ⟨⟨lo,hi⟩,l,k,se,cut⟩&&ZL es)=true then ZFP (runE ⟨⟨lo,hi⟩,l,k,se,cut⟩ es) (repE ⟨⟨lo,hi⟩,l,k,se,cut⟩ es) else ZGF:=by
 rw [R133,b133]
 have hv:=ZF8 lo hi l k se cut (by omega)
 have he:=ZGt es (by omega)
 cases h1:ZD ⟨⟨lo,hi⟩,l,k,se,cut⟩
 ·simp only[↓xP,xT,rL,rB,rA,rS,hv,h1]
  simp [ZGF]
 cases h2:ZL es
 ·simp only[↓xP,xT,rL,rB,rA,rS,hv,h1,he,h2]
  simp [ZGF]
 have hcs:=ZJ3 lo hi l k se cut hl hk
 simp only[ZH7] at hcs
 rw [Bool.and_self,if_pos rfl]
 simp only[ZL,Bool.and_eq_true,decide_eq_true_eq] at h2
 obtain ⟨h24,hall⟩:=h2
 have he':EE F 205 [L 6 (es.map Yh.u)] []=ok1 (B true):=by rw [he]; simp [ZL,h24,hall]
 rw [h1] at hv
 generalize hs0:(⟨⟨lo,hi⟩,l,k,se,cut⟩:Yt)=s0 at h1 ⊢
 simp only[↓xP,xT,rL,rB,rA,rS,hv,he',hcs]
 refine Zjc (fun (i:Nat) st=>i≤es.length∧st.s 4=.t (.sc (.ptr (.loc 4 0) 0 0))∧st.o (.loc 4 0)=some (.box [.u (.str []),.u (.str []),.u (.sl 2 []),.u (.sl 3 []),.u (.bool false),.u (.str [])])∧st.s 7=.t (.sc (.ptr (.loc 7 0) 0 0))∧st.o (.loc 7 0)=some (.box (ZFD 23 36 i (runE s0 (es.take i))))∧st.o (rid 23 36 i 0)=some (.row 2 ((runE s0 (es.take i)).pairs.map Yl.u))∧st.o (rid 23 36 i 1)=some (.row 3 ((runE s0 (es.take i)).known.map Yr.u))∧st.s 6=.t (.sc (.own (.loc 11 0) (repE s0 (es.take i)).length))∧st.o (.loc 11 0)=some (.row 1 ((repE s0 (es.take i)).map iU))∧st.s 1=DU (.sl 6 (es.map Yh.u))∧st.s 8=DI i) (fun i=>es.length - i) (fun _=>ZFP (runE s0 es) (repE s0 es)) ?_ 0 (by and_intros<;>first|omega|rfl|(simp only[↓xP,xT,rL,rB,rA,rS,←hs0,ZFD,rid,runE,repE,List.take_zero,List.foldl_nil,List.length_nil,List.map_nil]<;>first|done|rfl|omega))
 clear hcs hv he he'
 rintro i st ⟨hle,h4,ho4,h6,ho6,hop,hok,h7,ho7,h22,h24'⟩ ih
 have hvs:=ZJQ (es.take i) s0 h1 (ZLW hall i)
 have hsm:=ZHe hvs
 have hrl:(repE s0 (es.take i)).length≤24:=by rw [ZKl,List.length_take]; omega
 by_cases hi':i<es.length
 ·obtain ⟨⟨c,s,⟨kd,key,v,o⟩⟩,hx⟩:∃ x,es[i]?=some x:=⟨_,List.getElem?_eq_getElem hi'⟩
  have hw:=w_succ (i:=i) (by omega)
  have hev:ZP ⟨c,s,⟨kd,key,v,o⟩⟩=true:=List.all_eq_true.1 hall _ (List.mem_of_getElem? hx)
  have hr1:=ZLc (s:=s0) hx
  have hr2:=ZLa (s:=s0) hx
  generalize runE s0 (es.take i)=S at ho6 hop hok hr1 hr2 hvs hsm
  generalize repE s0 (es.take i)=R at h7 ho7 hr2 hrl
  obtain ⟨⟨lo',hi2⟩,l',k',se',cut'⟩:=S
  dsimp only at ho6 hop hok hsm
  have hae:=ZJE lo' hi2 l' k' se' cut' c s kd key v o (by omega) (by omega)
  rw [hvs,hev,Bool.and_self,if_pos rfl] at hae
  generalize ZF9 ⟨⟨lo',hi2⟩,l',k',se',cut'⟩ ⟨c,s,⟨kd,key,v,o⟩⟩=q at hae hr1 hr2
  obtain ⟨⟨⟨lo3,hi3⟩,l3,k3,se3,cut3⟩,rp⟩:=q
  simp only[ZFO] at hae hr1 hr2
  have m1:R.length+1≤maxLen:=by simp [maxLen]; omega
  have m2:(R.length+1)*8≤140737488355328:=by omega
  cases i with
  | zero=>
   simp only[rid,ZFD] at ho6 hop hok
   simp only[↓xP,xT,rL,rB,rA,rS,rdx,rdx2,ofR,List.getElem?_nil,h4,ho4,h6,ho6,hop,hok,h7,ho7,h22,h24',hi',hx,hw,Yh.u,hae,ZG,List.length_map,m1,m2]
   exact ih 1 _ (by omega) (by and_intros<;>first|omega|rfl|(simp only[↓xP,xT,rL,rB,rA,rS,h4,ho4,h6,ho6,h7,ho7,h22,hw,hr1,hr2,rid,ZFD,List.length_append,List.map_append,List.length_cons,List.length_nil,List.map_cons,List.map_nil,iU]<;>first|done|rfl|omega))
  | succ i=>
   simp only[rid,ZFD] at ho6 hop hok
   simp only[↓xP,xT,rL,rB,rA,rS,rdx,rdx2,ofR,List.getElem?_nil,h4,ho4,h6,ho6,hop,hok,h7,ho7,h22,h24',hi',hx,hw,Yh.u,hae,ZG,List.length_map,m1,m2]
   exact ih (i+1+1) _ (by omega) (by and_intros<;>first|omega|rfl|(simp only[↓xP,xT,rL,rB,rA,rS,h4,ho4,h6,ho6,h7,ho7,h22,hw,hr1,hr2,rid,ZFD,List.length_append,List.map_append,List.length_cons,List.length_nil,List.map_cons,List.map_nil,iU]<;>first|done|rfl|omega))
 ·have hta:es.take i=es:=List.take_of_length_le (by omega)
  rw [hta] at ho6 hop hok h7 ho7
  generalize runE s0 es=S at ho6 hop hok ⊢
  obtain ⟨⟨lo',hi2⟩,l',k',se',cut'⟩:=S
  cases i with
  | zero=>
   simp only[rid,ZFD] at ho6 hop hok
   simp only[↓xP,xT,rL,rB,rA,rS,h4,ho4,h6,ho6,hop,hok,h7,ho7,h22,h24',hi',List.length_map,ZFP]
  | succ i=>
   simp only[rid,ZFD] at ho6 hop hok
   simp only[↓xP,xT,rL,rB,rA,rS,h4,ho4,h6,ho6,hop,hok,h7,ho7,h22,h24',hi',List.length_map,ZFP]
theorem ZN0 (st:St) (d:Nat):st.dead d 3=(isNo (st.o (.loc d 0))&&(isNo (st.o (.loc d 1))&&isNo (st.o (.loc d 2)))):=by simp [St.dead,isNo,List.range_succ,Bool.and_assoc]
theorem ZOB (st:St) (d:Nat) (v:D) (a b c:Id) (x y z:Obj) (rd:List Id):Fx.app ⟨some d,v,[(a,x),(b,y),(c,z)],rd⟩ st=(((st.obj a (some x)).obj b (some y)).obj c (some z)).put d v:=rfl
def ZFl (l:List Ya):List Yh:=l.map (fun a=>a.asked)
theorem ZKX {l:List Ya} {i:Nat} {a:Ya} (h:l[i]?=some a):ZFl (l.take (i+1))=ZFl (l.take i)++[a.asked]:=by
 rw [ZFl,List.take_add_one,h]; simp [ZFl]
theorem ZHP (l:List Ya):(ZFl l).length=l.length:=by simp [ZFl]
def ZG9 (l:List Yh):Option Ret:=some ⟨[.sc (.own (.par 0) l.length)],[.row 6 (l.map Yh.u)],[]⟩
theorem ZMz (l:List Ya) (hn:l.length≤1048576):EE F 137 [L 7 (l.map Ya.u)] []=ZG9 (ZFl l):=by
 rw [R137,b137]
 simp only[↓xP,xT,rL,rB,rA,rS]
 refine Zjc (fun (i:Nat) st=>i≤l.length∧st.s 3=.t (.sc (.own (.loc 3 0) (ZFl (l.take i)).length))∧st.o (.loc 3 0)=some (.row 6 ((ZFl (l.take i)).map Yh.u))∧st.s 6=DU (.sl 7 (l.map Ya.u))∧st.s 7=DI l.length∧st.s 8=DI i) (fun i=>l.length - i) (fun _=>ZG9 (ZFl l)) ?_ 0 (by and_intros<;>first|omega|rfl|(simp only[↓xP,xT,rL,rB,rA,rS]<;>first|done|rfl|omega))
 rintro i st ⟨hle,h3,ho,h6,h7,h8⟩ ih
 by_cases hi:i<l.length
 ·obtain ⟨⟨⟨c,s,⟨kd,key,v,o⟩⟩,rp⟩,hx⟩:∃ x,l[i]?=some x:=⟨_,List.getElem?_eq_getElem hi⟩
  have hw:=w_succ (i:=i) (by omega)
  have hst:=ZKX hx
  have hol:(ZFl (l.take i)).length=i:=by rw [ZHP,List.length_take]; omega
  generalize ZFl (l.take i)=O at h3 ho hst hol
  have m1:O.length+1≤maxLen:=by simp [maxLen]; omega
  have m2:(O.length+1)*56≤140737488355328:=by omega
  simp only[↓xP,xT,rL,rB,rA,rS,h3,ho,h6,h7,h8,hi,hx,hw,Ya.u,List.length_map,m1,m2]
  exact ih (i+1) _ (by omega) (by and_intros<;>first|omega|rfl|(simp only[↓xP,xT,rL,rB,rA,rS,h3,ho,h6,h7,hst,List.length_append,List.map_append,List.length_cons,List.length_nil,List.map_cons,List.map_nil,Yh.u]<;>first|done|rfl|omega))
 ·have hall:l.take i=l:=List.take_of_length_le (by omega)
  rw [hall] at h3 ho
  simp only[↓xP,xT,rL,rB,rA,rS,h3,ho,h6,h7,h8,hi,ZG9]
theorem ZJU (lo up:Str) (prs:List Yl) (kn:List Yr) (sld:Bool) (cut:Str) (ep:Int) (ms:List Int) (fr:Bool) (nds:List Yo) (ups:List Bool) (bag:List Yk) (ans:List Ya) (hs:Yc.Small ⟨⟨⟨lo,up⟩,prs,kn,sld,cut⟩,⟨ep,ms,fr⟩,nds,ups,bag,ans⟩) (hv:ZE ⟨⟨⟨lo,up⟩,prs,kn,sld,cut⟩,⟨ep,ms,fr⟩,nds,ups,bag,ans⟩=true):EE F 131 [.ag [.u (.str lo),.u (.str up),.u (.sl 2 (prs.map Yl.u)),.u (.sl 3 (kn.map Yr.u)),.u (.bool sld),.u (.str cut),.u (.int .i64 ep),.u (.sl 1 (ms.map iU)),.u (.bool fr),.u (.sl 5 (nds.map Yo.u)),.u (.sl 1 (ups.map bU)),.u (.sl 7 (bag.map Yk.u)),.u (.sl 7 (ans.map Ya.u))]] []=ZG9 (ZFl ans):=by
 have hch:=ZGU lo up prs kn sld cut ep ms fr nds ups bag ans hs
 have hn:ans.length≤1048576:=hs.2.2.2.2.2.1.1
 rw [hv] at hch
 rw [R131,b131]
 simp only[↓xP,xT,rL,rB,rA,rS]
 refine Zjc (fun (i:Nat) st=>i≤ans.length∧st.s 1=.t (.sc (.ptr (.loc 1 0) 0 0))∧st.o (.loc 1 0)=some (.box [.u (.str lo),.u (.str up),.u (.sl 2 (prs.map Yl.u)),.u (.sl 3 (kn.map Yr.u)),.u (.bool sld),.u (.str cut),.u (.int .i64 ep),.u (.sl 1 (ms.map iU)),.u (.bool fr),.u (.sl 5 (nds.map Yo.u)),.u (.sl 1 (ups.map bU)),.u (.sl 7 (bag.map Yk.u)),.u (.sl 7 (ans.map Ya.u))])∧st.s 3=.t (.sc (.own (.loc 5 0) (ZFl (ans.take i)).length))∧st.o (.loc 5 0)=some (.row 6 ((ZFl (ans.take i)).map Yh.u))∧st.s 4=DI i) (fun i=>ans.length - i) (fun _=>ZG9 (ZFl ans)) ?_ 0 (by and_intros<;>first|omega|rfl|(simp only[↓xP,xT,rL,rB,rA,rS]<;>first|done|rfl|omega))
 rintro i st ⟨hle,h1,hb,h3,ho,h4⟩ ih
 by_cases hi:i<ans.length
 ·obtain ⟨⟨⟨c,s,⟨kd,key,v,o⟩⟩,rp⟩,hx⟩:∃ x,ans[i]?=some x:=⟨_,List.getElem?_eq_getElem hi⟩
  have hw:=w_succ (i:=i) (by omega)
  have hst:=ZKX hx
  have hol:(ZFl (ans.take i)).length=i:=by rw [ZHP,List.length_take]; omega
  generalize ZFl (ans.take i)=O at h3 ho hst hol
  have m1:O.length+1≤maxLen:=by simp [maxLen]; omega
  have m2:(O.length+1)*56≤140737488355328:=by omega
  simp only[↓xP,xT,rL,rB,rA,rS,rdx,rdx2,h1,hb,h3,ho,h4,hi,hx,hw,hch,Ya.u,List.length_map,m1,m2]
  exact ih (i+1) _ (by omega) (by and_intros<;>first|omega|rfl|(simp only[↓xP,xT,rL,rB,rA,rS,h1,hb,h3,ho,hw,hst,List.length_append,List.map_append,List.length_cons,List.length_nil,List.map_cons,List.map_nil,Yh.u]<;>first|done|rfl|omega))
 ·have hall:ans.take i=ans:=List.take_of_length_le (by omega)
  rw [hall] at h3 ho
  simp only[↓xP,xT,rL,rB,rA,rS,rdx,rdx2,h1,hb,h3,ho,h4,hi,hch,List.length_map,ZG9]
def ZF4 (c:Yc):Yt:=runE c.base (ZFl c.answers)
theorem ZIv {c:Yc} (h:ZE c=true):ZL (ZFl c.answers)=true:=by
 simp only[ZE,ZW,Bool.and_eq_true,decide_eq_true_eq] at h
 simp only[ZL,ZHP,Bool.and_eq_true,decide_eq_true_eq]
 refine ⟨h.2.1,?_⟩
 have h2:=h.2.2
 rw [List.all_eq_true] at h2 ⊢
 intro e he
 obtain ⟨a,ha,rfl⟩:=List.mem_map.1 he
 have:=h2 a ha
 simp only[ZFk,Bool.and_eq_true] at this
 exact this.1
theorem ZIw {c:Yc} (h:ZE c=true):ZD c.base=true:=by
 simp only[ZE,Bool.and_eq_true] at h
 exact h.1.1.1.1.1.1.1
def ZKf (s:Yt):Option Ret:=some ⟨[.ag [.u (.str s.span.low),.u (.str s.span.high),.own (.par 0) s.pairs.length,.own (.par 1) s.known.length,.u (.bool s.sealed),.u (.str s.cut)]],[.row 2 (s.pairs.map Yl.u),.row 3 (s.known.map Yr.u)],[]⟩
def ZLs (s:Yt):Option Ret:=some ⟨[.ag [.u (.str s.span.low),.u (.str s.span.high),.u (.sl 2 (s.pairs.map Yl.u)),.u (.sl 3 (s.known.map Yr.u)),.u (.bool s.sealed),.u (.str s.cut)]],[],[]⟩
def ZJP:Option Ret:=some ⟨[.ag [.u (.str []),.u (.str []),.u (.sl 2 []),.u (.sl 3 []),.u (.bool false),.u (.str [])]],[],[]⟩
theorem ZIt (lo up:Str) (prs:List Yl) (kn:List Yr) (sld:Bool) (cut:Str) (ep:Int) (ms:List Int) (fr:Bool) (nds:List Yo) (ups:List Bool) (bag:List Yk) (ans:List Ya) (hs:Yc.Small ⟨⟨⟨lo,up⟩,prs,kn,sld,cut⟩,⟨ep,ms,fr⟩,nds,ups,bag,ans⟩):EE F 105 [.ag [.u (.str lo),.u (.str up),.u (.sl 2 (prs.map Yl.u)),.u (.sl 3 (kn.map Yr.u)),.u (.bool sld),.u (.str cut),.u (.int .i64 ep),.u (.sl 1 (ms.map iU)),.u (.bool fr),.u (.sl 5 (nds.map Yo.u)),.u (.sl 1 (ups.map bU)),.u (.sl 7 (bag.map Yk.u)),.u (.sl 7 (ans.map Ya.u))]] []=if ZE ⟨⟨⟨lo,up⟩,prs,kn,sld,cut⟩,⟨ep,ms,fr⟩,nds,ups,bag,ans⟩=true then ZKf (ZF4 ⟨⟨⟨lo,up⟩,prs,kn,sld,cut⟩,⟨ep,ms,fr⟩,nds,ups,bag,ans⟩) else ZJP:=by
 have hch:=ZHK lo up prs kn sld cut ep ms fr nds ups bag ans hs
 have hn:ans.length≤1048576:=hs.2.2.2.2.2.1.1
 rw [R105,b105]
 cases hv:ZE ⟨⟨⟨lo,up⟩,prs,kn,sld,cut⟩,⟨ep,ms,fr⟩,nds,ups,bag,ans⟩
 ·simp only[↓xP,xT,rL,rB,rA,rS,hch,hv]
  simp [ZJP]
 have hav:=ZIv hv
 have hbv:=ZIw hv
 have has:=ZMz ans hn
 have hpl:prs.length≤1048576:=hs.1.2.1.1
 have hkl:kn.length≤1048576:=hs.1.2.2.1.1
 have hrp:=ZMh lo up prs kn sld cut (ZFl ans) hpl hkl (by rw [ZHP]; exact hn)
 simp only at hav hbv
 rw [hav,hbv,Bool.and_self,if_pos rfl] at hrp
 rw [if_pos rfl]
 simp only[ZF4]
 generalize runE ⟨⟨lo,up⟩,prs,kn,sld,cut⟩ (ZFl ans)=S at hrp
 generalize repE ⟨⟨lo,up⟩,prs,kn,sld,cut⟩ (ZFl ans)=R at hrp
 obtain ⟨⟨lo2,up2⟩,p2,k2,s2,ct2⟩:=S
 simp only[ZFP] at hrp
 simp only[ZG9] at has
 simp only[↓xP,xT,rL,rB,rA,rS,rdx,rdx2,ofR,ZN0,ZOB,List.getElem?_nil,hch,hv,has,hrp,ZG,ZKf]
theorem ZIu (lo up:Str) (prs:List Yl) (kn:List Yr) (sld:Bool) (cut:Str) (ep:Int) (ms:List Int) (fr:Bool) (nds:List Yo) (ups:List Bool) (bag:List Yk) (ans:List Ya) (hs:Yc.Small ⟨⟨⟨lo,up⟩,prs,kn,sld,cut⟩,⟨ep,ms,fr⟩,nds,ups,bag,ans⟩):EE F 107 [.ag [.u (.str lo),.u (.str up),.u (.sl 2 (prs.map Yl.u)),.u (.sl 3 (kn.map Yr.u)),.u (.bool sld),.u (.str cut),.u (.int .i64 ep),.u (.sl 1 (ms.map iU)),.u (.bool fr),.u (.sl 5 (nds.map Yo.u)),.u (.sl 1 (ups.map bU)),.u (.sl 7 (bag.map Yk.u)),.u (.sl 7 (ans.map Ya.u))]] []=if ZE ⟨⟨⟨lo,up⟩,prs,kn,sld,cut⟩,⟨ep,ms,fr⟩,nds,ups,bag,ans⟩=true then ZLs (ZF4 ⟨⟨⟨lo,up⟩,prs,kn,sld,cut⟩,⟨ep,ms,fr⟩,nds,ups,bag,ans⟩) else ZJP:=by
 have hch:=ZGU lo up prs kn sld cut ep ms fr nds ups bag ans hs
 have hn:ans.length≤1048576:=hs.2.2.2.2.2.1.1
 rw [R107,b107]
 cases hv:ZE ⟨⟨⟨lo,up⟩,prs,kn,sld,cut⟩,⟨ep,ms,fr⟩,nds,ups,bag,ans⟩
 ·simp only[↓xP,xT,rL,rB,rA,rS,hch,hv]
  simp [ZJP]
 have hav:=ZIv hv
 have hbv:=ZIw hv
 have has:=ZJU lo up prs kn sld cut ep ms fr nds ups bag ans hs hv
 have hpl:prs.length≤1048576:=hs.1.2.1.1
 have hkl:kn.length≤1048576:=hs.1.2.2.1.1
 have hrp:=ZMi lo up prs kn sld cut (ZFl ans) hpl hkl (by rw [ZHP]; exact hn)
 simp only at hav hbv
 rw [hav,hbv,Bool.and_self,if_pos rfl] at hrp
 rw [if_pos rfl]
 simp only[ZF4]
 generalize runE ⟨⟨lo,up⟩,prs,kn,sld,cut⟩ (ZFl ans)=S at hrp
 generalize repE ⟨⟨lo,up⟩,prs,kn,sld,cut⟩ (ZFl ans)=R at hrp
 obtain ⟨⟨lo2,up2⟩,p2,k2,s2,ct2⟩:=S
 simp only[ZFP] at hrp
 simp only[ZG9] at has
 simp only[↓xP,xT,rL,rB,rA,rS,rdx,rdx2,ofR,ZN0,ZOB,List.getElem?_nil,hch,hv,has,hrp,ZG,ZLs]
def ld3 (st:St) (d zl:Nat) (ids:List Id) (us:List U) (ok:Bool):Option St:=if ok=true then some (((st.killAll ids).obj (.loc d 0) (some (.deep zl [us]))).put d (.t (.sc (.down (.loc d 0) 1)))) else none
def ld2 (st:St) (d k zl:Nat) (ids:List Id) (us:Option (List U)):Option St:=us.bind fun us=>ld3 st d zl ids us (us.length==zl&&(k==1&&ZaV ids))
def ZJn (st:St) (d k zl:Nat) (x:D):Option St:=match x with
 | .t v=>ld2 st d k zl v.ids (Zb1 st v.cells)
 | _=>none
@[congr] theorem ZLD {st:St} {d k zl:Nat} {x x':D} (h:x=x'):ZJn st d k zl x=ZJn st d k zl x':=by rw [h]
@[congr] theorem ZNC {st:St} {d k zl:Nat} {ids ids':List Id} {us us':Option (List U)} (h:ids=ids') (h2:us=us'):ld2 st d k zl ids us=ld2 st d k zl ids' us':=by rw [h,h2]
@[congr] theorem ZND {st:St} {d zl:Nat} {ids:List Id} {us:List U} {ok ok':Bool} (h:ok=ok'):ld3 st d zl ids us ok=ld3 st d zl ids us ok':=by rw [h]
theorem ZOw (E:Zb) (st:St) (d k:Nat) (zero:List U) (a:Arg):step E st (.litd d k zero a)=ZJn (st.cool (.loc d 0)) d k zero.length ((st.cool (.loc d 0)).get a):=by
 simp only[step,ZJn]
 cases (st.cool (.loc d 0)).get a with
 | t v=>
  simp only[D.t?,Option.bind_some,ZeB,ld2]
  cases Zb1 (st.cool (.loc d 0)) v.cells with
  | none=>rfl
  | some us=>
   simp only[Option.bind_some,ld3,St.make,←ZcJ]
   by_cases h1:us.length=zero.length<;>by_cases h2:k=1<;>by_cases h3:v.ids.Nodup<;>simp [h1,h2,h3]
 | _=>rfl
def ap5 (st:St) (d sz:Nat) (idy:Id) (ry r:List (List U)) (id:Id) (n:Nat) (ok:Bool):Option St:=if ok=true then some ((((st.kill idy).kill id).obj id (some (.deep sz (r++ry)))).put d (.t (.sc (.down id n)))) else none
def ap6 (st:St) (d sz:Nat) (idy:Id) (ry:List (List U)) (m:Nat) (ok:Bool):Option St:=if ok=true then some ((((st.kill idy).cool (.loc d 0)).obj (.loc d 0) (some (.deep sz ry))).put d (.t (.sc (.down (.loc d 0) m)))) else none
def ap4 (st:St) (d sz:Nat) (idy:Id) (m:Nat) (ry:List (List U)) (bytes:Nat) (id:Id) (n:Nat) (ob:Option Obj):Option St:=match ob with
 | some (.deep z r)=>ap5 st d sz idy ry r id (n+m) (z==sz&&(r.length==n&&(Zk id&&(!(id==idy)&&(decide (n+m≤maxLen)&&decide ((n+m)*bytes≤140737488355328))))))
 | _=>none
def ap3 (st:St) (d sz:Nat) (idy:Id) (m:Nat) (ry:List (List U)) (bytes:Nat) (x:D) (ok:Bool):Option St:=if ok=true then (match x with
 | .t (.sc (.u .nil))|.emp=>ap6 st d sz idy ry m (decide (m≤maxLen)&&decide (m*bytes≤140737488355328))
 | .t (.sc (.down id n))=>ap4 st d sz idy m ry bytes id n (st.o id)
 | _=>none) else none
def ap2 (st:St) (d sz:Nat) (idy:Id) (m bytes:Nat) (x:D) (ob:Option Obj):Option St:=match ob with
 | some (.deep zy ry)=>ap3 st d sz idy m ry bytes x (zy==sz&&(ry.length==m&&(Zk idy&&decide (0<m))))
 | _=>none
def ZJm (st:St) (d sz bytes:Nat) (x y:D):Option St:=match y with
 | .t (.sc (.down idy m))=>ap2 st d sz idy m bytes x (st.o idy)
 | _=>none
@[congr] theorem ZLC {st:St} {d sz bytes:Nat} {x x' y y':D} (h:x=x') (h2:y=y'):ZJm st d sz bytes x y=ZJm st d sz bytes x' y':=by rw [h,h2]
@[congr] theorem ZNj {st:St} {d sz m bytes:Nat} {idy:Id} {x x':D} {ob ob':Option Obj} (h:x=x') (h2:ob=ob'):ap2 st d sz idy m bytes x ob=ap2 st d sz idy m bytes x' ob':=by rw [h,h2]
@[congr] theorem ZNk {st:St} {d sz m bytes:Nat} {idy:Id} {ry:List (List U)} {x:D} {ok ok':Bool} (h:ok=ok'):ap3 st d sz idy m ry bytes x ok=ap3 st d sz idy m ry bytes x ok':=by rw [h]
@[congr] theorem ZNl {st:St} {d sz m bytes n:Nat} {idy id:Id} {ry:List (List U)} {ob ob':Option Obj} (h:ob=ob'):ap4 st d sz idy m ry bytes id n ob=ap4 st d sz idy m ry bytes id n ob':=by rw [h]
@[congr] theorem ZNm {st:St} {d sz n:Nat} {idy id:Id} {ry r:List (List U)} {ok ok':Bool} (h:ok=ok'):ap5 st d sz idy ry r id n ok=ap5 st d sz idy ry r id n ok':=by rw [h]
@[congr] theorem ZNn {st:St} {d sz m:Nat} {idy:Id} {ry:List (List U)} {ok ok':Bool} (h:ok=ok'):ap6 st d sz idy ry m ok=ap6 st d sz idy ry m ok':=by rw [h]
theorem ZOm (E:Zb) (st:St) (d sz:Nat) (x y:Arg) (bytes:Nat):step E st (.appd d sz x y bytes)=ZJm st d sz bytes (st.get x) (st.get y):=by
  simp only[step,ZJm]
  cases st.get y with
  | t q =>
    cases q with
    | sc c=>
      cases c with
      | down idy m=>
        simp only[ap2]
        cases st.o idy with
        | none=>rfl
        | some ob =>
          cases ob with
          | deep zy ry=>
            simp only[ap3]
            have hc:(zy==sz&&(ry.length==m&&(Zk idy&&decide (0<m))))=decide (zy=sz∧ry.length=m∧Zk idy=true∧0<m):=by
              rw [Bool.eq_iff_iff]; simp
            rw [hc]
            by_cases h:zy=sz∧ry.length=m∧Zk idy=true∧0<m
            · rw [if_pos h,if_pos (decide_eq_true h)]
              cases st.get x with
              | t q =>
                cases q with
                | sc c=>
                  cases c with
                  | u v=>
                    cases v with
                    | nil=>
                      simp only[D.base?,ap6,St.make]
                      by_cases g1:m≤maxLen<;>by_cases g2:m*bytes≤140737488355328<;>simp [g1,g2]
                    | _=>rfl
                  | down id n=>
                    simp only[D.base?,ap4]
                    cases st.o id with
                    | none=>rfl
                    | some ob=>
                      cases ob with
                      | deep z r=>
                        simp only[ap5]
                        have hc2:(z==sz&&(r.length==n&&(Zk id&&(!(id==idy)&&(decide (n+m≤maxLen)&&decide ((n+m)*bytes≤140737488355328))))))=decide (z=sz∧r.length=n∧Zk id=true∧id≠idy∧n+m≤maxLen∧(n+m)*bytes≤140737488355328):=by
                          rw [Bool.eq_iff_iff]; simp
                        rw [hc2]
                        by_cases g:z=sz∧r.length=n∧Zk id=true∧id≠idy∧n+m≤maxLen∧(n+m)*bytes≤140737488355328
                        · rw [if_pos g,if_pos (decide_eq_true g)]
                        · rw [if_neg g,if_neg (fun e=>g (of_decide_eq_true e))]
                      | _=>rfl
                  | _=>rfl
                | _=>rfl
              | emp=>
                simp only[D.base?,ap6,St.make]
                by_cases g1:m≤maxLen<;>by_cases g2:m*bytes≤140737488355328<;>simp [g1,g2]
              | _=>rfl
            · rw [if_neg h,if_neg (fun e=>h (of_decide_eq_true e))]
          | _=>rfl
      | _=>rfl
    | _=>rfl
  | _=>rfl
theorem ZK0:(∀ (F:Nat→Option IFn) (fin:St→Option Ret) (is:List Za) (os:List GOp) (st:St) d k zero a,RR F fin is (⟨.litd d k zero a,none⟩::os) st=RS F fin is os (ZJn (st.cool (.loc d 0)) d k zero.length ((st.cool (.loc d 0)).get a)))∧
 (∀ (st:St) d k zl v,ZJn st d k zl (.t v)=ld2 st d k zl v.ids (Zb1 st v.cells))∧(∀ (st:St) d k zl ids us,ld2 st d k zl ids (some us)=ld3 st d zl ids us (us.length==zl&&(k==1&&ZaV ids)))∧
 (∀ (st:St) d zl ids us,ld3 st d zl ids us true=some (((st.killAll ids).obj (.loc d 0) (some (.deep zl [us]))).put d (.t (.sc (.down (.loc d 0) 1)))))∧
 (∀ (F:Nat→Option IFn) (fin:St→Option Ret) (is:List Za) (os:List GOp) (st:St) d sz x y bytes,RR F fin is (⟨.appd d sz x y bytes,none⟩::os) st=RS F fin is os (ZJm st d sz bytes (st.get x) (st.get y)))∧
 (∀ (st:St) d sz bytes x idy m,ZJm st d sz bytes x (.t (.sc (.down idy m)))=ap2 st d sz idy m bytes x (st.o idy))∧(∀ (st:St) d sz idy m bytes x zy ry,ap2 st d sz idy m bytes x (some (.deep zy ry))=ap3 st d sz idy m ry bytes x (zy==sz&&(ry.length==m&&(Zk idy&&decide (0<m)))))∧
 (∀ (st:St) d sz idy m ry bytes,ap3 st d sz idy m ry bytes (DU .nil) true=ap6 st d sz idy ry m (decide (m≤maxLen)&&decide (m*bytes≤140737488355328)))∧(∀ (st:St) d sz idy m ry bytes id n,ap3 st d sz idy m ry bytes (.t (.sc (.down id n))) true=ap4 st d sz idy m ry bytes id n (st.o id))∧
 (∀ (st:St) d sz idy m ry bytes id n z r,ap4 st d sz idy m ry bytes id n (some (.deep z r))=ap5 st d sz idy ry r id (n+m) (z==sz&&(r.length==n&&(Zk id&&(!(id==idy)&&(decide (n+m≤maxLen)&&decide ((n+m)*bytes≤140737488355328)))))))∧
 (∀ (st:St) d sz idy ry r id n,ap5 st d sz idy ry r id n true=some ((((st.kill idy).kill id).obj id (some (.deep sz (r++ry)))).put d (.t (.sc (.down id n)))))∧(∀ (st:St) d sz idy ry m,ap6 st d sz idy ry m true=some ((((st.kill idy).cool (.loc d 0)).obj (.loc d 0) (some (.deep sz ry))).put d (.t (.sc (.down (.loc d 0) m))))):=by
 have _c:=And.intro @ZLD (And.intro @ZNC (And.intro @ZND (And.intro @ZLC (And.intro @ZNj (And.intro @ZNk (And.intro @ZNl (And.intro @ZNm @ZNn)))))))
 exact ⟨fun F fin is os st d k zero a=>Zam F fin is os st (ZOw ..),fun st d k zl v=>rfl,fun st d k zl ids us=>rfl,fun st d zl ids us=>rfl,fun F fin is os st d sz x y bytes=>Zam F fin is os st (ZOm ..),
  fun st d sz bytes x idy m=>rfl,fun st d sz idy m bytes x zy ry=>rfl,fun st d sz idy m ry bytes=>rfl,fun st d sz idy m ry bytes id n=>rfl,fun st d sz idy m ry bytes id n z r=>rfl,fun st d sz idy ry r id n=>rfl,fun st d sz idy ry m=>rfl⟩
def ZHc (l:List Ys) (r:Yq):Yt:=match l[r.number.toNat]? with
 | some s=>ZF4 s.group
 | none=>⟨⟨[],[]⟩,[],[],false,[]⟩
def ZFm (l:List Ys) (R:List Yq):List Yt:=R.map (ZHc l)
theorem ZJr {l:List Ys} {R:List Yq} {i:Nat} {r:Yq} (h:R[i]?=some r):ZFm l (R.take (i+1))=ZFm l (R.take i)++[ZHc l r]:=by
 rw [ZFm,List.take_add_one,h]; simp [ZFm]
theorem ZIz (l:List Ys) (R:List Yq):(ZFm l R).length=R.length:=by simp [ZFm]
def ZK (x:Yd):List Yt:=ZFm x.shards (ZFw x)
def lsD:Nat→List Yt→D
 | 0,_=>DU .nil
 | _+1,S=>.t (.sc (.down (.loc 26 0) S.length))
def lsO (st:St):Nat→List Yt→Prop
 | 0,_=>True
 | _+1,S=>st.o (.loc 26 0)=some (.deep 6 (S.map Yt.u))
theorem ZH6 {c0:List Ys} {c1:List Yb} {c2:List Yp} {w:Yn} {a b:Int} (h:ZC ⟨c0,c1,c2,w,a,b⟩=true):1≤(ZH c0).length∧(ZH c0).length≤8:=by
 have h8:=ZHf h
 have hl:(ZH c0).length≤c0.length:=by rw [ZH,ZGj]; exact ZGD c0 0
 refine ⟨?_,by omega⟩
 have he:ZHh ⟨c0,c1,c2,w,a,b⟩=true:=by simp only[ZC,Bool.and_eq_true] at h; exact h.2
 simp only[ZHh,Bool.and_eq_true] at he
 have hr:=he.1.1.1
 cases hq:ZH c0 with
 | nil=>rw [hq] at hr; simp [Z6,ZQ,ZFB] at hr
 | cons r l=>simp
theorem ZJI (c0:List Ys) (c1:List Yb) (c2:List Yp) (c3 c4 c5:Int) (c6:Str) (c7 c8 c9 c10 c11:Int) (hs:Yd.Small ⟨c0,c1,c2,⟨c3,c4,c5,c6,c7,c8,c9⟩,c10,c11⟩):EE F 38 [.ag [.u (.sl 14 (c0.map Ys.u)),.u (.sl 8 (c1.map Yb.u)),.u (.sl 9 (c2.map Yp.u)),.u (.int .i64 c3),.u (.int .i64 c4),.u (.int .i64 c5),.u (.str c6),.u (.int .i64 c7),.u (.int .i64 c8),.u (.int .i64 c9),.u (.int .i64 c10),.u (.int .i64 c11)]] []=if ZC ⟨c0,c1,c2,⟨c3,c4,c5,c6,c7,c8,c9⟩,c10,c11⟩=true then some ⟨[.sc (.down (.par 0) (ZK ⟨c0,c1,c2,⟨c3,c4,c5,c6,c7,c8,c9⟩,c10,c11⟩).length)],[.deep 6 ((ZK ⟨c0,c1,c2,⟨c3,c4,c5,c6,c7,c8,c9⟩,c10,c11⟩).map Yt.u)],[]⟩ else some ⟨[.sc (.u .nil)],[],[]⟩:=by
 have hcvs:=ZIG c0 c1 c2 c3 c4 c5 c6 c7 c8 c9 c10 c11 hs
 have hsh:=hs.1
 rw [R38,b38]
 cases hv:ZC ⟨c0,c1,c2,⟨c3,c4,c5,c6,c7,c8,c9⟩,c10,c11⟩
 ·simp only[↓xP,xT,rL,rB,rA,rS,hcvs,hv]
  try simp
 have h8:=ZHf hv
 obtain ⟨hR1,hR8⟩:=ZH6 hv
 have hlr:=ZIq c0 c1 c2 c3 c4 c5 c6 c7 c8 c9 c10 c11 h8
 simp only[ZFv] at hlr
 have hrt:ZK ⟨c0,c1,c2,⟨c3,c4,c5,c6,c7,c8,c9⟩,c10,c11⟩=ZFm c0 (ZH c0):=by simp [ZK,ZFw,hv]
 rw [if_pos rfl,hrt]
 have hmem:∀ r,r∈ZH c0→_:=fun r hr=>ZIA hr
 simp only[↓xP,xT,rL,rB,rA,rS,hcvs,hv,hlr]
 generalize ZH c0=R at hR1 hR8 hmem ⊢
 refine Zjc (fun (i:Nat) st=>i≤R.length∧st.s 1=.t (.sc (.ptr (.loc 1 0) 0 0))∧st.o (.loc 1 0)=some (.box [.u (.sl 14 (c0.map Ys.u)),.u (.sl 8 (c1.map Yb.u)),.u (.sl 9 (c2.map Yp.u)),.u (.int .i64 c3),.u (.int .i64 c4),.u (.int .i64 c5),.u (.str c6),.u (.int .i64 c7),.u (.int .i64 c8),.u (.int .i64 c9),.u (.int .i64 c10),.u (.int .i64 c11)])∧st.s 3=lsD i (ZFm c0 (R.take i))∧lsO st i (ZFm c0 (R.take i))∧st.s 10=.t (.sc (.own (.loc 10 0) R.length))∧st.o (.loc 10 0)=some (.row 3 (R.map Yq.u))∧st.s 11=DI R.length∧st.s 12=DI i) (fun i=>R.length - i) (fun _=>some ⟨[.sc (.down (.par 0) (ZFm c0 R).length)],[.deep 6 ((ZFm c0 R).map Yt.u)],[]⟩) ?_ 0 ⟨by omega,(by and_intros<;>first|omega|rfl|(simp only[↓xP,xT,rL,rB,rA,rS]<;>first|done|rfl|omega)),(by and_intros<;>first|omega|rfl|(simp only[↓xP,xT,rL,rB,rA,rS]<;>first|done|rfl|omega)),(by and_intros<;>first|omega|rfl|(simp only[↓xP,xT,rL,rB,rA,rS,lsD]<;>first|done|rfl|omega)),trivial,(by and_intros<;>first|omega|rfl|(simp only[↓xP,xT,rL,rB,rA,rS]<;>first|done|rfl|omega)),(by and_intros<;>first|omega|rfl|(simp only[↓xP,xT,rL,rB,rA,rS]<;>first|done|rfl|omega)),(by and_intros<;>first|omega|rfl|(simp only[↓xP,xT,rL,rB,rA,rS]<;>first|done|rfl|omega)),(by and_intros<;>first|omega|rfl|(simp only[↓xP,xT,rL,rB,rA,rS]<;>first|done|rfl|omega))⟩
 rintro i st ⟨hle,h1,hb,h3,h3o,h10,ho10,h11,h12⟩ ih
 by_cases hi:i<R.length
 ·obtain ⟨⟨rn,⟨rlo,rup⟩⟩,hr⟩:∃ x,R[i]?=some x:=⟨_,List.getElem?_eq_getElem hi⟩
  obtain ⟨j,s,hx,hrn,_⟩:=hmem _ (List.mem_of_getElem? hr)
  simp only at hrn
  subst hrn
  have hj:=(List.getElem?_eq_some_iff.1 hx).1
  have hw:=w_succ (i:=i) (by omega)
  have hst:=ZJr (l:=c0) hr
  have hcv:=ZID hv (List.mem_of_getElem? hx)
  have hsx:=hsh.2 _ (List.mem_of_getElem? hx)
  have hsa:ZHc c0 ⟨(j:Int),⟨rlo,rup⟩⟩=ZF4 s.group:=by simp [ZHc,hx]
  rw [hsa] at hst
  obtain ⟨live,⟨⟨⟨lo,up⟩,prs,kn,sld,cut⟩,⟨ep,ms,fr⟩,nds,ups,bag,ans⟩⟩:=s
  simp only at hcv hst
  have has:=ZIt lo up prs kn sld cut ep ms fr nds ups bag ans hsx.1
  rw [if_pos hcv] at has
  have hll:(ZFm c0 (R.take i)).length=i:=by rw [ZIz,List.length_take]; omega
  generalize ZFm c0 (R.take i)=S at h3 h3o hst hll
  generalize ZF4 ⟨⟨⟨lo,up⟩,prs,kn,sld,cut⟩,⟨ep,ms,fr⟩,nds,ups,bag,ans⟩=q at has hst
  obtain ⟨⟨lo2,up2⟩,p2,k2,s2,ct2⟩:=q
  simp only[ZKf] at has
  have m1:S.length+1≤maxLen:=by simp [maxLen]; omega
  have m2:(S.length+1)*104≤140737488355328:=by omega
  have m3:1≤maxLen:=by simp [maxLen]
  have m4:1*104≤140737488355328:=by omega
  cases i with
  | zero=>
   simp only[lsD,lsO] at h3 h3o
   have hS:S=[]:=List.eq_nil_of_length_eq_zero hll
   subst hS
   simp only[↓xP,xT,rL,rB,rA,rS,ZK0,ZI1,rdx2,h1,hb,h3,h10,ho10,h11,h12,hi,hr,hx,hj,hw,Yq.u,Ys.u,has,ZG,List.length_map,List.length_cons,List.length_nil,m3,m4]
   exact ih 1 _ (by omega) ⟨(by and_intros<;>first|omega|rfl|(simp only[↓xP,xT,rL,rB,rA,rS]<;>first|done|rfl|omega)),(by and_intros<;>first|omega|rfl|(simp only[↓xP,xT,rL,rB,rA,rS,h1]<;>first|done|rfl|omega)),(by and_intros<;>first|omega|rfl|(simp only[↓xP,xT,rL,rB,rA,rS,hb]<;>first|done|rfl|omega)),(by and_intros<;>first|omega|rfl|(simp only[↓xP,xT,rL,rB,rA,rS,lsD,hst,List.length_append,List.length_cons,List.length_nil]<;>first|done|rfl|omega)),(by and_intros<;>first|omega|rfl|(simp only[↓xP,xT,rL,rB,rA,rS,lsO,hst,Yt.u,List.map_append,List.map_cons,List.map_nil,List.nil_append]<;>first|done|rfl|omega)),(by and_intros<;>first|omega|rfl|(simp only[↓xP,xT,rL,rB,rA,rS,h10]<;>first|done|rfl|omega)),(by and_intros<;>first|omega|rfl|(simp only[↓xP,xT,rL,rB,rA,rS,ho10]<;>first|done|rfl|omega)),(by and_intros<;>first|omega|rfl|(simp only[↓xP,xT,rL,rB,rA,rS,h11]<;>first|done|rfl|omega)),(by and_intros<;>first|omega|rfl|(simp only[↓xP,xT,rL,rB,rA,rS]<;>first|done|rfl|omega))⟩
  | succ i=>
   simp only[lsD,lsO] at h3 h3o
   simp only[↓xP,xT,rL,rB,rA,rS,ZK0,ZI1,rdx2,h1,hb,h3,h3o,h10,ho10,h11,h12,hi,hr,hx,hj,hw,Yq.u,Ys.u,has,ZG,List.length_map,List.length_cons,List.length_nil,m1,m2]
   exact ih (i+1+1) _ (by omega) ⟨(by and_intros<;>first|omega|rfl|(simp only[↓xP,xT,rL,rB,rA,rS]<;>first|done|rfl|omega)),(by and_intros<;>first|omega|rfl|(simp only[↓xP,xT,rL,rB,rA,rS,h1]<;>first|done|rfl|omega)),(by and_intros<;>first|omega|rfl|(simp only[↓xP,xT,rL,rB,rA,rS,hb]<;>first|done|rfl|omega)),(by and_intros<;>first|omega|rfl|(simp only[↓xP,xT,rL,rB,rA,rS,lsD,hst,List.length_append,List.length_cons,List.length_nil]<;>first|done|rfl|omega)),(by and_intros<;>first|omega|rfl|(simp only[↓xP,xT,rL,rB,rA,rS,lsO,hst,Yt.u,List.map_append,List.map_cons,List.map_nil]<;>first|done|rfl|omega)),(by and_intros<;>first|omega|rfl|(simp only[↓xP,xT,rL,rB,rA,rS,h10]<;>first|done|rfl|omega)),(by and_intros<;>first|omega|rfl|(simp only[↓xP,xT,rL,rB,rA,rS,ho10]<;>first|done|rfl|omega)),(by and_intros<;>first|omega|rfl|(simp only[↓xP,xT,rL,rB,rA,rS,h11]<;>first|done|rfl|omega)),(by and_intros<;>first|omega|rfl|(simp only[↓xP,xT,rL,rB,rA,rS]<;>first|done|rfl|omega))⟩
 ·have hall:R.take i=R:=List.take_of_length_le (by omega)
  rw [hall] at h3 h3o
  cases i with
  | zero=>omega
  | succ i=>
   simp only[lsD,lsO] at h3 h3o
   simp only[↓xP,xT,rL,rB,rA,rS,ZK0,h1,hb,h3,h3o,h10,ho10,h11,h12,hi,List.length_map]
theorem ZJJ (c0:List Ys) (c1:List Yb) (c2:List Yp) (c3 c4 c5:Int) (c6:Str) (c7 c8 c9 c10 c11:Int) (hs:Yd.Small ⟨c0,c1,c2,⟨c3,c4,c5,c6,c7,c8,c9⟩,c10,c11⟩):EE F 40 [.ag [.u (.sl 14 (c0.map Ys.u)),.u (.sl 8 (c1.map Yb.u)),.u (.sl 9 (c2.map Yp.u)),.u (.int .i64 c3),.u (.int .i64 c4),.u (.int .i64 c5),.u (.str c6),.u (.int .i64 c7),.u (.int .i64 c8),.u (.int .i64 c9),.u (.int .i64 c10),.u (.int .i64 c11)]] []=some ⟨[.sc (.own (.par 0) (ZK ⟨c0,c1,c2,⟨c3,c4,c5,c6,c7,c8,c9⟩,c10,c11⟩).length)],[.row 6 ((ZK ⟨c0,c1,c2,⟨c3,c4,c5,c6,c7,c8,c9⟩,c10,c11⟩).map Yt.u)],[]⟩:=by
 have hcr:=ZIx c0 c1 c2 c3 c4 c5 c6 c7 c8 c9 c10 c11 hs
 have hsh:=hs.1
 rw [R40,b40]
 have hR:(ZFw ⟨c0,c1,c2,⟨c3,c4,c5,c6,c7,c8,c9⟩,c10,c11⟩).length≤8∧∀ r,r∈ZFw ⟨c0,c1,c2,⟨c3,c4,c5,c6,c7,c8,c9⟩,c10,c11⟩→∃ (j:Nat) (s:Ys),c0[j]?=some s∧r.number=(j:Int)∧ZE s.group=true:=by
  unfold ZFw
  split
  ·rename_i hv
   refine ⟨(ZH6 hv).2,fun r hr=>?_⟩
   obtain ⟨j,s,hx,hrn,_⟩:=ZIA hr
   exact ⟨j,s,hx,hrn,ZID hv (List.mem_of_getElem? hx)⟩
  ·exact ⟨by simp,fun r hr=>by cases hr⟩
 have hls:ZK ⟨c0,c1,c2,⟨c3,c4,c5,c6,c7,c8,c9⟩,c10,c11⟩=ZFm c0 (ZFw ⟨c0,c1,c2,⟨c3,c4,c5,c6,c7,c8,c9⟩,c10,c11⟩):=rfl
 rw [hls]
 generalize ZFw ⟨c0,c1,c2,⟨c3,c4,c5,c6,c7,c8,c9⟩,c10,c11⟩=R at hcr hR ⊢
 obtain ⟨hR8,hmem⟩:=hR
 simp only[↓xP,xT,rL,rB,rA,rS,hcr]
 refine Zjc (fun (i:Nat) st=>i≤R.length∧st.s 1=.t (.sc (.ptr (.loc 1 0) 0 0))∧st.o (.loc 1 0)=some (.box [.u (.sl 14 (c0.map Ys.u)),.u (.sl 8 (c1.map Yb.u)),.u (.sl 9 (c2.map Yp.u)),.u (.int .i64 c3),.u (.int .i64 c4),.u (.int .i64 c5),.u (.str c6),.u (.int .i64 c7),.u (.int .i64 c8),.u (.int .i64 c9),.u (.int .i64 c10),.u (.int .i64 c11)])∧st.s 3=.t (.sc (.own (.loc 6 0) (ZFm c0 (R.take i)).length))∧st.o (.loc 6 0)=some (.row 6 ((ZFm c0 (R.take i)).map Yt.u))∧st.s 4=.t (.sc (.own (.loc 8 0) R.length))∧st.o (.loc 8 0)=some (.row 3 (R.map Yq.u))∧st.s 5=DI i) (fun i=>R.length - i) (fun _=>some ⟨[.sc (.own (.par 0) (ZFm c0 R).length)],[.row 6 ((ZFm c0 R).map Yt.u)],[]⟩) ?_ 0 (by and_intros<;>first|omega|rfl|(simp only[↓xP,xT,rL,rB,rA,rS,ZFm,List.take_zero,List.map_nil,List.length_nil]<;>first|done|rfl|omega))
 rintro i st ⟨hle,h1,hb,h3,ho3,h4,ho4,h5⟩ ih
 by_cases hi:i<R.length
 ·obtain ⟨⟨rn,⟨rlo,rup⟩⟩,hr⟩:∃ x,R[i]?=some x:=⟨_,List.getElem?_eq_getElem hi⟩
  obtain ⟨j,s,hx,hrn,hcv⟩:=hmem _ (List.mem_of_getElem? hr)
  simp only at hrn
  subst hrn
  have hj:=(List.getElem?_eq_some_iff.1 hx).1
  have hw:=w_succ (i:=i) (by omega)
  have hst:=ZJr (l:=c0) hr
  have hsx:=hsh.2 _ (List.mem_of_getElem? hx)
  have hsa:ZHc c0 ⟨(j:Int),⟨rlo,rup⟩⟩=ZF4 s.group:=by simp [ZHc,hx]
  rw [hsa] at hst
  obtain ⟨live,⟨⟨⟨lo,up⟩,prs,kn,sld,cut⟩,⟨ep,ms,fr⟩,nds,ups,bag,ans⟩⟩:=s
  simp only at hcv hst
  have has:=ZIu lo up prs kn sld cut ep ms fr nds ups bag ans hsx.1
  rw [if_pos hcv] at has
  have hll:(ZFm c0 (R.take i)).length=i:=by rw [ZIz,List.length_take]; omega
  generalize ZFm c0 (R.take i)=S at h3 ho3 hst hll
  generalize ZF4 ⟨⟨⟨lo,up⟩,prs,kn,sld,cut⟩,⟨ep,ms,fr⟩,nds,ups,bag,ans⟩=q at has hst
  obtain ⟨⟨lo2,up2⟩,p2,k2,s2,ct2⟩:=q
  simp only[ZLs] at has
  have m1:S.length+1≤maxLen:=by simp [maxLen]; omega
  have m2:(S.length+1)*104≤140737488355328:=by omega
  simp only[↓xP,xT,rL,rB,rA,rS,rdx,rdx2,ofR,ZOE,Bool.or_true,List.getElem?_nil,h1,hb,h3,ho3,h4,ho4,h5,hi,hr,hx,hj,hw,Yq.u,Ys.u,has,ZG,List.length_map,List.length_cons,List.length_nil,m1,m2]
  exact ih (i+1) _ (by omega) (by and_intros<;>first|omega|rfl|(simp only[↓xP,xT,rL,rB,rA,rS,h1,hb,h3,ho3,h4,ho4,hw,hst,Yt.u,List.length_append,List.map_append,List.length_cons,List.length_nil,List.map_cons,List.map_nil]<;>first|done|rfl|omega))
 ·have hall:R.take i=R:=List.take_of_length_le (by omega)
  rw [hall] at h3 ho3
  simp only[↓xP,xT,rL,rB,rA,rS,h1,hb,h3,ho3,h4,ho4,h5,hi,List.length_map]
theorem ZJd {s:Str} (h:ZT s=true):s.length≤1048576:=by
 simp only[ZT,Bool.and_eq_true,decide_eq_true_eq] at h
 omega
theorem ZHy {s:Str} (h:(decide (s=[])||ZT s)=true):s.length≤1048576:=by
 rw [Bool.or_eq_true,decide_eq_true_eq] at h
 rcases h with rfl|h
 ·simp
 ·exact ZJd h
theorem ZNJ {s:Yt} (h:ZD s=true):Yt.Small s:=by
 obtain ⟨h1,h2,h3⟩:=ZHd h
 obtain ⟨p1,p2,_⟩:=(ZFG _).1 h2
 have hk:=ZIm h3
 have hi:=h1
 simp only[ZA,Bool.and_eq_true] at hi
 simp only[ZD,Bool.and_eq_true] at h
 have hc:=h.2
 rw [Bool.or_eq_true,decide_eq_true_eq] at hc
 refine ⟨⟨ZHy hi.1.1,ZHy hi.1.2,trivial⟩,⟨by omega,fun y hy=>⟨ZJd (p2 y hy).1,trivial⟩⟩,⟨by omega,trivial⟩,?_,trivial⟩
 rcases hc with hc|hc
 ·rw [hc]; simp
 ·rw [Bool.and_eq_true] at hc
  have:=hc.2
  simp only[ZHL,Bool.and_eq_true] at this
  exact ZJd this.1.1.2
theorem ZNf {α:Type} (w:α→Nat) (f:Int→α→α):∀ (l:List α) (K:Int) (i:Nat) (x:α),l[i]?=some x→(mGo w f K l)[i]?=some (f (K+sumW w (l.take i)) x)
 | [],K,i,x,h=>by simp at h
 | y::l,K,0,x,h=>by
  simp only[List.getElem?_cons_zero,Option.some.injEq] at h
  subst h; simp [mGo,sumW]
 | y::l,K,i+1,x,h=>by
  have:=ZNf w f l (K+w y) i x (by simpa using h)
  simp only[mGo,List.getElem?_cons_succ,this,List.take_succ_cons,sumW]
  rw [show K + (w y:Int) + (sumW w (l.take i):Int)=K + ((w y+sumW w (l.take i):Nat):Int) by omega]
theorem ZJ7 {c0:List Ys} {c1:List Yb} {c2:List Yp} {w:Yn} {a b:Int} (h:ZC ⟨c0,c1,c2,w,a,b⟩=true):∀ s,s∈ZK ⟨c0,c1,c2,w,a,b⟩→ZD s=true:=by
 intro s hs
 simp only[ZK,ZFw,h,if_true,ZFm] at hs
 obtain ⟨r,hr,rfl⟩:=List.mem_map.1 hs
 obtain ⟨j,t,hx,hrn,_⟩:=ZIA hr
 have hcv:=ZID h (List.mem_of_getElem? hx)
 have he:=ZIv hcv
 simp only[ZL,Bool.and_eq_true] at he
 have:ZHc c0 r=ZF4 t.group:=by simp [ZHc,hrn,hx]
 rw [this]
 exact ZJQ _ _ (ZIw hcv) he.2
theorem ZMb {c0:List Ys} {c1:List Yb} {c2:List Yp} {w:Yn} {a b:Int} (h:ZC ⟨c0,c1,c2,w,a,b⟩=true):(ZK ⟨c0,c1,c2,w,a,b⟩).length≤8:=by
 simp only[ZK,ZFw,h,if_true,ZIz]
 exact (ZH6 h).2
theorem ZJ6 {x:Yd} (h:ZC x=false):ZK x=[]:=by simp [ZK,ZFw,h,ZFm]
theorem ZMI {c0:List Ys} {c1:List Yb} {c2:List Yp} {w:Yn} {a b:Int}:∀ s,s∈ZK ⟨c0,c1,c2,w,a,b⟩→s.known.length≤1048576:=by
 intro s hs
 cases hv:ZC ⟨c0,c1,c2,w,a,b⟩
 ·rw [ZJ6 hv] at hs; cases hs
 ·have:=(ZHe (ZJ7 hv s hs)).2
  omega
theorem ZK5 {c0:List Ys} {c1:List Yb} {c2:List Yp} {w:Yn} {a b:Int}:(ZK ⟨c0,c1,c2,w,a,b⟩).length≤8:=by
 cases hv:ZC ⟨c0,c1,c2,w,a,b⟩
 ·rw [ZJ6 hv]; simp
 ·exact ZMb hv
theorem ZOL {α β:Type} (f:α→β) {l:List α} {i:Nat} {x:α} (h:l[i]?=some x):(l.map f)[i]?=some (f x):=by rw [List.getElem?_map,h]; rfl
def ZIk (s:Yt) (v:Yj):Ym:=⟨ZF1 s.span v,Z4 s.pairs (ZF1 s.span v)⟩
def ZS (S:List Yt) (v:Yj):List Ym:=(S.filter (fun s=>ZGG s v)).map (fun s=>ZIk s v)
theorem ZJw {S:List Yt} {v:Yj} {i:Nat} {s:Yt} (h:S[i]?=some s):ZS (S.take (i+1)) v=ZS (S.take i) v++(if ZGG s v=true then [ZIk s v] else []):=by
 rw [ZS,List.take_add_one,h,Option.toList_some,List.filter_append,List.map_append]
 cases hs:ZGG s v<;>simp [ZS,hs]
theorem ZHE (S:List Yt) (v:Yj):(ZS S v).length≤S.length:=by
 simp only[ZS,List.length_map]; exact List.length_filter_le ..
theorem ZOh {s:Yt} {v:Yj} (h:ZA v=false):ZGG s v=false:=by simp [ZGG,ZH1,h]
theorem ZMN {S:List Yt} {v:Yj} (h:ZA v=false):ZS S v=[]:=by
 simp only[ZS,List.map_eq_nil_iff,List.filter_eq_nil_iff]
 intro s _
 simp [ZOh h]
def psD:List Ym→D
 | []=>DU .nil
 | p::P=>.t (.sc (.down (.loc 30 0) (p::P).length))
def psO (st:St):List Ym→Prop
 | []=>True
 | p::P=>st.o (.loc 30 0)=some (.deep 3 ((p::P).map Ym.u))
def ZJx:List Ym→Option Ret
 | []=>some ⟨[.sc (.u .nil)],[],[]⟩
 | p::P=>some ⟨[.sc (.down (.par 0) (p::P).length)],[.deep 3 ((p::P).map Ym.u)],[]⟩
theorem ZKm (lo hi:Str) (l:List Yl) (k:List Yr) (se:Bool) (cut:Str) (hn:k.length≤4611686018427387904) (vl vh:Str):EE F 74 [.ag [.u (.str lo),.u (.str hi),.u (.sl 2 (l.map Yl.u)),.u (.sl 3 (k.map Yr.u)),.u (.bool se),.u (.str cut)],.ag [.u (.str vl),.u (.str vh)]] []=sel (ZGG ⟨⟨lo,hi⟩,l,k,se,cut⟩ ⟨vl,vh⟩)
  (some ⟨[.ag [.u (.str (ZF1 ⟨lo,hi⟩ ⟨vl,vh⟩).low),.u (.str (ZF1 ⟨lo,hi⟩ ⟨vl,vh⟩).high),.u (.sl 2 ((Z4 l (ZF1 ⟨lo,hi⟩ ⟨vl,vh⟩)).map Yl.u))],B true],[],[]⟩) (some ⟨[.ag [.u (.str []),.u (.str []),.u (.sl 2 [])],B false],[],[]⟩):=by
 -- 17
 rw [R74,b74]
 cases hm:ZH1 ⟨lo,hi⟩ ⟨vl,vh⟩<;>cases hs:ZD ⟨⟨lo,hi⟩,l,k,se,cut⟩<;>simp only[↓xP,xT,rL,rB,rA,rS,rdx,rdx2,ZF8 lo hi l k se cut hn,ZIP,ZIj,hm,hs,ZGG,ZLz,ZG]
theorem ZJa (c0:List Ys) (c1:List Yb) (c2:List Yp) (c3 c4 c5:Int) (c6:Str) (c7 c8 c9 c10 c11:Int) (vl vh:Str) (hs:Yd.Small ⟨c0,c1,c2,⟨c3,c4,c5,c6,c7,c8,c9⟩,c10,c11⟩):EE F 19 [.ag [.u (.sl 14 (c0.map Ys.u)),.u (.sl 8 (c1.map Yb.u)),.u (.sl 9 (c2.map Yp.u)),.u (.int .i64 c3),.u (.int .i64 c4),.u (.int .i64 c5),.u (.str c6),.u (.int .i64 c7),.u (.int .i64 c8),.u (.int .i64 c9),.u (.int .i64 c10),.u (.int .i64 c11)],.ag [.u (.str vl),.u (.str vh)]] []=ZJx (ZS (ZK ⟨c0,c1,c2,⟨c3,c4,c5,c6,c7,c8,c9⟩,c10,c11⟩) ⟨vl,vh⟩):=by
 have hls:=ZJI c0 c1 c2 c3 c4 c5 c6 c7 c8 c9 c10 c11 hs
 have hiv:=ZI vl vh
 rw [R19,b19]
 cases hv:ZA ⟨vl,vh⟩
 ·simp only[↓xP,xT,rL,rB,rA,rS,hiv,hv]
  rw [ZMN hv]
  try simp [ZJx]
 cases hc:ZC ⟨c0,c1,c2,⟨c3,c4,c5,c6,c7,c8,c9⟩,c10,c11⟩
 ·rw [ZJ6 hc]
  simp only[hc,Bool.false_eq_true,if_false] at hls
  simp only[↓xP,xT,rL,rB,rA,rS,hiv,hv,hls]
  refine (Zjc (fun (i:Nat) st=>i=0∧st.s 5=DU .nil∧st.s 15=DI 0∧st.s 16=DI 0) (fun i=>0) (fun i=>ZJx []) ?_ 0 ⟨rfl,by simp only[↓xP,xT,rL,rB,rA,rS],by simp only[↓xP,xT,rL,rB,rA,rS],by simp only[↓xP,xT,rL,rB,rA,rS]⟩).trans rfl
  rintro i st ⟨hi,h5,h15,h16⟩ ih
  have n0:¬(0:Int)<0:=by omega
  have n1:¬(0:Int)<((0:Nat):Int):=by omega
  simp only[↓xP,xT,rL,rB,rA,rS,h5,h15,h16,n0,n1,ZJx]
 have h8:=ZMb hc
 have hva:=ZJ7 hc
 simp only[hc,if_true] at hls
 generalize ZK ⟨c0,c1,c2,⟨c3,c4,c5,c6,c7,c8,c9⟩,c10,c11⟩=S at hls h8 hva ⊢
 simp only[↓xP,xT,rL,rB,rA,rS,hiv,hv,hls,ZIg,List.length_map]
 refine Zjc (fun (i:Nat) st=>i≤S.length∧st.s 3=.t (.sc (.ptr (.loc 3 0) 0 0))∧st.o (.loc 3 0)=some (.box [.u (.str vl),.u (.str vh)])∧st.s 5=psD (ZS (S.take i) ⟨vl,vh⟩)∧psO st (ZS (S.take i) ⟨vl,vh⟩)∧st.s 14=.t (.sc (.down (.loc 14 0) S.length))∧st.o (.loc 14 0)=some (.deep 6 (S.map Yt.u))∧st.s 15=DI S.length∧st.s 16=DI i) (fun i=>S.length - i) (fun _=>ZJx (ZS S ⟨vl,vh⟩)) ?_ 0 ⟨by omega,(by and_intros<;>first|omega|rfl|(simp only[↓xP,xT,rL,rB,rA,rS]<;>first|done|rfl|omega)),(by and_intros<;>first|omega|rfl|(simp only[↓xP,xT,rL,rB,rA,rS]<;>first|done|rfl|omega)),(by and_intros<;>first|omega|rfl|(simp only[↓xP,xT,rL,rB,rA,rS,ZS,psD,List.take_zero,List.filter_nil,List.map_nil]<;>first|done|rfl|omega)),trivial,(by and_intros<;>first|omega|rfl|(simp only[↓xP,xT,rL,rB,rA,rS]<;>first|done|rfl|omega)),(by and_intros<;>first|omega|rfl|(simp only[↓xP,xT,rL,rB,rA,rS]<;>first|done|rfl|omega)),(by and_intros<;>first|omega|rfl|(simp only[↓xP,xT,rL,rB,rA,rS]<;>first|done|rfl|omega)),(by and_intros<;>first|omega|rfl|(simp only[↓xP,xT,rL,rB,rA,rS]<;>first|done|rfl|omega))⟩
 rintro i st ⟨hle,h3,ho3,h5,h5o,h14,ho14,h15,h16⟩ ih
 have hw:=w_succ (i:=i) (by omega)
 by_cases hi:i<S.length
 ·obtain ⟨⟨⟨lo,up⟩,prs,kn,sld,cut⟩,hx⟩:∃ x,S[i]?=some x:=⟨_,List.getElem?_eq_getElem hi⟩
  have hkx:=(ZHe (hva _ (List.mem_of_getElem? hx))).2
  have hst:=ZJw (v:=⟨vl,vh⟩) hx
  have hgx:=ZOL Yt.u hx
  simp only[Yt.u] at hgx
  have hsc:=ZKn lo up prs kn sld cut (by simp only at hkx; omega) vl vh
  have hpl:=ZHE (S.take i) ⟨vl,vh⟩
  rw [List.length_take] at hpl
  generalize ZS (S.take i) ⟨vl,vh⟩=P at h5 h5o hst hpl
  cases q:ZGG ⟨⟨lo,up⟩,prs,kn,sld,cut⟩ ⟨vl,vh⟩
  ·rw [q] at hst
   simp only[Bool.false_eq_true,if_false,List.append_nil] at hst
   simp only[ZJR,q,sel] at hsc
   cases P<;>simp only[psD,psO] at h5 h5o<;>(
   simp only[↓xP,xT,rL,rB,rA,rS,rdx2,h3,ho3,h5,h5o,h14,ho14,h15,h16,hi,hgx,hw,hsc]
   refine ih (i+1) _ (by omega) ⟨(by and_intros<;>first|omega|rfl|(simp only[↓xP,xT,rL,rB,rA,rS]<;>first|done|rfl|omega)),(by and_intros<;>first|omega|rfl|(simp only[↓xP,xT,rL,rB,rA,rS,h3]<;>first|done|rfl|omega)),(by and_intros<;>first|omega|rfl|(simp only[↓xP,xT,rL,rB,rA,rS,ho3]<;>first|done|rfl|omega)),(by and_intros<;>first|omega|rfl|(simp only[↓xP,xT,rL,rB,rA,rS,h5,hst,psD]<;>first|done|rfl|omega)),?_,(by and_intros<;>first|omega|rfl|(simp only[↓xP,xT,rL,rB,rA,rS,h14]<;>first|done|rfl|omega)),(by and_intros<;>first|omega|rfl|(simp only[↓xP,xT,rL,rB,rA,rS,ho14]<;>first|done|rfl|omega)),(by and_intros<;>first|omega|rfl|(simp only[↓xP,xT,rL,rB,rA,rS,h15]<;>first|done|rfl|omega)),(by and_intros<;>first|omega|rfl|(simp only[↓xP,xT,rL,rB,rA,rS]<;>first|done|rfl|omega))⟩
   rw [hst]; first|trivial|(simp only[psO]; exact (by and_intros<;>first|omega|rfl|(simp only[↓xP,xT,rL,rB,rA,rS,h5o]<;>first|done|rfl|omega))))
  ·rw [q,if_pos rfl] at hst
   simp only[ZJR,q,sel,if_true] at hsc
   have m1:P.length+1≤maxLen:=by simp [maxLen]; omega
   have m2:(P.length+1)*56≤140737488355328:=by omega
   have m3:1≤maxLen:=by simp [maxLen]
   have m4:1*56≤140737488355328:=by omega
   cases P with
   | nil=>
    simp only[psD,psO] at h5 h5o
    simp only[↓xP,xT,rL,rB,rA,rS,ZK0,ZI1,rdx2,h3,ho3,h5,h14,ho14,h15,h16,hi,hgx,hw,hsc,ZG,List.length_map,List.length_cons,List.length_nil,m3,m4]
    exact ih (i+1) _ (by omega) ⟨(by and_intros<;>first|omega|rfl|(simp only[↓xP,xT,rL,rB,rA,rS]<;>first|done|rfl|omega)),(by and_intros<;>first|omega|rfl|(simp only[↓xP,xT,rL,rB,rA,rS,h3]<;>first|done|rfl|omega)),(by and_intros<;>first|omega|rfl|(simp only[↓xP,xT,rL,rB,rA,rS,ho3]<;>first|done|rfl|omega)),(by and_intros<;>first|omega|rfl|(simp only[↓xP,xT,rL,rB,rA,rS,hst,psD,List.nil_append,List.length_cons,List.length_nil]<;>first|done|rfl|omega)),(by and_intros<;>first|omega|rfl|(simp only[↓xP,xT,rL,rB,rA,rS,hst,psO,List.nil_append,List.map_cons,List.map_nil,Ym.u,ZIk]<;>first|done|rfl|omega)),(by and_intros<;>first|omega|rfl|(simp only[↓xP,xT,rL,rB,rA,rS,h14]<;>first|done|rfl|omega)),(by and_intros<;>first|omega|rfl|(simp only[↓xP,xT,rL,rB,rA,rS,ho14]<;>first|done|rfl|omega)),(by and_intros<;>first|omega|rfl|(simp only[↓xP,xT,rL,rB,rA,rS,h15]<;>first|done|rfl|omega)),(by and_intros<;>first|omega|rfl|(simp only[↓xP,xT,rL,rB,rA,rS]<;>first|done|rfl|omega))⟩
   | cons p P=>
    simp only[psD,psO] at h5 h5o
    simp only[List.length_cons] at m1 m2
    simp only[↓xP,xT,rL,rB,rA,rS,ZK0,ZI1,rdx2,h3,ho3,h5,h5o,h14,ho14,h15,h16,hi,hgx,hw,hsc,ZG,List.length_map,List.length_cons,List.length_nil,m1,m2]
    exact ih (i+1) _ (by omega) ⟨(by and_intros<;>first|omega|rfl|(simp only[↓xP,xT,rL,rB,rA,rS]<;>first|done|rfl|omega)),(by and_intros<;>first|omega|rfl|(simp only[↓xP,xT,rL,rB,rA,rS,h3]<;>first|done|rfl|omega)),(by and_intros<;>first|omega|rfl|(simp only[↓xP,xT,rL,rB,rA,rS,ho3]<;>first|done|rfl|omega)),(by and_intros<;>first|omega|rfl|(simp only[↓xP,xT,rL,rB,rA,rS,hst,psD,List.cons_append,List.length_append,List.length_cons,List.length_nil]<;>first|done|rfl|omega)),(by and_intros<;>first|omega|rfl|(simp only[↓xP,xT,rL,rB,rA,rS,hst,psO,List.cons_append,List.map_append,List.map_cons,List.map_nil,Ym.u,ZIk]<;>first|done|rfl|omega)),(by and_intros<;>first|omega|rfl|(simp only[↓xP,xT,rL,rB,rA,rS,h14]<;>first|done|rfl|omega)),(by and_intros<;>first|omega|rfl|(simp only[↓xP,xT,rL,rB,rA,rS,ho14]<;>first|done|rfl|omega)),(by and_intros<;>first|omega|rfl|(simp only[↓xP,xT,rL,rB,rA,rS,h15]<;>first|done|rfl|omega)),(by and_intros<;>first|omega|rfl|(simp only[↓xP,xT,rL,rB,rA,rS]<;>first|done|rfl|omega))⟩
 ·have hall:S.take i=S:=List.take_of_length_le (by omega)
  rw [hall] at h5 h5o
  generalize ZS S ⟨vl,vh⟩=P at h5 h5o ⊢
  cases P<;>simp only[psD,psO] at h5 h5o<;>simp only[↓xP,xT,rL,rB,rA,rS,ZK0,h3,ho3,h5,h5o,h14,ho14,h15,h16,hi,List.length_map,ZJx]
theorem ZJb (c0:List Ys) (c1:List Yb) (c2:List Yp) (c3 c4 c5:Int) (c6:Str) (c7 c8 c9 c10 c11:Int) (vl vh:Str) (hs:Yd.Small ⟨c0,c1,c2,⟨c3,c4,c5,c6,c7,c8,c9⟩,c10,c11⟩):EE F 17 [.ag [.u (.sl 14 (c0.map Ys.u)),.u (.sl 8 (c1.map Yb.u)),.u (.sl 9 (c2.map Yp.u)),.u (.int .i64 c3),.u (.int .i64 c4),.u (.int .i64 c5),.u (.str c6),.u (.int .i64 c7),.u (.int .i64 c8),.u (.int .i64 c9),.u (.int .i64 c10),.u (.int .i64 c11)],.ag [.u (.str vl),.u (.str vh)]] []=some ⟨[.sc (.own (.par 0) (ZS (ZK ⟨c0,c1,c2,⟨c3,c4,c5,c6,c7,c8,c9⟩,c10,c11⟩) ⟨vl,vh⟩).length)],[.row 3 ((ZS (ZK ⟨c0,c1,c2,⟨c3,c4,c5,c6,c7,c8,c9⟩,c10,c11⟩) ⟨vl,vh⟩).map Ym.u)],[]⟩:=by
 have hls:=ZJJ c0 c1 c2 c3 c4 c5 c6 c7 c8 c9 c10 c11 hs
 have hku:=@ZMI c0 c1 c2 ⟨c3,c4,c5,c6,c7,c8,c9⟩ c10 c11
 have h8:=@ZK5 c0 c1 c2 ⟨c3,c4,c5,c6,c7,c8,c9⟩ c10 c11
 rw [R17,b17]
 generalize ZK ⟨c0,c1,c2,⟨c3,c4,c5,c6,c7,c8,c9⟩,c10,c11⟩=S at hls hku h8 ⊢
 cases hfl:ZcG (List.map Yt.u S)<;>(
 simp only[↓xP,xT,rL,rB,rA,rS,hfl,hls]
 refine Zjc (fun (i:Nat) st=>i≤S.length∧st.s 3=.t (.sc (.ptr (.loc 3 0) 0 0))∧st.o (.loc 3 0)=some (.box [.u (.str vl),.u (.str vh)])∧st.s 5=.t (.sc (.own (.loc 10 0) (ZS (S.take i) ⟨vl,vh⟩).length))∧st.o (.loc 10 0)=some (.row 3 ((ZS (S.take i) ⟨vl,vh⟩).map Ym.u))∧st.s 6=.t (.sc (.own (.loc 12 0) S.length))∧st.o (.loc 12 0)=some (.row 6 (S.map Yt.u))∧st.s 7=DI i) (fun i=>S.length - i) (fun _=>some ⟨[.sc (.own (.par 0) (ZS S ⟨vl,vh⟩).length)],[.row 3 ((ZS S ⟨vl,vh⟩).map Ym.u)],[]⟩) ?_ 0 (by and_intros<;>first|omega|rfl|(simp only[↓xP,xT,rL,rB,rA,rS,ZS,List.take_zero,List.filter_nil,List.map_nil,List.length_nil]<;>first|done|rfl|omega))
 rintro i st ⟨hle,h3,ho3,h5,ho5,h6,ho6,h7⟩ ih
 have hw:=w_succ (i:=i) (by omega)
 by_cases hi:i<S.length
 ·obtain ⟨⟨⟨lo,up⟩,prs,kn,sld,cut⟩,hx⟩:∃ x,S[i]?=some x:=⟨_,List.getElem?_eq_getElem hi⟩
  have hkx:=hku _ (List.mem_of_getElem? hx)
  have hst:=ZJw (v:=⟨vl,vh⟩) hx
  have hsc:=ZKm lo up prs kn sld cut (by simp only at hkx; omega) vl vh
  have hpl:=ZHE (S.take i) ⟨vl,vh⟩
  rw [List.length_take] at hpl
  generalize ZS (S.take i) ⟨vl,vh⟩=P at h5 ho5 hst hpl
  have m1:P.length+1≤maxLen:=by simp [maxLen]; omega
  have m2:(P.length+1)*56≤140737488355328:=by omega
  cases q:ZGG ⟨⟨lo,up⟩,prs,kn,sld,cut⟩ ⟨vl,vh⟩
  ·rw [q] at hst hsc
   simp only[Bool.false_eq_true,if_false,List.append_nil] at hst
   simp only[sel] at hsc
   simp only[↓xP,xT,rL,rB,rA,rS,rdx,rdx2,ofR,Bool.or_true,List.getElem?_nil,h3,ho3,h5,ho5,h6,ho6,h7,hi,hx,hw,hsc,Yt.u,ZG,List.length_map]
   exact ih (i+1) _ (by omega) (by and_intros<;>first|omega|rfl|(simp only[↓xP,xT,rL,rB,rA,rS,h3,ho3,h5,ho5,h6,ho6,hw,hst]<;>first|done|rfl|omega))
  ·rw [q] at hst hsc
   rw [if_pos rfl] at hst
   simp only[sel,if_true] at hsc
   simp only[↓xP,xT,rL,rB,rA,rS,rdx,rdx2,ofR,ZOE,Bool.or_true,List.getElem?_nil,h3,ho3,h5,ho5,h6,ho6,h7,hi,hx,hw,hsc,Yt.u,ZG,List.length_map,m1,m2]
   exact ih (i+1) _ (by omega) (by and_intros<;>first|omega|rfl|(simp only[↓xP,xT,rL,rB,rA,rS,h3,ho3,h5,ho5,h6,ho6,hw,hst,Ym.u,ZIk,List.length_append,List.map_append,List.length_cons,List.length_nil,List.map_cons,List.map_nil]<;>first|done|rfl|omega))
 ·have hall:S.take i=S:=List.take_of_length_le (by omega)
  rw [hall] at h5 ho5
  simp only[↓xP,xT,rL,rB,rA,rS,h3,ho3,h5,ho5,h6,ho6,h7,hi,List.length_map])
def cPc (s:Ym):Nat:=2*s.pairs.length
def wPc (s:Ym):Nat:=2+cPc s
def mPc (K:Int):Ym→Ym
 | ⟨⟨lo,up⟩,prs⟩=>⟨⟨ZHa (K),ZHa (K+1)⟩,mkL ZGa 2 (K+1+1) prs.length⟩
end Go.Proofs.YtfajcehhcjmofaaGreatV
