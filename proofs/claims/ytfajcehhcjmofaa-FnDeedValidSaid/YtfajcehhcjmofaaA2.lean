/- Lemmas of functions that the law FnDeedValid reaches, and that it returns true for all data of its types. No conditions but those that the lemmas state. -/
import Derived.Test.YtfajcehhcjmofaaA1
namespace Go.Proofs.YtfajcehhcjmofaaV
open Go Go.RowKit
open Nat renaming reduceLT → rL, reduceAdd → rA, reduceSub → rS, reduceBEq → rB
open IOp (dst isF args)
set_option linter.unusedVariables false
set_option linter.unusedSimpArgs false
set_option maxRecDepth 4000
set_option maxHeartbeats 8000000 in
theorem ZHQ {bs:List Int} (hb:ZFk bs) (p:Nat) (hp:p≤80000) (c0:(List Shard)) (c1:(List Caller)) (c2:(List Result)) (c3 c4 c5:Int) (c6:Str) (c7 c8 c9 c10 c11:Int) (h:XOk ⟨c0,c1,c2,⟨c3,c4,c5,c6,c7,c8,c9⟩,c10,c11⟩) :
  GdD bs p 200 60 (EE F 104 [RP0,.ag [.u (.sl 14 (c0.map Shard.u)),.u (.sl 8 (c1.map Caller.u)),.u (.sl 9 (c2.map Result.u)),.u (.int .i64 c3),.u (.int .i64 c4),.u (.int .i64 c5),.u (.str c6),.u (.int .i64 c7),.u (.int .i64 c8),.u (.int .i64 c9),.u (.int .i64 c10),.u (.int .i64 c11)]] [rd bs p]):=by
 refine Gd.run (fn:=i104) (by kernel_rfl) rfl ?_
 simp only[i104,b104,Zdi,Zcu]
 show GdD bs p 200 60 _
 have h8:c0.length≤8:=h.s8
 have h1:1≤c0.length:=h.s1
 obtain ⟨w,hw,hwl⟩:=ZA hb p 3 (by omega) (by omega)
 have hww:IntKind.i64.wrap (1 + (w:Int))=((w+1:Nat):Int):=by rw [w64 (by omega) (by omega)]; omega
 obtain ⟨k,hk,hkl⟩:=ZA hb (p+1) (c0.length:Int) (by omega) (by omega)
 have hkl':k<c0.length:=by omega
 obtain ⟨s,hs⟩:∃ s,c0[k]?=some s:=⟨_,List.getElem?_eq_getElem hkl'⟩
 have hsh:=(h.sh s (List.mem_of_getElem? hs)).1
 have hml:=ZO hsh.conf
 have hml0:0<s.group.conf.members.length:=by omega
 obtain ⟨x0,hx0⟩:∃ x,s.group.conf.members[0]?=some x:=⟨_,List.getElem?_eq_getElem (by omega)⟩
 obtain ⟨v,hv,hvl⟩:=ZA hb (p+1+1) 16 (by omega) (by omega)
 have m1:=Z0 (n:=1) (by omega)
 have m2:=Z0 (n:=2) (by omega)
 have n1:p+1+1+1=p+3:=by omega
 obtain ⟨r1,nn1,q1,e1,hq1,hq1',rfl,l1,rfl,hl1⟩:=ZIr hb (p+1+1+1) (by omega) c0 c1 c2 c3 c4 c5 c6 c7 c8 c9 c10 c11 h (w+1) (by omega)
 obtain ⟨r2,nn2,q2,e2,hq2,hq2',rfl,l2,rfl,hl2⟩:=ZH0 hb (p+1+1+1) (by omega) c0 c1 c2 c3 c4 c5 c6 c7 c8 c9 c10 c11 h
 obtain ⟨r3,nn3,q3,e3,hq3,hq3',rfl,k0,y0,v0,o0,rfl,hy0⟩:=ZGv hb (p+1+1+1) (by omega)
 obtain ⟨v5,hv5,hv5l⟩:=ZA hb (p+1+1+1) 5 (by omega) (by omega)
 obtain ⟨v3,hv3,hv3l⟩:=ZA hb (p+1+1+1+1) 3 (by omega) (by omega)
 obtain ⟨r4,nn4,q4,e4,hq4,hq4',rfl,l4,rfl,hl4⟩:=ZF7 hb (p+1+1+1) (by omega) c0 c1 c2 c3 c4 c5 c6 c7 c8 c9 c10 c11 k s hs h8 hml.1 hml.2 (by have:=hsh.bagn; omega)
 obtain ⟨r5,nn5,q5,e5,hq5,hq5',rfl,ev1,rfl⟩:=ZGN hb (p+1+1+1) (by omega) s.group.base.span.low s.group.base.span.high s.group.base.pairs s.group.base.known s.group.base.sealed s.group.base.cut s.group.conf.epoch s.group.conf.members s.group.conf.fresh s.group.nodes s.group.up s.group.bag s.group.answers 1 hml.1 (by omega) (by have:=hsh.bagn; omega)
 obtain ⟨r6,nn6,q6,e6,hq6,hq6',rfl,ev2,rfl⟩:=ZGN hb q5 (by omega) s.group.base.span.low s.group.base.span.high s.group.base.pairs s.group.base.known s.group.base.sealed s.group.base.cut s.group.conf.epoch s.group.conf.members s.group.conf.fresh s.group.nodes s.group.up s.group.bag s.group.answers 1 hml.1 (by omega) (by have:=hsh.bagn; omega)
 obtain ⟨l5,hl5,hl5l⟩:=ZFg (k:Int) [ev1,ev2] (by simp)
 obtain ⟨l6,hl6,hl6l⟩:=ZFg (k:Int) [(⟨12,v5,0,⟨0,0,zCmd⟩⟩:Event),⟨6,x0,0,⟨0,0,zCmd⟩⟩] (by simp)
 simp only[List.map_cons,List.map_nil,Event.u,zCmd,List.length_cons,List.length_nil] at hl5 hl5l hl6 hl6l
 have d5:Deeds 60 (l5.map Deed.u):=Deeds.map (by omega)
 have d6:Deeds 60 (l6.map Deed.u):=Deeds.map (by omega)
 have d4:Deeds 60 (l4.map Deed.u):=Deeds.map (by omega)
 have d2:Deeds 60 (l2.map Deed.u):=Deeds.map (by omega)
 have d1:Deeds 60 (l1.map Deed.u):=Deeds.map (by omega)
 have hvv:v=0∨v=1∨v=2∨v=3∨v=4∨v=5∨v=6∨v=7∨v=8∨v=9∨v=10∨v=11∨v=12∨v=13∨v=14∨v=15:=by omega
 obtain ⟨j,hj,hj2⟩:∃ j:Nat,IntKind.i64.wrap ((v3:Int).tdiv 2)=(j:Int)∧j<2:=by
  rcases (show v3=0∨v3=1∨v3=2 by omega) with rfl|rfl|rfl
  ·exact ⟨0,by decide,by omega⟩
  ·exact ⟨0,by decide,by omega⟩
  ·exact ⟨1,by decide,by omega⟩
 obtain ⟨z,hz⟩:∃ z,([[.int .i64 x0],[.int .i64 v5]]:List (List U))[j]?=some [.int .i64 z]:=by
  rcases (show j=0∨j=1 by omega) with rfl|rfl
  all_goals exact ⟨_,rfl⟩
 have H5:(l5.map Deed.u).isEmpty=true∨(l5.map Deed.u).isEmpty=false:=by cases (l5.map Deed.u).isEmpty<;>simp
 have H6:(l6.map Deed.u).isEmpty=true∨(l6.map Deed.u).isEmpty=false:=by cases (l6.map Deed.u).isEmpty<;>simp
 rcases hvv with rfl|rfl|rfl|rfl|rfl|rfl|rfl|rfl|rfl|rfl|rfl|rfl|rfl|rfl|rfl|rfl
 case' inr.inr.inr.inr.inr.inr.inr.inr.inr.inr.inr.inr.inr.inl=>rcases H6 with H6|H6
 case' inr.inr.inr.inr.inr.inr.inr.inr.inr.inr.inr.inr.inr.inr.inl=>rcases H5 with H5|H5
 case' inr.inr.inr.inr.inr.inr.inr.inr.inr.inr.inr.inr.inr.inr.inr=>rcases H5 with H5|H5
 all_goals
  simp (config:={ decide:=true }) only [↓xP,xQ,xR,xS,ZFZ,rL,rB,rA,rS,rdx,rdx2,ZGk,hw,hww,hk,hkl',hs,Shard.u,hx0,hml0,iU,List.length_map,hv,m1.1,m1.2,m2.1,m2.2,e1,e2,e3,hv5,hv3,e4,e5,e6,hl5,hl6,H5,H6,hj,hj2,hz]
  exact GdD.of _ (by omega) (by omega) (by repeat (first|exact Deeds.nil|assumption|apply Deeds.cons|apply Deeds.app)) (by omega)
set_option maxHeartbeats 8000000 in
theorem ZG2 {bs:List Int} (hb:ZFk bs) (p:Nat) (n:Int) (hn:n≤1048576) (hp:p≤50000) (c0:(List Shard)) (c1:(List Caller)) (c2:(List Result)) (c3 c4 c5:Int) (c6:Str) (c7 c8 c9 c10 c11:Int) (h:XOk ⟨c0,c1,c2,⟨c3,c4,c5,c6,c7,c8,c9⟩,c10,c11⟩) :
  Gd bs p 300 (fun r m=>m=[]∧∃ e:Deed,r=[.ag [.u (.int .i64 e.kind),.u (.int .i64 e.who),.u (.int .i64 e.node),.u (.int .i64 e.number),.u (.int .i64 e.wish.kind),.u (.str e.wish.key),.u (.int .i64 e.wish.value),.u (.int .i64 e.wish.old),.u (.int .i64 e.inner.kind),.u (.int .i64 e.inner.node),.u (.int .i64 e.inner.place),.u (.int .i64 e.inner.sent.client),.u (.int .i64 e.inner.sent.seq),.u (.int .i64 e.inner.sent.cmd.kind),.u (.str e.inner.sent.cmd.key),.u (.int .i64 e.inner.sent.cmd.value),.u (.int .i64 e.inner.sent.cmd.old),.u (.int .i64 e.work.kind),.u (.int .i64 e.work.first),.u (.int .i64 e.work.second),.u (.str e.work.key),.u (.int .i64 e.work.from_),.u (.int .i64 e.work.to_),.u (.int .i64 e.work.step)]]) (EE F 61 [RP0,.ag [.u (.sl 14 (c0.map Shard.u)),.u (.sl 8 (c1.map Caller.u)),.u (.sl 9 (c2.map Result.u)),.u (.int .i64 c3),.u (.int .i64 c4),.u (.int .i64 c5),.u (.str c6),.u (.int .i64 c7),.u (.int .i64 c8),.u (.int .i64 c9),.u (.int .i64 c10),.u (.int .i64 c11)],I n] [rd bs p]):=by
 refine Gd.run (fn:=i61) (by kernel_rfl) rfl ?_
 simp only[i61,b61,Zdi,Zcu]
 have fin:∀ (e:Deed) (q:Nat),p≤q→q≤p+300→Gd bs p 300 (fun r m=>m=[]∧∃ e:Deed,r=[.ag [.u (.int .i64 e.kind),.u (.int .i64 e.who),.u (.int .i64 e.node),.u (.int .i64 e.number),.u (.int .i64 e.wish.kind),.u (.str e.wish.key),.u (.int .i64 e.wish.value),.u (.int .i64 e.wish.old),.u (.int .i64 e.inner.kind),.u (.int .i64 e.inner.node),.u (.int .i64 e.inner.place),.u (.int .i64 e.inner.sent.client),.u (.int .i64 e.inner.sent.seq),.u (.int .i64 e.inner.sent.cmd.kind),.u (.str e.inner.sent.cmd.key),.u (.int .i64 e.inner.sent.cmd.value),.u (.int .i64 e.inner.sent.cmd.old),.u (.int .i64 e.work.kind),.u (.int .i64 e.work.first),.u (.int .i64 e.work.second),.u (.str e.work.key),.u (.int .i64 e.work.from_),.u (.int .i64 e.work.to_),.u (.int .i64 e.work.step)]]) (some ⟨[.ag [.u (.int .i64 e.kind),.u (.int .i64 e.who),.u (.int .i64 e.node),.u (.int .i64 e.number),.u (.int .i64 e.wish.kind),.u (.str e.wish.key),.u (.int .i64 e.wish.value),.u (.int .i64 e.wish.old),.u (.int .i64 e.inner.kind),.u (.int .i64 e.inner.node),.u (.int .i64 e.inner.place),.u (.int .i64 e.inner.sent.client),.u (.int .i64 e.inner.sent.seq),.u (.int .i64 e.inner.sent.cmd.kind),.u (.str e.inner.sent.cmd.key),.u (.int .i64 e.inner.sent.cmd.value),.u (.int .i64 e.inner.sent.cmd.old),.u (.int .i64 e.work.kind),.u (.int .i64 e.work.first),.u (.int .i64 e.work.second),.u (.str e.work.key),.u (.int .i64 e.work.from_),.u (.int .i64 e.work.to_),.u (.int .i64 e.work.step)]],[],[rd bs q]⟩):=fun e q h1 h2=>⟨_,_,q,rfl,h1,h2,rfl,e,rfl⟩
 have hcv:=ZFI c0 c1 c2 c3 c4 c5 c6 c7 c8 c9 c10 c11 h.small
 rw [show ZH ⟨c0,c1,c2,⟨c3,c4,c5,c6,c7,c8,c9⟩,c10,c11⟩=true from (ZHI _).2 h] at hcv
 obtain ⟨r1,nn1,q1,e1,hq1,hq1',rfl,l1,rfl,hl1⟩:=ZHQ hb p (by omega) c0 c1 c2 c3 c4 c5 c6 c7 c8 c9 c10 c11 h
 obtain ⟨Q,hQ⟩:∃ Q,(0<l1.length∧Q=q1+1)∨(l1=[]∧Q=q1):=by
  cases l1 with
  | nil=>exact ⟨_,.inr ⟨rfl,rfl⟩⟩
  | cons x l=>exact ⟨_,.inl ⟨by simp,rfl⟩⟩
 have hQl:q1≤Q∧Q≤q1+1:=by omega
 obtain ⟨B,q2,hod,hq2,hq2',_⟩:=ZFV hb Q n (by omega) hn
 obtain ⟨w,hw,hwl⟩:=ZA hb q2 7 (by omega) (by omega)
 obtain ⟨u2,hu2,hu2l⟩:=ZA hb (q2+1) 2 (by omega) (by omega)
 obtain ⟨u3,hu3,hu3l⟩:=ZA hb (q2+1) 3 (by omega) (by omega)
 have hu2n:u2<2:=by omega
 have hu3n:u3<3:=by omega
 obtain ⟨z0,hz0⟩:∃ z,([[.int .i64 0],[.int .i64 10]]:List (List U))[u2]?=some [.int .i64 z]:=by
  rcases (show u2=0∨u2=1 by omega) with rfl|rfl
  all_goals exact ⟨_,rfl⟩
 have three:∀ a b c:Int,∃ z,([[.int .i64 a],[.int .i64 b],[.int .i64 c]]:List (List U))[u3]?=some [.int .i64 z]:=by
  rcases (show u3=0∨u3=1∨u3=2 by omega) with rfl|rfl|rfl
  all_goals exact fun a b c=>⟨_,rfl⟩
 obtain ⟨z1,hz1⟩:=three 0 4 1
 obtain ⟨z2,hz2⟩:=three (-1) 5 1
 obtain ⟨z3,hz3⟩:=three (-1) 8 1
 obtain ⟨ra,na,qa,ea,hqa,hqa',rfl,_,rfl,ak,ay,av,ao,rfl⟩:=ZGE hb (q2+1) 2 (by omega) (by omega)
 obtain ⟨re,ne,qe,ee,hqe,hqe',rfl,_,rfl,ec,es,ek,ey,ev,eo,rfl⟩:=ZHR hb (q2+1) 0 (by omega) (by omega)
 obtain ⟨rp,np,qp,ep,hqp,hqp',rfl,⟨p0,p1,p2,p3,p4,p5,p6⟩,rfl⟩:=ZHZ hb (q2+1) 8 2 (by omega) (by omega) (by omega)
 dsimp only at ep
 have hww:w=0∨w=1∨w=2∨w=3∨w=4∨w=5∨w=6:=by omega
 have hBB:B=false∨(B=true):=by cases B<;>simp
 rcases hQ with ⟨hl,rfl⟩|⟨rfl,rfl⟩
 ·obtain ⟨i,hi,hil⟩:=ZA hb q1 (l1.length:Int) (by omega) (by omega)
  have hil':i<l1.length:=by omega
  have hl':(l1.length:Int) > 0:=by omega
  obtain ⟨⟨x0,x1,x2,x3,⟨x4,x5,x6,x7⟩,⟨x8,x9,x10,⟨x11,x12,⟨x13,x14,x15,x16⟩⟩⟩,⟨x17,x18,x19,x20,x21,x22,x23⟩⟩,hx⟩:∃ d,l1[i]?=some d:=⟨_,List.getElem?_eq_getElem hil'⟩
  rcases hBB with rfl|rfl
  ·simp (config:={ decide:=true }) only [↓xP,xQ,xR,xS,ZFZ,rL,rB,rA,rS,rdx,rdx2,hcv,e1,hi,hl',hil',hx,Deed.u,List.length_map,hod]
   exact fin ⟨_,_,_,_,⟨_,_,_,_⟩,⟨_,_,_,⟨_,_,⟨_,_,_,_⟩⟩⟩,⟨_,_,_,_,_,_,_⟩⟩ _ (by omega) (by omega)
  ·rcases hww with rfl|rfl|rfl|rfl|rfl|rfl|rfl
   all_goals
    simp (config:={ decide:=true }) only [↓xP,xQ,xR,xS,ZFZ,rL,rB,rA,rS,rdx,rdx2,ZGk,hcv,e1,hi,hl',hil',hx,Deed.u,List.length_map,hod,hw,hu2,hu3,hu2n,hu3n,hz0,hz1,hz2,hz3,ea,ee,ep]
    exact fin ⟨_,_,_,_,⟨_,_,_,_⟩,⟨_,_,_,⟨_,_,⟨_,_,_,_⟩⟩⟩,⟨_,_,_,_,_,_,_⟩⟩ _ (by omega) (by omega)
 ·rcases hBB with rfl|rfl
  ·simp (config:={ decide:=true }) only [↓xP,xQ,xR,xS,ZFZ,rL,rB,rA,rS,rdx,rdx2,hcv,e1,List.map_nil,List.length_nil,hod]
   exact fin ⟨_,_,_,_,⟨_,_,_,_⟩,⟨_,_,_,⟨_,_,⟨_,_,_,_⟩⟩⟩,⟨_,_,_,_,_,_,_⟩⟩ _ (by omega) (by omega)
  ·rcases hww with rfl|rfl|rfl|rfl|rfl|rfl|rfl
   all_goals
    simp (config:={ decide:=true }) only [↓xP,xQ,xR,xS,ZFZ,rL,rB,rA,rS,rdx,rdx2,ZGk,hcv,e1,List.map_nil,List.length_nil,hod,hw,hu2,hu3,hu2n,hu3n,hz0,hz1,hz2,hz3,ea,ee,ep]
    exact fin ⟨_,_,_,_,⟨_,_,_,_⟩,⟨_,_,_,⟨_,_,⟨_,_,_,_⟩⟩⟩,⟨_,_,_,_,_,_,_⟩⟩ _ (by omega) (by omega)
theorem ZGC (code:List Int) (hc:Code code):∃ d:Deed,EE F 29 [L 1 (code.map yU)] []=some ⟨[.ag [.u (.int .i64 d.kind),.u (.int .i64 d.who),.u (.int .i64 d.node),.u (.int .i64 d.number),.u (.int .i64 d.wish.kind),.u (.str d.wish.key),.u (.int .i64 d.wish.value),.u (.int .i64 d.wish.old),.u (.int .i64 d.inner.kind),.u (.int .i64 d.inner.node),.u (.int .i64 d.inner.place),.u (.int .i64 d.inner.sent.client),.u (.int .i64 d.inner.sent.seq),.u (.int .i64 d.inner.sent.cmd.kind),.u (.str d.inner.sent.cmd.key),.u (.int .i64 d.inner.sent.cmd.value),.u (.int .i64 d.inner.sent.cmd.old),.u (.int .i64 d.work.kind),.u (.int .i64 d.work.first),.u (.int .i64 d.work.second),.u (.str d.work.key),.u (.int .i64 d.work.from_),.u (.int .i64 d.work.to_),.u (.int .i64 d.work.step)]],[],[]⟩:=by
 obtain ⟨bs,ho,hb⟩:=ZIN code hc
 rw [R29,b29]
 obtain ⟨r1,n1,q1,h1,hq1,hq1',rfl,ms,rfl,hm⟩:=ZIs hb 0 (by omega)
 have h2:=ZHC ms hm.valid
 have hx:=ZHh hm.valid
 obtain ⟨r3,n3,q3,h3,hq3,hq3',rfl,d,rfl⟩:=ZG2 hb q1 2 (by omega) (by omega) (ZC ms).shards (ZC ms).clients (ZC ms).results (ZC ms).work.kind (ZC ms).work.first (ZC ms).work.second (ZC ms).work.key (ZC ms).work.from_ (ZC ms).work.to_ (ZC ms).work.step (ZC ms).turn (ZC ms).clock hx
 refine ⟨d,?_⟩
 generalize ZC ms=c at *
 simp only[↓xP,xT,rL,rB,rA,rS,rdx,rdx2,ho,h1,h2,h3]
/-- A deed that fills one part is valid with no other kind. -/
theorem ZIn {d:Deed} (h:ZY d=true) (hk:d.kind=1∨d.kind=6∨d.kind=7) (k:Int) (hne:¬k=d.kind):ZY ⟨k,d.who,d.node,d.number,d.wish,d.inner,d.work⟩=false:=by
 rw [←Bool.not_eq_true]
 intro hb
 simp only[ZY,Bool.and_eq_true] at h hb
 obtain ⟨⟨⟨⟨_,_⟩,h1⟩,h6⟩,h7⟩:=h
 obtain ⟨⟨⟨⟨_,_⟩,b1⟩,b6⟩,b7⟩:=hb
 rcases hk with hk|hk|hk
 ·rw [if_pos hk] at h1
  rw [if_neg (by omega)] at b1
  simp only[ZFz,Bool.and_eq_true,decide_eq_true_eq] at b1
  obtain ⟨⟨c1,c2,c3,c4⟩⟩:=(⟨b1⟩:PLift _)
  simp [Z9,ZT,c1] at h1
 ·rw [if_pos hk] at h6
  rw [if_neg (by omega)] at b6
  simp only[ZFQ,Bool.and_eq_true,decide_eq_true_eq] at b6
  simp [ZFc,inR,b6.1] at h6
 ·rw [if_pos hk] at h7
  rw [if_neg (by omega)] at b7
  simp only[ZGb,Bool.and_eq_true,decide_eq_true_eq] at b7
  simp [Z6,b7.1] at h7
set_option maxHeartbeats 4000000 in
theorem law_FnDeedValid (u:U) (hu:UT (.sl [.i .u8]) u):EE F 6 [.sc (.u u)] []=ok1 (B true):=by
  obtain ⟨code,rfl,hc⟩:=Code.of hu
  rw [R6,b6]
  by_cases hg:(1048576:Int)<code.length
  · simp only[↓xP,xT,rL,rB,rA,rS,List.length_map,gt_iff_lt,hg]
  obtain ⟨⟨k,who,node,num,⟨wk,wkey,wv,wo⟩,⟨ek,en,ep,⟨ec,es,⟨ck,ckey,cv,co⟩⟩⟩,⟨pk,pf,ps,pkey,pa,pb,pc⟩⟩,hd⟩:=ZGC code hc
  dsimp only at hd
  have dv:=fun k'=>ZGX k' who node num wk wkey wv wo ek en ep ec es ck ckey cv co pk pf ps pkey pa pb pc
  have c1:=fun (h:ZY ⟨k,who,node,num,⟨wk,wkey,wv,wo⟩,⟨ek,en,ep,⟨ec,es,⟨ck,ckey,cv,co⟩⟩⟩,⟨pk,pf,ps,pkey,pa,pb,pc⟩⟩=true) hk k' hne=>ZIn h hk k' hne
  have c0:ZY ⟨0,who,node,num,⟨wk,wkey,wv,wo⟩,⟨ek,en,ep,⟨ec,es,⟨ck,ckey,cv,co⟩⟩⟩,⟨pk,pf,ps,pkey,pa,pb,pc⟩⟩=false:=by simp [ZY,inR]
  simp only[↓xP,xT,rL,rB,rA,rS,rdx2,List.length_map,gt_iff_lt,hg,hd,dv,ZGY]
  dsimp only at c1
  refine Zji (fun (i:Nat) st=>i≤11∧st.s 3=.t (.sc (.ptr (.loc 3 0) 0 0))∧st.o (.loc 3 0)=some (.box [.u (.int .i64 k),.u (.int .i64 who),.u (.int .i64 node),.u (.int .i64 num),.u (.int .i64 wk),.u (.str wkey),.u (.int .i64 wv),.u (.int .i64 wo),.u (.int .i64 ek),.u (.int .i64 en),.u (.int .i64 ep),.u (.int .i64 ec),.u (.int .i64 es),.u (.int .i64 ck),.u (.str ckey),.u (.int .i64 cv),.u (.int .i64 co),.u (.int .i64 pk),.u (.int .i64 pf),.u (.int .i64 ps),.u (.str pkey),.u (.int .i64 pa),.u (.int .i64 pb),.u (.int .i64 pc)])∧
    st.s 4=DB (ZY ⟨k,who,node,num,⟨wk,wkey,wv,wo⟩,⟨ek,en,ep,⟨ec,es,⟨ck,ckey,cv,co⟩⟩⟩,⟨pk,pf,ps,pkey,pa,pb,pc⟩⟩)∧st.s 5=DI i) (fun i=>11 - i) (fun _=>ok1 (B true)) ?_ 0 ⟨by omega,(by and_intros<;>first|omega|rfl|(simp only[↓xP,xT,rL,rB,rA,rS]<;>first|done|rfl|omega))⟩
  rintro i st ⟨hle,h3,o3,h4,h5⟩ ih
  by_cases hi:i≤10
  · have hi':(i:Int)≤10:=by omega
    have hw:=w_succ (i:=i) (by omega)
    have ci:=fun h hk=>c1 h hk (i:Int)
    have c00:(i:Int)=0→ZY ⟨i,who,node,num,⟨wk,wkey,wv,wo⟩,⟨ek,en,ep,⟨ec,es,⟨ck,ckey,cv,co⟩⟩⟩,⟨pk,pf,ps,pkey,pa,pb,pc⟩⟩=false:=fun h=>by rw [h]; exact c0
    have dvi:=dv (i:Int)
    clear c1 c0 dv
    generalize ZY ⟨k,who,node,num,⟨wk,wkey,wv,wo⟩,⟨ek,en,ep,⟨ec,es,⟨ck,ckey,cv,co⟩⟩⟩,⟨pk,pf,ps,pkey,pa,pb,pc⟩⟩=v at *
    generalize ZY ⟨i,who,node,num,⟨wk,wkey,wv,wo⟩,⟨ek,en,ep,⟨ec,es,⟨ck,ckey,cv,co⟩⟩⟩,⟨pk,pf,ps,pkey,pa,pb,pc⟩⟩=b at *
    have H:(i:Int)=k∨¬(i:Int)=k:=by omega
    rcases (show k=1∨k=6∨k=7∨(¬k=1∧¬k=6∧¬k=7) by omega) with rfl|rfl|rfl|hk
    case' inl=>have hk:True:=trivial
    case' inr.inl=>have hk:True:=trivial
    case' inr.inr.inl=>have hk:True:=trivial
    all_goals
      rcases H with hne|hne
      case' inl=>have en:=eq_true hne
      case' inr=>have en:=eq_false hne
      all_goals
        by_cases h0:(i:Int)=0
        case' pos=>have e0:=eq_true h0
        case' neg=>have e0:=eq_false h0
        all_goals
          cases v
          all_goals
            cases b
            all_goals
              first
              | (exfalso; omega)
              | (exfalso; have:=c00 h0; cases this; done)
              | (exfalso; have:=ci rfl (by first|exact .inl rfl|exact .inr (.inl rfl)|exact .inr (.inr rfl)) hne; cases this; done)
              | (simp (config:={ decide:=true }) only [↓xP,xQ,xR,xS,ZFZ,rL,rB,rA,rS,h3,o3,h4,h5,hi',hk,e0,en,dvi,hw,ne_eq,not_true_eq_false,not_false_eq_true]
                 exact ih (i+1) _ (by omega) ⟨by omega,(by and_intros<;>first|omega|rfl|(simp only[↓xP,xT,rL,rB,rA,rS,h3,o3,h4,h5,hw]<;>first|done|rfl|omega))⟩)
  · have hi':¬(i:Int)≤10:=by omega
    simp only[↓xP,xT,rL,rB,rA,rS,h3,h5,hi',ZIz]
end Go.Proofs.YtfajcehhcjmofaaV
