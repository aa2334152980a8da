/- Lemmas of functions that the law FnExactClusterScan reaches, and that it returns true for all data of its types. No conditions but those that the lemmas state. -/
import Derived.Test.YtfajcehhcjmofaaGreatA2
namespace Go.Proofs.YtfajcehhcjmofaaGreatV
open Go Go.RowKit
open Nat renaming reduceLT → rL, reduceAdd → rA, reduceSub → rS, reduceBEq → rB
open IOp (dst isF args)
set_option linter.unusedVariables false
set_option linter.unusedSimpArgs false
set_option maxRecDepth 4000
theorem ZKC (l:List Ym) (K:Int) (h1:1≤K) (h2:K+sumW wPc l≤4611686018427387904):EE F 22 [.sc (.down (.par 0) l.length),I K] [.deep 3 (l.map Ym.u)]=some ⟨[I (K+sumW wPc l)],[],[.deep 3 ((mGo wPc mPc K l).map Ym.u)]⟩:=by
 have hln:2*l.length≤sumW wPc l:=by rw [show wPc=fun x=>2+cPc x from rfl,ZFU]; omega
 refine (EE_run (fn:=i22) (by kernel_rfl) rfl).trans ?_
 simp only[i22,b22,ZdN,ZcQ,List.length_cons,List.length_nil]
 simp only[↓xP,xT,rL,rB,rA,rS]
 refine (Zjc (fun (i:Nat) st=>i≤l.length∧st.s 0=.t (.sc (.down (.par 0) l.length))∧st.s 5=DI i∧st.s 1=DI (K+sumW wPc (l.take i))∧st.o (.par 0)=some (.deep 3 ((mMid wPc mPc K l i).map Ym.u))) (fun i=>l.length - i) (fun i=>some ⟨[I (K+sumW wPc l)],[],[.deep 3 ((mGo wPc mPc K l).map Ym.u)]⟩) ?_ 0 ⟨by omega,by simp only[↓xP,xT,rL,rB,rA,rS],by simp only[↓xP,xT,rL,rB,rA,rS]; rfl,by simp only[↓xP,xT,rL,rB,rA,rS,List.take_zero,sumW]; exact ZFs (by omega),by simp only[↓xP,xT,rL,rB,rA,rS,ZHp]⟩).trans rfl
 rintro i st ⟨hle,h0,h5,h1',ho⟩ ih
 by_cases hi:i<l.length
 ·obtain ⟨⟨⟨lo,up⟩,prs⟩,hx⟩:∃ x,l[i]?=some x:=⟨_,List.getElem?_eq_getElem hi⟩
  have hw:=w_succ (i:=i) (by omega)
  have hg:=ZHY (u:=Ym.u) wPc mPc K hx
  have hf:=ZHZ (u:=Ym.u) wPc mPc K hx
  have hlen:i<((mMid wPc mPc K l i).map Ym.u).length:=by rw [List.length_map,ZHX]; omega
  have hst:=ZGZ wPc hx
  have hsl:=ZG0 wPc l (i+1)
  simp only[wPc,cPc] at hst
  have hk0:1≤K+sumW wPc (l.take i):=by omega
  generalize (mMid wPc mPc K l i).map Ym.u=r at hg hf hlen ho
  obtain ⟨K',hK⟩:∃ K',K'=K+sumW wPc (l.take i):=⟨_,rfl⟩
  rw [←hK] at h1' hf
  have hK2:K+sumW wPc (l.take (i+1))=K'+1+1+2 * (prs.length:Int):=by omega
  have hK3:K'+1+1+2 * (prs.length:Int)≤4611686018427387904:=by omega
  simp only[Ym.u,mPc] at hg hf
  have hgs:=ZFR r i hlen
  have hw0:IntKind.i64.wrap (K'+1)=K'+1:=by rw [w64 (by omega) (by omega)]
  have mt0:=ZZ (K') (by omega) (by omega)
  have hw1:IntKind.i64.wrap (K'+1+1)=K'+1+1:=by rw [w64 (by omega) (by omega)]
  have mt1:=ZZ (K'+1) (by omega) (by omega)
  have mk2:=ZIT prs (K'+1+1) (by omega) (by omega)
  simp only[↓xP,xT,rL,rB,rA,rS,h0,h5,h1',ho,hi,hg,hgs,List.set_set,List.set_cons_succ,List.set_cons_zero,ZHs hlen,ZIg,hw,hw0,mt0,hw1,mt1,mk2,ZI1,List.length_map,ZV,ZFq,hf]
  exact ih (i+1) _ (by omega) ⟨by omega,by simp only[↓xP,xT,rL,rB,rA,rS,h0],by simp only[↓xP,xT,rL,rB,rA,rS],by simp only[↓xP,xT,rL,rB,rA,rS]; exact ZFs (by omega),by simp only[↓xP,xT,rL,rB,rA,rS]⟩
 ·have:i=l.length:=by omega
  subst this
  rw [ZHW] at ho
  simp only[↓xP,xT,rL,rB,rA,rS,h0,h5,h1',ho,hi,ZIg,List.take_length,List.length_map,ZFq]
theorem ZKA (l:List Ym) (K:Int) (h1:1≤K) (h2:K+sumW wPc l≤4611686018427387904):EE F 23 [L 3 ((mGo wPc mPc K l).map Ym.u),I K] []=ok1 (I (K+sumW wPc l)):=by
 have hln:2*l.length≤sumW wPc l:=by rw [show wPc=fun x=>2+cPc x from rfl,ZFU]; omega
 rw [R23,b23]
 simp only[↓xP,xT,rL,rB,rA,rS]
 refine (Zjc (fun (i:Nat) st=>i≤l.length∧st.s 0=DU (.sl 3 ((mGo wPc mPc K l).map Ym.u))∧st.s 5=DI i∧st.s 1=DI (K+sumW wPc (l.take i))) (fun i=>l.length - i) (fun i=>ok1 (I (K+sumW wPc l))) ?_ 0 ⟨by omega,by simp only[↓xP,xT,rL,rB,rA,rS],by simp only[↓xP,xT,rL,rB,rA,rS]; rfl,by simp only[↓xP,xT,rL,rB,rA,rS,List.take_zero,sumW]; exact ZFs (by omega)⟩).trans rfl
 rintro i st ⟨hle,h0,h5,h1'⟩ ih
 have hlen:=ZFq wPc mPc K l
 by_cases hi:i<l.length
 ·obtain ⟨⟨⟨lo,up⟩,prs⟩,hx0⟩:∃ x,l[i]?=some x:=⟨_,List.getElem?_eq_getElem hi⟩
  have hx:=ZNf wPc mPc l K i _ hx0
  have hw:=w_succ (i:=i) (by omega)
  have hst:=ZGZ wPc hx0
  have hsl:=ZG0 wPc l (i+1)
  simp only[wPc,cPc] at hst
  have hk0:1≤K+sumW wPc (l.take i):=by omega
  obtain ⟨K',hK⟩:∃ K',K'=K+sumW wPc (l.take i):=⟨_,rfl⟩
  rw [←hK] at h1' hx
  have hK2:K+sumW wPc (l.take (i+1))=K'+1+1+2 * (prs.length:Int):=by omega
  have hK3:K'+1+1+2 * (prs.length:Int)≤4611686018427387904:=by omega
  have hw0:IntKind.i64.wrap (K'+1)=K'+1:=by rw [w64 (by omega) (by omega)]
  have hw1:IntKind.i64.wrap (K'+1+1)=K'+1+1:=by rw [w64 (by omega) (by omega)]
  have mt0:=ZZ K' (by omega) (by omega)
  have mt1:=ZZ (K'+1) (by omega) (by omega)
  have hp:=ZLo prs.length (K'+1+1) (by omega) (by omega)
  have n1:¬K'+1+1+2 * (prs.length:Int)<0:=by omega
  simp only[↓xP,xT,rL,rB,rA,rS,rdx,rdx2,h0,h5,h1',hlen,hi,hx,hw,Ym.u,mPc,hw0,hw1,mt0,mt1,hp,n1,bne_self_eq_false,ne_eq,not_true_eq_false,decide_false]
  exact ih (i+1) _ (by omega) ⟨by omega,by simp only[↓xP,xT,rL,rB,rA,rS,h0],by simp only[↓xP,xT,rL,rB,rA,rS],by simp only[↓xP,xT,rL,rB,rA,rS]; exact ZFs (by omega)⟩
 ·have:i=l.length:=by omega
  subst this
  simp only[↓xP,xT,rL,rB,rA,rS,h0,h5,h1',hlen,hi,List.take_length]
theorem ZKd (K:Int):EE F 22 [.sc (.u .nil),I K] []=ok1 (I K):=by
 rw [R22,b22]
 simp only[↓xP,xT,rL,rB,rA,rS]
 refine (Zjc (fun (i:Nat) st=>i=0∧st.s 0=DU .nil∧st.s 5=DI 0∧st.s 1=DI K) (fun i=>0) (fun i=>ok1 (I K)) ?_ 0 ⟨rfl,by simp only[↓xP,xT,rL,rB,rA,rS],by simp only[↓xP,xT,rL,rB,rA,rS],by simp only[↓xP,xT,rL,rB,rA,rS]⟩).trans rfl
 rintro i st ⟨hi,h0,h5,h1'⟩ ih
 have:¬(0:Int)<0:=by omega
 have:¬(0:Int)<((0:Nat):Int):=by omega
 simp only[↓xP,xT,rL,rB,rA,rS,h0,h5,h1',List.length_nil, *]
theorem ZJ0 (K:Int):EE F 23 [.sc (.u .nil),I K] []=ok1 (I K):=by
 rw [R23,b23]
 simp only[↓xP,xT,rL,rB,rA,rS]
 refine (Zjc (fun (i:Nat) st=>i=0∧st.s 0=DU .nil∧st.s 5=DI 0∧st.s 1=DI K) (fun i=>0) (fun i=>ok1 (I K)) ?_ 0 ⟨rfl,by simp only[↓xP,xT,rL,rB,rA,rS],by simp only[↓xP,xT,rL,rB,rA,rS],by simp only[↓xP,xT,rL,rB,rA,rS]⟩).trans rfl
 rintro i st ⟨hi,h0,h5,h1'⟩ ih
 have:¬(0:Int)<0:=by omega
 have:¬(0:Int)<((0:Nat):Int):=by omega
 simp only[↓xP,xT,rL,rB,rA,rS,h0,h5,h1',List.length_nil, *]
theorem ZLj:EE F 20 [.sc (.u .nil),L 3 []] []=ok1 (B true):=by
 rw [R20,b20]
 simp only[↓xP,xT,rL,rB,rA,rS,List.length_nil,ne_eq,not_true_eq_false]
 refine (Zjc (fun (i:Nat) st=>i=0∧st.s 0=DU .nil∧st.s 1=DU (.sl 3 [])∧st.s 5=DI 0) (fun i=>0) (fun i=>ok1 (B true)) ?_ 0 ⟨rfl,by simp only[↓xP,xT,rL,rB,rA,rS],by simp only[↓xP,xT,rL,rB,rA,rS],by simp only[↓xP,xT,rL,rB,rA,rS]⟩).trans rfl
 rintro i st ⟨hi,h0,h1,h5⟩ ih
 have:¬(0:Int)<0:=by omega
 have:¬(0:Int)<((0:Nat):Int):=by omega
 simp only[↓xP,xT,rL,rB,rA,rS,h0,h1,h5,List.length_nil, *]
theorem ZOi {v:Yj} (h:ZA v=true):Yj.Small v:=by
 simp only[ZA,Bool.and_eq_true] at h
 exact ⟨ZHy h.1.1,ZHy h.1.2,trivial⟩
theorem ZNG {s:Yt} {v:Yj} (h:ZGG s v=true):Ym.Small (ZIk s v):=by
 simp only[ZGG,ZH1,Bool.and_eq_true] at h
 obtain ⟨hs,⟨_,_⟩,hm⟩:=h
 have hsm:=ZNJ hs
 refine ⟨ZOi hm,?_,trivial⟩
 have hsub:∀ p,p∈Z4 s.pairs (ZF1 s.span v)→p∈s.pairs:=fun p hp=>by
  unfold Z4 at hp
  split at hp
  ·exact (List.mem_filter.1 hp).1
  ·cases hp
 have hlen:(Z4 s.pairs (ZF1 s.span v)).length≤s.pairs.length:=by
  unfold Z4
  split
  ·exact List.length_filter_le ..
  ·simp
 exact ⟨Nat.le_trans hlen hsm.2.1.1,fun y hy=>hsm.2.1.2 y (hsub y hy)⟩
theorem ZMM (S:List Yt) (v:Yj) (h8:S.length≤8):ZHN (ZS S v):=by
 refine ⟨by have:=ZHE S v; omega,fun y hy=>?_⟩
 simp only[ZS,List.mem_map,List.mem_filter] at hy
 obtain ⟨s,⟨_,hok⟩,rfl⟩:=hy
 exact ZNG hok
theorem ZKh:∀ l:List Ym,ZHN l→sumW wPc l≤4000000*l.length
 | [],_=>by simp [sumW]
 | s::l,h=>by
  have h1:=ZKh l ⟨by have:=h.1; simp only[List.length_cons] at this; omega,fun y hy=>h.2 y (List.mem_cons_of_mem _ hy)⟩
  have h2:=(h.2 s (List.mem_cons_self ..)).2.1.1
  simp only[sumW,wPc,cPc,List.length_cons]
  omega
theorem ZOD (st:St) (d:Nat):st.dead d 3=(isNo (st.o (.loc d 0))&&(isNo (st.o (.loc d 1))&&isNo (st.o (.loc d 2)))):=by simp [St.dead,isNo,List.range_succ,Bool.and_assoc]
theorem app3 (st:St) (d:Nat) (v:D) (a b c:Id) (x y z:Obj) (rd:List Id):Fx.app ⟨some d,v,[(a,x),(b,y),(c,z)],rd⟩ st=(((st.obj a (some x)).obj b (some y)).obj c (some z)).put d v:=rfl
theorem law_FnExactClusterScan (us:List U) (hl:us.length=12) (ht:∀ (j:Nat) ty u,[Ty.sl [.b,.s,.s,.sl [.s,.i .i64],.sl [.i .i64,.i .i64,.i .i64],.b,.s,.i .i64,.sl [.i .i64],.b,.sl [.i .i64,.sl [.i .i64],.b,.b,.sl [.i .i64,.i .i64,.i .i64,.s,.i .i64,.i .i64]],.sl [.b],.sl [.i .i64,.i .i64,.i .i64,.i .i64,.sl [.i .i64],.b,.sl [.i .i64,.i .i64,.i .i64,.s,.i .i64,.i .i64]],.sl [.i .i64,.i .i64,.i .i64,.s,.i .i64,.i .i64,.i .i64]],.sl [.sl [.i .i64,.s,.s],.i .i64,.b,.i .i64,.s,.i .i64,.i .i64,.i .i64],.sl [.i .i64,.i .i64,.i .i64,.s,.i .i64,.i .i64,.i .i64,.i .i64,.i .i64],.i .i64,.i .i64,.i .i64,.s,.i .i64,.i .i64,.i .i64,.i .i64,.i .i64][j]?=some ty→us[j]?=some u→UT ty u)
  (us':List U) (hl':us'.length=2) (ht':∀ (j:Nat) ty u,[Ty.s,.s][j]?=some ty→us'[j]?=some u→UT ty u):EE F 4 [.ag (us.map .u),.ag (us'.map .u)] []=ok1 (B true):=by
 obtain ⟨⟨c0,c1,c2,⟨c3,c4,c5,c6,c7,c8,c9⟩,c10,c11⟩,rfl,hf⟩:=Yd.of us hl ht
 obtain ⟨⟨vl,vh⟩,rfl,hf'⟩:=Yj.of us' hl' ht'
 rw [R4,b4]
 simp only[↓xP,xT,rL,rB,rA,rS,Yd.u,Yj.u,List.map,ZLJ c0 c1 c2 c3 c4 c5 c6 c7 c8 c9 c10 c11 hf,ZHl vl vh]
 refine ZiE (fun h=>?_) (fun h=>?_)
 ·rfl
 refine ZiE (fun h2=>?_) (fun h2=>?_)
 ·rfl
 simp only[decide_eq_false_iff_not] at h h2
 have hs:=(ZLI _ hf 1048576 (by omega) (by omega)).2 (by omega)
 have hi:=ZJa c0 c1 c2 c3 c4 c5 c6 c7 c8 c9 c10 c11 vl vh hs
 have hsp:=ZJb c0 c1 c2 c3 c4 c5 c6 c7 c8 c9 c10 c11 vl vh hs
 have hcost:=(ZNV hs 1048576 (by omega) (by omega) (by omega)).2
 dsimp only at hcost
 have hmc:=ZKc c0 c1 c2 c3 c4 c5 c6 c7 c8 c9 c10 c11 1 (by omega) (by omega)
 have hg:¬(1:Int)+sumW ZFd c0+sumW wCal c1+9*c2.length<0:=by omega
 have h10:¬(1:Int)<0:=by omega
 have h8:=@ZK5 c0 c1 c2 ⟨c3,c4,c5,c6,c7,c8,c9⟩ c10 c11
 have hR:=ZMM (ZK ⟨c0,c1,c2,⟨c3,c4,c5,c6,c7,c8,c9⟩,c10,c11⟩) ⟨vl,vh⟩ h8
 have hpl:=ZHE (ZK ⟨c0,c1,c2,⟨c3,c4,c5,c6,c7,c8,c9⟩,c10,c11⟩) ⟨vl,vh⟩
 generalize ZS (ZK ⟨c0,c1,c2,⟨c3,c4,c5,c6,c7,c8,c9⟩,c10,c11⟩) ⟨vl,vh⟩=R at hi hsp hR hpl
 cases R with
 | nil=>
  simp only[ZJx,List.map_nil,List.length_nil] at hi hsp
  simp only[↓xP,xT,rL,rB,rA,rS,rdx,rdx2,ofR,ZOD,app3,ZOg,List.getElem?_nil,ZGP,ZI6 c0 c1 c2 c3 c4 c5 c6 c7 c8 c9 c10 c11 hs,hi,hsp,ZIJ c0 c1 c2 c3 c4 c5 c6 c7 c8 c9 c10 c11 hs,ZLj,ZKd,ZJ0,hmc,hg,h10,ZV,ZMc,ZFq,ZG,List.length_map,Nat.le_refl,ne_eq,not_true_eq_false]
 | cons p P=>
  simp only[ZJx] at hi
  generalize p::P=R at hi hsp hR hpl
  have hsu:=ZKh R hR
  have he:=ZL2 R hR
  have hm3:=ZKC R 1 (by omega) (by omega)
  have hh:=ZKA R 1 (by omega) (by omega)
  have hg2:¬(1:Int) + (sumW wPc R:Int)<0:=by omega
  have htk:List.take R.length (List.map Ym.u (mGo wPc mPc 1 R))=List.map Ym.u (mGo wPc mPc 1 R):=List.take_of_length_le (by rw [List.length_map,ZFq]; omega)
  cases hfl:ZcG (List.map Ym.u R)<;>simp only[↓xP,xT,rL,rB,rA,rS,rdx,rdx2,ofR,hfl,ZOD,app3,ZOg,List.getElem?_nil,ZGP,ZI6 c0 c1 c2 c3 c4 c5 c6 c7 c8 c9 c10 c11 hs,hi,hsp,ZIJ c0 c1 c2 c3 c4 c5 c6 c7 c8 c9 c10 c11 hs,he,hmc,hm3,hh,hg,hg2,h10,htk,ZV,ZMc,ZFq,ZG,List.length_map,Nat.le_refl,ne_eq,not_true_eq_false]
end Go.Proofs.YtfajcehhcjmofaaGreatV
