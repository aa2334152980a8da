/- Lemmas of functions that the law FnExactClusterSafe reaches, and that it returns true for all data of its types. No conditions but those that the lemmas state. -/
import Derived.Test.YtfajcehhcjmofaaGreatA2
namespace Go.Proofs.YtfajcehhcjmofaaGreatV
open Go Go.RowKit
open Nat renaming reduceLT → rL, reduceAdd → rA, reduceSub → rS, reduceBEq → rB
open IOp (dst isF args)
set_option linter.unusedVariables false
set_option linter.unusedSimpArgs false
set_option maxRecDepth 4000
set_option maxHeartbeats 2000000 in
theorem ZKd (lo up:Str) (prs:List Yl) (kn:List Yr) (sld:Bool) (cut:Str) (ep:Int) (ms:List Int) (fr:Bool) (nds:List Yo) (ups:List Bool) (bag:List Yk) (ans:List Ya) (hs:Yc.Small ⟨⟨⟨lo,up⟩,prs,kn,sld,cut⟩,⟨ep,ms,fr⟩,nds,ups,bag,ans⟩):EE F 66 [.ag [.u (.str lo),.u (.str up),.u (.sl 2 (prs.map Yl.u)),.u (.sl 3 (kn.map Yr.u)),.u (.bool sld),.u (.str cut),.u (.int .i64 ep),.u (.sl 1 (ms.map iU)),.u (.bool fr),.u (.sl 5 (nds.map Yo.u)),.u (.sl 1 (ups.map bU)),.u (.sl 7 (bag.map Yk.u)),.u (.sl 7 (ans.map Ya.u))]] []=ok1 (B (ZFi ⟨⟨⟨lo,up⟩,prs,kn,sld,cut⟩,⟨ep,ms,fr⟩,nds,ups,bag,ans⟩)):=by
 have hch:=ZGL lo up prs kn sld cut ep ms fr nds ups bag ans hs
 rw [R66,b66]
 cases hv:ZE ⟨⟨⟨lo,up⟩,prs,kn,sld,cut⟩,⟨ep,ms,fr⟩,nds,ups,bag,ans⟩
 ·simp only[↓xP,xT,rL,rB,rA,rS,hch,hv]
  simp [ZFi,hv]
 have has:=ZKc ans hs.2.2.2.2.2.1.1
 have hcm:=ZHU ep ms fr hs.2.1.1.1
 have hrp:=ZJI lo up prs kn sld cut (ZT ans) hs.1.2.1.1 hs.1.2.2.1.1 (by rw [ZGl]; exact hs.2.2.2.2.2.1.1)
 obtain ⟨h5,hu5⟩:=ZIB hv
 simp only at h5
 have hn:ans.length≤1048576:=hs.2.2.2.2.2.1.1
 have hmn:ms.length≤1048576:=hs.2.1.1.1
 have hav:=ZG4 hv
 have hbv:=ZG5 hv
 have hpl:prs.length≤1048576:=hs.1.2.1.1
 have hkl:kn.length≤1048576:=hs.1.2.2.1.1
 have h24:(ZT ans).length≤24:=by
  simp only[ZN,Bool.and_eq_true,decide_eq_true_eq] at hav
  exact hav.1
 have hrl:=ZH7 ⟨⟨lo,up⟩,prs,kn,sld,cut⟩ (ZT ans)
 rw [ZGl] at hrl
 simp only at hav hbv
 rw [hav,hbv,Bool.and_self,if_pos rfl] at hrp
 have hcl:=ZIL (ZIA hv)
 have hmem:∀ y,y∈ZFa ⟨ep,ms,fr⟩→∃ (m:Nat) (e:Int) (ml:List Int) (f rd:Bool) (lg:List Yh),y=(m:Int)∧m<5∧nds[m]?=some ⟨⟨e,ml,f⟩,rd,lg⟩:=fun y hy=>ZK6 hv (ZIM hy)
 have hsm:∀ (m:Nat) (r:Yo),nds[m]?=some r→r.log.length≤1048576:=fun m r hr=>(hs.2.2.1.2 _ (List.mem_of_getElem? hr)).2.1.1
 simp only at hcl
 have hcs:ZFi ⟨⟨⟨lo,up⟩,prs,kn,sld,cut⟩,⟨ep,ms,fr⟩,nds,ups,bag,ans⟩=(ZGQ nds (ZT ans) ((ZFa ⟨ep,ms,fr⟩).drop 0)&&eqR (repE ⟨⟨lo,up⟩,prs,kn,sld,cut⟩ (ZT ans)) ans):=by simp [ZFi,hv]
 rw [hcs]
 simp only[ZGD] at has
 simp only[↓xP,xT,rL,rB,rA,rS,hch,hv,has,hcm]
 clear hcs
 generalize repE ⟨⟨lo,up⟩,prs,kn,sld,cut⟩ (ZT ans)=RP at hrp hrl ⊢
 generalize runE ⟨⟨lo,up⟩,prs,kn,sld,cut⟩ (ZT ans)=SS at hrp
 generalize ZT ans=AK at h24 hrp ⊢
 generalize ZFa ⟨ep,ms,fr⟩=L at hcl hmem ⊢
 obtain ⟨⟨slo,sup⟩,sprs,skn,ssld,scut⟩:=SS
 simp only[ZFs] at hrp
 refine Zjc (fun (i:Nat) st=>i≤L.length∧st.s 1=.t (.sc (.ptr (.loc 1 0) 0 0))∧st.o (.loc 1 0)=some (.box [.u (.str lo),.u (.str up),.u (.sl 2 (prs.map Yl.u)),.u (.sl 3 (kn.map Yr.u)),.u (.bool sld),.u (.str cut),.u (.int .i64 ep),.u (.sl 1 (ms.map iU)),.u (.bool fr),.u (.sl 5 (nds.map Yo.u)),.u (.sl 1 (ups.map bU)),.u (.sl 7 (bag.map Yk.u)),.u (.sl 7 (ans.map Ya.u))])∧st.s 3=.t (.sc (.own (.loc 19 0) AK.length))∧st.o (.loc 19 0)=some (.row 6 (AK.map Yh.u))∧st.s 4=cmD i L∧st.s 23=cmD i L∧cmO st i L∧st.s 24=DI L.length∧st.s 25=DI i) (fun i=>L.length - i) (fun i=>ok1 (B (ZGQ nds AK (L.drop i)&&eqR RP ans))) ?_ 0 ⟨by omega,(by and_intros<;>first|omega|rfl|(simp only[↓xP,xT,rL,rB,rA,rS]<;>first|done|rfl|omega)),(by and_intros<;>first|omega|rfl|(simp only[↓xP,xT,rL,rB,rA,rS]<;>first|done|rfl|omega)),(by and_intros<;>first|omega|rfl|(simp only[↓xP,xT,rL,rB,rA,rS]<;>first|done|rfl|omega)),(by and_intros<;>first|omega|rfl|(simp only[↓xP,xT,rL,rB,rA,rS]<;>first|done|rfl|omega)),(by and_intros<;>first|omega|rfl|(simp only[↓xP,xT,rL,rB,rA,rS,cmD]<;>first|done|rfl|omega)),(by and_intros<;>first|omega|rfl|(simp only[↓xP,xT,rL,rB,rA,rS,cmD]<;>first|done|rfl|omega)),(by and_intros<;>first|omega|rfl|(simp only[↓xP,xT,rL,rB,rA,rS,cmO]<;>first|done|rfl|omega)),(by and_intros<;>first|omega|rfl|(simp only[↓xP,xT,rL,rB,rA,rS]<;>first|done|rfl|omega)),(by and_intros<;>first|omega|rfl|(simp only[↓xP,xT,rL,rB,rA,rS]<;>first|done|rfl|omega))⟩
 clear hch has hcm
 rintro i st ⟨hle,h1,hb,h3,ho3,h4,h23,ho4,h24',h25⟩ ih
 have hw:=w_succ (i:=i) (by omega)
 by_cases hi:i<L.length
 ·obtain ⟨y,hy⟩:∃ x,L[i]?=some x:=⟨_,List.getElem?_eq_getElem hi⟩
  obtain ⟨m,e2,ml2,f2,rd2,lg2,rfl,hm5,hr⟩:=hmem y (List.mem_of_getElem? hy)
  have hlm:=hsm m _ hr
  simp only at hlm
  obtain ⟨hra,hla⟩:=ZH6 hr
  have hpx:=ZHm lg2 AK hlm
  have hcf:=ZHp (n:=L.length) (i:=i+1) (by omega)
  rw [ZI hy]
  have hsi:ZGQ nds AK ((m:Int)::L.drop (i+1))=(rd2&&(pre AK lg2&&((L.drop (i+1)).all (fun n=>pre (ZHr nds n) lg2)&&ZGQ nds AK (L.drop (i+1))))):=by rw [ZGQ,hra,hla]
  rw [hsi]
  have step:∀ st':St,(st'.s 1=.t (.sc (.ptr (.loc 1 0) 0 0))∧st'.o (.loc 1 0)=some (.box [.u (.str lo),.u (.str up),.u (.sl 2 (prs.map Yl.u)),.u (.sl 3 (kn.map Yr.u)),.u (.bool sld),.u (.str cut),.u (.int .i64 ep),.u (.sl 1 (ms.map iU)),.u (.bool fr),.u (.sl 5 (nds.map Yo.u)),.u (.sl 1 (ups.map bU)),.u (.sl 7 (bag.map Yk.u)),.u (.sl 7 (ans.map Ya.u))])∧st'.s 3=.t (.sc (.own (.loc 19 0) AK.length))∧st'.o (.loc 19 0)=some (.row 6 (AK.map Yh.u))∧st'.s 4=DU (.sl 1 (L.map iU))∧st'.s 23=DU (.sl 1 (L.map iU))∧st'.s 24=DI L.length∧st'.s 25=DI ((i+1:Nat):Int))→_=ok1 (B (ZGQ nds AK (L.drop (i+1))&&eqR RP ans)):=fun st' h=>ih (i+1) st' (by omega) ⟨by omega,h.1,h.2.1,h.2.2.1,h.2.2.2.1,h.2.2.2.2.1,h.2.2.2.2.2.1,trivial,h.2.2.2.2.2.2.1,h.2.2.2.2.2.2.2⟩
  clear ih
  cases i with
  | zero=>
   simp only[cmD,cmO] at h4 h23 ho4
   cases q1:rd2
   ·simp only[↓xP,xT,rL,rB,rA,rS,rdx,rdx2,h1,hb,h3,ho3,h4,h23,ho4,h24',h25,hi,hy,hr,hm5,h5,iU,Yo.u,q1,ZB]
    try simp
   cases q2:pre AK lg2
   ·simp only[↓xP,xT,rL,rB,rA,rS,rdx,rdx2,h1,hb,h3,ho3,h4,h23,ho4,h24',h25,hi,hy,hr,hm5,h5,iU,Yo.u,q1,hpx,q2,ZB]
    try simp
   simp only[↓xP,xT,rL,rB,rA,rS,rdx,rdx2,h1,hb,h3,ho3,h4,h23,ho4,h24',h25,hi,hy,hr,hm5,h5,hw,iU,Yo.u,q1,hpx,q2,hcf,ZB,List.length_map,List.length_drop]
   refine (Zjc (fun (j:Nat) st=>j≤(L.drop (0+1)).length∧st.s 1=.t (.sc (.ptr (.loc 1 0) 0 0))∧st.o (.loc 1 0)=some (.box [.u (.str lo),.u (.str up),.u (.sl 2 (prs.map Yl.u)),.u (.sl 3 (kn.map Yr.u)),.u (.bool sld),.u (.str cut),.u (.int .i64 ep),.u (.sl 1 (ms.map iU)),.u (.bool fr),.u (.sl 5 (nds.map Yo.u)),.u (.sl 1 (ups.map bU)),.u (.sl 7 (bag.map Yk.u)),.u (.sl 7 (ans.map Ya.u))])∧st.s 3=.t (.sc (.own (.loc 19 0) AK.length))∧st.o (.loc 19 0)=some (.row 6 (AK.map Yh.u))∧st.s 4=DU (.sl 1 (L.map iU))∧st.s 23=DU (.sl 1 (L.map iU))∧st.s 24=DI L.length∧st.s 25=DI (0:Nat)∧st.s 7=.t (.sc (.ptr (.loc 7 0) 0 0))∧st.o (.loc 7 0)=some (.box [.u (.int .i64 e2),.u (.sl 1 (ml2.map iU)),.u (.bool f2),.u (.bool true),.u (.sl 6 (lg2.map Yh.u))])∧st.s 48=DU (.sl 1 ((L.drop (0+1)).map iU))∧st.s 49=DI (L.drop (0+1)).length∧st.s 50=DI j) (fun j=>(L.drop (0+1)).length - j) (fun j=>ok1 (B (((L.drop (0+1)).drop j).all (fun n=>pre (ZHr nds n) lg2)&&(ZGQ nds AK (L.drop (0+1))&&eqR RP ans)))) ?_ 0 (by and_intros<;>first|omega|rfl|(simp only[↓xP,xT,rL,rB,rA,rS,h1,hb,h3,ho3,h4,h23,ho4,h24',h25,List.map_drop,List.length_drop]<;>first|done|rfl|omega))).trans (by simp [Bool.and_assoc])
   clear h1 hb h3 ho3 h4 h23 ho4 h24' h25
   rintro j st ⟨hjl,h1,hb,h3,ho3,h4,h23,h24',h25,h7,ho7,h48,h49,h50⟩ ih
   have hwj:=w_succ (i:=j) (by rw [List.length_drop] at hjl; omega)
   by_cases hj:j<(L.drop (0+1)).length
   ·obtain ⟨y,hy⟩:∃ x,(L.drop (0+1))[j]?=some x:=⟨_,List.getElem?_eq_getElem hj⟩
    obtain ⟨m2,e3,ml3,f3,rd3,lg3,rfl,hm3,hr3⟩:=hmem y (List.mem_of_mem_drop (List.mem_of_getElem? hy))
    have hpy:=ZHm lg2 lg3 hlm
    obtain ⟨_,hl3⟩:=ZH6 hr3
    rw [ZI hy,List.all_cons,hl3]
    cases q3:pre lg3 lg2
    ·simp only[↓xP,xT,rL,rB,rA,rS,rdx,rdx2,h1,hb,h3,ho3,h4,h23,h24',h25,h7,ho7,h48,h49,h50,hj,hy,hr3,hm3,h5,iU,Yo.u,hpy,q3,ZB]
     try simp
    ·simp only[↓xP,xT,rL,rB,rA,rS,rdx,rdx2,h1,hb,h3,ho3,h4,h23,h24',h25,h7,ho7,h48,h49,h50,hj,hy,hr3,hm3,h5,hwj,iU,Yo.u,hpy,q3,ZB]
     rw [ih (j+1) _ (by omega) (by and_intros<;>first|omega|rfl|(simp only[↓xP,xT,rL,rB,rA,rS,h1,hb,h3,ho3,h4,h23,h24',h25,h7,ho7,h48,h49]<;>first|done|rfl|omega))]
     try simp
   ·simp only[↓xP,xT,rL,rB,rA,rS,rdx,rdx2,h1,hb,h3,ho3,h4,h23,h24',h25,h7,ho7,h48,h49,h50,hj,hw]
    rw [step _ (by and_intros<;>first|omega|rfl|(simp only[↓xP,xT,rL,rB,rA,rS,h1,hb,h3,ho3,h4,h23,h24',h25]<;>first|done|rfl|omega))]
    have hnil:(L.drop (0+1)).drop j=[]:=List.drop_of_length_le (by omega)
    rw [hnil]
    simp
  | succ i=>
   simp only[cmD,cmO] at h4 h23 ho4
   cases q1:rd2
   ·simp only[↓xP,xT,rL,rB,rA,rS,rdx,rdx2,h1,hb,h3,ho3,h4,h23,ho4,h24',h25,hi,hy,hr,hm5,h5,iU,Yo.u,q1,ZB]
    try simp
   cases q2:pre AK lg2
   ·simp only[↓xP,xT,rL,rB,rA,rS,rdx,rdx2,h1,hb,h3,ho3,h4,h23,ho4,h24',h25,hi,hy,hr,hm5,h5,iU,Yo.u,q1,hpx,q2,ZB]
    try simp
   simp only[↓xP,xT,rL,rB,rA,rS,rdx,rdx2,h1,hb,h3,ho3,h4,h23,ho4,h24',h25,hi,hy,hr,hm5,h5,hw,iU,Yo.u,q1,hpx,q2,hcf,ZB,List.length_map,List.length_drop]
   refine (Zjc (fun (j:Nat) st=>j≤(L.drop ((i+1)+1)).length∧st.s 1=.t (.sc (.ptr (.loc 1 0) 0 0))∧st.o (.loc 1 0)=some (.box [.u (.str lo),.u (.str up),.u (.sl 2 (prs.map Yl.u)),.u (.sl 3 (kn.map Yr.u)),.u (.bool sld),.u (.str cut),.u (.int .i64 ep),.u (.sl 1 (ms.map iU)),.u (.bool fr),.u (.sl 5 (nds.map Yo.u)),.u (.sl 1 (ups.map bU)),.u (.sl 7 (bag.map Yk.u)),.u (.sl 7 (ans.map Ya.u))])∧st.s 3=.t (.sc (.own (.loc 19 0) AK.length))∧st.o (.loc 19 0)=some (.row 6 (AK.map Yh.u))∧st.s 4=DU (.sl 1 (L.map iU))∧st.s 23=DU (.sl 1 (L.map iU))∧st.s 24=DI L.length∧st.s 25=DI ((i+1):Nat)∧st.s 7=.t (.sc (.ptr (.loc 7 0) 0 0))∧st.o (.loc 7 0)=some (.box [.u (.int .i64 e2),.u (.sl 1 (ml2.map iU)),.u (.bool f2),.u (.bool true),.u (.sl 6 (lg2.map Yh.u))])∧st.s 48=DU (.sl 1 ((L.drop ((i+1)+1)).map iU))∧st.s 49=DI (L.drop ((i+1)+1)).length∧st.s 50=DI j) (fun j=>(L.drop ((i+1)+1)).length - j) (fun j=>ok1 (B (((L.drop ((i+1)+1)).drop j).all (fun n=>pre (ZHr nds n) lg2)&&(ZGQ nds AK (L.drop ((i+1)+1))&&eqR RP ans)))) ?_ 0 (by and_intros<;>first|omega|rfl|(simp only[↓xP,xT,rL,rB,rA,rS,h1,hb,h3,ho3,h4,h23,ho4,h24',h25,List.map_drop,List.length_drop]<;>first|done|rfl|omega))).trans (by simp [Bool.and_assoc])
   clear h1 hb h3 ho3 h4 h23 ho4 h24' h25
   rintro j st ⟨hjl,h1,hb,h3,ho3,h4,h23,h24',h25,h7,ho7,h48,h49,h50⟩ ih
   have hwj:=w_succ (i:=j) (by rw [List.length_drop] at hjl; omega)
   by_cases hj:j<(L.drop ((i+1)+1)).length
   ·obtain ⟨y,hy⟩:∃ x,(L.drop ((i+1)+1))[j]?=some x:=⟨_,List.getElem?_eq_getElem hj⟩
    obtain ⟨m2,e3,ml3,f3,rd3,lg3,rfl,hm3,hr3⟩:=hmem y (List.mem_of_mem_drop (List.mem_of_getElem? hy))
    have hpy:=ZHm lg2 lg3 hlm
    obtain ⟨_,hl3⟩:=ZH6 hr3
    rw [ZI hy,List.all_cons,hl3]
    cases q3:pre lg3 lg2
    ·simp only[↓xP,xT,rL,rB,rA,rS,rdx,rdx2,h1,hb,h3,ho3,h4,h23,h24',h25,h7,ho7,h48,h49,h50,hj,hy,hr3,hm3,h5,iU,Yo.u,hpy,q3,ZB]
     try simp
    ·simp only[↓xP,xT,rL,rB,rA,rS,rdx,rdx2,h1,hb,h3,ho3,h4,h23,h24',h25,h7,ho7,h48,h49,h50,hj,hy,hr3,hm3,h5,hwj,iU,Yo.u,hpy,q3,ZB]
     rw [ih (j+1) _ (by omega) (by and_intros<;>first|omega|rfl|(simp only[↓xP,xT,rL,rB,rA,rS,h1,hb,h3,ho3,h4,h23,h24',h25,h7,ho7,h48,h49]<;>first|done|rfl|omega))]
     try simp
   ·simp only[↓xP,xT,rL,rB,rA,rS,rdx,rdx2,h1,hb,h3,ho3,h4,h23,h24',h25,h7,ho7,h48,h49,h50,hj,hw]
    rw [step _ (by and_intros<;>first|omega|rfl|(simp only[↓xP,xT,rL,rB,rA,rS,h1,hb,h3,ho3,h4,h23,h24',h25]<;>first|done|rfl|omega))]
    have hnil:(L.drop ((i+1)+1)).drop j=[]:=List.drop_of_length_le (by omega)
    rw [hnil]
    simp
 ·rw [List.drop_of_length_le (by omega)]
  simp only[ZGQ,Bool.true_and]
  cases i<;>simp only[cmD,cmO] at h4 h23 ho4<;>(
  simp only[↓xP,xT,rL,rB,rA,rS,rdx,rdx2,ofR,h1,hb,h3,ho3,h4,h23,ho4,h24',h25,hi,hrp,ZB]
  refine (Zjc (fun (j:Nat) st=>j≤ans.length∧st.s 11=.t (.sc (.own (.loc 70 2) RP.length))∧st.o (.loc 70 2)=some (.row 1 (RP.map iU))∧st.s 74=DU (.sl 7 (ans.map Ya.u))∧st.s 75=DI ans.length∧st.s 76=DI j) (fun j=>ans.length - j) (fun j=>ok1 (B (eqR (RP.drop j) (ans.drop j)))) ?_ 0 (by and_intros<;>first|omega|rfl|(simp only[↓xP,xT,rL,rB,rA,rS]<;>first|done|rfl|omega))).trans (by rfl)
  clear h1 hb h3 ho3 h4 h23 ho4 h24' h25 ih hw
  rintro j st ⟨hjl,h11,ho11,h74,h75,h76⟩ ih
  have hwj:=w_succ (i:=j) (by omega)
  by_cases hj:j<ans.length
  ·obtain ⟨⟨⟨ac,asq,⟨ak,akey,av,ao⟩⟩,arp⟩,hx⟩:∃ x,ans[j]?=some x:=⟨_,List.getElem?_eq_getElem hj⟩
   obtain ⟨rp,hrp2⟩:∃ x,RP[j]?=some x:=⟨_,List.getElem?_eq_getElem (by omega)⟩
   have hjr:j<RP.length:=by omega
   rw [ZI hx,ZI hrp2,eqR]
   by_cases q:arp=rp
   ·simp only[↓xP,xT,rL,rB,rA,rS,rdx,rdx2,h11,ho11,h74,h75,h76,hj,hjr,hx,hrp2,hwj,iU,Ya.u,q,ne_eq,not_true_eq_false,decide_false]
    rw [ih (j+1) _ (by omega) (by and_intros<;>first|omega|rfl|(simp only[↓xP,xT,rL,rB,rA,rS,h11,ho11,h74,h75]<;>first|done|rfl|omega))]
    try simp
   ·simp only[↓xP,xT,rL,rB,rA,rS,rdx,rdx2,h11,ho11,h74,h75,h76,hj,hjr,hx,hrp2,hwj,iU,Ya.u,q,ne_eq,not_false_eq_true]
    try simp
  ·simp only[↓xP,xT,rL,rB,rA,rS,h11,ho11,h74,h75,h76,hj]
   rw [List.drop_of_length_le (by omega),List.drop_of_length_le (by omega)]; rfl)
def ZHG (L:List Int):Nat→Option Int
 | 0=>none
 | k+1=>L[k]?
set_option maxHeartbeats 2000000 in
theorem ZKe (lo up:Str) (prs:List Yl) (kn:List Yr) (sld:Bool) (cut:Str) (ep:Int) (ms:List Int) (fr:Bool) (nds:List Yo) (ups:List Bool) (bag:List Yk) (ans:List Ya) (hs:Yc.Small ⟨⟨⟨lo,up⟩,prs,kn,sld,cut⟩,⟨ep,ms,fr⟩,nds,ups,bag,ans⟩):EE F 61 [.ag [.u (.str lo),.u (.str up),.u (.sl 2 (prs.map Yl.u)),.u (.sl 3 (kn.map Yr.u)),.u (.bool sld),.u (.str cut),.u (.int .i64 ep),.u (.sl 1 (ms.map iU)),.u (.bool fr),.u (.sl 5 (nds.map Yo.u)),.u (.sl 1 (ups.map bU)),.u (.sl 7 (bag.map Yk.u)),.u (.sl 7 (ans.map Ya.u))]] []=ok1 (B (ZFi ⟨⟨⟨lo,up⟩,prs,kn,sld,cut⟩,⟨ep,ms,fr⟩,nds,ups,bag,ans⟩)):=by
 have hch:=ZGa lo up prs kn sld cut ep ms fr nds ups bag ans hs
 rw [R61,b61]
 cases hv:ZE ⟨⟨⟨lo,up⟩,prs,kn,sld,cut⟩,⟨ep,ms,fr⟩,nds,ups,bag,ans⟩
 ·simp only[↓xP,xT,rL,rB,rA,rS,hch,hv]
  simp [ZFi,hv]
 have has:=ZHS lo up prs kn sld cut ep ms fr nds ups bag ans hs hv
 have hcm:=ZHV ep ms fr hs.2.1.1.1
 have hrp:=ZJJ lo up prs kn sld cut (ZT ans) hs.1.2.1.1 hs.1.2.2.1.1 (by rw [ZGl]; exact hs.2.2.2.2.2.1.1)
 obtain ⟨h5,hu5⟩:=ZIB hv
 simp only at h5
 have hn:ans.length≤1048576:=hs.2.2.2.2.2.1.1
 have hmn:ms.length≤1048576:=hs.2.1.1.1
 have hav:=ZG4 hv
 have hbv:=ZG5 hv
 have hpl:prs.length≤1048576:=hs.1.2.1.1
 have hkl:kn.length≤1048576:=hs.1.2.2.1.1
 have h24:(ZT ans).length≤24:=by
  simp only[ZN,Bool.and_eq_true,decide_eq_true_eq] at hav
  exact hav.1
 have hrl:=ZH7 ⟨⟨lo,up⟩,prs,kn,sld,cut⟩ (ZT ans)
 rw [ZGl] at hrl
 simp only at hav hbv
 rw [hav,hbv,Bool.and_self,if_pos rfl] at hrp
 have hcl:=ZIL (ZIA hv)
 have hmem:∀ y,y∈ZFa ⟨ep,ms,fr⟩→∃ (m:Nat) (e:Int) (ml:List Int) (f rd:Bool) (lg:List Yh),y=(m:Int)∧m<5∧nds[m]?=some ⟨⟨e,ml,f⟩,rd,lg⟩:=fun y hy=>ZK6 hv (ZIM hy)
 have hsm:∀ (m:Nat) (r:Yo),nds[m]?=some r→r.log.length≤1048576:=fun m r hr=>(hs.2.2.1.2 _ (List.mem_of_getElem? hr)).2.1.1
 simp only at hcl
 have hcs:ZFi ⟨⟨⟨lo,up⟩,prs,kn,sld,cut⟩,⟨ep,ms,fr⟩,nds,ups,bag,ans⟩=(ZGR nds (ZT ans) (ZHG (ZFa ⟨ep,ms,fr⟩) 0) ((ZFa ⟨ep,ms,fr⟩).drop 0)&&eqR (repE ⟨⟨lo,up⟩,prs,kn,sld,cut⟩ (ZT ans)) ans):=by
  rw [List.drop_zero,ZHG,ZOr]; simp [ZFi,hv]
 rw [hcs]
 simp only[ZGD] at has
 simp only[↓xP,xT,rL,rB,rA,rS,hch,hv,has,hcm]
 clear hcs
 generalize repE ⟨⟨lo,up⟩,prs,kn,sld,cut⟩ (ZT ans)=RP at hrp hrl ⊢
 generalize runE ⟨⟨lo,up⟩,prs,kn,sld,cut⟩ (ZT ans)=SS at hrp
 generalize ZT ans=AK at h24 hrp ⊢
 generalize ZFa ⟨ep,ms,fr⟩=L at hcl hmem ⊢
 obtain ⟨⟨slo,sup⟩,sprs,skn,ssld,scut⟩:=SS
 simp only[ZFs] at hrp
 refine Zjc (fun (i:Nat) st=>i≤L.length∧st.s 1=.t (.sc (.ptr (.loc 1 0) 0 0))∧st.o (.loc 1 0)=some (.box [.u (.str lo),.u (.str up),.u (.sl 2 (prs.map Yl.u)),.u (.sl 3 (kn.map Yr.u)),.u (.bool sld),.u (.str cut),.u (.int .i64 ep),.u (.sl 1 (ms.map iU)),.u (.bool fr),.u (.sl 5 (nds.map Yo.u)),.u (.sl 1 (ups.map bU)),.u (.sl 7 (bag.map Yk.u)),.u (.sl 7 (ans.map Ya.u))])∧st.s 3=.t (.sc (.own (.loc 15 0) L.length))∧st.o (.loc 15 0)=some (.row 1 (L.map iU))∧st.s 4=.t (.sc (.own (.loc 17 0) AK.length))∧st.o (.loc 17 0)=some (.row 6 (AK.map Yh.u))∧st.s 5=DI i) (fun i=>L.length - i) (fun i=>ok1 (B (ZGR nds AK (ZHG L i) (L.drop i)&&eqR RP ans))) ?_ 0 (by and_intros<;>first|omega|rfl|(simp only[↓xP,xT,rL,rB,rA,rS]<;>first|done|rfl|omega))
 clear hch has hcm
 rintro i st ⟨hle,h1,hb,h3,ho3,h4,ho4,h5'⟩ ih
 have hw:=w_succ (i:=i) (by omega)
 by_cases hi:i<L.length
 ·obtain ⟨y,hy⟩:∃ x,L[i]?=some x:=⟨_,List.getElem?_eq_getElem hi⟩
  obtain ⟨m,e2,ml2,f2,rd2,lg2,rfl,hm5,hr⟩:=hmem y (List.mem_of_getElem? hy)
  have hlm:=hsm m _ hr
  simp only at hlm
  obtain ⟨hra,hla⟩:=ZH6 hr
  have hpx:=ZIs lg2 AK hlm
  rw [ZI hy]
  have hnx:ZHG L (i+1)=some (m:Int):=hy
  cases i with
  | zero=>
   have hsi:ZGR nds AK (ZHG L 0) ((m:Int)::L.drop (0+1))=(rd2&&(pre AK lg2&&ZGR nds AK (some (m:Int)) (L.drop (0+1)))):=by rw [ZHG,ZGR,hra,hla]; simp
   rw [hsi]
   cases q1:rd2
   ·simp only[↓xP,xT,rL,rB,rA,rS,rdx,rdx2,h1,hb,h3,ho3,h4,ho4,h5',hi,hy,hr,hm5,h5,iU,Yo.u,q1,ZB]
    try simp
   cases q2:pre AK lg2
   ·simp only[↓xP,xT,rL,rB,rA,rS,rdx,rdx2,h1,hb,h3,ho3,h4,ho4,h5',hi,hy,hr,hm5,h5,iU,Yo.u,q1,hpx,q2,ZB]
    try simp
   have hz:¬(0:Int)<0:=by omega
   have hz2:¬(0:Int)<((0:Nat):Int):=by omega
   simp only[↓xP,xT,rL,rB,rA,rS,rdx,rdx2,h1,hb,h3,ho3,h4,ho4,h5',hi,hy,hr,hm5,h5,hw,iU,Yo.u,q1,hpx,q2,ZB,gt_iff_lt,hz,hz2]
   rw [ih 1 _ (by omega) (by and_intros<;>first|omega|rfl|(simp only[↓xP,xT,rL,rB,rA,rS,h1,hb,h3,ho3,h4,ho4,hw]<;>first|done|rfl|omega)),hnx]
   try simp
  | succ i=>
   obtain ⟨y0,hy0⟩:∃ x,L[i]?=some x:=⟨_,List.getElem?_eq_getElem (by omega)⟩
   obtain ⟨m0,e0,ml0,f0,rd0,lg0,rfl,hm50,hr0⟩:=hmem y0 (List.mem_of_getElem? hy0)
   have hlm0:=hsm m0 _ hr0
   simp only at hlm0
   obtain ⟨_,hla0⟩:=ZH6 hr0
   have hpy:=ZIs lg0 lg2 hlm0
   have hi0:i<L.length:=by omega
   have hpr:ZHG L (i+1)=some (m0:Int):=hy0
   have hsi:ZGR nds AK (ZHG L (i+1)) ((m:Int)::L.drop (i+1+1))=(rd2&&(pre AK lg2&&(pre lg2 lg0&&ZGR nds AK (some (m:Int)) (L.drop (i+1+1))))):=by rw [hpr,ZGR,hra,hla,hla0]
   rw [hsi]
   have hgz:(0:Int)<((i+1:Nat):Int):=by omega
   have hsb:IntKind.i64.wrap (((i+1:Nat):Int) - 1)=(i:Int):=by rw [w64 (by omega) (by omega)]; omega
   cases q1:rd2
   ·simp only[↓xP,xT,rL,rB,rA,rS,rdx,rdx2,h1,hb,h3,ho3,h4,ho4,h5',hi,hy,hr,hm5,h5,iU,Yo.u,q1,ZB]
    try simp
   cases q2:pre AK lg2
   ·simp only[↓xP,xT,rL,rB,rA,rS,rdx,rdx2,h1,hb,h3,ho3,h4,ho4,h5',hi,hy,hr,hm5,h5,iU,Yo.u,q1,hpx,q2,ZB]
    try simp
   cases q3:pre lg2 lg0
   ·simp only[↓xP,xT,rL,rB,rA,rS,rdx,rdx2,h1,hb,h3,ho3,h4,ho4,h5',hi,hi0,hy,hy0,hr,hr0,hm5,hm50,h5,iU,Yo.u,q1,hpx,q2,hpy,q3,gt_iff_lt,hgz,hsb,ZB]
    try simp
   simp only[↓xP,xT,rL,rB,rA,rS,rdx,rdx2,h1,hb,h3,ho3,h4,ho4,h5',hi,hi0,hy,hy0,hr,hr0,hm5,hm50,h5,hw,iU,Yo.u,q1,hpx,q2,hpy,q3,gt_iff_lt,hgz,hsb,ZB]
   rw [ih (i+1+1) _ (by omega) (by and_intros<;>first|omega|rfl|(simp only[↓xP,xT,rL,rB,rA,rS,h1,hb,h3,ho3,h4,ho4,hw]<;>first|done|rfl|omega)),hnx]
   try simp
 ·rw [List.drop_of_length_le (by omega)]
  have hsn:ZGR nds AK (ZHG L i) []=true:=by unfold ZGR; rfl
  rw [hsn,Bool.true_and]
  simp only[↓xP,xT,rL,rB,rA,rS,rdx,rdx2,ofR,h1,hb,h3,ho3,h4,ho4,h5',hi,hrp,ZB]
  refine (Zjc (fun (j:Nat) st=>j≤ans.length∧st.s 1=.t (.sc (.ptr (.loc 1 0) 0 0))∧st.o (.loc 1 0)=some (.box [.u (.str lo),.u (.str up),.u (.sl 2 (prs.map Yl.u)),.u (.sl 3 (kn.map Yr.u)),.u (.bool sld),.u (.str cut),.u (.int .i64 ep),.u (.sl 1 (ms.map iU)),.u (.bool fr),.u (.sl 5 (nds.map Yo.u)),.u (.sl 1 (ups.map bU)),.u (.sl 7 (bag.map Yk.u)),.u (.sl 7 (ans.map Ya.u))])∧st.s 8=.t (.sc (.own (.loc 66 2) RP.length))∧st.o (.loc 66 2)=some (.row 1 (RP.map iU))∧st.s 9=DI j) (fun j=>ans.length - j) (fun j=>ok1 (B (eqR (RP.drop j) (ans.drop j)))) ?_ 0 (by and_intros<;>first|omega|rfl|(simp only[↓xP,xT,rL,rB,rA,rS,h1,hb]<;>first|done|rfl|omega))).trans (by rfl)
  clear h1 hb h3 ho3 h4 ho4 h5' ih hw
  rintro j st ⟨hjl,h1,hb,h8,ho8,h9⟩ ih
  have hwj:=w_succ (i:=j) (by omega)
  by_cases hj:j<ans.length
  ·obtain ⟨⟨⟨ac,asq,⟨ak,akey,av,ao⟩⟩,arp⟩,hx⟩:∃ x,ans[j]?=some x:=⟨_,List.getElem?_eq_getElem hj⟩
   obtain ⟨rp,hrp2⟩:∃ x,RP[j]?=some x:=⟨_,List.getElem?_eq_getElem (by omega)⟩
   have hjr:j<RP.length:=by omega
   rw [ZI hx,ZI hrp2,eqR]
   by_cases q:rp=arp
   ·simp only[↓xP,xT,rL,rB,rA,rS,rdx,rdx2,h1,hb,h8,ho8,h9,hj,hjr,hx,hrp2,hwj,iU,Ya.u,q,ne_eq,not_true_eq_false,decide_false]
    rw [ih (j+1) _ (by omega) (by and_intros<;>first|omega|rfl|(simp only[↓xP,xT,rL,rB,rA,rS,h1,hb,h8,ho8,hwj]<;>first|done|rfl|omega))]
    try simp
   ·have q':¬arp=rp:=fun e=>q e.symm
    simp only[↓xP,xT,rL,rB,rA,rS,rdx,rdx2,h1,hb,h8,ho8,h9,hj,hjr,hx,hrp2,hwj,iU,Ya.u,q,ne_eq,not_false_eq_true]
    simp [q',sel]
  ·have hjr:¬j<RP.length:=by omega
   simp only[↓xP,xT,rL,rB,rA,rS,h1,hb,h8,ho8,h9,hjr]
   rw [List.drop_of_length_le (by omega),List.drop_of_length_le (by omega)]; rfl
theorem ZHB {l:List Yl} (hv:ZC l=true) {p:Yl} (h:p∈l):ZX l p.key=p.value:=by
 obtain ⟨t,ht⟩:=List.getElem?_of_mem h
 have hlt:=(List.getElem?_eq_some_iff.1 ht).1
 have hpl:place p.key l=t:=ZH5 p.key l t (by omega) (fun k q hk hq=>ZHT hv k t q p hk hq ht) (fun q hq=>by rw [ht] at hq; cases hq; exact ZGg _)
 simp [ZX,hv,hit,hpl,ht]
theorem ZKs {l:List Yl} {key:Str} {v:Int} (h:ZX l key=v) (h0:0≤v):(⟨key,v⟩:Yl)∈l:=by
 unfold ZX at h
 split at h
 ·cases hh:hit key l with
  | none=>rw [hh] at h; dsimp only at h; omega
  | some p=>
   rw [hh] at h
   dsimp only at h
   obtain ⟨h1,h2⟩:=ZFS hh
   subst h h2
   exact List.mem_of_getElem? h1
 ·omega
theorem ZOz:∀ a b:List Yl,a.Pairwise Up→b.Pairwise Up→(∀ p,p∈a↔p∈b)→a=b
 | [],[],_,_,_=>rfl
 | [],y::b,_,_,h=>absurd ((h y).2 (List.mem_cons_self ..)) (by simp)
 | x::a,[],_,_,h=>absurd ((h x).1 (List.mem_cons_self ..)) (by simp)
 | x :: a,y::b,ha,hb,h=>by
  obtain ⟨a1,a2⟩:=List.pairwise_cons.1 ha
  obtain ⟨b1,b2⟩:=List.pairwise_cons.1 hb
  have hxy:x=y:=by
   rcases List.mem_cons.1 ((h x).1 (List.mem_cons_self ..)) with e|e
   ·exact e
   ·rcases List.mem_cons.1 ((h y).2 (List.mem_cons_self ..)) with e2|e2
    ·exact e2.symm
    ·have h1:=b1 x e
     have h2:=a1 y e2
     unfold Up at h1 h2
     rw [ZIW h1] at h2; cases h2
  subst hxy
  have hne:∀ p,Up x p→p≠x:=fun p hp e=>by
   subst e; unfold Up at hp; rw [ZGg] at hp; cases hp
  rw [ZOz a b a2 b2 fun p=>⟨fun hp=>?_,fun hp=>?_⟩]
  ·rcases List.mem_cons.1 ((h p).1 (List.mem_cons_of_mem _ hp)) with e|e
   ·exact absurd e (hne p (a1 p hp))
   ·exact e
  ·rcases List.mem_cons.1 ((h p).2 (List.mem_cons_of_mem _ hp)) with e|e
   ·exact absurd e (hne p (b1 p hp))
   ·exact e
def chgA (b:List Yl) (p:Yl):Bool:=!decide (ZX b p.key=p.value)
def chgB (a:List Yl) (p:Yl):Bool:=decide (ZX a p.key<0)
def chg (a b:List Yl):Nat:=a.countP (chgA b)+b.countP (chgB a)
theorem ZNZ {a b:List Yl} (ha:ZC a=true) (hb:ZC b=true):chg a b=0↔a=b:=by
 constructor
 ·intro h
  have h1:a.countP (chgA b)=0:=by unfold chg at h; omega
  have h2:b.countP (chgB a)=0:=by unfold chg at h; omega
  rw [List.countP_eq_zero] at h1 h2
  have s1:∀ p,p∈a→p∈b:=fun p hp=>by
   have:=h1 p hp
   simp only[chgA,Bool.not_eq_true',decide_eq_false_iff_not,Decidable.not_not] at this
   obtain ⟨i,hi⟩:=List.getElem?_of_mem hp
   exact ZKs this (ZH4 ha hi)
  refine ZOz a b ((ZFh a).1 ha).2.2 ((ZFh b).1 hb).2.2 fun p=>⟨s1 p,fun hp=>?_⟩
  have:=h2 p hp
  simp only[chgB,decide_eq_true_eq] at this
  have hm:=ZKs (l:=a) (key:=p.key) rfl (by omega)
  have hb2:=ZHB hb (s1 _ hm)
  have hb3:=ZHB hb hp
  simp only at hb2
  rw [hb3] at hb2
  rw [←hb2] at hm
  exact hm
 ·rintro rfl
  unfold chg
  have h1:a.countP (chgA a)=0:=List.countP_eq_zero.2 fun p hp=>by simp [chgA,ZHB ha hp]
  have h2:a.countP (chgB a)=0:=List.countP_eq_zero.2 fun p hp=>by
   obtain ⟨i,hi⟩:=List.getElem?_of_mem hp
   have:=ZH4 ha hi
   simp only[chgB,ZHB ha hp,decide_eq_true_eq]
   omega
  omega
theorem ZKh {l:List Yl} {f:Yl→Bool} {i:Nat} {p:Yl} (h:l[i]?=some p):(l.take (i+1)).countP f=(l.take i).countP f + (if f p=true then 1 else 0):=by
 rw [List.take_add_one,h,Option.toList_some,List.countP_append,List.countP_singleton]
theorem ZKu (a b:List Yl) (ha:ZC a=true) (hb:ZC b=true):EE F 60 [L 2 (a.map Yl.u),L 2 (b.map Yl.u)] []=ok1 (I (chg a b)):=by
 have va:=Z0 a
 have vb:=Z0 b
 rw [ha] at va
 rw [hb] at vb
 have la:=ZU ha
 have lb:=ZU hb
 rw [R60,b60]
 simp only[↓xP,xT,rL,rB,rA,rS,rdx2,va,vb]
 refine (Zjc (fun (i:Nat) st=>i≤a.length∧st.s 0=DU (.sl 2 (a.map Yl.u))∧st.s 1=DU (.sl 2 (b.map Yl.u))∧st.s 5=DI ((a.take i).countP (chgA b))∧st.s 6=DI i) (fun i=>a.length - i) (fun i=>ok1 (I (chg a b))) ?_ 0 (by and_intros<;>first|omega|rfl|(simp only[↓xP,xT,rL,rB,rA,rS,List.take_zero,List.countP_nil]<;>first|done|rfl|omega))).trans (by rfl)
 rintro i st ⟨hle,h0,h1,h5,h6⟩ ih
 have hw:=w_succ (i:=i) (by omega)
 by_cases hi:i<a.length
 ·obtain ⟨⟨pk,pv⟩,hx⟩:∃ x,a[i]?=some x:=⟨_,List.getElem?_eq_getElem hi⟩
  have hst:=ZKh (f:=chgA b) hx
  have hcl:(a.take i).countP (chgA b)≤48:=Nat.le_trans List.countP_le_length (by rw [List.length_take]; omega)
  have hwc:=w_succ (i:=(a.take i).countP (chgA b)) (by omega)
  have hpg:=ZGW b pk (by omega)
  by_cases q:ZX b pk=pv
  ·have hc:chgA b ⟨pk,pv⟩=false:=by simp [chgA,q]
   rw [hc] at hst
   simp only[↓xP,xT,rL,rB,rA,rS,rdx,rdx2,h0,h1,h5,h6,hi,hx,hw,hpg,q,Yl.u,List.length_map,ne_eq,not_true_eq_false,decide_false]
   exact ih (i+1) _ (by omega) (by and_intros<;>first|omega|rfl|(simp only[↓xP,xT,rL,rB,rA,rS,h0,h1,h5,hw,hst]<;>first|done|rfl|omega))
  ·have hc:chgA b ⟨pk,pv⟩=true:=by simp [chgA,q]
   rw [hc,if_pos rfl] at hst
   simp only[↓xP,xT,rL,rB,rA,rS,rdx,rdx2,h0,h1,h5,h6,hi,hx,hw,hwc,hpg,q,Yl.u,List.length_map,ne_eq,not_false_eq_true]
   exact ih (i+1) _ (by omega) (by and_intros<;>first|omega|rfl|(simp only[↓xP,xT,rL,rB,rA,rS,h0,h1,h5,hw,hwc,hst]<;>first|done|rfl|omega))
 ·have hall:a.take i=a:=List.take_of_length_le (by omega)
  rw [hall] at h5
  have hca:a.countP (chgA b)≤48:=Nat.le_trans List.countP_le_length la
  simp only[↓xP,xT,rL,rB,rA,rS,rdx,rdx2,h0,h1,h5,h6,hi,List.length_map]
  refine (Zjc (fun (j:Nat) st=>j≤b.length∧st.s 0=DU (.sl 2 (a.map Yl.u))∧st.s 1=DU (.sl 2 (b.map Yl.u))∧st.s 5=DI ((a.countP (chgA b) + (b.take j).countP (chgB a):Nat):Int)∧st.s 7=DI j) (fun j=>b.length - j) (fun j=>ok1 (I (chg a b))) ?_ 0 (by and_intros<;>first|omega|rfl|(simp only[↓xP,xT,rL,rB,rA,rS,h0,h1,h5,List.take_zero,List.countP_nil,Nat.add_zero]<;>first|done|rfl|omega))).trans (by rfl)
  clear h0 h1 h5 h6 ih hi hw hall hle
  rintro j st ⟨hle,h0,h1,h5,h7⟩ ih
  have hw:=w_succ (i:=j) (by omega)
  by_cases hj:j<b.length
  ·obtain ⟨⟨pk,pv⟩,hx⟩:∃ x,b[j]?=some x:=⟨_,List.getElem?_eq_getElem hj⟩
   have hst:=ZKh (f:=chgB a) hx
   have hcl:(b.take j).countP (chgB a)≤48:=Nat.le_trans List.countP_le_length (by rw [List.length_take]; omega)
   have hwc:=w_succ (i:=a.countP (chgA b) + (b.take j).countP (chgB a)) (by omega)
   have hpg:=ZGW a pk (by omega)
   by_cases q:ZX a pk<0
   ·have hc:chgB a ⟨pk,pv⟩=true:=by simp [chgB,q]
    rw [hc,if_pos rfl] at hst
    simp only[↓xP,xT,rL,rB,rA,rS,rdx,rdx2,h0,h1,h5,h7,hj,hx,hw,hwc,hpg,q,Yl.u,List.length_map]
    exact ih (j+1) _ (by omega) (by and_intros<;>first|omega|rfl|(simp only[↓xP,xT,rL,rB,rA,rS,h0,h1,h5,hw,hwc,hst,←Nat.add_assoc]<;>first|done|rfl|omega))
   ·have hc:chgB a ⟨pk,pv⟩=false:=by simp [chgB,q]
    rw [hc] at hst
    simp only[↓xP,xT,rL,rB,rA,rS,rdx,rdx2,h0,h1,h5,h7,hj,hx,hw,hpg,q,Yl.u,List.length_map]
    exact ih (j+1) _ (by omega) (by and_intros<;>first|omega|rfl|(simp only[↓xP,xT,rL,rB,rA,rS,h0,h1,h5,hw,hst]<;>first|done|rfl|omega))
  ·have hall:b.take j=b:=List.take_of_length_le (by omega)
   rw [hall] at h5
   simp only[↓xP,xT,rL,rB,rA,rS,rdx,rdx2,h0,h1,h5,h7,hj,List.length_map]
   rfl
def eqPs:List Yl→List Yl→Bool
 | [],[]=>true
 | x::xs,y::ys=>decide (x.key=y.key)&&(decide (x.value=y.value)&&eqPs xs ys)
 | _,_=>false
theorem ZIO:∀ l m:List Yl,eqPs l m=true↔l=m
 | [],[]=>by simp [eqPs]
 | [],_::_=>by simp [eqPs]
 | _::_,[]=>by simp [eqPs]
 | ⟨a,b⟩::xs,⟨c,d⟩::ys=>by simp [eqPs,ZIO xs ys,and_assoc]
theorem ZND (l m:List Yl) (hn:l.length≤1048576):EE F 69 [L 2 (l.map Yl.u),L 2 (m.map Yl.u)] []=ok1 (B (eqPs l m)):=by
 rw [R69,b69]
 by_cases hl:l.length=m.length
 ·have hl':((l.length:Int)=(m.length:Int))=True:=by simp; omega
  simp only[↓xP,xT,rL,rB,rA,rS,List.length_map,ne_eq,hl',not_true_eq_false]
  refine (Zjc (fun (i:Nat) st=>st.s 0=DU (.sl 2 (l.map Yl.u))∧st.s 1=DU (.sl 2 (m.map Yl.u))∧st.s 11=DU (.sl 2 (l.map Yl.u))∧st.s 12=DI l.length∧st.s 13=DI i) (fun i=>l.length - i) (fun i=>ok1 (B (eqPs (l.drop i) (m.drop i)))) ?_ 0 (by and_intros<;>first|omega|rfl|(simp only[↓xP,xT,rL,rB,rA,rS]<;>first|done|rfl|omega))).trans (by rfl)
  rintro i st ⟨h0,h1,h11,h12,h13⟩ ih
  by_cases hi:i<l.length
  ·obtain ⟨⟨x1,x2⟩,hx⟩:∃ x,l[i]?=some x:=⟨_,List.getElem?_eq_getElem hi⟩
   obtain ⟨⟨y1,y2⟩,hy⟩:∃ x,m[i]?=some x:=⟨_,List.getElem?_eq_getElem (by omega)⟩
   have hi2:i<m.length:=by omega
   have hw:=w_succ (i:=i) (by omega)
   rw [ZI hx,ZI hy]
   simp only[↓xP,xT,rL,rB,rA,rS,rdx2,h0,h1,h11,h12,h13,hi,hi2,hx,hy,hw,Yl.u]
   refine ZiE (fun h=>?_) (fun h=>?_)
   ·have e:eqPs (⟨x1,x2⟩::l.drop (i+1)) (⟨y1,y2⟩::m.drop (i+1))=false:=by simp at h; simp [eqPs]; grind
    rw [e]
   ·have e:eqPs (⟨x1,x2⟩::l.drop (i+1)) (⟨y1,y2⟩::m.drop (i+1))=eqPs (l.drop (i+1)) (m.drop (i+1)):=by simp at h; simp [eqPs,h]
    rw [ih (i+1) _ (by omega) (by and_intros<;>first|omega|rfl|(simp only[↓xP,xT,rL,rB,rA,rS,h0,h1,h11,h12]<;>first|done|rfl|omega)),e]
  ·simp only[↓xP,xT,rL,rB,rA,rS,h0,h1,h11,h12,h13,hi]
   rw [List.drop_of_length_le (by omega),List.drop_of_length_le (by omega)]; rfl
 ·have hl':((l.length:Int)=(m.length:Int))=False:=by simp; omega
  have he:eqPs l m=false:=by
   rw [Bool.eq_false_iff]
   intro h
   exact hl (by rw [(ZIO l m).1 h])
  simp only[↓xP,xT,rL,rB,rA,rS,List.length_map,ne_eq,hl',not_false_eq_true,he]
theorem ZMS {l m:List Yl} {a:Ya} (hv:ZC l=true) (h:oneA l a=some m):ZC m=true:=by
 unfold oneA at h
 split at h
 ·cases h; exact hv
 ·split at h
  ·split at h
   ·cases h; exact (ZH3 hv).1
   ·split at h
    ·split at h
     ·cases h; exact (ZKv hv).1
     ·cases h
    ·cases h; exact hv
  ·cases h
theorem ZKA:∀ (as':List Ya) (l m:List Yl),ZC l=true→runA as' l=some m→ZC m=true
 | [],l,m,hv,h=>by
  simp only[runA,Option.some.injEq] at h
  rw [←h]; exact hv
 | a :: as',l,m,hv,h=>by
  simp only[runA] at h
  split at h
  ·cases ho:oneA l a with
   | none=>rw [ho] at h; cases h
   | some k=>
    rw [ho,Option.bind_some] at h
    exact ZKA as' k m (ZMS hv ho) h
  ·cases h
theorem ZMO {l:List Ya} {m:List Yl} (h:hist l=some m):ZC m=true:=by
 unfold hist at h
 split at h
 ·exact ZKA l [] m ZMU h
 ·cases h
theorem ZKH {l:List Yt} (h:ZGs l=true):ZC (ZF l)=true:=by
 simp only[ZGs,Bool.and_eq_true] at h
 rw [ZJN h.1.1.2 h.1.2]
 exact h.2
def ZHI (S:List Yt) (H:List Ya):Bool:=ZGs S&&(match hist H with
 | some m=>eqPs (ZF S) m
 | none=>false)
def ZFH (x:Yd):Bool:=ZA x&&(x.shards.all (fun s=>ZFi s.group)&&ZHI (ZM x) (ZFv x))
theorem ZJf (c0:List Ys) (c1:List Yb) (c2:List Yp) (c3 c4 c5:Int) (c6:Str) (c7 c8 c9 c10 c11:Int) (hs:Yd.Small ⟨c0,c1,c2,⟨c3,c4,c5,c6,c7,c8,c9⟩,c10,c11⟩):EE F 14 [.ag [.u (.sl 14 (c0.map Ys.u)),.u (.sl 8 (c1.map Yb.u)),.u (.sl 9 (c2.map Yp.u)),.u (.int .i64 c3),.u (.int .i64 c4),.u (.int .i64 c5),.u (.str c6),.u (.int .i64 c7),.u (.int .i64 c8),.u (.int .i64 c9),.u (.int .i64 c10),.u (.int .i64 c11)]] []=ok1 (B (ZFH ⟨c0,c1,c2,⟨c3,c4,c5,c6,c7,c8,c9⟩,c10,c11⟩)):=by
 have hcvs:=ZGm c0 c1 c2 c3 c4 c5 c6 c7 c8 c9 c10 c11 hs
 have hcm:=ZJU c0 c1 c2 c3 c4 c5 c6 c7 c8 c9 c10 c11 hs
 have hhi:=ZLu c0 c1 c2 c3 c4 c5 c6 c7 c8 c9 c10 c11 hs
 have hsh:=hs.1
 have hn0:c0.length≤1048576:=hsh.1
 rw [R14,b14]
 cases hv:ZA ⟨c0,c1,c2,⟨c3,c4,c5,c6,c7,c8,c9⟩,c10,c11⟩
 ·simp only[↓xP,xT,rL,rB,rA,rS,hcvs,hv]
  simp [ZFH,hv]
 have hhl:=ZJC hv
 have hcr:ZFH ⟨c0,c1,c2,⟨c3,c4,c5,c6,c7,c8,c9⟩,c10,c11⟩=((c0.drop 0).all (fun s=>ZFi s.group)&&ZHI (ZM ⟨c0,c1,c2,⟨c3,c4,c5,c6,c7,c8,c9⟩,c10,c11⟩) (ZFv ⟨c0,c1,c2,⟨c3,c4,c5,c6,c7,c8,c9⟩,c10,c11⟩)):=by simp [ZFH,hv]
 rw [hcr]
 simp only[↓xP,xT,rL,rB,rA,rS,hcvs,hv]
 generalize ZM ⟨c0,c1,c2,⟨c3,c4,c5,c6,c7,c8,c9⟩,c10,c11⟩=S at hcm ⊢
 generalize ZFv ⟨c0,c1,c2,⟨c3,c4,c5,c6,c7,c8,c9⟩,c10,c11⟩=H at hhi hhl ⊢
 simp only[ZFR] at hhi
 have hrh:=ZJY H (by omega)
 refine Zjc (fun (i:Nat) st=>i≤c0.length∧st.s 1=.t (.sc (.ptr (.loc 1 0) 0 0))∧st.o (.loc 1 0)=some (.box [.u (.sl 14 (c0.map Ys.u)),.u (.sl 8 (c1.map Yb.u)),.u (.sl 9 (c2.map Yp.u)),.u (.int .i64 c3),.u (.int .i64 c4),.u (.int .i64 c5),.u (.str c6),.u (.int .i64 c7),.u (.int .i64 c8),.u (.int .i64 c9),.u (.int .i64 c10),.u (.int .i64 c11)])∧st.s 12=DU (.sl 14 (c0.map Ys.u))∧st.s 13=DI c0.length∧st.s 14=DI i) (fun i=>c0.length - i) (fun i=>ok1 (B ((c0.drop i).all (fun s=>ZFi s.group)&&ZHI S H))) ?_ 0 (by and_intros<;>first|omega|rfl|(simp only[↓xP,xT,rL,rB,rA,rS]<;>first|done|rfl|omega))
 rintro i st ⟨hle,h1,hb,h12,h13,h14⟩ ih
 by_cases hi:i<c0.length
 ·obtain ⟨⟨live,⟨⟨⟨lo,up⟩,prs,kn,sld,cut⟩,⟨ep,ms,fr⟩,nds,ups,bag,ans⟩⟩,hx⟩:∃ x,c0[i]?=some x:=⟨_,List.getElem?_eq_getElem hi⟩
  have hw:=w_succ (i:=i) (by omega)
  have hsx:=hsh.2 _ (List.mem_of_getElem? hx)
  have hch:=ZKd lo up prs kn sld cut ep ms fr nds ups bag ans hsx.1
  rw [ZI hx,List.all_cons]
  cases q1:ZFi ⟨⟨⟨lo,up⟩,prs,kn,sld,cut⟩,⟨ep,ms,fr⟩,nds,ups,bag,ans⟩
  ·simp only[↓xP,xT,rL,rB,rA,rS,rdx2,h1,hb,h12,h13,h14,hi,hx,hw,Ys.u,hch,q1]
   try simp
  ·simp only[↓xP,xT,rL,rB,rA,rS,rdx2,h1,hb,h12,h13,h14,hi,hx,hw,Ys.u,hch,q1]
   rw [ih (i+1) _ (by omega) (by and_intros<;>first|omega|rfl|(simp only[↓xP,xT,rL,rB,rA,rS,h1,hb,h12,h13,hw]<;>first|done|rfl|omega))]
   try simp
 ·rw [List.drop_of_length_le (by omega),List.all_nil,Bool.true_and]
  unfold ZFx at hcm
  unfold ZHI
  by_cases hok:ZGs S=true
  ·rw [if_pos hok] at hcm
   simp only[ZF9] at hcm
   have hgd:=ZU (ZKH hok)
   cases hh:hist H with
   | none=>
    rw [hh] at hrh
    simp only[ZFb] at hrh
    simp only[↓xP,xT,rL,rB,rA,rS,rdx2,h1,hb,h12,h13,h14,hi,hcm,hhi,hrh,ZB]
    try simp [hok]
   | some m=>
    rw [hh] at hrh
    simp only[ZFb] at hrh
    have heq:=ZND (ZF S) m (by omega)
    have hme2:(List.map Yl.u m).isEmpty=m.isEmpty:=by cases m<;>rfl
    cases hme:m.isEmpty<;>simp only[↓xP,xT,rL,rB,rA,rS,rdx2,hme2,hme,Bool.not_false,Bool.not_true,h1,hb,h12,h13,h14,hi,hcm,hhi,hrh,heq,ZB,hok,Bool.true_and]
  ·rw [if_neg hok] at hcm
   simp only[Z9] at hcm
   simp only[↓xP,xT,rL,rB,rA,rS,rdx2,h1,hb,h12,h13,h14,hi,hcm]
   try simp [hok]
theorem ZJg (c0:List Ys) (c1:List Yb) (c2:List Yp) (c3 c4 c5:Int) (c6:Str) (c7 c8 c9 c10 c11:Int) (hs:Yd.Small ⟨c0,c1,c2,⟨c3,c4,c5,c6,c7,c8,c9⟩,c10,c11⟩):EE F 12 [.ag [.u (.sl 14 (c0.map Ys.u)),.u (.sl 8 (c1.map Yb.u)),.u (.sl 9 (c2.map Yp.u)),.u (.int .i64 c3),.u (.int .i64 c4),.u (.int .i64 c5),.u (.str c6),.u (.int .i64 c7),.u (.int .i64 c8),.u (.int .i64 c9),.u (.int .i64 c10),.u (.int .i64 c11)]] []=ok1 (B (ZFH ⟨c0,c1,c2,⟨c3,c4,c5,c6,c7,c8,c9⟩,c10,c11⟩)):=by
 have hcm:=ZJV c0 c1 c2 c3 c4 c5 c6 c7 c8 c9 c10 c11 hs
 have hhi:=ZLv c0 c1 c2 c3 c4 c5 c6 c7 c8 c9 c10 c11 hs
 have hsh:=hs.1
 have hn0:c0.length≤1048576:=hsh.1
 have hhl:(ZFv ⟨c0,c1,c2,⟨c3,c4,c5,c6,c7,c8,c9⟩,c10,c11⟩).length≤200:=by
  cases hv:ZA ⟨c0,c1,c2,⟨c3,c4,c5,c6,c7,c8,c9⟩,c10,c11⟩
  ·simp [ZFv,hv]
  ·exact ZJC hv
 have hcv:ZGs (ZM ⟨c0,c1,c2,⟨c3,c4,c5,c6,c7,c8,c9⟩,c10,c11⟩)=true→ZA ⟨c0,c1,c2,⟨c3,c4,c5,c6,c7,c8,c9⟩,c10,c11⟩=true:=by
  intro h
  cases hv:ZA ⟨c0,c1,c2,⟨c3,c4,c5,c6,c7,c8,c9⟩,c10,c11⟩
  ·rw [ZIV hv] at h; cases h
  ·rfl
 have hcr:ZFH ⟨c0,c1,c2,⟨c3,c4,c5,c6,c7,c8,c9⟩,c10,c11⟩=(ZHI (ZM ⟨c0,c1,c2,⟨c3,c4,c5,c6,c7,c8,c9⟩,c10,c11⟩) (ZFv ⟨c0,c1,c2,⟨c3,c4,c5,c6,c7,c8,c9⟩,c10,c11⟩)&&(c0.drop 0).all (fun s=>ZFi s.group)):=by
  unfold ZFH
  cases hv:ZA ⟨c0,c1,c2,⟨c3,c4,c5,c6,c7,c8,c9⟩,c10,c11⟩
  ·cases hu:ZGs (ZM ⟨c0,c1,c2,⟨c3,c4,c5,c6,c7,c8,c9⟩,c10,c11⟩)
   ·simp [ZHI,hu]
   ·have:=hcv hu; rw [hv] at this; cases this
  ·simp [Bool.and_comm]
 rw [R12,b12]
 rw [hcr]
 clear hcr hcv
 generalize ZM ⟨c0,c1,c2,⟨c3,c4,c5,c6,c7,c8,c9⟩,c10,c11⟩=S at hcm ⊢
 generalize ZFv ⟨c0,c1,c2,⟨c3,c4,c5,c6,c7,c8,c9⟩,c10,c11⟩=H at hhi hhl ⊢
 simp only[ZFR] at hhi
 have hrh:=ZJZ H (by omega)
 unfold ZFx at hcm
 unfold ZHI
 by_cases hok:ZGs S=true
 ·rw [if_pos hok] at hcm
  simp only[ZF9] at hcm
  have hgd:=ZKH hok
  cases hh:hist H with
  | none=>
   rw [hh] at hrh
   simp only[ZFb] at hrh
   simp only[↓xP,xT,rL,rB,rA,rS,rdx2,hcm,hhi,hrh,ZB]
   try simp [hok]
  | some m=>
   have hmv:=ZMO hh
   rw [hh] at hrh
   simp only[ZFb] at hrh
   have hpc:=ZKu (ZF S) m hgd hmv
   have hcz:=ZNZ hgd hmv
   by_cases he:ZF S=m
   ·have e1:eqPs (ZF S) m=true:=(ZIO _ _).2 he
    have e2:(chg (ZF S) m:Int)=0:=by have:=hcz.2 he; omega
    simp only[hok,e1,Bool.true_and]
    have hme2:(List.map Yl.u m).isEmpty=m.isEmpty:=by cases m<;>rfl
    cases hme:m.isEmpty<;>(
    simp only[↓xP,xT,rL,rB,rA,rS,rdx2,hme2,hme,hcm,hhi,hrh,hpc,e2,ZB,ne_eq,not_true_eq_false,decide_false]
    refine Zjc (fun (i:Nat) st=>i≤c0.length∧st.s 1=.t (.sc (.ptr (.loc 1 0) 0 0))∧st.o (.loc 1 0)=some (.box [.u (.sl 14 (c0.map Ys.u)),.u (.sl 8 (c1.map Yb.u)),.u (.sl 9 (c2.map Yp.u)),.u (.int .i64 c3),.u (.int .i64 c4),.u (.int .i64 c5),.u (.str c6),.u (.int .i64 c7),.u (.int .i64 c8),.u (.int .i64 c9),.u (.int .i64 c10),.u (.int .i64 c11)])∧st.s 7=DI i) (fun i=>c0.length - i) (fun i=>ok1 (B ((c0.drop i).all (fun s=>ZFi s.group)))) ?_ 0 (by and_intros<;>first|omega|rfl|(simp only[↓xP,xT,rL,rB,rA,rS]<;>first|done|rfl|omega))
    rintro i st ⟨hle,h1,hb,h7⟩ ih
    by_cases hi:i<c0.length
    ·obtain ⟨⟨live,⟨⟨⟨lo,up⟩,prs,kn,sld,cut⟩,⟨ep,ms,fr⟩,nds,ups,bag,ans⟩⟩,hx⟩:∃ x,c0[i]?=some x:=⟨_,List.getElem?_eq_getElem hi⟩
     have hw:=w_succ (i:=i) (by omega)
     have hsx:=hsh.2 _ (List.mem_of_getElem? hx)
     have hch:=ZKe lo up prs kn sld cut ep ms fr nds ups bag ans hsx.1
     rw [ZI hx,List.all_cons]
     cases q1:ZFi ⟨⟨⟨lo,up⟩,prs,kn,sld,cut⟩,⟨ep,ms,fr⟩,nds,ups,bag,ans⟩
     ·simp only[↓xP,xT,rL,rB,rA,rS,rdx2,h1,hb,h7,hi,hx,hw,Ys.u,hch,q1,List.length_map]
      try simp
     ·simp only[↓xP,xT,rL,rB,rA,rS,rdx2,h1,hb,h7,hi,hx,hw,Ys.u,hch,q1,List.length_map]
      rw [ih (i+1) _ (by omega) (by and_intros<;>first|omega|rfl|(simp only[↓xP,xT,rL,rB,rA,rS,h1,hb,hw]<;>first|done|rfl|omega))]
      try simp
    ·simp only[↓xP,xT,rL,rB,rA,rS,h1,hb,h7,hi,List.length_map]
     rw [List.drop_of_length_le (by omega)]; rfl)
   ·have e1:eqPs (ZF S) m=false:=by
     rw [Bool.eq_false_iff]
     intro h
     exact he ((ZIO _ _).1 h)
    have e2:¬(chg (ZF S) m:Int)=0:=fun h=>he (hcz.1 (by omega))
    have hme2:(List.map Yl.u m).isEmpty=m.isEmpty:=by cases m<;>rfl
    cases hme:m.isEmpty<;>(
    simp only[↓xP,xT,rL,rB,rA,rS,rdx2,hme2,hme,hcm,hhi,hrh,hpc,e2,ZB,ne_eq,not_false_eq_true]
    try simp [e1])
 ·rw [if_neg hok] at hcm
  simp only[Z9] at hcm
  cases hh:hist H with
  | none=>
   rw [hh] at hrh
   simp only[ZFb] at hrh
   simp only[↓xP,xT,rL,rB,rA,rS,rdx2,hcm,hhi,hrh,ZB]
   try simp [hok]
  | some m=>
   rw [hh] at hrh
   simp only[ZFb] at hrh
   have hme2:(List.map Yl.u m).isEmpty=m.isEmpty:=by cases m<;>rfl
   cases hme:m.isEmpty<;>(
   simp only[↓xP,xT,rL,rB,rA,rS,rdx2,hme2,hme,hcm,hhi,hrh,ZB]
   try simp [hok])
theorem ZOE (st:St) (d:Nat):st.dead d 3=(isNo (st.o (.loc d 0))&&(isNo (st.o (.loc d 1))&&isNo (st.o (.loc d 2)))):=by simp [St.dead,isNo,List.range_succ,Bool.and_assoc]
theorem app3 (st:St) (d:Nat) (v:D) (a b c:Id) (x y z:Obj) (rd:List Id):Fx.app ⟨some d,v,[(a,x),(b,y),(c,z)],rd⟩ st=(((st.obj a (some x)).obj b (some y)).obj c (some z)).put d v:=rfl
theorem law_FnExactClusterSafe (us:List U) (hl:us.length=12) (ht:∀ (j:Nat) ty u,[Ty.sl [.b,.s,.s,.sl [.s,.i .i64],.sl [.i .i64,.i .i64,.i .i64],.b,.s,.i .i64,.sl [.i .i64],.b,.sl [.i .i64,.sl [.i .i64],.b,.b,.sl [.i .i64,.i .i64,.i .i64,.s,.i .i64,.i .i64]],.sl [.b],.sl [.i .i64,.i .i64,.i .i64,.i .i64,.sl [.i .i64],.b,.sl [.i .i64,.i .i64,.i .i64,.s,.i .i64,.i .i64]],.sl [.i .i64,.i .i64,.i .i64,.s,.i .i64,.i .i64,.i .i64]],.sl [.sl [.i .i64,.s,.s],.i .i64,.b,.i .i64,.s,.i .i64,.i .i64,.i .i64],.sl [.i .i64,.i .i64,.i .i64,.s,.i .i64,.i .i64,.i .i64,.i .i64,.i .i64],.i .i64,.i .i64,.i .i64,.s,.i .i64,.i .i64,.i .i64,.i .i64,.i .i64][j]?=some ty→us[j]?=some u→UT ty u):EE F 3 [.ag (us.map .u)] []=ok1 (B true):=by
 obtain ⟨⟨c0,c1,c2,⟨c3,c4,c5,c6,c7,c8,c9⟩,c10,c11⟩,rfl,hf⟩:=Yd.of us hl ht
 rw [R3,b3]
 simp only[↓xP,xT,rL,rB,rA,rS,Yd.u,List.map,ZLL c0 c1 c2 c3 c4 c5 c6 c7 c8 c9 c10 c11 hf]
 refine ZiE (fun h=>?_) (fun h=>?_)
 ·rfl
 simp only[decide_eq_false_iff_not] at h
 have hs:=(ZLK _ hf 1048576 (by omega) (by omega)).2 (by omega)
 have hi:=ZJf c0 c1 c2 c3 c4 c5 c6 c7 c8 c9 c10 c11 hs
 have hsp:=ZJg c0 c1 c2 c3 c4 c5 c6 c7 c8 c9 c10 c11 hs
 cases hb:ZFH ⟨c0,c1,c2,⟨c3,c4,c5,c6,c7,c8,c9⟩,c10,c11⟩<;>
 simp only[↓xP,xT,rL,rB,rA,rS,rdx,rdx2,ofR,ZOE,app3,List.getElem?_nil,ZLU c0 c1 c2 c3 c4 c5 c6 c7 c8 c9 c10 c11 hs,hi,hsp,hb,ZLo c0 c1 c2 c3 c4 c5 c6 c7 c8 c9 c10 c11 hs,ZB,List.length_map,bne_self_eq_false]
end Go.Proofs.YtfajcehhcjmofaaGreatV
