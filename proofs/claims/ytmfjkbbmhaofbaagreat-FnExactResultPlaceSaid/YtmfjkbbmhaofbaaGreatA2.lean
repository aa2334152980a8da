/- Lemmas of functions that the law FnExactResultPlace reaches, and that it returns true for all data of its types. No conditions but those that the lemmas state. -/
import Derived.Test.YtmfjkbbmhaofbaaGreatA1
namespace Go.Proofs.YtmfjkbbmhaofbaaGreatV
open Go Go.RowKit
open Nat (reduceLT reduceAdd reduceSub)
open IOp (dst isF args)
set_option linter.unusedVariables false
set_option linter.unusedSimpArgs false
set_option maxRecDepth 4000
theorem ends_tree (np pv a b rv ff t0 t9 ck:Bool):sel (!np) (sel pv (sel a (sel (!b) (ok1 (B false)) (sel rv (sel ff (sel t0 (sel t9 (ok1 (B ck)) (ok1 (B false))) (ok1 (B false))) (ok1 (B false))) (ok1 (B false)))) (ok1 (B false))) (ok1 (B false))) (sel rv (sel ff (sel t0 (sel t9 (ok1 (B ck)) (ok1 (B false))) (ok1 (B false))) (ok1 (B false))) (ok1 (B false)))=ok1 (B ((np||(pv&&a&&b))&&(rv&&ff&&(t0&&t9)&&ck))):=by
  cases np<;>cases pv<;>cases a<;>cases b<;>cases rv<;>cases ff<;>cases t0<;>cases t9<;>cases ck<;>rfl
theorem clusterValid_impl (c0:List Shard) (c1:List Caller) (c2:List Result) (c3 c4 c5:Int) (c6:Str) (c7 c8 c9 c10 c11:Int) (hs:Cluster.Small ⟨c0,c1,c2,⟨c3,c4,c5,c6,c7,c8,c9⟩,c10,c11⟩):EE F 71 [.ag [.u (.sl 14 (c0.map Shard.u)),.u (.sl 8 (c1.map Caller.u)),.u (.sl 9 (c2.map Result.u)),.u (.int .i64 c3),.u (.int .i64 c4),.u (.int .i64 c5),.u (.str c6),.u (.int .i64 c7),.u (.int .i64 c8),.u (.int .i64 c9),.u (.int .i64 c10),.u (.int .i64 c11)]] []=ok1 (B (clusterValid ⟨c0,c1,c2,⟨c3,c4,c5,c6,c7,c8,c9⟩,c10,c11⟩)):=by
  obtain ⟨hsh,hcl,hrs,hwk,_⟩:=hs
  have hn0:c0.length≤1048576:=hsh.1
  have hn1:c1.length≤1048576:=hcl.1
  have hn2:c2.length≤1048576:=hrs.1
  rw [R71,b71]
  simp only[↓xP,xQ,xR,xS,flatR,reduceLT,Nat.reduceBEq,reduceAdd,reduceSub,List.length_map,ne_eq]
  refine sel_split (fun h=>?_) (fun g1=>?_)
  · have:¬1≤c0.length:=by simp at h; omega
    simp [clusterValid,sizesOk,this]
  refine sel_split (fun h=>?_) (fun g2=>?_)
  · have:¬c0.length≤8:=by simp at h; omega
    simp [clusterValid,sizesOk,this]
  refine sel_split (fun h=>?_) (fun g3=>?_)
  · have:¬c1.length=4:=by simp at h; omega
    simp [clusterValid,sizesOk,this]
  refine sel_split (fun h=>?_) (fun g4=>?_)
  · have:¬c2.length≤40:=by simp at h; omega
    simp [clusterValid,sizesOk,this]
  have g1':1≤c0.length:=by simp at g1; omega
  have g2':c0.length≤8:=by simp at g2; omega
  have g3':c1.length=4:=by simp at g3; omega
  have g4':c2.length≤40:=by simp at g4; omega
  have hsz:sizesOk ⟨c0,c1,c2,⟨c3,c4,c5,c6,c7,c8,c9⟩,c10,c11⟩=true:=by simp [sizesOk,g1',g2',g3',g4']
  obtain ⟨fs,hf0⟩:∃ x,c0[0]?=some x:=⟨_,List.getElem?_eq_getElem (by omega)⟩
  have hup:upOf c0=fs.group.up:=by
    cases c0 with
    | nil=>simp at hf0
    | cons a l=>simp at hf0; subst hf0; rfl
  obtain ⟨flive,⟨⟨⟨flo,fup⟩,fprs,fkn,fsld,fcut⟩,⟨fep,fms,ffr⟩,fnds,fups,fbag,fans⟩⟩:=fs
  simp only at hup
  have hcv:clusterValid ⟨c0,c1,c2,⟨c3,c4,c5,c6,c7,c8,c9⟩,c10,c11⟩=((c0.drop 0).all (shardOk fups)&&(c1.all callerValid&&(c2.all resultValid&&(workOk ⟨c3,c4,c5,c6,c7,c8,c9⟩ c0.length&&endsOk ⟨c0,c1,c2,⟨c3,c4,c5,c6,c7,c8,c9⟩,c10,c11⟩)))):=by
    simp only[clusterValid,hsz,hup,Bool.true_and,Bool.and_assoc,List.drop_zero]
  rw [hcv]
  refine loop_ind (fun (i:Nat) st=>st.s 1=.t (.sc (.ptr (.loc 1 0) 0 0))∧st.o (.loc 1 0)=some (.box [.u (.sl 14 (c0.map Shard.u)),.u (.sl 8 (c1.map Caller.u)),.u (.sl 9 (c2.map Result.u)),.u (.int .i64 c3),.u (.int .i64 c4),.u (.int .i64 c5),.u (.str c6),.u (.int .i64 c7),.u (.int .i64 c8),.u (.int .i64 c9),.u (.int .i64 c10),.u (.int .i64 c11)])∧st.s 32=DU (.sl 14 (c0.map Shard.u))∧st.s 33=DI c0.length∧st.s 34=DI i) (fun i=>c0.length - i) (fun i=>ok1 (B ((c0.drop i).all (shardOk fups)&&(c1.all callerValid&&(c2.all resultValid&&(workOk ⟨c3,c4,c5,c6,c7,c8,c9⟩ c0.length&&endsOk ⟨c0,c1,c2,⟨c3,c4,c5,c6,c7,c8,c9⟩,c10,c11⟩)))))) ?_ 0 (by and_intros<;>first|omega|rfl|(simp only[↓xP,xQ,xR,xS,flatR,reduceLT,Nat.reduceBEq,reduceAdd,reduceSub]<;>first|done|rfl|omega))
  rintro i st ⟨h1,hb,h32,h33,h34⟩ ih
  by_cases hi:i<c0.length
  · obtain ⟨⟨live,⟨⟨⟨lo,up⟩,prs,kn,sld,cut⟩,⟨ep,ms,fr⟩,nds,ups,bag,ans⟩⟩,hx⟩:∃ x,c0[i]?=some x:=⟨_,List.getElem?_eq_getElem hi⟩
    have hw:=w_succ (i:=i) (by omega)
    have hsx:=hsh.2 _ (List.mem_of_getElem? hx)
    have hch:=chainValid_impl lo up prs kn sld cut ep ms fr nds ups bag ans hsx.1
    have heq:=equalB_ok ups fups hsx.1.2.2.2.1.1
    rw [drop_at hx,List.all_cons,shardOk]
    cases q1:chainValid ⟨⟨⟨lo,up⟩,prs,kn,sld,cut⟩,⟨ep,ms,fr⟩,nds,ups,bag,ans⟩
    · simp only[↓xP,xQ,xR,xS,flatR,reduceLT,Nat.reduceBEq,reduceAdd,reduceSub,rdx2,h1,hb,h32,h33,h34,hi,hx,hw,Shard.u,hch,q1]
      try simp
    · cases q2:decide (ups=fups)
      · simp only[↓xP,xQ,xR,xS,flatR,reduceLT,Nat.reduceBEq,reduceAdd,reduceSub,rdx2,h1,hb,h32,h33,h34,hi,hx,hf0,hw,Shard.u,hch,q1,heq,q2]
        try simp
      · simp only[↓xP,xQ,xR,xS,flatR,reduceLT,Nat.reduceBEq,reduceAdd,reduceSub,rdx2,h1,hb,h32,h33,h34,hi,hx,hf0,hw,Shard.u,hch,q1,heq,q2]
        rw [ih (i+1) _ (by omega) (by and_intros<;>first|omega|rfl|(simp only[↓xP,xQ,xR,xS,flatR,reduceLT,Nat.reduceBEq,reduceAdd,reduceSub,h1,hb,h32,h33,hw]<;>first|done|rfl|omega))]
        try simp
  simp only[↓xP,xQ,xR,xS,flatR,reduceLT,Nat.reduceBEq,reduceAdd,reduceSub,h1,hb,h32,h33,h34,hi]
  rw [List.drop_of_length_le (by omega),List.all_nil,Bool.true_and]
  refine loop_ind (fun (i:Nat) st=>st.s 1=.t (.sc (.ptr (.loc 1 0) 0 0))∧st.o (.loc 1 0)=some (.box [.u (.sl 14 (c0.map Shard.u)),.u (.sl 8 (c1.map Caller.u)),.u (.sl 9 (c2.map Result.u)),.u (.int .i64 c3),.u (.int .i64 c4),.u (.int .i64 c5),.u (.str c6),.u (.int .i64 c7),.u (.int .i64 c8),.u (.int .i64 c9),.u (.int .i64 c10),.u (.int .i64 c11)])∧st.s 57=DU (.sl 8 (c1.map Caller.u))∧st.s 58=DI c1.length∧st.s 59=DI i∧(∀ c,c∈c1.take i→callerValid c=true)) (fun i=>c1.length - i) (fun i=>ok1 (B ((c1.drop i).all callerValid&&(c2.all resultValid&&(workOk ⟨c3,c4,c5,c6,c7,c8,c9⟩ c0.length&&endsOk ⟨c0,c1,c2,⟨c3,c4,c5,c6,c7,c8,c9⟩,c10,c11⟩))))) ?_ 0 ⟨(by and_intros<;>first|omega|rfl|(simp only[↓xP,xQ,xR,xS,flatR,reduceLT,Nat.reduceBEq,reduceAdd,reduceSub,h1]<;>first|done|rfl|omega)),(by and_intros<;>first|omega|rfl|(simp only[↓xP,xQ,xR,xS,flatR,reduceLT,Nat.reduceBEq,reduceAdd,reduceSub,hb]<;>first|done|rfl|omega)),(by and_intros<;>first|omega|rfl|(simp only[↓xP,xQ,xR,xS,flatR,reduceLT,Nat.reduceBEq,reduceAdd,reduceSub,h1,hb]<;>first|done|rfl|omega)),(by and_intros<;>first|omega|rfl|(simp only[↓xP,xQ,xR,xS,flatR,reduceLT,Nat.reduceBEq,reduceAdd,reduceSub,h1,hb]<;>first|done|rfl|omega)),(by and_intros<;>first|omega|rfl|(simp only[↓xP,xQ,xR,xS,flatR,reduceLT,Nat.reduceBEq,reduceAdd,reduceSub,h1,hb]<;>first|done|rfl|omega)),by simp⟩
  clear h1 hb h32 h33 h34 hi ih
  rintro i st ⟨h1,hb,h32,h33,h34,hall⟩ ih
  by_cases hi:i<c1.length
  · obtain ⟨⟨cch,csq,cbz,⟨ck,ckey,cv,co⟩,ccd⟩,hx⟩:∃ x,c1[i]?=some x:=⟨_,List.getElem?_eq_getElem hi⟩
    have hw:=w_succ (i:=i) (by omega)
    have hsx:=hcl.2 _ (List.mem_of_getElem? hx)
    have hch:=callerValid_impl cch csq cbz ck ckey cv co ccd hsx.1.1
    simp only[↓xP,xQ,xR,xS,flatR,reduceLT,Nat.reduceBEq,reduceAdd,reduceSub,h1,hb,h32,h33,h34,hi,hx,hw,Caller.u,hch]
    rw [drop_at hx,List.all_cons]
    refine sel_split (fun h=>?_) (fun q1=>?_)
    · rw [Bool.not_eq_true'] at h; simp [h]
    rw [Bool.not_eq_false'] at q1
    have hall2:∀ c,c∈c1.take (i+1)→callerValid c=true:=by
      intro c hc
      rw [List.take_add_one,hx] at hc
      rcases List.mem_append.1 hc with hc|hc
      · exact hall c hc
      · simp at hc; subst hc; exact q1
    rw [ih (i+1) _ (by omega) ⟨(by and_intros<;>first|omega|rfl|(simp only[↓xP,xQ,xR,xS,flatR,reduceLT,Nat.reduceBEq,reduceAdd,reduceSub,h1]<;>first|done|rfl|omega)),(by and_intros<;>first|omega|rfl|(simp only[↓xP,xQ,xR,xS,flatR,reduceLT,Nat.reduceBEq,reduceAdd,reduceSub,hb]<;>first|done|rfl|omega)),(by and_intros<;>first|omega|rfl|(simp only[↓xP,xQ,xR,xS,flatR,reduceLT,Nat.reduceBEq,reduceAdd,reduceSub,h32]<;>first|done|rfl|omega)),(by and_intros<;>first|omega|rfl|(simp only[↓xP,xQ,xR,xS,flatR,reduceLT,Nat.reduceBEq,reduceAdd,reduceSub,h33]<;>first|done|rfl|omega)),(by and_intros<;>first|omega|rfl|(simp only[↓xP,xQ,xR,xS,flatR,reduceLT,Nat.reduceBEq,reduceAdd,reduceSub,hw]<;>first|done|rfl|omega)),hall2⟩]
    simp [q1]
  simp only[↓xP,xQ,xR,xS,flatR,reduceLT,Nat.reduceBEq,reduceAdd,reduceSub,h1,hb,h32,h33,h34,hi]
  rw [List.drop_of_length_le (by omega),List.all_nil,Bool.true_and]
  have hall4:∀ c,c∈c1→callerValid c=true:=by rw [List.take_of_length_le (by omega)] at hall; exact hall
  refine loop_ind (fun (i:Nat) st=>st.s 1=.t (.sc (.ptr (.loc 1 0) 0 0))∧st.o (.loc 1 0)=some (.box [.u (.sl 14 (c0.map Shard.u)),.u (.sl 8 (c1.map Caller.u)),.u (.sl 9 (c2.map Result.u)),.u (.int .i64 c3),.u (.int .i64 c4),.u (.int .i64 c5),.u (.str c6),.u (.int .i64 c7),.u (.int .i64 c8),.u (.int .i64 c9),.u (.int .i64 c10),.u (.int .i64 c11)])∧st.s 68=DU (.sl 9 (c2.map Result.u))∧st.s 69=DI c2.length∧st.s 70=DI i) (fun i=>c2.length - i) (fun i=>ok1 (B ((c2.drop i).all resultValid&&(workOk ⟨c3,c4,c5,c6,c7,c8,c9⟩ c0.length&&endsOk ⟨c0,c1,c2,⟨c3,c4,c5,c6,c7,c8,c9⟩,c10,c11⟩)))) ?_ 0 (by and_intros<;>first|omega|rfl|(simp only[↓xP,xQ,xR,xS,flatR,reduceLT,Nat.reduceBEq,reduceAdd,reduceSub,h1,hb]<;>first|done|rfl|omega))
  clear h1 hb h32 h33 h34 hi ih hall
  rintro i st ⟨h1,hb,h32,h33,h34⟩ ih
  by_cases hi:i<c2.length
  · obtain ⟨⟨rc,rs,⟨rk,rkey,rv,ro⟩,rr,rcd,rrt⟩,hx⟩:∃ x,c2[i]?=some x:=⟨_,List.getElem?_eq_getElem hi⟩
    have hw:=w_succ (i:=i) (by omega)
    simp only[↓xP,xQ,xR,xS,flatR,reduceLT,Nat.reduceBEq,reduceAdd,reduceSub,h1,hb,h32,h33,h34,hi,hx,hw,Result.u,resultValid_impl]
    rw [drop_at hx,List.all_cons]
    refine sel_split (fun h=>?_) (fun q1=>?_)
    · rw [Bool.not_eq_true'] at h; simp [h]
    rw [Bool.not_eq_false'] at q1
    rw [ih (i+1) _ (by omega) (by and_intros<;>first|omega|rfl|(simp only[↓xP,xQ,xR,xS,flatR,reduceLT,Nat.reduceBEq,reduceAdd,reduceSub,h1,hb,h32,h33]<;>first|done|rfl|omega))]
    simp [q1]
  simp only[↓xP,xQ,xR,xS,flatR,reduceLT,Nat.reduceBEq,reduceAdd,reduceSub,h1,hb,h32,h33,h34,hi]
  rw [List.drop_of_length_le (by omega),List.all_nil,Bool.true_and]
  obtain ⟨⟨cch,csq,cbz,⟨ck,ckey,cv,co⟩,ccd⟩,hc0⟩:∃ x,c1[0]?=some x:=⟨_,List.getElem?_eq_getElem (by omega)⟩
  have hq:=hall4 _ (List.mem_of_getElem? hc0)
  have hnc:=noCaller_ok cch csq cbz ck ckey cv co ccd
  have hfree:=noCaller_free hq
  have hff:firstFree c1=freeCaller ⟨cch,csq,cbz,⟨ck,ckey,cv,co⟩,ccd⟩:=by
    cases c1 with
    | nil=>simp at hc0
    | cons a l=>simp at hc0; subst hc0; rfl
  simp only at hfree
  rw [hfree,←hff] at hnc
  have hlr:=liveRoutes_ok c0 c1 c2 c3 c4 c5 c6 c7 c8 c9 c10 c11 g2'
  simp only[routesRet] at hlr
  have hrl:(routesOf c0).length≤1048576:=by
    have:=sortR_len (liveR c0 0)
    have:=liveR_len c0 0
    simp only[routesOf]; omega
  have hrv:=routesValid_impl (routesOf c0) hrl
  have htk:List.take (routesOf c0).length (List.map Route.u (routesOf c0))=List.map Route.u (routesOf c0):=List.take_of_length_le (by simp)
  simp only[↓xP,xQ,xR,xS,flatR,reduceLT,Nat.reduceBEq,reduceAdd,reduceSub,h1,hb,hc0,Caller.u,planValid_impl,hlr,hrv,htk,Nat.le_refl,List.length_map,hnc,timeValid_ok]
  have hnp:(decide (c3=0)&&(decide (c4=0)&&(decide (c5=0)&&(decide (c6=[])&&(decide (c7=0)&&(decide (c8=0)&&decide (c9=0)))))))=noPlan ⟨c3,c4,c5,c6,c7,c8,c9⟩:=by simp only[noPlan,Bool.and_assoc]
  rw [hnp]
  refine (ends_tree (noPlan ⟨c3,c4,c5,c6,c7,c8,c9⟩) (planValid ⟨c3,c4,c5,c6,c7,c8,c9⟩) (decide (c4<(c0.length:Int))) (decide (c5<(c0.length:Int))) (routesValid (routesOf c0)) (firstFree c1) (decide (0≤c10)) (decide (c10≤999)) (inR c11 0 200)).trans ?_
  rfl
theorem chainValid_up {c:Chain} (h:chainValid c=true):c.up.length=5:=by
  simp only[chainValid,Bool.and_eq_true,decide_eq_true_eq] at h
  exact h.1.1.1.1.2
def freeAt (l:List Caller) (i:Nat):Bool:=if i=0 then firstFree l else true
theorem clusterValid_spec (c0:List Shard) (c1:List Caller) (c2:List Result) (c3 c4 c5:Int) (c6:Str) (c7 c8 c9 c10 c11:Int) (hs:Cluster.Small ⟨c0,c1,c2,⟨c3,c4,c5,c6,c7,c8,c9⟩,c10,c11⟩):EE F 65 [.ag [.u (.sl 14 (c0.map Shard.u)),.u (.sl 8 (c1.map Caller.u)),.u (.sl 9 (c2.map Result.u)),.u (.int .i64 c3),.u (.int .i64 c4),.u (.int .i64 c5),.u (.str c6),.u (.int .i64 c7),.u (.int .i64 c8),.u (.int .i64 c9),.u (.int .i64 c10),.u (.int .i64 c11)]] []=ok1 (B (clusterValid ⟨c0,c1,c2,⟨c3,c4,c5,c6,c7,c8,c9⟩,c10,c11⟩)):=by
  obtain ⟨hsh,hcl,hrs,hwk,_⟩:=hs
  have hn0:c0.length≤1048576:=hsh.1
  have hn1:c1.length≤1048576:=hcl.1
  have hn2:c2.length≤1048576:=hrs.1
  rw [R65,b65]
  simp only[↓xP,xQ,xR,xS,flatR,reduceLT,Nat.reduceBEq,reduceAdd,reduceSub,List.length_map,ne_eq,l1In_ok,l27Work_ok]
  refine sel_split (fun h=>?_) (fun g1=>?_)
  · have:¬(1≤c0.length∧c0.length≤8):=by simp [inR] at h; omega
    have:sizesOk ⟨c0,c1,c2,⟨c3,c4,c5,c6,c7,c8,c9⟩,c10,c11⟩=false:=by
      by_cases e1:1≤c0.length
      · have e2:¬c0.length≤8:=fun e2=>this ⟨e1,e2⟩
        simp [sizesOk,e2]
      · simp [sizesOk,e1]
    simp [clusterValid,this]
  refine sel_split (fun h=>?_) (fun g3=>?_)
  · have:¬c1.length=4:=by simp at h; omega
    simp [clusterValid,sizesOk,this]
  refine sel_split (fun h=>?_) (fun g4=>?_)
  · have:¬c2.length≤40:=by simp at h; omega
    simp [clusterValid,sizesOk,this]
  refine sel_split (fun h=>?_) (fun g5=>?_)
  · rw [Bool.not_eq_true'] at h; simp [clusterValid,h]
  refine sel_split (fun h=>?_) (fun g6=>?_)
  · rw [Bool.not_eq_true'] at h; simp [clusterValid,endsOk,h]
  refine sel_split (fun h=>?_) (fun g7=>?_)
  · rw [Bool.not_eq_true'] at h; simp [clusterValid,endsOk,h]
  rw [Bool.not_eq_false'] at g1 g5 g6 g7
  have g12:1≤c0.length∧c0.length≤8:=by simp [inR] at g1; omega
  have g3':c1.length=4:=by simp at g3; omega
  have g4':c2.length≤40:=by simp at g4; omega
  have hsz:sizesOk ⟨c0,c1,c2,⟨c3,c4,c5,c6,c7,c8,c9⟩,c10,c11⟩=true:=by simp [sizesOk,g12.1,g12.2,g3',g4']
  obtain ⟨fs,hf0⟩:∃ x,c0[0]?=some x:=⟨_,List.getElem?_eq_getElem (by omega)⟩
  have hup:upOf c0=fs.group.up:=by
    cases c0 with
    | nil=>simp at hf0
    | cons a l=>simp at hf0; subst hf0; rfl
  obtain ⟨flive,⟨⟨⟨flo,fup⟩,fprs,fkn,fsld,fcut⟩,⟨fep,fms,ffr⟩,fnds,fups,fbag,fans⟩⟩:=fs
  simp only at hup
  have hcv:clusterValid ⟨c0,c1,c2,⟨c3,c4,c5,c6,c7,c8,c9⟩,c10,c11⟩=((c0.drop 0).all (shardOk fups)&&(c1.all callerValid&&firstFree c1&&(c2.all resultValid&&routesValid (routesOf c0)))):=by
    simp only[clusterValid,hsz,hup,endsOk,g5,g6,g7,Bool.true_and,Bool.and_true,List.drop_zero]
    cases c0.all (shardOk fups)<;>cases c1.all callerValid<;>cases c2.all resultValid<;>cases firstFree c1<;>cases routesValid (routesOf c0)<;>rfl
  rw [hcv]
  refine loop_ind (fun (i:Nat) st=>st.s 1=.t (.sc (.ptr (.loc 1 0) 0 0))∧st.o (.loc 1 0)=some (.box [.u (.sl 14 (c0.map Shard.u)),.u (.sl 8 (c1.map Caller.u)),.u (.sl 9 (c2.map Result.u)),.u (.int .i64 c3),.u (.int .i64 c4),.u (.int .i64 c5),.u (.str c6),.u (.int .i64 c7),.u (.int .i64 c8),.u (.int .i64 c9),.u (.int .i64 c10),.u (.int .i64 c11)])∧st.s 3=DI i∧(i=0∨fups.length=5)) (fun i=>c0.length - i) (fun i=>ok1 (B ((c0.drop i).all (shardOk fups)&&(c1.all callerValid&&firstFree c1&&(c2.all resultValid&&routesValid (routesOf c0)))))) ?_ 0 (by and_intros<;>first|omega|rfl|(simp only[↓xP,xQ,xR,xS,flatR,reduceLT,Nat.reduceBEq,reduceAdd,reduceSub]<;>first|done|rfl|omega))
  rintro i st ⟨h1,hb,h3,hf5⟩ ih
  by_cases hi:i<c0.length
  · obtain ⟨⟨live,⟨⟨⟨lo,up⟩,prs,kn,sld,cut⟩,⟨ep,ms,fr⟩,nds,ups,bag,ans⟩⟩,hx⟩:∃ x,c0[i]?=some x:=⟨_,List.getElem?_eq_getElem hi⟩
    have hw:=w_succ (i:=i) (by omega)
    have hsx:=hsh.2 _ (List.mem_of_getElem? hx)
    have hch:=chainValid_spec lo up prs kn sld cut ep ms fr nds ups bag ans hsx.1
    rw [drop_at hx,List.all_cons,shardOk]
    cases q1:chainValid ⟨⟨⟨lo,up⟩,prs,kn,sld,cut⟩,⟨ep,ms,fr⟩,nds,ups,bag,ans⟩
    · simp only[↓xP,xQ,xR,xS,flatR,reduceLT,Nat.reduceBEq,reduceAdd,reduceSub,rdx2,h1,hb,h3,hi,hx,hw,Shard.u,hch,q1]
      try simp
    have hu5:ups.length=5:=chainValid_up q1
    have hfu5:fups.length=5:=by
      rcases hf5 with rfl|e
      · rw [hf0] at hx; cases hx; exact hu5
      · exact e
    have hd0:decide (ups=fups)=decide (ups.drop 0=fups.drop 0):=by simp
    simp only[↓xP,xQ,xR,xS,flatR,reduceLT,Nat.reduceBEq,reduceAdd,reduceSub,rdx2,h1,hb,h3,hi,hx,hw,Shard.u,hch,q1]
    try rw [Bool.true_and]
    rw [hd0]
    refine loop_ind (fun (j:Nat) st=>j≤5∧st.s 1=.t (.sc (.ptr (.loc 1 0) 0 0))∧st.o (.loc 1 0)=some (.box [.u (.sl 14 (c0.map Shard.u)),.u (.sl 8 (c1.map Caller.u)),.u (.sl 9 (c2.map Result.u)),.u (.int .i64 c3),.u (.int .i64 c4),.u (.int .i64 c5),.u (.str c6),.u (.int .i64 c7),.u (.int .i64 c8),.u (.int .i64 c9),.u (.int .i64 c10),.u (.int .i64 c11)])∧st.s 3=DI i∧st.s 4=DI j) (fun j=>5 - j) (fun j=>ok1 (B (decide (ups.drop j=fups.drop j)&&(c0.drop (i+1)).all (shardOk fups)&&(c1.all callerValid&&firstFree c1&&(c2.all resultValid&&routesValid (routesOf c0)))))) ?_ 0 (by and_intros<;>first|omega|rfl|(simp only[↓xP,xQ,xR,xS,flatR,reduceLT,Nat.reduceBEq,reduceAdd,reduceSub,h1,hb,h3]<;>first|done|rfl|omega))
    clear h1 hb h3
    rintro j st ⟨hj5,h1,hb,h3,h4⟩ ih2
    by_cases hj:j<5
    · obtain ⟨x,hxx⟩:∃ x,ups[j]?=some x:=⟨_,List.getElem?_eq_getElem (by omega)⟩
      obtain ⟨y,hyy⟩:∃ x,fups[j]?=some x:=⟨_,List.getElem?_eq_getElem (by omega)⟩
      have hw2:=w_succ (i:=j) (by omega)
      have hlt:((j:Int)<5)=True:=by simp; omega
      rw [drop_at hxx,drop_at hyy]
      by_cases e:x=y
      · subst e
        simp only[↓xP,xQ,xR,xS,flatR,reduceLT,Nat.reduceBEq,reduceAdd,reduceSub,rdx2,h1,hb,h3,h4,hi,hx,hf0,hxx,hyy,hw2,hlt,Shard.u,bU]
        rw [ih2 (j+1) _ (by omega) (by and_intros<;>first|omega|rfl|(simp only[↓xP,xQ,xR,xS,flatR,reduceLT,Nat.reduceBEq,reduceAdd,reduceSub,h1,hb,h3,hw2]<;>first|done|rfl|omega))]
        simp
      · have hbe:(x==y)=false:=by simpa using e
        simp only[↓xP,xQ,xR,xS,flatR,reduceLT,Nat.reduceBEq,reduceAdd,reduceSub,rdx2,h1,hb,h3,h4,hi,hx,hf0,hxx,hyy,hw2,hlt,Shard.u,bU,hbe]
        simp [e]
    have hlt:((j:Int)<5)=False:=by simp; omega
    simp only[↓xP,xQ,xR,xS,flatR,reduceLT,Nat.reduceBEq,reduceAdd,reduceSub,h1,hb,h3,h4,hlt]
    rw [List.drop_of_length_le (by omega),List.drop_of_length_le (by omega)]
    rw [ih (i+1) _ (by omega) ⟨(by and_intros<;>first|omega|rfl|(simp only[↓xP,xQ,xR,xS,flatR,reduceLT,Nat.reduceBEq,reduceAdd,reduceSub,h1]<;>first|done|rfl|omega)),(by and_intros<;>first|omega|rfl|(simp only[↓xP,xQ,xR,xS,flatR,reduceLT,Nat.reduceBEq,reduceAdd,reduceSub,hb]<;>first|done|rfl|omega)),(by and_intros<;>first|omega|rfl|(simp only[↓xP,xQ,xR,xS,flatR,reduceLT,Nat.reduceBEq,reduceAdd,reduceSub,hw]<;>first|done|rfl|omega)),.inr hfu5⟩]
    simp
  simp only[↓xP,xQ,xR,xS,flatR,reduceLT,Nat.reduceBEq,reduceAdd,reduceSub,h1,hb,h3,hi]
  rw [List.drop_of_length_le (by omega),List.all_nil,Bool.true_and]
  have hc10:(c1.all callerValid&&firstFree c1&&(c2.all resultValid&&routesValid (routesOf c0)))=((c1.drop 0).all callerValid&&freeAt c1 0&&(c2.all resultValid&&routesValid (routesOf c0))):=rfl
  rw [hc10]
  refine loop_ind (fun (i:Nat) st=>i≤4∧st.s 1=.t (.sc (.ptr (.loc 1 0) 0 0))∧st.o (.loc 1 0)=some (.box [.u (.sl 14 (c0.map Shard.u)),.u (.sl 8 (c1.map Caller.u)),.u (.sl 9 (c2.map Result.u)),.u (.int .i64 c3),.u (.int .i64 c4),.u (.int .i64 c5),.u (.str c6),.u (.int .i64 c7),.u (.int .i64 c8),.u (.int .i64 c9),.u (.int .i64 c10),.u (.int .i64 c11)])∧st.s 5=DI i) (fun i=>4 - i) (fun i=>ok1 (B ((c1.drop i).all callerValid&&freeAt c1 i&&(c2.all resultValid&&routesValid (routesOf c0))))) ?_ 0 (by and_intros<;>first|omega|rfl|(simp only[↓xP,xQ,xR,xS,flatR,reduceLT,Nat.reduceBEq,reduceAdd,reduceSub,h1,hb]<;>first|done|rfl|omega))
  clear h1 hb h3 hi ih
  rintro i st ⟨hi4,h1,hb,h3⟩ ih
  by_cases hi:i<4
  · obtain ⟨⟨cch,csq,cbz,⟨ck,ckey,cv,co⟩,ccd⟩,hx⟩:∃ x,c1[i]?=some x:=⟨_,List.getElem?_eq_getElem (by omega)⟩
    have hw:=w_succ (i:=i) (by omega)
    have hlt:((i:Int)<4)=True:=by simp; omega
    have hsx:=hcl.2 _ (List.mem_of_getElem? hx)
    have hch:=callerValid_spec cch csq cbz ck ckey cv co ccd hsx.1.1
    rw [drop_at hx,List.all_cons]
    have hnext:freeAt c1 (i+1)=true:=rfl
    by_cases e0:i=0
    · subst e0
      have hff:freeAt c1 0=freeCaller ⟨cch,csq,cbz,⟨ck,ckey,cv,co⟩,ccd⟩:=by
        cases c1 with
        | nil=>simp at hx
        | cons a l=>simp at hx; subst hx; rfl
      have hz:(((0:Nat):Int)=0)=True:=by simp
      rw [hff]
      simp only[↓xP,xQ,xR,xS,flatR,reduceLT,Nat.reduceBEq,reduceAdd,reduceSub,h1,hb,h3,hlt,hx,hw,hz,Caller.u,hch,ne_eq,List.length_map]
      refine sel_split (fun h=>?_) (fun q1=>?_)
      · rw [Bool.not_eq_true'] at h; simp [h]
      rw [Bool.not_eq_false'] at q1
      refine sel_split (fun h=>?_) (fun q2=>?_)
      · have:¬csq=0:=by simpa using h
        simp [freeCaller,this]
      refine sel_split (fun h=>?_) (fun q3=>?_)
      · have:¬cch=[]:=by intro e; subst e; simp at h
        simp [freeCaller,this]
      have q2':csq=0:=by simpa using q2
      have q3':cch.length=0:=by simp at q3; simpa using q3
      rw [ih 1 _ (by omega) (by and_intros<;>first|omega|rfl|(simp only[↓xP,xQ,xR,xS,flatR,reduceLT,Nat.reduceBEq,reduceAdd,reduceSub,h1,hb]<;>first|done|rfl|omega))]
      rw [q1]; simp [freeCaller,q2',q3',freeAt]
    · have hz:((i:Int)=0)=False:=by simp; omega
      simp only[↓xP,xQ,xR,xS,flatR,reduceLT,Nat.reduceBEq,reduceAdd,reduceSub,h1,hb,h3,hlt,hx,hw,hz,Caller.u,hch,ne_eq,List.length_map]
      refine sel_split (fun h=>?_) (fun q1=>?_)
      · rw [Bool.not_eq_true'] at h; simp [h]
      rw [Bool.not_eq_false'] at q1
      rw [ih (i+1) _ (by omega) (by and_intros<;>first|omega|rfl|(simp only[↓xP,xQ,xR,xS,flatR,reduceLT,Nat.reduceBEq,reduceAdd,reduceSub,h1,hb]<;>first|done|rfl|omega))]
      simp [q1,freeAt,e0]
  have hlt:((i:Int)<4)=False:=by simp; omega
  have hfi:freeAt c1 i=true:=by simp only[freeAt]; rw [if_neg (by omega)]
  simp only[↓xP,xQ,xR,xS,flatR,reduceLT,Nat.reduceBEq,reduceAdd,reduceSub,h1,hb,h3,hlt]
  rw [List.drop_of_length_le (by omega),List.all_nil,hfi,Bool.true_and,Bool.true_and]
  refine loop_ind (fun (i:Nat) st=>st.s 1=.t (.sc (.ptr (.loc 1 0) 0 0))∧st.o (.loc 1 0)=some (.box [.u (.sl 14 (c0.map Shard.u)),.u (.sl 8 (c1.map Caller.u)),.u (.sl 9 (c2.map Result.u)),.u (.int .i64 c3),.u (.int .i64 c4),.u (.int .i64 c5),.u (.str c6),.u (.int .i64 c7),.u (.int .i64 c8),.u (.int .i64 c9),.u (.int .i64 c10),.u (.int .i64 c11)])∧st.s 6=DI i) (fun i=>c2.length - i) (fun i=>ok1 (B ((c2.drop i).all resultValid&&routesValid (routesOf c0)))) ?_ 0 (by and_intros<;>first|omega|rfl|(simp only[↓xP,xQ,xR,xS,flatR,reduceLT,Nat.reduceBEq,reduceAdd,reduceSub,h1,hb]<;>first|done|rfl|omega))
  clear h1 hb h3 hi ih hlt hfi
  rintro i st ⟨h1,hb,h3⟩ ih
  by_cases hi:i<c2.length
  · obtain ⟨⟨rc,rs,⟨rk,rkey,rv,ro⟩,rr,rcd,rrt⟩,hx⟩:∃ x,c2[i]?=some x:=⟨_,List.getElem?_eq_getElem hi⟩
    have hw:=w_succ (i:=i) (by omega)
    simp only[↓xP,xQ,xR,xS,flatR,reduceLT,Nat.reduceBEq,reduceAdd,reduceSub,h1,hb,h3,hi,hx,hw,Result.u,resultValid_spec]
    rw [drop_at hx,List.all_cons]
    refine sel_split (fun h=>?_) (fun q1=>?_)
    · rw [Bool.not_eq_true'] at h; simp [h]
    rw [Bool.not_eq_false'] at q1
    rw [ih (i+1) _ (by omega) (by and_intros<;>first|omega|rfl|(simp only[↓xP,xQ,xR,xS,flatR,reduceLT,Nat.reduceBEq,reduceAdd,reduceSub,h1,hb]<;>first|done|rfl|omega))]
    simp [q1]
  have hlr:=l27Routes_ok c0 c1 c2 c3 c4 c5 c6 c7 c8 c9 c10 c11 g12.2
  simp only[routesRet] at hlr
  have hrl:(routesOf c0).length≤1048576:=by
    have:=sortR_len (liveR c0 0)
    have:=liveR_len c0 0
    simp only[routesOf]; omega
  have hrv:=routesValid_spec (routesOf c0) hrl
  have htk:List.take (routesOf c0).length (List.map Route.u (routesOf c0))=List.map Route.u (routesOf c0):=List.take_of_length_le (by simp)
  simp only[↓xP,xQ,xR,xS,flatR,reduceLT,Nat.reduceBEq,reduceAdd,reduceSub,h1,hb,h3,hi,hlr,hrv,htk,Nat.le_refl,List.length_map]
  rw [List.drop_of_length_le (by omega),List.all_nil,Bool.true_and]
theorem shard_conf {c0:List Shard} {c1:List Caller} {c2:List Result} {w:Plan} {a b:Int} (h:clusterValid ⟨c0,c1,c2,w,a,b⟩=true) {s:Shard} (hs:s∈c0):chainValid s.group=true:=by
  simp only[clusterValid,Bool.and_eq_true] at h
  have:=List.all_eq_true.1 h.1.1.1.1.2 s hs
  simp only[shardOk,Bool.and_eq_true] at this
  exact this.1
theorem cluster_eight {c0:List Shard} {c1:List Caller} {c2:List Result} {w:Plan} {a b:Int} (h:clusterValid ⟨c0,c1,c2,w,a,b⟩=true):c0.length≤8:=by
  simp only[clusterValid,sizesOk,Bool.and_eq_true,decide_eq_true_eq] at h
  exact h.1.1.1.1.1.1.1.2
def sumW {α:Type} (w:α→Nat):List α→Nat
  | []=>0
  | x::xs=>w x+sumW w xs
def Cost (g:Int→Int) (w:Nat):Prop:=∀ a,0≤a→a≤1048576→0≤g a→g a≤a∧9*g a+w≤9*a
theorem Cost.nil:Cost (fun a=>a) 0:=fun a _ _ _=>⟨Int.le_refl _,by show 9*a + ((0:Nat):Int)≤9*a; omega⟩
theorem Cost.off {n:Nat} {k:Int→Int} {w w':Nat} (hn:n≤1048576) (hw:w≤9*n+w') (hk:Cost k w'):Cost (fun a=>offZ a n k) w:=by
  intro a h0 h1 h2
  simp only[offZ] at h2 ⊢
  rw [w64 (by omega) (by omega)] at h2 ⊢
  split at h2
  · omega
  · rename_i hlt
    rw [if_neg hlt]
    obtain ⟨h3,h4⟩:=hk (a - n) (by omega) (by omega) h2
    omega
theorem Cost.chk {g k:Int→Int} {w w':Nat} (hg:Cost g w) (hk:Cost k w'):Cost (fun a=>chkZ (g a) k) (w+w'):=by
  intro a h0 h1 h2
  simp only[chkZ] at h2 ⊢
  split at h2
  · omega
  · rename_i hlt
    rw [if_neg hlt]
    obtain ⟨h3,h4⟩:=hg a h0 h1 (by omega)
    obtain ⟨h5,h6⟩:=hk (g a) (by omega) (by omega) h2
    omega
theorem Cost.all {α:Type} {g:α→Int→Int} {w:α→Nat}:∀ {l:List α},(∀ x,x∈l→Cost (g x) (w x))→Cost (allZ g l) (sumW w l)
  | [],_=>Cost.nil
  | x::xs,h=>(h x (List.mem_cons_self ..)).chk (Cost.all (l:=xs) fun y hy=>h y (List.mem_cons_of_mem _ hy))
theorem Cost.key {n:Nat} (h:n≤1048576):Cost (fun a=>offZ a n fun a=>a) 0:=Cost.off h (by omega) Cost.nil
def isReq (a:Answer) (c s:Int):Bool:=decide (a.asked.client=c)&&decide (a.asked.seq=s)
def reqAt (c s:Int):Nat→List Answer→Int
  | _,[]=>-1
  | i,a::l=>if isReq a c s=true then (i:Int) else reqAt c s (i+1) l
def hasReq (l:List Answer) (c s:Int):Bool:=l.any fun a=>isReq a c s
theorem reqAt_lt (c s:Int):∀ (i:Nat) (l:List Answer),decide (reqAt c s i l<0)=!hasReq l c s
  | _,[]=>by simp [reqAt,hasReq]
  | i,a::l=>by
    have:=reqAt_lt c s (i+1) l
    cases h:isReq a c s
    · simpa [reqAt,hasReq,h] using this
    · have:¬(i:Int)<0:=by omega
      simp [reqAt,hasReq,h,this]
def takes (l:List Answer) (a:Answer):Bool:=!decide (a.asked.client=0)&&(decide (-2≤a.reply)&&!hasReq l a.asked.client a.asked.seq)
def histAdd (l:List Answer) (a:Answer):List Answer:=if takes l a=true then l++[a] else l
def histOf (l:List Answer) (m:List Answer):List Answer:=m.foldl histAdd l
def histS (l:List Shard):List Answer:=l.foldl (fun o s=>histOf o s.group.answers) []
def history (x:Cluster):List Answer:=if clusterValid x=true then histS x.shards else []
theorem histOf_step {o l:List Answer} {j:Nat} {a:Answer} (h:l[j]?=some a):histOf o (l.take (j+1))=histAdd (histOf o (l.take j)) a:=by
  rw [histOf,List.take_add_one,h,Option.toList_some,List.foldl_append]; rfl
theorem histS_step {l:List Shard} {i:Nat} {s:Shard} (h:l[i]?=some s):histS (l.take (i+1))=histOf (histS (l.take i)) s.group.answers:=by
  rw [histS,List.take_add_one,h,Option.toList_some,List.foldl_append]; rfl
theorem histAdd_len (l:List Answer) (a:Answer):(histAdd l a).length≤l.length+1:=by
  unfold histAdd; split<;>simp
theorem histOf_len:∀ (m l:List Answer),(histOf l m).length≤l.length+m.length
  | [],l=>by simp [histOf]
  | a::m,l=>by
    have:=histOf_len m (histAdd l a)
    have:=histAdd_len l a
    simp only[histOf,List.foldl_cons,List.length_cons] at *
    omega
theorem histS_len {l:List Shard} (hl:∀ s,s∈l→s.group.answers.length≤24):∀ i,i≤l.length→(histS (l.take i)).length≤24*i
  | 0,_=>by simp [histS]
  | i+1,h=>by
    obtain ⟨s,hs⟩:∃ x,l[i]?=some x:=⟨_,List.getElem?_eq_getElem (by omega)⟩
    have h1:=histS_len hl i (by omega)
    have h2:=histOf_len s.group.answers (histS (l.take i))
    have h3:=hl s (List.mem_of_getElem? hs)
    rw [histS_step hs]; omega
theorem answers_24 {c0:List Shard} {c1:List Caller} {c2:List Result} {w:Plan} {a b:Int} (h:clusterValid ⟨c0,c1,c2,w,a,b⟩=true):∀ s,s∈c0→s.group.answers.length≤24:=by
  intro s hs
  have:=shard_conf h hs
  simp only[chainValid,answersValid,Bool.and_eq_true,decide_eq_true_eq] at this
  exact this.2.1
theorem answerIs_ok (cl sq kd:Int) (key:Str) (v o rp c s:Int):EE F 133 [.ag [.u (.int .i64 cl),.u (.int .i64 sq),.u (.int .i64 kd),.u (.str key),.u (.int .i64 v),.u (.int .i64 o),.u (.int .i64 rp)],.sc (.u (.rp [.int .i64 c])),.sc (.u (.rp [.int .i64 s]))] []=ok1 (B (isReq ⟨⟨cl,sq,⟨kd,key,v,o⟩⟩,rp⟩ c s)):=by
  rw [R133,b133]
  cases h:decide (cl=c)<;>simp only[↓xP,xQ,xR,xS,flatR,reduceLT,Nat.reduceBEq,reduceAdd,reduceSub,h,isReq,Bool.false_and,Bool.true_and]
theorem answerIndex_ok (l:List Answer) (c s:Int) (hn:l.length≤1048576):EE F 132 [L 7 (l.map Answer.u),.sc (.u (.fn 133 [.rp [.int .i64 c],.rp [.int .i64 s]]))] []=ok1 (I (reqAt c s 0 l)):=by
  rw [R132,b132]
  simp only[↓xP,xQ,xR,xS,flatR,reduceLT,Nat.reduceBEq,reduceAdd,reduceSub]
  refine (loop_ind (fun (i:Nat) st=>i≤l.length∧st.s 0=DU (.sl 7 (l.map Answer.u))∧st.s 1=DU (.fn 133 [.rp [.int .i64 c],.rp [.int .i64 s]])∧st.s 7=DI l.length∧st.s 8=DI i) (fun i=>l.length - i) (fun i=>ok1 (I (reqAt c s i (l.drop i)))) ?_ 0 (by and_intros<;>first|omega|rfl|(simp only[↓xP,xQ,xR,xS,flatR,reduceLT,Nat.reduceBEq,reduceAdd,reduceSub]<;>first|done|rfl|omega))).trans (by rfl)
  rintro i st ⟨hle,h0,h1,h7,h8⟩ ih
  by_cases hi:i<l.length
  · obtain ⟨⟨⟨cl,sq,⟨kd,key,v,o⟩⟩,rp⟩,hx⟩:∃ x,l[i]?=some x:=⟨_,List.getElem?_eq_getElem hi⟩
    have hw:=w_succ (i:=i) (by omega)
    rw [drop_at hx]
    cases h:isReq ⟨⟨cl,sq,⟨kd,key,v,o⟩⟩,rp⟩ c s
    · simp only[↓xP,xQ,xR,xS,flatR,reduceLT,Nat.reduceBEq,reduceAdd,reduceSub,rdx2,h0,h1,h7,h8,hi,hx,hw,Answer.u,answerIs_ok,h]
      rw [ih (i+1) _ (by omega) (by and_intros<;>first|omega|rfl|(simp only[↓xP,xQ,xR,xS,flatR,reduceLT,Nat.reduceBEq,reduceAdd,reduceSub,h0,h1,h7]<;>first|done|rfl|omega))]
      simp [reqAt,h]
    · simp only[↓xP,xQ,xR,xS,flatR,reduceLT,Nat.reduceBEq,reduceAdd,reduceSub,rdx2,h0,h1,h7,h8,hi,hx,hw,Answer.u,answerIs_ok,h]
      simp [reqAt,h]
  · simp only[↓xP,xQ,xR,xS,flatR,reduceLT,Nat.reduceBEq,reduceAdd,reduceSub,h0,h1,h7,h8,hi]
    rw [List.drop_of_length_le (by omega)]; rfl
theorem answerPlace_ok (l:List Answer) (c s:Int) (hn:l.length≤1048576):EE F 72 [L 7 (l.map Answer.u),I c,I s] []=ok1 (I (reqAt c s 0 l)):=by
  rw [R72,b72]
  simp only[↓xP,xQ,xR,xS,flatR,reduceLT,Nat.reduceBEq,reduceAdd,reduceSub,List.map,answerIndex_ok l c s hn]
theorem l29has_ok (l:List Answer) (c s:Int) (hn:l.length≤1048576):EE F 89 [L 7 (l.map Answer.u),I c,I s] []=ok1 (B (hasReq l c s)):=by
  rw [R89,b89]
  simp only[↓xP,xQ,xR,xS,flatR,reduceLT,Nat.reduceBEq,reduceAdd,reduceSub]
  refine (loop_ind (fun (i:Nat) st=>i≤l.length∧st.s 0=DU (.sl 7 (l.map Answer.u))∧st.s 1=DI c∧st.s 2=DI s∧st.s 7=DI i) (fun i=>l.length - i) (fun i=>ok1 (B (hasReq (l.drop i) c s))) ?_ 0 (by and_intros<;>first|omega|rfl|(simp only[↓xP,xQ,xR,xS,flatR,reduceLT,Nat.reduceBEq,reduceAdd,reduceSub]<;>first|done|rfl|omega))).trans (by rfl)
  rintro i st ⟨hle,h0,h1,h2,h7⟩ ih
  by_cases hi:i<l.length
  · obtain ⟨⟨⟨cl,sq,⟨kd,key,v,o⟩⟩,rp⟩,hx⟩:∃ x,l[i]?=some x:=⟨_,List.getElem?_eq_getElem hi⟩
    have hw:=w_succ (i:=i) (by omega)
    rw [drop_at hx]
    cases q1:decide (cl=c)
    · simp only[↓xP,xQ,xR,xS,flatR,reduceLT,Nat.reduceBEq,reduceAdd,reduceSub,rdx2,h0,h1,h2,h7,hi,hx,hw,Answer.u,q1,List.length_map]
      rw [ih (i+1) _ (by omega) (by and_intros<;>first|omega|rfl|(simp only[↓xP,xQ,xR,xS,flatR,reduceLT,Nat.reduceBEq,reduceAdd,reduceSub,h0,h1,h2,hw]<;>first|done|rfl|omega))]
      simp [hasReq,isReq,q1]
    · cases q2:decide (sq=s)
      · simp only[↓xP,xQ,xR,xS,flatR,reduceLT,Nat.reduceBEq,reduceAdd,reduceSub,rdx2,h0,h1,h2,h7,hi,hx,hw,Answer.u,q1,q2,List.length_map]
        rw [ih (i+1) _ (by omega) (by and_intros<;>first|omega|rfl|(simp only[↓xP,xQ,xR,xS,flatR,reduceLT,Nat.reduceBEq,reduceAdd,reduceSub,h0,h1,h2,hw]<;>first|done|rfl|omega))]
        simp [hasReq,isReq,q1,q2]
      · simp only[↓xP,xQ,xR,xS,flatR,reduceLT,Nat.reduceBEq,reduceAdd,reduceSub,rdx2,h0,h1,h2,h7,hi,hx,hw,Answer.u,q1,q2,List.length_map]
        simp [hasReq,isReq,q1,q2]
  · simp only[↓xP,xQ,xR,xS,flatR,reduceLT,Nat.reduceBEq,reduceAdd,reduceSub,h0,h1,h2,h7,hi,List.length_map]
    rw [List.drop_of_length_le (by omega)]; rfl
def histsRet (l:List Answer):Option Ret:=some ⟨[.sc (.own (.par 0) l.length)],[.row 7 (l.map Answer.u)],[]⟩
theorem history_impl (c0:List Shard) (c1:List Caller) (c2:List Result) (c3 c4 c5:Int) (c6:Str) (c7 c8 c9 c10 c11:Int) (hs:Cluster.Small ⟨c0,c1,c2,⟨c3,c4,c5,c6,c7,c8,c9⟩,c10,c11⟩):EE F 36 [.ag [.u (.sl 14 (c0.map Shard.u)),.u (.sl 8 (c1.map Caller.u)),.u (.sl 9 (c2.map Result.u)),.u (.int .i64 c3),.u (.int .i64 c4),.u (.int .i64 c5),.u (.str c6),.u (.int .i64 c7),.u (.int .i64 c8),.u (.int .i64 c9),.u (.int .i64 c10),.u (.int .i64 c11)]] []=histsRet (history ⟨c0,c1,c2,⟨c3,c4,c5,c6,c7,c8,c9⟩,c10,c11⟩):=by
  have hcvs:=clusterValid_impl c0 c1 c2 c3 c4 c5 c6 c7 c8 c9 c10 c11 hs
  rw [R36,b36]
  cases hv:clusterValid ⟨c0,c1,c2,⟨c3,c4,c5,c6,c7,c8,c9⟩,c10,c11⟩
  · simp only[↓xP,xQ,xR,xS,flatR,reduceLT,Nat.reduceBEq,reduceAdd,reduceSub,hcvs,hv]
    simp [history,hv,histsRet]
  have h8:=cluster_eight hv
  have h24:=answers_24 hv
  have hrt:history ⟨c0,c1,c2,⟨c3,c4,c5,c6,c7,c8,c9⟩,c10,c11⟩=histS c0:=by simp [history,hv]
  rw [hrt]
  simp only[↓xP,xQ,xR,xS,flatR,reduceLT,Nat.reduceBEq,reduceAdd,reduceSub,hcvs,hv]
  refine loop_ind (fun (i:Nat) st=>i≤c0.length∧st.s 3=.t (.sc (.own (.loc 3 0) (histS (c0.take i)).length))∧st.o (.loc 3 0)=some (.row 7 ((histS (c0.take i)).map Answer.u))∧st.s 12=DU (.sl 14 (c0.map Shard.u))∧st.s 13=DI c0.length∧st.s 14=DI i) (fun i=>c0.length - i) (fun _=>histsRet (histS c0)) ?_ 0 (by and_intros<;>first|omega|rfl|(simp only[↓xP,xQ,xR,xS,flatR,reduceLT,Nat.reduceBEq,reduceAdd,reduceSub]<;>first|done|rfl|omega))
  rintro i st ⟨hle,h3,ho,h12,h13,h14⟩ ih
  by_cases hi:i<c0.length
  · obtain ⟨⟨live,⟨⟨⟨lo,up⟩,prs,kn,sld,cut⟩,⟨ep,ms,fr⟩,nds,ups,bag,ans⟩⟩,hx⟩:∃ x,c0[i]?=some x:=⟨_,List.getElem?_eq_getElem hi⟩
    have hw:=w_succ (i:=i) (by omega)
    have hal:=h24 _ (List.mem_of_getElem? hx)
    have hstep:=histS_step hx
    have hhl:=histS_len h24 i hle
    simp only at hal hstep
    simp only[↓xP,xQ,xR,xS,flatR,reduceLT,Nat.reduceBEq,reduceAdd,reduceSub,h3,ho,h12,h13,h14,hi,hx,Shard.u]
    refine loop_ind (fun (j:Nat) st=>j≤ans.length∧st.s 3=.t (.sc (.own (.loc 3 0) (histOf (histS (c0.take i)) (ans.take j)).length))∧st.o (.loc 3 0)=some (.row 7 ((histOf (histS (c0.take i)) (ans.take j)).map Answer.u))∧st.s 12=DU (.sl 14 (c0.map Shard.u))∧st.s 13=DI c0.length∧st.s 14=DI i∧st.s 20=DU (.sl 7 (ans.map Answer.u))∧st.s 21=DI ans.length∧st.s 22=DI j) (fun j=>ans.length - j) (fun _=>histsRet (histS c0)) ?_ 0 (by and_intros<;>first|omega|rfl|(simp only[↓xP,xQ,xR,xS,flatR,reduceLT,Nat.reduceBEq,reduceAdd,reduceSub,h3,ho,h12,h13,h14,histOf,List.take_zero,List.foldl_nil]<;>first|done|rfl|omega))
    clear h3 ho h12 h13 h14
    rintro j st ⟨hjl,h3,ho,h12,h13,h14,h20,h21,h22⟩ ih2
    by_cases hj:j<ans.length
    · obtain ⟨⟨⟨cl,sq,⟨kd,key,v,o⟩⟩,rp⟩,hy⟩:∃ x,ans[j]?=some x:=⟨_,List.getElem?_eq_getElem hj⟩
      have hw2:=w_succ (i:=j) (by omega)
      have hst2:=histOf_step (o:=histS (c0.take i)) hy
      have hol:=histOf_len (ans.take j) (histS (c0.take i))
      rw [List.length_take] at hol
      generalize histOf (histS (c0.take i)) (ans.take j)=O at h3 ho hst2 hol
      have hO:O.length≤1048576:=by omega
      have m1:O.length+1≤maxLen:=by simp [maxLen]; omega
      have m2:(O.length+1)*64≤140737488355328:=by omega
      have hap:=answerPlace_ok O cl sq hO
      have hlt:=reqAt_lt cl sq 0 O
      cases q1:decide (cl=0)
      · cases q2:decide (-2≤rp)
        · simp only[↓xP,xQ,xR,xS,flatR,reduceLT,Nat.reduceBEq,reduceAdd,reduceSub,rdx2,h3,ho,h12,h13,h14,h20,h21,h22,hj,hy,hw2,Answer.u,q1,q2,ge_iff_le,ne_eq,decide_not]
          exact ih2 (j+1) _ (by omega) (by and_intros<;>first|omega|rfl|(simp only[↓xP,xQ,xR,xS,flatR,reduceLT,Nat.reduceBEq,reduceAdd,reduceSub,h3,ho,h12,h13,h14,h20,h21,hst2,histAdd,takes,q1,q2]<;>first|done|rfl|omega))
        · cases q3:hasReq O cl sq
          · rw [q3] at hlt
            simp only[↓xP,xQ,xR,xS,flatR,reduceLT,Nat.reduceBEq,reduceAdd,reduceSub,rdx2,h3,ho,h12,h13,h14,h20,h21,h22,hj,hy,hw2,Answer.u,q1,q2,ge_iff_le,ne_eq,decide_not,hap,hlt,map_all,List.length_map,m1,m2]
            have e:histAdd O ⟨⟨cl,sq,⟨kd,key,v,o⟩⟩,rp⟩=O++[⟨⟨cl,sq,⟨kd,key,v,o⟩⟩,rp⟩]:=by simp [histAdd,takes,q1,q2,q3]
            rw [e] at hst2
            exact ih2 (j+1) _ (by omega) (by and_intros<;>first|omega|rfl|(simp only[↓xP,xQ,xR,xS,flatR,reduceLT,Nat.reduceBEq,reduceAdd,reduceSub,h3,ho,h12,h13,h14,h20,h21,hst2,List.length_append,List.map_append,List.length_cons,List.length_nil,List.map_cons,List.map_nil,Answer.u]<;>first|done|rfl|omega))
          · rw [q3] at hlt
            simp only[↓xP,xQ,xR,xS,flatR,reduceLT,Nat.reduceBEq,reduceAdd,reduceSub,rdx2,h3,ho,h12,h13,h14,h20,h21,h22,hj,hy,hw2,Answer.u,q1,q2,ge_iff_le,ne_eq,decide_not,hap,hlt,map_all]
            exact ih2 (j+1) _ (by omega) (by and_intros<;>first|omega|rfl|(simp only[↓xP,xQ,xR,xS,flatR,reduceLT,Nat.reduceBEq,reduceAdd,reduceSub,h3,ho,h12,h13,h14,h20,h21,hst2,histAdd,takes,q1,q2,q3]<;>first|done|rfl|omega))
      · simp only[↓xP,xQ,xR,xS,flatR,reduceLT,Nat.reduceBEq,reduceAdd,reduceSub,rdx2,h3,ho,h12,h13,h14,h20,h21,h22,hj,hy,hw2,Answer.u,q1,ne_eq,decide_not]
        exact ih2 (j+1) _ (by omega) (by and_intros<;>first|omega|rfl|(simp only[↓xP,xQ,xR,xS,flatR,reduceLT,Nat.reduceBEq,reduceAdd,reduceSub,h3,ho,h12,h13,h14,h20,h21,hst2,histAdd,takes,q1]<;>first|done|rfl|omega))
    · have hall:ans.take j=ans:=List.take_of_length_le (by omega)
      rw [hall,←hstep] at h3 ho
      simp only[↓xP,xQ,xR,xS,flatR,reduceLT,Nat.reduceBEq,reduceAdd,reduceSub,h3,ho,h12,h13,h14,h20,h21,h22,hj,hw]
      exact ih (i+1) _ (by omega) (by and_intros<;>first|omega|rfl|(simp only[↓xP,xQ,xR,xS,flatR,reduceLT,Nat.reduceBEq,reduceAdd,reduceSub,h3,ho,h12,h13]<;>first|done|rfl|omega))
  · have hall:c0.take i=c0:=List.take_of_length_le (by omega)
    rw [hall] at h3 ho
    simp only[↓xP,xQ,xR,xS,flatR,reduceLT,Nat.reduceBEq,reduceAdd,reduceSub,h3,ho,h12,h13,h14,hi,histsRet]
theorem history_spec (c0:List Shard) (c1:List Caller) (c2:List Result) (c3 c4 c5:Int) (c6:Str) (c7 c8 c9 c10 c11:Int) (hs:Cluster.Small ⟨c0,c1,c2,⟨c3,c4,c5,c6,c7,c8,c9⟩,c10,c11⟩):EE F 35 [.ag [.u (.sl 14 (c0.map Shard.u)),.u (.sl 8 (c1.map Caller.u)),.u (.sl 9 (c2.map Result.u)),.u (.int .i64 c3),.u (.int .i64 c4),.u (.int .i64 c5),.u (.str c6),.u (.int .i64 c7),.u (.int .i64 c8),.u (.int .i64 c9),.u (.int .i64 c10),.u (.int .i64 c11)]] []=histsRet (history ⟨c0,c1,c2,⟨c3,c4,c5,c6,c7,c8,c9⟩,c10,c11⟩):=by
  have hcvs:=clusterValid_spec c0 c1 c2 c3 c4 c5 c6 c7 c8 c9 c10 c11 hs
  rw [R35,b35]
  cases hv:clusterValid ⟨c0,c1,c2,⟨c3,c4,c5,c6,c7,c8,c9⟩,c10,c11⟩
  · simp only[↓xP,xQ,xR,xS,flatR,reduceLT,Nat.reduceBEq,reduceAdd,reduceSub,hcvs,hv]
    simp [history,hv,histsRet]
  have h8:=cluster_eight hv
  have h24:=answers_24 hv
  have hrt:history ⟨c0,c1,c2,⟨c3,c4,c5,c6,c7,c8,c9⟩,c10,c11⟩=histS c0:=by simp [history,hv]
  rw [hrt]
  simp only[↓xP,xQ,xR,xS,flatR,reduceLT,Nat.reduceBEq,reduceAdd,reduceSub,hcvs,hv]
  refine loop_ind (fun (i:Nat) st=>i≤c0.length∧st.s 1=.t (.sc (.ptr (.loc 1 0) 0 0))∧st.o (.loc 1 0)=some (.box [.u (.sl 14 (c0.map Shard.u)),.u (.sl 8 (c1.map Caller.u)),.u (.sl 9 (c2.map Result.u)),.u (.int .i64 c3),.u (.int .i64 c4),.u (.int .i64 c5),.u (.str c6),.u (.int .i64 c7),.u (.int .i64 c8),.u (.int .i64 c9),.u (.int .i64 c10),.u (.int .i64 c11)])∧st.s 3=.t (.sc (.own (.loc 8 0) (histS (c0.take i)).length))∧st.o (.loc 8 0)=some (.row 7 ((histS (c0.take i)).map Answer.u))∧st.s 4=DI i) (fun i=>c0.length - i) (fun _=>histsRet (histS c0)) ?_ 0 (by and_intros<;>first|omega|rfl|(simp only[↓xP,xQ,xR,xS,flatR,reduceLT,Nat.reduceBEq,reduceAdd,reduceSub]<;>first|done|rfl|omega))
  rintro i st ⟨hle,h1,hb,h3,ho,h4⟩ ih
  by_cases hi:i<c0.length
  · obtain ⟨⟨live,⟨⟨⟨lo,up⟩,prs,kn,sld,cut⟩,⟨ep,ms,fr⟩,nds,ups,bag,ans⟩⟩,hx⟩:∃ x,c0[i]?=some x:=⟨_,List.getElem?_eq_getElem hi⟩
    have hw:=w_succ (i:=i) (by omega)
    have hal:=h24 _ (List.mem_of_getElem? hx)
    have hstep:=histS_step hx
    have hhl:=histS_len h24 i hle
    simp only at hal hstep
    simp only[↓xP,xQ,xR,xS,flatR,reduceLT,Nat.reduceBEq,reduceAdd,reduceSub,h1,hb,h3,ho,h4,hi,hx,Shard.u]
    refine loop_ind (fun (j:Nat) st=>j≤ans.length∧st.s 1=.t (.sc (.ptr (.loc 1 0) 0 0))∧st.o (.loc 1 0)=some (.box [.u (.sl 14 (c0.map Shard.u)),.u (.sl 8 (c1.map Caller.u)),.u (.sl 9 (c2.map Result.u)),.u (.int .i64 c3),.u (.int .i64 c4),.u (.int .i64 c5),.u (.str c6),.u (.int .i64 c7),.u (.int .i64 c8),.u (.int .i64 c9),.u (.int .i64 c10),.u (.int .i64 c11)])∧st.s 3=.t (.sc (.own (.loc 8 0) (histOf (histS (c0.take i)) (ans.take j)).length))∧st.o (.loc 8 0)=some (.row 7 ((histOf (histS (c0.take i)) (ans.take j)).map Answer.u))∧st.s 4=DI i∧st.s 5=DU (.sl 7 (ans.map Answer.u))∧st.s 6=DI j) (fun j=>ans.length - j) (fun _=>histsRet (histS c0)) ?_ 0 (by and_intros<;>first|omega|rfl|(simp only[↓xP,xQ,xR,xS,flatR,reduceLT,Nat.reduceBEq,reduceAdd,reduceSub,h1,hb,h3,ho,h4,histOf,List.take_zero,List.foldl_nil]<;>first|done|rfl|omega))
    clear h1 hb h3 ho h4
    rintro j st ⟨hjl,h1,hb,h3,ho,h4,h5,h6⟩ ih2
    by_cases hj:j<ans.length
    · obtain ⟨⟨⟨cl,sq,⟨kd,key,v,o⟩⟩,rp⟩,hy⟩:∃ x,ans[j]?=some x:=⟨_,List.getElem?_eq_getElem hj⟩
      have hw2:=w_succ (i:=j) (by omega)
      have hst2:=histOf_step (o:=histS (c0.take i)) hy
      have hol:=histOf_len (ans.take j) (histS (c0.take i))
      rw [List.length_take] at hol
      generalize histOf (histS (c0.take i)) (ans.take j)=O at h3 ho hst2 hol
      have hO:O.length≤1048576:=by omega
      have m1:O.length+1≤maxLen:=by simp [maxLen]; omega
      have m2:(O.length+1)*64≤140737488355328:=by omega
      have hap:=l29has_ok O cl sq hO
      cases q1:decide (cl=0)
      · cases q2:decide (-2≤rp)
        · simp only[↓xP,xQ,xR,xS,flatR,reduceLT,Nat.reduceBEq,reduceAdd,reduceSub,rdx2,h1,hb,h3,ho,h4,h5,h6,hj,hy,hw2,Answer.u,q1,q2,ge_iff_le,ne_eq,decide_not,List.length_map]
          exact ih2 (j+1) _ (by omega) (by and_intros<;>first|omega|rfl|(simp only[↓xP,xQ,xR,xS,flatR,reduceLT,Nat.reduceBEq,reduceAdd,reduceSub,h1,hb,h3,ho,h4,h5,hw2,hst2,histAdd,takes,q1,q2]<;>first|done|rfl|omega))
        · cases q3:hasReq O cl sq
          · simp only[↓xP,xQ,xR,xS,flatR,reduceLT,Nat.reduceBEq,reduceAdd,reduceSub,rdx2,h1,hb,h3,ho,h4,h5,h6,hj,hy,hw2,Answer.u,q1,q2,ge_iff_le,ne_eq,decide_not,hap,q3,map_all,List.length_map,m1,m2]
            have e:histAdd O ⟨⟨cl,sq,⟨kd,key,v,o⟩⟩,rp⟩=O++[⟨⟨cl,sq,⟨kd,key,v,o⟩⟩,rp⟩]:=by simp [histAdd,takes,q1,q2,q3]
            rw [e] at hst2
            exact ih2 (j+1) _ (by omega) (by and_intros<;>first|omega|rfl|(simp only[↓xP,xQ,xR,xS,flatR,reduceLT,Nat.reduceBEq,reduceAdd,reduceSub,h1,hb,h3,ho,h4,h5,hw2,hst2,List.length_append,List.map_append,List.length_cons,List.length_nil,List.map_cons,List.map_nil,Answer.u]<;>first|done|rfl|omega))
          · simp only[↓xP,xQ,xR,xS,flatR,reduceLT,Nat.reduceBEq,reduceAdd,reduceSub,rdx2,h1,hb,h3,ho,h4,h5,h6,hj,hy,hw2,Answer.u,q1,q2,ge_iff_le,ne_eq,decide_not,hap,q3,map_all,List.length_map]
            exact ih2 (j+1) _ (by omega) (by and_intros<;>first|omega|rfl|(simp only[↓xP,xQ,xR,xS,flatR,reduceLT,Nat.reduceBEq,reduceAdd,reduceSub,h1,hb,h3,ho,h4,h5,hw2,hst2,histAdd,takes,q1,q2,q3]<;>first|done|rfl|omega))
      · simp only[↓xP,xQ,xR,xS,flatR,reduceLT,Nat.reduceBEq,reduceAdd,reduceSub,rdx2,h1,hb,h3,ho,h4,h5,h6,hj,hy,hw2,Answer.u,q1,ne_eq,decide_not,List.length_map]
        exact ih2 (j+1) _ (by omega) (by and_intros<;>first|omega|rfl|(simp only[↓xP,xQ,xR,xS,flatR,reduceLT,Nat.reduceBEq,reduceAdd,reduceSub,h1,hb,h3,ho,h4,h5,hw2,hst2,histAdd,takes,q1]<;>first|done|rfl|omega))
    · have hall:ans.take j=ans:=List.take_of_length_le (by omega)
      rw [hall,←hstep] at h3 ho
      simp only[↓xP,xQ,xR,xS,flatR,reduceLT,Nat.reduceBEq,reduceAdd,reduceSub,h1,hb,h3,ho,h4,h5,h6,hj,hw,List.length_map]
      exact ih (i+1) _ (by omega) (by and_intros<;>first|omega|rfl|(simp only[↓xP,xQ,xR,xS,flatR,reduceLT,Nat.reduceBEq,reduceAdd,reduceSub,h1,hb,h3,ho]<;>first|done|rfl|omega))
  · have hall:c0.take i=c0:=List.take_of_length_le (by omega)
    rw [hall] at h3 ho
    simp only[↓xP,xQ,xR,xS,flatR,reduceLT,Nat.reduceBEq,reduceAdd,reduceSub,h1,hb,h3,ho,h4,hi,histsRet]
def resultPlace (x:Cluster) (n:Int):Int:=if clusterValid x=true then (if n<0 then -1 else match x.results[n.toNat]? with
  | some r=>reqAt r.client r.seq 0 (history x)
  | none=>-1) else -1
theorem history_len {c0:List Shard} {c1:List Caller} {c2:List Result} {w:Plan} {a b:Int} (h:clusterValid ⟨c0,c1,c2,w,a,b⟩=true):(history ⟨c0,c1,c2,w,a,b⟩).length≤200:=by
  have h8:=cluster_eight h
  have:=histS_len (answers_24 h) c0.length (Nat.le_refl _)
  rw [List.take_length] at this
  simp only[history,h,if_true]
  omega
theorem resultPlace_impl (c0:List Shard) (c1:List Caller) (c2:List Result) (c3 c4 c5:Int) (c6:Str) (c7 c8 c9 c10 c11:Int) (n:Int) (hs:Cluster.Small ⟨c0,c1,c2,⟨c3,c4,c5,c6,c7,c8,c9⟩,c10,c11⟩):EE F 17 [.ag [.u (.sl 14 (c0.map Shard.u)),.u (.sl 8 (c1.map Caller.u)),.u (.sl 9 (c2.map Result.u)),.u (.int .i64 c3),.u (.int .i64 c4),.u (.int .i64 c5),.u (.str c6),.u (.int .i64 c7),.u (.int .i64 c8),.u (.int .i64 c9),.u (.int .i64 c10),.u (.int .i64 c11)],I n] []=ok1 (I (resultPlace ⟨c0,c1,c2,⟨c3,c4,c5,c6,c7,c8,c9⟩,c10,c11⟩ n)):=by
  have hcvs:=clusterValid_impl c0 c1 c2 c3 c4 c5 c6 c7 c8 c9 c10 c11 hs
  have hh:=history_impl c0 c1 c2 c3 c4 c5 c6 c7 c8 c9 c10 c11 hs
  have hn2:c2.length≤1048576:=hs.2.2.1.1
  rw [R17,b17]
  cases hv:clusterValid ⟨c0,c1,c2,⟨c3,c4,c5,c6,c7,c8,c9⟩,c10,c11⟩
  · simp only[↓xP,xQ,xR,xS,flatR,reduceLT,Nat.reduceBEq,reduceAdd,reduceSub,hcvs,hv]
    simp [resultPlace,hv]
  have hhl:=history_len hv
  by_cases h0:n<0
  · simp only[↓xP,xQ,xR,xS,flatR,reduceLT,Nat.reduceBEq,reduceAdd,reduceSub,hcvs,hv,h0]
    simp [resultPlace,hv,h0]
  obtain ⟨k,rfl⟩:∃ k:Nat,n=(k:Int):=⟨n.toNat,by omega⟩
  by_cases hk:k<c2.length
  · obtain ⟨⟨cl,sq,⟨kd,key,v,o⟩,rp,cd,rt⟩,hx⟩:∃ x,c2[k]?=some x:=⟨_,List.getElem?_eq_getElem hk⟩
    have hge:¬(c2.length:Int)≤(k:Int):=by omega
    have hr:resultPlace ⟨c0,c1,c2,⟨c3,c4,c5,c6,c7,c8,c9⟩,c10,c11⟩ (k:Int)=reqAt cl sq 0 (history ⟨c0,c1,c2,⟨c3,c4,c5,c6,c7,c8,c9⟩,c10,c11⟩):=by
      have hkn:¬(k:Int)<0:=by omega
      simp [resultPlace,hv,hx,hkn]
    rw [hr]
    generalize history ⟨c0,c1,c2,⟨c3,c4,c5,c6,c7,c8,c9⟩,c10,c11⟩=H at hh hhl
    simp only[histsRet] at hh
    have hap:=answerPlace_ok H cl sq (by omega)
    simp only[↓xP,xQ,xR,xS,flatR,reduceLT,Nat.reduceBEq,reduceAdd,reduceSub,rdx,rdx2,dead1,hcvs,hv,h0,hge,hh,hap,hk,hx,Result.u,map_all,List.length_map,ge_iff_le]
  · have hge:(c2.length:Int)≤(k:Int):=by omega
    have hno:c2[k]?=none:=List.getElem?_eq_none (by omega)
    simp only[↓xP,xQ,xR,xS,flatR,reduceLT,Nat.reduceBEq,reduceAdd,reduceSub,hcvs,hv,h0,hge,List.length_map,ge_iff_le]
    simp [resultPlace,hv,hno]
theorem resultPlace_spec (c0:List Shard) (c1:List Caller) (c2:List Result) (c3 c4 c5:Int) (c6:Str) (c7 c8 c9 c10 c11:Int) (n:Int) (hs:Cluster.Small ⟨c0,c1,c2,⟨c3,c4,c5,c6,c7,c8,c9⟩,c10,c11⟩):EE F 15 [.ag [.u (.sl 14 (c0.map Shard.u)),.u (.sl 8 (c1.map Caller.u)),.u (.sl 9 (c2.map Result.u)),.u (.int .i64 c3),.u (.int .i64 c4),.u (.int .i64 c5),.u (.str c6),.u (.int .i64 c7),.u (.int .i64 c8),.u (.int .i64 c9),.u (.int .i64 c10),.u (.int .i64 c11)],I n] []=ok1 (I (resultPlace ⟨c0,c1,c2,⟨c3,c4,c5,c6,c7,c8,c9⟩,c10,c11⟩ n)):=by
  have hcvs:=clusterValid_spec c0 c1 c2 c3 c4 c5 c6 c7 c8 c9 c10 c11 hs
  have hh:=history_spec c0 c1 c2 c3 c4 c5 c6 c7 c8 c9 c10 c11 hs
  have hn2:c2.length≤1048576:=hs.2.2.1.1
  have hwr:IntKind.i64.wrap ((c2.length:Int) - 1)=(c2.length:Int) - 1:=w64 (by omega) (by omega)
  rw [R15,b15]
  simp only[histsRet] at hh
  cases hv:clusterValid ⟨c0,c1,c2,⟨c3,c4,c5,c6,c7,c8,c9⟩,c10,c11⟩
  · simp only[↓xP,xQ,xR,xS,flatR,reduceLT,Nat.reduceBEq,reduceAdd,reduceSub,hh,hcvs,hv,List.length_map]
    simp [resultPlace,hv]
  have hhl:=history_len hv
  by_cases hin:0≤n∧n≤(c2.length:Int) - 1
  · obtain ⟨k,rfl⟩:∃ k:Nat,n=(k:Int):=⟨n.toNat,by omega⟩
    have hk:k<c2.length:=by omega
    have hir:inR (k:Int) 0 ((c2.length:Int) - 1)=true:=by simp only[inR,Bool.and_eq_true,decide_eq_true_eq]; omega
    obtain ⟨⟨cl,sq,⟨kd,key,v,o⟩,rp,cd,rt⟩,hx⟩:∃ x,c2[k]?=some x:=⟨_,List.getElem?_eq_getElem hk⟩
    have h0:¬(k:Int)<0:=by omega
    have hr:resultPlace ⟨c0,c1,c2,⟨c3,c4,c5,c6,c7,c8,c9⟩,c10,c11⟩ (k:Int)=reqAt cl sq 0 (history ⟨c0,c1,c2,⟨c3,c4,c5,c6,c7,c8,c9⟩,c10,c11⟩):=by
      have hkn:¬(k:Int)<0:=by omega
      simp [resultPlace,hv,hx,hkn]
    rw [hr]
    generalize history ⟨c0,c1,c2,⟨c3,c4,c5,c6,c7,c8,c9⟩,c10,c11⟩=H at hh hhl
    simp only[↓xP,xQ,xR,xS,flatR,reduceLT,Nat.reduceBEq,reduceAdd,reduceSub,hh,hcvs,hv,l1In_ok,hwr,hir,List.length_map]
    refine (loop_ind (fun (i:Nat) st=>i≤H.length∧st.s 1=DI k∧st.s 2=.t (.sc (.ptr (.loc 2 0) 0 0))∧st.o (.loc 2 0)=some (.box [.u (.sl 14 (c0.map Shard.u)),.u (.sl 8 (c1.map Caller.u)),.u (.sl 9 (c2.map Result.u)),.u (.int .i64 c3),.u (.int .i64 c4),.u (.int .i64 c5),.u (.str c6),.u (.int .i64 c7),.u (.int .i64 c8),.u (.int .i64 c9),.u (.int .i64 c10),.u (.int .i64 c11)])∧st.s 5=.t (.sc (.own (.loc 8 0) H.length))∧st.o (.loc 8 0)=some (.row 7 (H.map Answer.u))∧st.s 6=DI i) (fun i=>H.length - i) (fun i=>ok1 (I (reqAt cl sq i (H.drop i)))) ?_ 0 (by and_intros<;>first|omega|rfl|(simp only[↓xP,xQ,xR,xS,flatR,reduceLT,Nat.reduceBEq,reduceAdd,reduceSub]<;>first|done|rfl|omega))).trans (by rfl)
    rintro i st ⟨hle,h1,h2,hb,h5,ho,h6⟩ ih
    by_cases hi:i<H.length
    · obtain ⟨⟨⟨al,aq,⟨akd,akey,av,ao⟩⟩,arp⟩,hy⟩:∃ x,H[i]?=some x:=⟨_,List.getElem?_eq_getElem hi⟩
      have hw:=w_succ (i:=i) (by omega)
      rw [drop_at hy]
      cases q1:decide (al=cl)
      · simp only[↓xP,xQ,xR,xS,flatR,reduceLT,Nat.reduceBEq,reduceAdd,reduceSub,rdx,rdx2,h1,h2,hb,h5,ho,h6,hi,hy,hk,hx,hw,Answer.u,Result.u,q1]
        rw [ih (i+1) _ (by omega) (by and_intros<;>first|omega|rfl|(simp only[↓xP,xQ,xR,xS,flatR,reduceLT,Nat.reduceBEq,reduceAdd,reduceSub,h1,h2,hb,h5,ho,hw]<;>first|done|rfl|omega))]
        simp [reqAt,isReq,q1]
      · cases q2:decide (aq=sq)
        · simp only[↓xP,xQ,xR,xS,flatR,reduceLT,Nat.reduceBEq,reduceAdd,reduceSub,rdx,rdx2,h1,h2,hb,h5,ho,h6,hi,hy,hk,hx,hw,Answer.u,Result.u,q1,q2]
          rw [ih (i+1) _ (by omega) (by and_intros<;>first|omega|rfl|(simp only[↓xP,xQ,xR,xS,flatR,reduceLT,Nat.reduceBEq,reduceAdd,reduceSub,h1,h2,hb,h5,ho,hw]<;>first|done|rfl|omega))]
          simp [reqAt,isReq,q1,q2]
        · simp only[↓xP,xQ,xR,xS,flatR,reduceLT,Nat.reduceBEq,reduceAdd,reduceSub,rdx,rdx2,h1,h2,hb,h5,ho,h6,hi,hy,hk,hx,hw,Answer.u,Result.u,q1,q2]
          simp [reqAt,isReq,q1,q2]
    · simp only[↓xP,xQ,xR,xS,flatR,reduceLT,Nat.reduceBEq,reduceAdd,reduceSub,h1,h2,hb,h5,ho,h6,hi]
      rw [List.drop_of_length_le (by omega)]; rfl
  · have hir:inR n 0 ((c2.length:Int) - 1)=false:=by
      rw [Bool.eq_false_iff]
      intro h
      simp only[inR,Bool.and_eq_true,decide_eq_true_eq] at h
      exact hin h
    have hr:resultPlace ⟨c0,c1,c2,⟨c3,c4,c5,c6,c7,c8,c9⟩,c10,c11⟩ n = -1:=by
      by_cases h0:n<0
      · simp [resultPlace,h0]
      · have hno:c2[n.toNat]?=none:=List.getElem?_eq_none (by omega)
        simp [resultPlace,h0,hno]
    rw [hr]
    simp only[↓xP,xQ,xR,xS,flatR,reduceLT,Nat.reduceBEq,reduceAdd,reduceSub,hh,hcvs,hv,l1In_ok,hwr,hir,List.length_map]
theorem dead3 (st:St) (d:Nat):st.dead d 3=(isNo (st.o (.loc d 0))&&(isNo (st.o (.loc d 1))&&isNo (st.o (.loc d 2)))):=by simp [St.dead,isNo,List.range_succ,Bool.and_assoc]
theorem app3 (st:St) (d:Nat) (v:D) (a b c:Id) (x y z:Obj) (rd:List Id):Fx.app ⟨some d,v,[(a,x),(b,y),(c,z)],rd⟩ st=(((st.obj a (some x)).obj b (some y)).obj c (some z)).put d v:=rfl
theorem law_FnExactResultPlace (us:List U) (hl:us.length=12) (ht:∀ (j:Nat) ty u,[Ty.sl [.b,.s,.s,.sl [.s,.i .i64],.sl [.i .i64,.i .i64,.i .i64],.b,.s,.i .i64,.sl [.i .i64],.b,.sl [.i .i64,.sl [.i .i64],.b,.b,.sl [.i .i64,.i .i64,.i .i64,.s,.i .i64,.i .i64]],.sl [.b],.sl [.i .i64,.i .i64,.i .i64,.i .i64,.sl [.i .i64],.b,.sl [.i .i64,.i .i64,.i .i64,.s,.i .i64,.i .i64]],.sl [.i .i64,.i .i64,.i .i64,.s,.i .i64,.i .i64,.i .i64]],.sl [.sl [.i .i64,.s,.s],.i .i64,.b,.i .i64,.s,.i .i64,.i .i64,.i .i64],.sl [.i .i64,.i .i64,.i .i64,.s,.i .i64,.i .i64,.i .i64,.i .i64,.i .i64],.i .i64,.i .i64,.i .i64,.s,.i .i64,.i .i64,.i .i64,.i .i64,.i .i64][j]?=some ty→us[j]?=some u→UT ty u) (u:U) (hu:UT (.i .i64) u):EE F 3 [.ag (us.map .u),.sc (.u u)] []=ok1 (B true):=by
  obtain ⟨⟨c0,c1,c2,⟨c3,c4,c5,c6,c7,c8,c9⟩,c10,c11⟩,rfl,hf⟩:=Cluster.of us hl ht
  obtain ⟨n,rfl,_⟩:=hu.int_of
  rw [R3,b3]
  simp only[↓xP,xQ,xR,xS,flatR,reduceLT,Nat.reduceBEq,reduceAdd,reduceSub,Cluster.u,List.map,szCluster_ok c0 c1 c2 c3 c4 c5 c6 c7 c8 c9 c10 c11 hf]
  refine sel_split (fun h=>?_) (fun h=>?_)
  · rfl
  simp only[decide_eq_false_iff_not] at h
  have hs:=(szCluster_le _ hf 1048576 (by omega) (by omega)).2 (by omega)
  have hi:=resultPlace_impl c0 c1 c2 c3 c4 c5 c6 c7 c8 c9 c10 c11 n hs
  have hsp:=resultPlace_spec c0 c1 c2 c3 c4 c5 c6 c7 c8 c9 c10 c11 n hs
  simp only[↓xP,xQ,xR,xS,flatR,reduceLT,Nat.reduceBEq,reduceAdd,reduceSub,rdx,rdx2,ofR,dead3,app3,List.getElem?_nil,toCluster_ok c0 c1 c2 c3 c4 c5 c6 c7 c8 c9 c10 c11 hs,hi,hsp,eqCluster_ok c0 c1 c2 c3 c4 c5 c6 c7 c8 c9 c10 c11 hs,map_all,List.length_map,ne_eq,not_true_eq_false]
end Go.Proofs.YtmfjkbbmhaofbaaGreatV
