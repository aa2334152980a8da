/- Lemmas of functions that the law FnExactClusterRest reaches, and that it returns true for all data of its types. No conditions but those that the lemmas state. -/
import Derived.Test.YtmfjkbbmhaofbaaGreatA1
namespace Go.Proofs.YtmfjkbbmhaofbaaGreatV
open Go Go.RowKit
open Nat (reduceLT reduceAdd reduceSub)
open IOp (dst isF args)
set_option linter.unusedVariables false
set_option linter.unusedSimpArgs false
set_option maxRecDepth 4000
theorem equalB_ok (l m:List Bool) (hn:l.length≤1048576):EE F 125 [L 1 (l.map bU),L 1 (m.map bU)] []=ok1 (B (decide (l=m))):=by
  rw [R125,b125]
  by_cases hl:l.length=m.length
  · have hl':((l.length:Int)=(m.length:Int))=True:=by simp; omega
    simp only[↓xP,xQ,xR,xS,flatR,reduceLT,Nat.reduceBEq,reduceAdd,reduceSub,List.length_map,ne_eq,hl',not_true_eq_false]
    refine (loop_ind (fun (i:Nat) st=>st.s 0=DU (.sl 1 (l.map bU))∧st.s 1=DU (.sl 1 (m.map bU))∧st.s 11=DU (.sl 1 (l.map bU))∧st.s 12=DI l.length∧st.s 13=DI i) (fun i=>l.length - i) (fun i=>ok1 (B (decide (l.drop i=m.drop i)))) ?_ 0 (by and_intros<;>first|omega|rfl|(simp only[↓xP,xQ,xR,xS,flatR,reduceLT,Nat.reduceBEq,reduceAdd,reduceSub]<;>first|done|rfl|omega))).trans (by simp)
    rintro i st ⟨h0,h1,h11,h12,h13⟩ ih
    by_cases hi:i<l.length
    · obtain ⟨x,hx⟩:∃ x,l[i]?=some x:=⟨_,List.getElem?_eq_getElem hi⟩
      obtain ⟨y,hy⟩:∃ x,m[i]?=some x:=⟨_,List.getElem?_eq_getElem (by omega)⟩
      have hi2:i<m.length:=by omega
      have hw:=w_succ (i:=i) (by omega)
      rw [drop_at hx,drop_at hy]
      by_cases e:x=y
      · subst e
        simp only[↓xP,xQ,xR,xS,flatR,reduceLT,Nat.reduceBEq,reduceAdd,reduceSub,rdx2,h0,h1,h11,h12,h13,hi,hi2,hx,hy,hw,bU]
        rw [ih (i+1) _ (by omega) (by and_intros<;>first|omega|rfl|(simp only[↓xP,xQ,xR,xS,flatR,reduceLT,Nat.reduceBEq,reduceAdd,reduceSub,h0,h1,h11,h12]<;>first|done|rfl|omega))]
        simp
      · have hb:(x==y)=false:=by simpa using e
        simp only[↓xP,xQ,xR,xS,flatR,reduceLT,Nat.reduceBEq,reduceAdd,reduceSub,rdx2,h0,h1,h11,h12,h13,hi,hi2,hx,hy,hw,bU,hb]
        simp [e]
    · simp only[↓xP,xQ,xR,xS,flatR,reduceLT,Nat.reduceBEq,reduceAdd,reduceSub,h0,h1,h11,h12,h13,hi]
      rw [List.drop_of_length_le (by omega),List.drop_of_length_le (by omega)]; rfl
  · have hl':((l.length:Int)=(m.length:Int))=False:=by simp; omega
    have:¬l=m:=fun e=>hl (by rw [e])
    simp only[↓xP,xQ,xR,xS,flatR,reduceLT,Nat.reduceBEq,reduceAdd,reduceSub,List.length_map,ne_eq,hl',not_false_eq_true]
    simp [this]
def freeCaller (c:Caller):Bool:=decide (c.cache.length=0)&&decide (c.seq=0)
def upOf (l:List Shard):List Bool:=match l with
  | []=>[]
  | s::_=>s.group.up
def firstFree (l:List Caller):Bool:=match l with
  | []=>false
  | c::_=>freeCaller c
def shardOk (u:List Bool) (s:Shard):Bool:=chainValid s.group&&decide (s.group.up=u)
def sizesOk (x:Cluster):Bool:=decide (1≤x.shards.length)&&decide (x.shards.length≤8)&&decide (x.clients.length=4)&&decide (x.results.length≤40)
def endsOk (x:Cluster):Bool:=routesValid (routesOf x.shards)&&firstFree x.clients&&inR x.turn 0 999&&inR x.clock 0 200
def clusterValid (x:Cluster):Bool:=sizesOk x&&x.shards.all (shardOk (upOf x.shards))&&x.clients.all callerValid&&x.results.all resultValid&&workOk x.work x.shards.length&&endsOk x
theorem noCaller_free {c:Caller} (h:callerValid c=true):(decide (c.cache.length=0)&&decide (c.seq=0)&&!c.busy&&noCommand c.wish&&decide (c.called=0))=freeCaller c:=by
  obtain ⟨l,s,bz,w,cd⟩:=c
  simp only[callerValid,Bool.and_eq_true] at h
  obtain ⟨_,h⟩:=h
  cases bz
  · simp only[Bool.false_eq_true,if_false,Bool.and_eq_true] at h
    simp [freeCaller,h.1,h.2]
  · simp only[if_true,Bool.and_eq_true,decide_eq_true_eq] at h
    have:¬s=0:=by have:=h.1.1; omega
    simp [freeCaller,this]
theorem ends_tree (np pv a b rv ff t0 t9 ck:Bool):sel (!np) (sel pv (sel a (sel (!b) (ok1 (B false)) (sel rv (sel ff (sel t0 (sel t9 (ok1 (B ck)) (ok1 (B false))) (ok1 (B false))) (ok1 (B false))) (ok1 (B false)))) (ok1 (B false))) (ok1 (B false))) (sel rv (sel ff (sel t0 (sel t9 (ok1 (B ck)) (ok1 (B false))) (ok1 (B false))) (ok1 (B false))) (ok1 (B false)))=ok1 (B ((np||(pv&&a&&b))&&(rv&&ff&&(t0&&t9)&&ck))):=by
  cases np<;>cases pv<;>cases a<;>cases b<;>cases rv<;>cases ff<;>cases t0<;>cases t9<;>cases ck<;>rfl
theorem clusterValid_impl (c0:List Shard) (c1:List Caller) (c2:List Result) (c3 c4 c5:Int) (c6:Str) (c7 c8 c9 c10 c11:Int) (hs:Cluster.Small ⟨c0,c1,c2,⟨c3,c4,c5,c6,c7,c8,c9⟩,c10,c11⟩):EE F 71 [.ag [.u (.sl 14 (c0.map Shard.u)),.u (.sl 8 (c1.map Caller.u)),.u (.sl 9 (c2.map Result.u)),.u (.int .i64 c3),.u (.int .i64 c4),.u (.int .i64 c5),.u (.str c6),.u (.int .i64 c7),.u (.int .i64 c8),.u (.int .i64 c9),.u (.int .i64 c10),.u (.int .i64 c11)]] []=ok1 (B (clusterValid ⟨c0,c1,c2,⟨c3,c4,c5,c6,c7,c8,c9⟩,c10,c11⟩)):=by
  obtain ⟨hsh,hcl,hrs,hwk,_⟩:=hs
  have hn0:c0.length≤1048576:=hsh.1
  have hn1:c1.length≤1048576:=hcl.1
  have hn2:c2.length≤1048576:=hrs.1
  rw [R71,b71]
  simp only[↓xP,xQ,xR,xS,flatR,reduceLT,Nat.reduceBEq,reduceAdd,reduceSub,List.length_map,ne_eq]
  refine sel_split (fun h=>?_) (fun g1=>?_)
  · have:¬1≤c0.length:=by simp at h; omega
    simp [clusterValid,sizesOk,this]
  refine sel_split (fun h=>?_) (fun g2=>?_)
  · have:¬c0.length≤8:=by simp at h; omega
    simp [clusterValid,sizesOk,this]
  refine sel_split (fun h=>?_) (fun g3=>?_)
  · have:¬c1.length=4:=by simp at h; omega
    simp [clusterValid,sizesOk,this]
  refine sel_split (fun h=>?_) (fun g4=>?_)
  · have:¬c2.length≤40:=by simp at h; omega
    simp [clusterValid,sizesOk,this]
  have g1':1≤c0.length:=by simp at g1; omega
  have g2':c0.length≤8:=by simp at g2; omega
  have g3':c1.length=4:=by simp at g3; omega
  have g4':c2.length≤40:=by simp at g4; omega
  have hsz:sizesOk ⟨c0,c1,c2,⟨c3,c4,c5,c6,c7,c8,c9⟩,c10,c11⟩=true:=by simp [sizesOk,g1',g2',g3',g4']
  obtain ⟨fs,hf0⟩:∃ x,c0[0]?=some x:=⟨_,List.getElem?_eq_getElem (by omega)⟩
  have hup:upOf c0=fs.group.up:=by
    cases c0 with
    | nil=>simp at hf0
    | cons a l=>simp at hf0; subst hf0; rfl
  obtain ⟨flive,⟨⟨⟨flo,fup⟩,fprs,fkn,fsld,fcut⟩,⟨fep,fms,ffr⟩,fnds,fups,fbag,fans⟩⟩:=fs
  simp only at hup
  have hcv:clusterValid ⟨c0,c1,c2,⟨c3,c4,c5,c6,c7,c8,c9⟩,c10,c11⟩=((c0.drop 0).all (shardOk fups)&&(c1.all callerValid&&(c2.all resultValid&&(workOk ⟨c3,c4,c5,c6,c7,c8,c9⟩ c0.length&&endsOk ⟨c0,c1,c2,⟨c3,c4,c5,c6,c7,c8,c9⟩,c10,c11⟩)))):=by
    simp only[clusterValid,hsz,hup,Bool.true_and,Bool.and_assoc,List.drop_zero]
  rw [hcv]
  refine loop_ind (fun (i:Nat) st=>st.s 1=.t (.sc (.ptr (.loc 1 0) 0 0))∧st.o (.loc 1 0)=some (.box [.u (.sl 14 (c0.map Shard.u)),.u (.sl 8 (c1.map Caller.u)),.u (.sl 9 (c2.map Result.u)),.u (.int .i64 c3),.u (.int .i64 c4),.u (.int .i64 c5),.u (.str c6),.u (.int .i64 c7),.u (.int .i64 c8),.u (.int .i64 c9),.u (.int .i64 c10),.u (.int .i64 c11)])∧st.s 32=DU (.sl 14 (c0.map Shard.u))∧st.s 33=DI c0.length∧st.s 34=DI i) (fun i=>c0.length - i) (fun i=>ok1 (B ((c0.drop i).all (shardOk fups)&&(c1.all callerValid&&(c2.all resultValid&&(workOk ⟨c3,c4,c5,c6,c7,c8,c9⟩ c0.length&&endsOk ⟨c0,c1,c2,⟨c3,c4,c5,c6,c7,c8,c9⟩,c10,c11⟩)))))) ?_ 0 (by and_intros<;>first|omega|rfl|(simp only[↓xP,xQ,xR,xS,flatR,reduceLT,Nat.reduceBEq,reduceAdd,reduceSub]<;>first|done|rfl|omega))
  rintro i st ⟨h1,hb,h32,h33,h34⟩ ih
  by_cases hi:i<c0.length
  · obtain ⟨⟨live,⟨⟨⟨lo,up⟩,prs,kn,sld,cut⟩,⟨ep,ms,fr⟩,nds,ups,bag,ans⟩⟩,hx⟩:∃ x,c0[i]?=some x:=⟨_,List.getElem?_eq_getElem hi⟩
    have hw:=w_succ (i:=i) (by omega)
    have hsx:=hsh.2 _ (List.mem_of_getElem? hx)
    have hch:=chainValid_impl lo up prs kn sld cut ep ms fr nds ups bag ans hsx.1
    have heq:=equalB_ok ups fups hsx.1.2.2.2.1.1
    rw [drop_at hx,List.all_cons,shardOk]
    cases q1:chainValid ⟨⟨⟨lo,up⟩,prs,kn,sld,cut⟩,⟨ep,ms,fr⟩,nds,ups,bag,ans⟩
    · simp only[↓xP,xQ,xR,xS,flatR,reduceLT,Nat.reduceBEq,reduceAdd,reduceSub,rdx2,h1,hb,h32,h33,h34,hi,hx,hw,Shard.u,hch,q1]
      try simp
    · cases q2:decide (ups=fups)
      · simp only[↓xP,xQ,xR,xS,flatR,reduceLT,Nat.reduceBEq,reduceAdd,reduceSub,rdx2,h1,hb,h32,h33,h34,hi,hx,hf0,hw,Shard.u,hch,q1,heq,q2]
        try simp
      · simp only[↓xP,xQ,xR,xS,flatR,reduceLT,Nat.reduceBEq,reduceAdd,reduceSub,rdx2,h1,hb,h32,h33,h34,hi,hx,hf0,hw,Shard.u,hch,q1,heq,q2]
        rw [ih (i+1) _ (by omega) (by and_intros<;>first|omega|rfl|(simp only[↓xP,xQ,xR,xS,flatR,reduceLT,Nat.reduceBEq,reduceAdd,reduceSub,h1,hb,h32,h33,hw]<;>first|done|rfl|omega))]
        try simp
  simp only[↓xP,xQ,xR,xS,flatR,reduceLT,Nat.reduceBEq,reduceAdd,reduceSub,h1,hb,h32,h33,h34,hi]
  rw [List.drop_of_length_le (by omega),List.all_nil,Bool.true_and]
  refine loop_ind (fun (i:Nat) st=>st.s 1=.t (.sc (.ptr (.loc 1 0) 0 0))∧st.o (.loc 1 0)=some (.box [.u (.sl 14 (c0.map Shard.u)),.u (.sl 8 (c1.map Caller.u)),.u (.sl 9 (c2.map Result.u)),.u (.int .i64 c3),.u (.int .i64 c4),.u (.int .i64 c5),.u (.str c6),.u (.int .i64 c7),.u (.int .i64 c8),.u (.int .i64 c9),.u (.int .i64 c10),.u (.int .i64 c11)])∧st.s 57=DU (.sl 8 (c1.map Caller.u))∧st.s 58=DI c1.length∧st.s 59=DI i∧(∀ c,c∈c1.take i→callerValid c=true)) (fun i=>c1.length - i) (fun i=>ok1 (B ((c1.drop i).all callerValid&&(c2.all resultValid&&(workOk ⟨c3,c4,c5,c6,c7,c8,c9⟩ c0.length&&endsOk ⟨c0,c1,c2,⟨c3,c4,c5,c6,c7,c8,c9⟩,c10,c11⟩))))) ?_ 0 ⟨(by and_intros<;>first|omega|rfl|(simp only[↓xP,xQ,xR,xS,flatR,reduceLT,Nat.reduceBEq,reduceAdd,reduceSub,h1]<;>first|done|rfl|omega)),(by and_intros<;>first|omega|rfl|(simp only[↓xP,xQ,xR,xS,flatR,reduceLT,Nat.reduceBEq,reduceAdd,reduceSub,hb]<;>first|done|rfl|omega)),(by and_intros<;>first|omega|rfl|(simp only[↓xP,xQ,xR,xS,flatR,reduceLT,Nat.reduceBEq,reduceAdd,reduceSub,h1,hb]<;>first|done|rfl|omega)),(by and_intros<;>first|omega|rfl|(simp only[↓xP,xQ,xR,xS,flatR,reduceLT,Nat.reduceBEq,reduceAdd,reduceSub,h1,hb]<;>first|done|rfl|omega)),(by and_intros<;>first|omega|rfl|(simp only[↓xP,xQ,xR,xS,flatR,reduceLT,Nat.reduceBEq,reduceAdd,reduceSub,h1,hb]<;>first|done|rfl|omega)),by simp⟩
  clear h1 hb h32 h33 h34 hi ih
  rintro i st ⟨h1,hb,h32,h33,h34,hall⟩ ih
  by_cases hi:i<c1.length
  · obtain ⟨⟨cch,csq,cbz,⟨ck,ckey,cv,co⟩,ccd⟩,hx⟩:∃ x,c1[i]?=some x:=⟨_,List.getElem?_eq_getElem hi⟩
    have hw:=w_succ (i:=i) (by omega)
    have hsx:=hcl.2 _ (List.mem_of_getElem? hx)
    have hch:=callerValid_impl cch csq cbz ck ckey cv co ccd hsx.1.1
    simp only[↓xP,xQ,xR,xS,flatR,reduceLT,Nat.reduceBEq,reduceAdd,reduceSub,h1,hb,h32,h33,h34,hi,hx,hw,Caller.u,hch]
    rw [drop_at hx,List.all_cons]
    refine sel_split (fun h=>?_) (fun q1=>?_)
    · rw [Bool.not_eq_true'] at h; simp [h]
    rw [Bool.not_eq_false'] at q1
    have hall2:∀ c,c∈c1.take (i+1)→callerValid c=true:=by
      intro c hc
      rw [List.take_add_one,hx] at hc
      rcases List.mem_append.1 hc with hc|hc
      · exact hall c hc
      · simp at hc; subst hc; exact q1
    rw [ih (i+1) _ (by omega) ⟨(by and_intros<;>first|omega|rfl|(simp only[↓xP,xQ,xR,xS,flatR,reduceLT,Nat.reduceBEq,reduceAdd,reduceSub,h1]<;>first|done|rfl|omega)),(by and_intros<;>first|omega|rfl|(simp only[↓xP,xQ,xR,xS,flatR,reduceLT,Nat.reduceBEq,reduceAdd,reduceSub,hb]<;>first|done|rfl|omega)),(by and_intros<;>first|omega|rfl|(simp only[↓xP,xQ,xR,xS,flatR,reduceLT,Nat.reduceBEq,reduceAdd,reduceSub,h32]<;>first|done|rfl|omega)),(by and_intros<;>first|omega|rfl|(simp only[↓xP,xQ,xR,xS,flatR,reduceLT,Nat.reduceBEq,reduceAdd,reduceSub,h33]<;>first|done|rfl|omega)),(by and_intros<;>first|omega|rfl|(simp only[↓xP,xQ,xR,xS,flatR,reduceLT,Nat.reduceBEq,reduceAdd,reduceSub,hw]<;>first|done|rfl|omega)),hall2⟩]
    simp [q1]
  simp only[↓xP,xQ,xR,xS,flatR,reduceLT,Nat.reduceBEq,reduceAdd,reduceSub,h1,hb,h32,h33,h34,hi]
  rw [List.drop_of_length_le (by omega),List.all_nil,Bool.true_and]
  have hall4:∀ c,c∈c1→callerValid c=true:=by rw [List.take_of_length_le (by omega)] at hall; exact hall
  refine loop_ind (fun (i:Nat) st=>st.s 1=.t (.sc (.ptr (.loc 1 0) 0 0))∧st.o (.loc 1 0)=some (.box [.u (.sl 14 (c0.map Shard.u)),.u (.sl 8 (c1.map Caller.u)),.u (.sl 9 (c2.map Result.u)),.u (.int .i64 c3),.u (.int .i64 c4),.u (.int .i64 c5),.u (.str c6),.u (.int .i64 c7),.u (.int .i64 c8),.u (.int .i64 c9),.u (.int .i64 c10),.u (.int .i64 c11)])∧st.s 68=DU (.sl 9 (c2.map Result.u))∧st.s 69=DI c2.length∧st.s 70=DI i) (fun i=>c2.length - i) (fun i=>ok1 (B ((c2.drop i).all resultValid&&(workOk ⟨c3,c4,c5,c6,c7,c8,c9⟩ c0.length&&endsOk ⟨c0,c1,c2,⟨c3,c4,c5,c6,c7,c8,c9⟩,c10,c11⟩)))) ?_ 0 (by and_intros<;>first|omega|rfl|(simp only[↓xP,xQ,xR,xS,flatR,reduceLT,Nat.reduceBEq,reduceAdd,reduceSub,h1,hb]<;>first|done|rfl|omega))
  clear h1 hb h32 h33 h34 hi ih hall
  rintro i st ⟨h1,hb,h32,h33,h34⟩ ih
  by_cases hi:i<c2.length
  · obtain ⟨⟨rc,rs,⟨rk,rkey,rv,ro⟩,rr,rcd,rrt⟩,hx⟩:∃ x,c2[i]?=some x:=⟨_,List.getElem?_eq_getElem hi⟩
    have hw:=w_succ (i:=i) (by omega)
    simp only[↓xP,xQ,xR,xS,flatR,reduceLT,Nat.reduceBEq,reduceAdd,reduceSub,h1,hb,h32,h33,h34,hi,hx,hw,Result.u,resultValid_impl]
    rw [drop_at hx,List.all_cons]
    refine sel_split (fun h=>?_) (fun q1=>?_)
    · rw [Bool.not_eq_true'] at h; simp [h]
    rw [Bool.not_eq_false'] at q1
    rw [ih (i+1) _ (by omega) (by and_intros<;>first|omega|rfl|(simp only[↓xP,xQ,xR,xS,flatR,reduceLT,Nat.reduceBEq,reduceAdd,reduceSub,h1,hb,h32,h33]<;>first|done|rfl|omega))]
    simp [q1]
  simp only[↓xP,xQ,xR,xS,flatR,reduceLT,Nat.reduceBEq,reduceAdd,reduceSub,h1,hb,h32,h33,h34,hi]
  rw [List.drop_of_length_le (by omega),List.all_nil,Bool.true_and]
  obtain ⟨⟨cch,csq,cbz,⟨ck,ckey,cv,co⟩,ccd⟩,hc0⟩:∃ x,c1[0]?=some x:=⟨_,List.getElem?_eq_getElem (by omega)⟩
  have hq:=hall4 _ (List.mem_of_getElem? hc0)
  have hnc:=noCaller_ok cch csq cbz ck ckey cv co ccd
  have hfree:=noCaller_free hq
  have hff:firstFree c1=freeCaller ⟨cch,csq,cbz,⟨ck,ckey,cv,co⟩,ccd⟩:=by
    cases c1 with
    | nil=>simp at hc0
    | cons a l=>simp at hc0; subst hc0; rfl
  simp only at hfree
  rw [hfree,←hff] at hnc
  have hlr:=liveRoutes_ok c0 c1 c2 c3 c4 c5 c6 c7 c8 c9 c10 c11 g2'
  simp only[routesRet] at hlr
  have hrl:(routesOf c0).length≤1048576:=by
    have:=sortR_len (liveR c0 0)
    have:=liveR_len c0 0
    simp only[routesOf]; omega
  have hrv:=routesValid_impl (routesOf c0) hrl
  have htk:List.take (routesOf c0).length (List.map Route.u (routesOf c0))=List.map Route.u (routesOf c0):=List.take_of_length_le (by simp)
  simp only[↓xP,xQ,xR,xS,flatR,reduceLT,Nat.reduceBEq,reduceAdd,reduceSub,h1,hb,hc0,Caller.u,planValid_impl,hlr,hrv,htk,Nat.le_refl,List.length_map,hnc,timeValid_ok]
  have hnp:(decide (c3=0)&&(decide (c4=0)&&(decide (c5=0)&&(decide (c6=[])&&(decide (c7=0)&&(decide (c8=0)&&decide (c9=0)))))))=noPlan ⟨c3,c4,c5,c6,c7,c8,c9⟩:=by simp only[noPlan,Bool.and_assoc]
  rw [hnp]
  refine (ends_tree (noPlan ⟨c3,c4,c5,c6,c7,c8,c9⟩) (planValid ⟨c3,c4,c5,c6,c7,c8,c9⟩) (decide (c4<(c0.length:Int))) (decide (c5<(c0.length:Int))) (routesValid (routesOf c0)) (firstFree c1) (decide (0≤c10)) (decide (c10≤999)) (inR c11 0 200)).trans ?_
  rfl
theorem chainValid_up {c:Chain} (h:chainValid c=true):c.up.length=5:=by
  simp only[chainValid,Bool.and_eq_true,decide_eq_true_eq] at h
  exact h.1.1.1.1.2
def freeAt (l:List Caller) (i:Nat):Bool:=if i=0 then firstFree l else true
theorem clusterValid_spec (c0:List Shard) (c1:List Caller) (c2:List Result) (c3 c4 c5:Int) (c6:Str) (c7 c8 c9 c10 c11:Int) (hs:Cluster.Small ⟨c0,c1,c2,⟨c3,c4,c5,c6,c7,c8,c9⟩,c10,c11⟩):EE F 65 [.ag [.u (.sl 14 (c0.map Shard.u)),.u (.sl 8 (c1.map Caller.u)),.u (.sl 9 (c2.map Result.u)),.u (.int .i64 c3),.u (.int .i64 c4),.u (.int .i64 c5),.u (.str c6),.u (.int .i64 c7),.u (.int .i64 c8),.u (.int .i64 c9),.u (.int .i64 c10),.u (.int .i64 c11)]] []=ok1 (B (clusterValid ⟨c0,c1,c2,⟨c3,c4,c5,c6,c7,c8,c9⟩,c10,c11⟩)):=by
  obtain ⟨hsh,hcl,hrs,hwk,_⟩:=hs
  have hn0:c0.length≤1048576:=hsh.1
  have hn1:c1.length≤1048576:=hcl.1
  have hn2:c2.length≤1048576:=hrs.1
  rw [R65,b65]
  simp only[↓xP,xQ,xR,xS,flatR,reduceLT,Nat.reduceBEq,reduceAdd,reduceSub,List.length_map,ne_eq,l1In_ok,l27Work_ok]
  refine sel_split (fun h=>?_) (fun g1=>?_)
  · have:¬(1≤c0.length∧c0.length≤8):=by simp [inR] at h; omega
    have:sizesOk ⟨c0,c1,c2,⟨c3,c4,c5,c6,c7,c8,c9⟩,c10,c11⟩=false:=by
      by_cases e1:1≤c0.length
      · have e2:¬c0.length≤8:=fun e2=>this ⟨e1,e2⟩
        simp [sizesOk,e2]
      · simp [sizesOk,e1]
    simp [clusterValid,this]
  refine sel_split (fun h=>?_) (fun g3=>?_)
  · have:¬c1.length=4:=by simp at h; omega
    simp [clusterValid,sizesOk,this]
  refine sel_split (fun h=>?_) (fun g4=>?_)
  · have:¬c2.length≤40:=by simp at h; omega
    simp [clusterValid,sizesOk,this]
  refine sel_split (fun h=>?_) (fun g5=>?_)
  · rw [Bool.not_eq_true'] at h; simp [clusterValid,h]
  refine sel_split (fun h=>?_) (fun g6=>?_)
  · rw [Bool.not_eq_true'] at h; simp [clusterValid,endsOk,h]
  refine sel_split (fun h=>?_) (fun g7=>?_)
  · rw [Bool.not_eq_true'] at h; simp [clusterValid,endsOk,h]
  rw [Bool.not_eq_false'] at g1 g5 g6 g7
  have g12:1≤c0.length∧c0.length≤8:=by simp [inR] at g1; omega
  have g3':c1.length=4:=by simp at g3; omega
  have g4':c2.length≤40:=by simp at g4; omega
  have hsz:sizesOk ⟨c0,c1,c2,⟨c3,c4,c5,c6,c7,c8,c9⟩,c10,c11⟩=true:=by simp [sizesOk,g12.1,g12.2,g3',g4']
  obtain ⟨fs,hf0⟩:∃ x,c0[0]?=some x:=⟨_,List.getElem?_eq_getElem (by omega)⟩
  have hup:upOf c0=fs.group.up:=by
    cases c0 with
    | nil=>simp at hf0
    | cons a l=>simp at hf0; subst hf0; rfl
  obtain ⟨flive,⟨⟨⟨flo,fup⟩,fprs,fkn,fsld,fcut⟩,⟨fep,fms,ffr⟩,fnds,fups,fbag,fans⟩⟩:=fs
  simp only at hup
  have hcv:clusterValid ⟨c0,c1,c2,⟨c3,c4,c5,c6,c7,c8,c9⟩,c10,c11⟩=((c0.drop 0).all (shardOk fups)&&(c1.all callerValid&&firstFree c1&&(c2.all resultValid&&routesValid (routesOf c0)))):=by
    simp only[clusterValid,hsz,hup,endsOk,g5,g6,g7,Bool.true_and,Bool.and_true,List.drop_zero]
    cases c0.all (shardOk fups)<;>cases c1.all callerValid<;>cases c2.all resultValid<;>cases firstFree c1<;>cases routesValid (routesOf c0)<;>rfl
  rw [hcv]
  refine loop_ind (fun (i:Nat) st=>st.s 1=.t (.sc (.ptr (.loc 1 0) 0 0))∧st.o (.loc 1 0)=some (.box [.u (.sl 14 (c0.map Shard.u)),.u (.sl 8 (c1.map Caller.u)),.u (.sl 9 (c2.map Result.u)),.u (.int .i64 c3),.u (.int .i64 c4),.u (.int .i64 c5),.u (.str c6),.u (.int .i64 c7),.u (.int .i64 c8),.u (.int .i64 c9),.u (.int .i64 c10),.u (.int .i64 c11)])∧st.s 3=DI i∧(i=0∨fups.length=5)) (fun i=>c0.length - i) (fun i=>ok1 (B ((c0.drop i).all (shardOk fups)&&(c1.all callerValid&&firstFree c1&&(c2.all resultValid&&routesValid (routesOf c0)))))) ?_ 0 (by and_intros<;>first|omega|rfl|(simp only[↓xP,xQ,xR,xS,flatR,reduceLT,Nat.reduceBEq,reduceAdd,reduceSub]<;>first|done|rfl|omega))
  rintro i st ⟨h1,hb,h3,hf5⟩ ih
  by_cases hi:i<c0.length
  · obtain ⟨⟨live,⟨⟨⟨lo,up⟩,prs,kn,sld,cut⟩,⟨ep,ms,fr⟩,nds,ups,bag,ans⟩⟩,hx⟩:∃ x,c0[i]?=some x:=⟨_,List.getElem?_eq_getElem hi⟩
    have hw:=w_succ (i:=i) (by omega)
    have hsx:=hsh.2 _ (List.mem_of_getElem? hx)
    have hch:=chainValid_spec lo up prs kn sld cut ep ms fr nds ups bag ans hsx.1
    rw [drop_at hx,List.all_cons,shardOk]
    cases q1:chainValid ⟨⟨⟨lo,up⟩,prs,kn,sld,cut⟩,⟨ep,ms,fr⟩,nds,ups,bag,ans⟩
    · simp only[↓xP,xQ,xR,xS,flatR,reduceLT,Nat.reduceBEq,reduceAdd,reduceSub,rdx2,h1,hb,h3,hi,hx,hw,Shard.u,hch,q1]
      try simp
    have hu5:ups.length=5:=chainValid_up q1
    have hfu5:fups.length=5:=by
      rcases hf5 with rfl|e
      · rw [hf0] at hx; cases hx; exact hu5
      · exact e
    have hd0:decide (ups=fups)=decide (ups.drop 0=fups.drop 0):=by simp
    simp only[↓xP,xQ,xR,xS,flatR,reduceLT,Nat.reduceBEq,reduceAdd,reduceSub,rdx2,h1,hb,h3,hi,hx,hw,Shard.u,hch,q1]
    try rw [Bool.true_and]
    rw [hd0]
    refine loop_ind (fun (j:Nat) st=>j≤5∧st.s 1=.t (.sc (.ptr (.loc 1 0) 0 0))∧st.o (.loc 1 0)=some (.box [.u (.sl 14 (c0.map Shard.u)),.u (.sl 8 (c1.map Caller.u)),.u (.sl 9 (c2.map Result.u)),.u (.int .i64 c3),.u (.int .i64 c4),.u (.int .i64 c5),.u (.str c6),.u (.int .i64 c7),.u (.int .i64 c8),.u (.int .i64 c9),.u (.int .i64 c10),.u (.int .i64 c11)])∧st.s 3=DI i∧st.s 4=DI j) (fun j=>5 - j) (fun j=>ok1 (B (decide (ups.drop j=fups.drop j)&&(c0.drop (i+1)).all (shardOk fups)&&(c1.all callerValid&&firstFree c1&&(c2.all resultValid&&routesValid (routesOf c0)))))) ?_ 0 (by and_intros<;>first|omega|rfl|(simp only[↓xP,xQ,xR,xS,flatR,reduceLT,Nat.reduceBEq,reduceAdd,reduceSub,h1,hb,h3]<;>first|done|rfl|omega))
    clear h1 hb h3
    rintro j st ⟨hj5,h1,hb,h3,h4⟩ ih2
    by_cases hj:j<5
    · obtain ⟨x,hxx⟩:∃ x,ups[j]?=some x:=⟨_,List.getElem?_eq_getElem (by omega)⟩
      obtain ⟨y,hyy⟩:∃ x,fups[j]?=some x:=⟨_,List.getElem?_eq_getElem (by omega)⟩
      have hw2:=w_succ (i:=j) (by omega)
      have hlt:((j:Int)<5)=True:=by simp; omega
      rw [drop_at hxx,drop_at hyy]
      by_cases e:x=y
      · subst e
        simp only[↓xP,xQ,xR,xS,flatR,reduceLT,Nat.reduceBEq,reduceAdd,reduceSub,rdx2,h1,hb,h3,h4,hi,hx,hf0,hxx,hyy,hw2,hlt,Shard.u,bU]
        rw [ih2 (j+1) _ (by omega) (by and_intros<;>first|omega|rfl|(simp only[↓xP,xQ,xR,xS,flatR,reduceLT,Nat.reduceBEq,reduceAdd,reduceSub,h1,hb,h3,hw2]<;>first|done|rfl|omega))]
        simp
      · have hbe:(x==y)=false:=by simpa using e
        simp only[↓xP,xQ,xR,xS,flatR,reduceLT,Nat.reduceBEq,reduceAdd,reduceSub,rdx2,h1,hb,h3,h4,hi,hx,hf0,hxx,hyy,hw2,hlt,Shard.u,bU,hbe]
        simp [e]
    have hlt:((j:Int)<5)=False:=by simp; omega
    simp only[↓xP,xQ,xR,xS,flatR,reduceLT,Nat.reduceBEq,reduceAdd,reduceSub,h1,hb,h3,h4,hlt]
    rw [List.drop_of_length_le (by omega),List.drop_of_length_le (by omega)]
    rw [ih (i+1) _ (by omega) ⟨(by and_intros<;>first|omega|rfl|(simp only[↓xP,xQ,xR,xS,flatR,reduceLT,Nat.reduceBEq,reduceAdd,reduceSub,h1]<;>first|done|rfl|omega)),(by and_intros<;>first|omega|rfl|(simp only[↓xP,xQ,xR,xS,flatR,reduceLT,Nat.reduceBEq,reduceAdd,reduceSub,hb]<;>first|done|rfl|omega)),(by and_intros<;>first|omega|rfl|(simp only[↓xP,xQ,xR,xS,flatR,reduceLT,Nat.reduceBEq,reduceAdd,reduceSub,hw]<;>first|done|rfl|omega)),.inr hfu5⟩]
    simp
  simp only[↓xP,xQ,xR,xS,flatR,reduceLT,Nat.reduceBEq,reduceAdd,reduceSub,h1,hb,h3,hi]
  rw [List.drop_of_length_le (by omega),List.all_nil,Bool.true_and]
  have hc10:(c1.all callerValid&&firstFree c1&&(c2.all resultValid&&routesValid (routesOf c0)))=((c1.drop 0).all callerValid&&freeAt c1 0&&(c2.all resultValid&&routesValid (routesOf c0))):=rfl
  rw [hc10]
  refine loop_ind (fun (i:Nat) st=>i≤4∧st.s 1=.t (.sc (.ptr (.loc 1 0) 0 0))∧st.o (.loc 1 0)=some (.box [.u (.sl 14 (c0.map Shard.u)),.u (.sl 8 (c1.map Caller.u)),.u (.sl 9 (c2.map Result.u)),.u (.int .i64 c3),.u (.int .i64 c4),.u (.int .i64 c5),.u (.str c6),.u (.int .i64 c7),.u (.int .i64 c8),.u (.int .i64 c9),.u (.int .i64 c10),.u (.int .i64 c11)])∧st.s 5=DI i) (fun i=>4 - i) (fun i=>ok1 (B ((c1.drop i).all callerValid&&freeAt c1 i&&(c2.all resultValid&&routesValid (routesOf c0))))) ?_ 0 (by and_intros<;>first|omega|rfl|(simp only[↓xP,xQ,xR,xS,flatR,reduceLT,Nat.reduceBEq,reduceAdd,reduceSub,h1,hb]<;>first|done|rfl|omega))
  clear h1 hb h3 hi ih
  rintro i st ⟨hi4,h1,hb,h3⟩ ih
  by_cases hi:i<4
  · obtain ⟨⟨cch,csq,cbz,⟨ck,ckey,cv,co⟩,ccd⟩,hx⟩:∃ x,c1[i]?=some x:=⟨_,List.getElem?_eq_getElem (by omega)⟩
    have hw:=w_succ (i:=i) (by omega)
    have hlt:((i:Int)<4)=True:=by simp; omega
    have hsx:=hcl.2 _ (List.mem_of_getElem? hx)
    have hch:=callerValid_spec cch csq cbz ck ckey cv co ccd hsx.1.1
    rw [drop_at hx,List.all_cons]
    have hnext:freeAt c1 (i+1)=true:=rfl
    by_cases e0:i=0
    · subst e0
      have hff:freeAt c1 0=freeCaller ⟨cch,csq,cbz,⟨ck,ckey,cv,co⟩,ccd⟩:=by
        cases c1 with
        | nil=>simp at hx
        | cons a l=>simp at hx; subst hx; rfl
      have hz:(((0:Nat):Int)=0)=True:=by simp
      rw [hff]
      simp only[↓xP,xQ,xR,xS,flatR,reduceLT,Nat.reduceBEq,reduceAdd,reduceSub,h1,hb,h3,hlt,hx,hw,hz,Caller.u,hch,ne_eq,List.length_map]
      refine sel_split (fun h=>?_) (fun q1=>?_)
      · rw [Bool.not_eq_true'] at h; simp [h]
      rw [Bool.not_eq_false'] at q1
      refine sel_split (fun h=>?_) (fun q2=>?_)
      · have:¬csq=0:=by simpa using h
        simp [freeCaller,this]
      refine sel_split (fun h=>?_) (fun q3=>?_)
      · have:¬cch=[]:=by intro e; subst e; simp at h
        simp [freeCaller,this]
      have q2':csq=0:=by simpa using q2
      have q3':cch.length=0:=by simp at q3; simpa using q3
      rw [ih 1 _ (by omega) (by and_intros<;>first|omega|rfl|(simp only[↓xP,xQ,xR,xS,flatR,reduceLT,Nat.reduceBEq,reduceAdd,reduceSub,h1,hb]<;>first|done|rfl|omega))]
      rw [q1]; simp [freeCaller,q2',q3',freeAt]
    · have hz:((i:Int)=0)=False:=by simp; omega
      simp only[↓xP,xQ,xR,xS,flatR,reduceLT,Nat.reduceBEq,reduceAdd,reduceSub,h1,hb,h3,hlt,hx,hw,hz,Caller.u,hch,ne_eq,List.length_map]
      refine sel_split (fun h=>?_) (fun q1=>?_)
      · rw [Bool.not_eq_true'] at h; simp [h]
      rw [Bool.not_eq_false'] at q1
      rw [ih (i+1) _ (by omega) (by and_intros<;>first|omega|rfl|(simp only[↓xP,xQ,xR,xS,flatR,reduceLT,Nat.reduceBEq,reduceAdd,reduceSub,h1,hb]<;>first|done|rfl|omega))]
      simp [q1,freeAt,e0]
  have hlt:((i:Int)<4)=False:=by simp; omega
  have hfi:freeAt c1 i=true:=by simp only[freeAt]; rw [if_neg (by omega)]
  simp only[↓xP,xQ,xR,xS,flatR,reduceLT,Nat.reduceBEq,reduceAdd,reduceSub,h1,hb,h3,hlt]
  rw [List.drop_of_length_le (by omega),List.all_nil,hfi,Bool.true_and,Bool.true_and]
  refine loop_ind (fun (i:Nat) st=>st.s 1=.t (.sc (.ptr (.loc 1 0) 0 0))∧st.o (.loc 1 0)=some (.box [.u (.sl 14 (c0.map Shard.u)),.u (.sl 8 (c1.map Caller.u)),.u (.sl 9 (c2.map Result.u)),.u (.int .i64 c3),.u (.int .i64 c4),.u (.int .i64 c5),.u (.str c6),.u (.int .i64 c7),.u (.int .i64 c8),.u (.int .i64 c9),.u (.int .i64 c10),.u (.int .i64 c11)])∧st.s 6=DI i) (fun i=>c2.length - i) (fun i=>ok1 (B ((c2.drop i).all resultValid&&routesValid (routesOf c0)))) ?_ 0 (by and_intros<;>first|omega|rfl|(simp only[↓xP,xQ,xR,xS,flatR,reduceLT,Nat.reduceBEq,reduceAdd,reduceSub,h1,hb]<;>first|done|rfl|omega))
  clear h1 hb h3 hi ih hlt hfi
  rintro i st ⟨h1,hb,h3⟩ ih
  by_cases hi:i<c2.length
  · obtain ⟨⟨rc,rs,⟨rk,rkey,rv,ro⟩,rr,rcd,rrt⟩,hx⟩:∃ x,c2[i]?=some x:=⟨_,List.getElem?_eq_getElem hi⟩
    have hw:=w_succ (i:=i) (by omega)
    simp only[↓xP,xQ,xR,xS,flatR,reduceLT,Nat.reduceBEq,reduceAdd,reduceSub,h1,hb,h3,hi,hx,hw,Result.u,resultValid_spec]
    rw [drop_at hx,List.all_cons]
    refine sel_split (fun h=>?_) (fun q1=>?_)
    · rw [Bool.not_eq_true'] at h; simp [h]
    rw [Bool.not_eq_false'] at q1
    rw [ih (i+1) _ (by omega) (by and_intros<;>first|omega|rfl|(simp only[↓xP,xQ,xR,xS,flatR,reduceLT,Nat.reduceBEq,reduceAdd,reduceSub,h1,hb]<;>first|done|rfl|omega))]
    simp [q1]
  have hlr:=l27Routes_ok c0 c1 c2 c3 c4 c5 c6 c7 c8 c9 c10 c11 g12.2
  simp only[routesRet] at hlr
  have hrl:(routesOf c0).length≤1048576:=by
    have:=sortR_len (liveR c0 0)
    have:=liveR_len c0 0
    simp only[routesOf]; omega
  have hrv:=routesValid_spec (routesOf c0) hrl
  have htk:List.take (routesOf c0).length (List.map Route.u (routesOf c0))=List.map Route.u (routesOf c0):=List.take_of_length_le (by simp)
  simp only[↓xP,xQ,xR,xS,flatR,reduceLT,Nat.reduceBEq,reduceAdd,reduceSub,h1,hb,h3,hi,hlr,hrv,htk,Nat.le_refl,List.length_map]
  rw [List.drop_of_length_le (by omega),List.all_nil,Bool.true_and]
theorem chain_conf {c:Chain} (h:chainValid c=true):configValid c.conf=true:=by
  simp only[chainValid,Bool.and_eq_true] at h
  exact h.1.1.1.1.1.1.2
def sumW {α:Type} (w:α→Nat):List α→Nat
  | []=>0
  | x::xs=>w x+sumW w xs
def Cost (g:Int→Int) (w:Nat):Prop:=∀ a,0≤a→a≤1048576→0≤g a→g a≤a∧9*g a+w≤9*a
theorem Cost.nil:Cost (fun a=>a) 0:=fun a _ _ _=>⟨Int.le_refl _,by show 9*a + ((0:Nat):Int)≤9*a; omega⟩
theorem Cost.off {n:Nat} {k:Int→Int} {w w':Nat} (hn:n≤1048576) (hw:w≤9*n+w') (hk:Cost k w'):Cost (fun a=>offZ a n k) w:=by
  intro a h0 h1 h2
  simp only[offZ] at h2 ⊢
  rw [w64 (by omega) (by omega)] at h2 ⊢
  split at h2
  · omega
  · rename_i hlt
    rw [if_neg hlt]
    obtain ⟨h3,h4⟩:=hk (a - n) (by omega) (by omega) h2
    omega
theorem Cost.chk {g k:Int→Int} {w w':Nat} (hg:Cost g w) (hk:Cost k w'):Cost (fun a=>chkZ (g a) k) (w+w'):=by
  intro a h0 h1 h2
  simp only[chkZ] at h2 ⊢
  split at h2
  · omega
  · rename_i hlt
    rw [if_neg hlt]
    obtain ⟨h3,h4⟩:=hg a h0 h1 (by omega)
    obtain ⟨h5,h6⟩:=hk (g a) (by omega) (by omega) h2
    omega
theorem Cost.all {α:Type} {g:α→Int→Int} {w:α→Nat}:∀ {l:List α},(∀ x,x∈l→Cost (g x) (w x))→Cost (allZ g l) (sumW w l)
  | [],_=>Cost.nil
  | x::xs,h=>(h x (List.mem_cons_self ..)).chk (Cost.all (l:=xs) fun y hy=>h y (List.mem_cons_of_mem _ hy))
theorem Cost.key {n:Nat} (h:n≤1048576):Cost (fun a=>offZ a n fun a=>a) 0:=Cost.off h (by omega) Cost.nil
def eqE (a b:Entry):Bool:=decide (a.client=b.client)&&(decide (a.seq=b.seq)&&(decide (a.cmd.kind=b.cmd.kind)&&(decide (a.cmd.key=b.cmd.key)&&(decide (a.cmd.value=b.cmd.value)&&decide (a.cmd.old=b.cmd.old)))))
def eqEs:List Entry→List Entry→Bool
  | [],[]=>true
  | x::xs,y::ys=>eqE x y&&eqEs xs ys
  | _,_=>false
theorem eqEs_len:∀ {l m:List Entry},¬l.length=m.length→eqEs l m=false
  | [],[],h=>absurd rfl h
  | [],_::_,_=>rfl
  | _::_,[],_=>rfl
  | x::xs,y::ys,h=>by
    have:¬xs.length=ys.length:=by simpa using h
    simp [eqEs,eqEs_len this]
def bFrom:Nat→List Bool→Int
  | _,[]=>-1
  | i,b::bs=>if b=false then (i:Int) else bFrom (i+1) bs
theorem bFrom_ge:∀ (i:Nat) (l:List Bool),decide (0≤bFrom i l)=!l.all id
  | _,[]=>by simp [bFrom]
  | i,b::bs=>by
    cases b
    · simp [bFrom]
    · simpa [bFrom] using bFrom_ge (i+1) bs
theorem index_bool (l:List Bool) (hn:l.length≤4611686018427387904):EE F 208 [L 1 (l.map bU),B false] []=ok1 (I (bFrom 0 l)):=by
  rw [R208,b208]
  simp only[↓xP,xQ,xR,xS,flatR,reduceLT,Nat.reduceBEq,reduceAdd,reduceSub]
  refine (loop_ind (fun (i:Nat) st=>i≤l.length∧st.s 0=DU (.sl 1 (l.map bU))∧st.s 1=DU (.bool false)∧st.s 7=DI l.length∧st.s 8=DI i) (fun i=>l.length - i) (fun i=>ok1 (I (bFrom i (l.drop i)))) ?_ 0 (by and_intros<;>first|omega|rfl|(simp only[↓xP,xQ,xR,xS,flatR,reduceLT,Nat.reduceBEq,reduceAdd,reduceSub]<;>first|done|rfl|omega))).trans (by rfl)
  rintro i st ⟨hle,h0,h1,h7,h8⟩ ih
  by_cases hi:i<l.length
  · obtain ⟨y,hy⟩:∃ y,l[i]?=some y:=⟨_,List.getElem?_eq_getElem hi⟩
    have hw:=w_succ (i:=i) (by omega)
    rw [drop_at hy]
    cases y
    · simp only[↓xP,xQ,xR,xS,flatR,reduceLT,Nat.reduceBEq,reduceAdd,reduceSub,rdx2,h0,h1,h7,h8,hi,hy,hw,bU]
      simp [bFrom,sel]
    · simp only[↓xP,xQ,xR,xS,flatR,reduceLT,Nat.reduceBEq,reduceAdd,reduceSub,rdx2,h0,h1,h7,h8,hi,hy,hw,bU]
      rw [ih (i+1) _ (by omega) (by and_intros<;>first|omega|rfl|(simp only[↓xP,xQ,xR,xS,flatR,reduceLT,Nat.reduceBEq,reduceAdd,reduceSub,h0,h1,h7]<;>first|done|rfl|omega))]
      simp [bFrom,sel]
  · simp only[↓xP,xQ,xR,xS,flatR,reduceLT,Nat.reduceBEq,reduceAdd,reduceSub,h0,h1,h7,h8,hi]
    rw [List.drop_of_length_le (by omega)]; rfl
theorem contains_false (l:List Bool) (hn:l.length≤4611686018427387904):EE F 140 [L 1 (l.map bU),B false] []=ok1 (B (!l.all id)):=by
  rw [R140,b140]
  simp only[↓xP,xQ,xR,xS,flatR,reduceLT,Nat.reduceBEq,reduceAdd,reduceSub,index_bool l hn,ge_iff_le,bFrom_ge]
theorem equalI_ok (l m:List Int) (hn:l.length≤1048576):EE F 142 [L 1 (l.map iU),L 1 (m.map iU)] []=ok1 (B (decide (l=m))):=by
  rw [R142,b142]
  by_cases hl:l.length=m.length
  · have hl':((l.length:Int)=(m.length:Int))=True:=by simp; omega
    simp only[↓xP,xQ,xR,xS,flatR,reduceLT,Nat.reduceBEq,reduceAdd,reduceSub,List.length_map,ne_eq,hl',not_true_eq_false]
    refine (loop_ind (fun (i:Nat) st=>st.s 0=DU (.sl 1 (l.map iU))∧st.s 1=DU (.sl 1 (m.map iU))∧st.s 11=DU (.sl 1 (l.map iU))∧st.s 12=DI l.length∧st.s 13=DI i) (fun i=>l.length - i) (fun i=>ok1 (B (decide (l.drop i=m.drop i)))) ?_ 0 (by and_intros<;>first|omega|rfl|(simp only[↓xP,xQ,xR,xS,flatR,reduceLT,Nat.reduceBEq,reduceAdd,reduceSub]<;>first|done|rfl|omega))).trans (by simp)
    rintro i st ⟨h0,h1,h11,h12,h13⟩ ih
    by_cases hi:i<l.length
    · obtain ⟨x,hx⟩:∃ x,l[i]?=some x:=⟨_,List.getElem?_eq_getElem hi⟩
      obtain ⟨y,hy⟩:∃ x,m[i]?=some x:=⟨_,List.getElem?_eq_getElem (by omega)⟩
      have hi2:i<m.length:=by omega
      have hw:=w_succ (i:=i) (by omega)
      rw [drop_at hx,drop_at hy]
      by_cases e:x=y
      · subst e
        simp only[↓xP,xQ,xR,xS,flatR,reduceLT,Nat.reduceBEq,reduceAdd,reduceSub,rdx2,h0,h1,h11,h12,h13,hi,hi2,hx,hy,hw,iU]
        rw [ih (i+1) _ (by omega) (by and_intros<;>first|omega|rfl|(simp only[↓xP,xQ,xR,xS,flatR,reduceLT,Nat.reduceBEq,reduceAdd,reduceSub,h0,h1,h11,h12]<;>first|done|rfl|omega))]
        simp [sel]
      · simp only[↓xP,xQ,xR,xS,flatR,reduceLT,Nat.reduceBEq,reduceAdd,reduceSub,rdx2,h0,h1,h11,h12,h13,hi,hi2,hx,hy,hw,iU,e]
        simp [e,sel]
    · simp only[↓xP,xQ,xR,xS,flatR,reduceLT,Nat.reduceBEq,reduceAdd,reduceSub,h0,h1,h11,h12,h13,hi]
      rw [List.drop_of_length_le (by omega),List.drop_of_length_le (by omega)]; rfl
  · have hl':((l.length:Int)=(m.length:Int))=False:=by simp; omega
    have:¬l=m:=fun e=>hl (by rw [e])
    simp only[↓xP,xQ,xR,xS,flatR,reduceLT,Nat.reduceBEq,reduceAdd,reduceSub,List.length_map,ne_eq,hl',not_false_eq_true]
    simp [this]
theorem equalE_ok (l m:List Entry) (hn:l.length≤1048576):EE F 143 [L 6 (l.map Entry.u),L 6 (m.map Entry.u)] []=ok1 (B (eqEs l m)):=by
  rw [R143,b143]
  by_cases hl:l.length=m.length
  · have hl':((l.length:Int)=(m.length:Int))=True:=by simp; omega
    simp only[↓xP,xQ,xR,xS,flatR,reduceLT,Nat.reduceBEq,reduceAdd,reduceSub,List.length_map,ne_eq,hl',not_true_eq_false]
    refine (loop_ind (fun (i:Nat) st=>st.s 0=DU (.sl 6 (l.map Entry.u))∧st.s 1=DU (.sl 6 (m.map Entry.u))∧st.s 11=DU (.sl 6 (l.map Entry.u))∧st.s 12=DI l.length∧st.s 13=DI i) (fun i=>l.length - i) (fun i=>ok1 (B (eqEs (l.drop i) (m.drop i)))) ?_ 0 (by and_intros<;>first|omega|rfl|(simp only[↓xP,xQ,xR,xS,flatR,reduceLT,Nat.reduceBEq,reduceAdd,reduceSub]<;>first|done|rfl|omega))).trans (by rfl)
    rintro i st ⟨h0,h1,h11,h12,h13⟩ ih
    by_cases hi:i<l.length
    · obtain ⟨⟨x1,x2,⟨x3,x4,x5,x6⟩⟩,hx⟩:∃ x,l[i]?=some x:=⟨_,List.getElem?_eq_getElem hi⟩
      obtain ⟨⟨y1,y2,⟨y3,y4,y5,y6⟩⟩,hy⟩:∃ x,m[i]?=some x:=⟨_,List.getElem?_eq_getElem (by omega)⟩
      have hi2:i<m.length:=by omega
      have hw:=w_succ (i:=i) (by omega)
      rw [drop_at hx,drop_at hy]
      simp only[↓xP,xQ,xR,xS,flatR,reduceLT,Nat.reduceBEq,reduceAdd,reduceSub,rdx2,h0,h1,h11,h12,h13,hi,hi2,hx,hy,hw,Entry.u]
      refine sel_split (fun h=>?_) (fun h=>?_)
      · have e:eqE ⟨x1,x2,⟨x3,x4,x5,x6⟩⟩ ⟨y1,y2,⟨y3,y4,y5,y6⟩⟩=false:=by simp at h; simp [eqE]; grind
        simp [eqEs,e]
      · have e:eqE ⟨x1,x2,⟨x3,x4,x5,x6⟩⟩ ⟨y1,y2,⟨y3,y4,y5,y6⟩⟩=true:=by simpa [eqE] using h
        rw [ih (i+1) _ (by omega) (by and_intros<;>first|omega|rfl|(simp only[↓xP,xQ,xR,xS,flatR,reduceLT,Nat.reduceBEq,reduceAdd,reduceSub,h0,h1,h11,h12]<;>first|done|rfl|omega))]
        simp [eqEs,e]
    · simp only[↓xP,xQ,xR,xS,flatR,reduceLT,Nat.reduceBEq,reduceAdd,reduceSub,h0,h1,h11,h12,h13,hi]
      rw [List.drop_of_length_le (by omega),List.drop_of_length_le (by omega)]; rfl
  · have hl':((l.length:Int)=(m.length:Int))=False:=by simp; omega
    simp only[↓xP,xQ,xR,xS,flatR,reduceLT,Nat.reduceBEq,reduceAdd,reduceSub,List.length_map,ne_eq,hl',not_false_eq_true,eqEs_len hl]
def logAt (ns:List Replica) (k:Int):List Entry:=match ns[k.toNat]? with
  | some r=>r.log
  | none=>[]
def headOf (c:Chain):List Entry:=match c.conf.members with
  | []=>[]
  | m::_=>logAt c.nodes m
def calmAt (c:Chain) (k:Int):Bool:=match c.nodes[k.toNat]? with
  | some r=>r.ready&&decide (r.conf.epoch=c.conf.epoch)&&decide (r.conf.members=c.conf.members)&&eqEs r.log (headOf c)
  | none=>false
def chainCalm (c:Chain):Bool:=chainValid c&&c.up.all id&&decide (c.bag.length=0)&&!c.conf.fresh&&c.conf.members.all (calmAt c)&&decide (c.answers.length=(headOf c).length)
theorem head_at (lo up:Str) (prs:List Pair) (kn:List Session) (sld:Bool) (cut:Str) (ep:Int) (ms:List Int) (fr:Bool) (nds:List Replica) (ups:List Bool) (bag:List Message) (ans:List Answer) {m:Nat} {r:Replica} (hm:ms[0]?=some (m:Int)) (hr:nds[m]?=some r):headOf ⟨⟨⟨lo,up⟩,prs,kn,sld,cut⟩,⟨ep,ms,fr⟩,nds,ups,bag,ans⟩=r.log:=by
  cases ms with
  | nil=>simp at hm
  | cons a l=>
    simp only[List.getElem?_cons_zero,Option.some.injEq] at hm
    subst hm
    simp [headOf,logAt,hr]
theorem calm_at (lo up:Str) (prs:List Pair) (kn:List Session) (sld:Bool) (cut:Str) (ep:Int) (ms:List Int) (fr:Bool) (nds:List Replica) (ups:List Bool) (bag:List Message) (ans:List Answer) {m:Nat} {e:Int} {ml:List Int} {f rd:Bool} {lg:List Entry} (hr:nds[m]?=some ⟨⟨e,ml,f⟩,rd,lg⟩):calmAt ⟨⟨⟨lo,up⟩,prs,kn,sld,cut⟩,⟨ep,ms,fr⟩,nds,ups,bag,ans⟩ (m:Int)=(rd&&decide (e=ep)&&decide (ml=ms)&&eqEs lg (headOf ⟨⟨⟨lo,up⟩,prs,kn,sld,cut⟩,⟨ep,ms,fr⟩,nds,ups,bag,ans⟩)):=by
  simp [calmAt,hr]
theorem chain_five {c:Chain} (h:chainValid c=true):c.nodes.length=5∧c.up.length=5:=by
  simp only[chainValid,Bool.and_eq_true,decide_eq_true_eq] at h
  exact ⟨h.1.1.1.1.1.2,h.1.1.1.1.2⟩
theorem chain_mem {c:Chain} (h:chainValid c=true) {y:Int} (hy:y∈c.conf.members):∃ (m:Nat) (e:Int) (ml:List Int) (f rd:Bool) (lg:List Entry),y=(m:Int)∧m<5∧c.nodes[m]?=some ⟨⟨e,ml,f⟩,rd,lg⟩:=by
  obtain ⟨_,_,_,_,_,hin,_⟩:=(configValid_iff _).1 (chain_conf h)
  have hr:=hin y hy
  simp only[inR,Bool.and_eq_true,decide_eq_true_eq] at hr
  obtain ⟨m,rfl⟩:∃ m:Nat,y=(m:Int):=⟨y.toNat,by omega⟩
  have h5:=(chain_five h).1
  obtain ⟨⟨⟨e,ml,f⟩,rd,lg⟩,hx⟩:∃ x,c.nodes[m]?=some x:=⟨_,List.getElem?_eq_getElem (by omega)⟩
  exact ⟨m,e,ml,f,rd,lg,rfl,by omega,hx⟩
theorem chain_first {c:Chain} (h:chainValid c=true):∃ y,c.conf.members[0]?=some y:=by
  obtain ⟨_,_,h1,_⟩:=(configValid_iff _).1 (chain_conf h)
  exact ⟨_,List.getElem?_eq_getElem (by omega)⟩
theorem headLog_ok (lo up:Str) (prs:List Pair) (kn:List Session) (sld:Bool) (cut:Str) (ep:Int) (ms:List Int) (fr:Bool) (nds:List Replica) (ups:List Bool) (bag:List Message) (ans:List Answer) {m:Nat} {e:Int} {ml:List Int} {f rd:Bool} {lg:List Entry} (h5:nds.length=5) (hm5:m<5) (hm:ms[0]?=some (m:Int)) (hl:0<ms.length) (hr:nds[m]?=some ⟨⟨e,ml,f⟩,rd,lg⟩):EE F 141 [.ag [.u (.str lo),.u (.str up),.u (.sl 2 (prs.map Pair.u)),.u (.sl 3 (kn.map Session.u)),.u (.bool sld),.u (.str cut),.u (.int .i64 ep),.u (.sl 1 (ms.map iU)),.u (.bool fr),.u (.sl 5 (nds.map Replica.u)),.u (.sl 1 (ups.map bU)),.u (.sl 7 (bag.map Message.u)),.u (.sl 7 (ans.map Answer.u))]] []=ok1 (L 6 (lg.map Entry.u)):=by
  rw [R141,b141]
  simp only[↓xP,xQ,xR,xS,flatR,reduceLT,Nat.reduceBEq,reduceAdd,reduceSub,hm,hl,hr,h5,hm5,iU,Replica.u]
theorem chainCalm_impl (lo up:Str) (prs:List Pair) (kn:List Session) (sld:Bool) (cut:Str) (ep:Int) (ms:List Int) (fr:Bool) (nds:List Replica) (ups:List Bool) (bag:List Message) (ans:List Answer) (hs:Chain.Small ⟨⟨⟨lo,up⟩,prs,kn,sld,cut⟩,⟨ep,ms,fr⟩,nds,ups,bag,ans⟩):EE F 77 [.ag [.u (.str lo),.u (.str up),.u (.sl 2 (prs.map Pair.u)),.u (.sl 3 (kn.map Session.u)),.u (.bool sld),.u (.str cut),.u (.int .i64 ep),.u (.sl 1 (ms.map iU)),.u (.bool fr),.u (.sl 5 (nds.map Replica.u)),.u (.sl 1 (ups.map bU)),.u (.sl 7 (bag.map Message.u)),.u (.sl 7 (ans.map Answer.u))]] []=ok1 (B (chainCalm ⟨⟨⟨lo,up⟩,prs,kn,sld,cut⟩,⟨ep,ms,fr⟩,nds,ups,bag,ans⟩)):=by
  have hch:=chainValid_impl lo up prs kn sld cut ep ms fr nds ups bag ans hs
  have hct:=contains_false ups (by have:=hs.2.2.2.1.1; simp only at this; omega)
  rw [R77,b77]
  cases q1:chainValid ⟨⟨⟨lo,up⟩,prs,kn,sld,cut⟩,⟨ep,ms,fr⟩,nds,ups,bag,ans⟩
  · simp only[↓xP,xQ,xR,xS,flatR,reduceLT,Nat.reduceBEq,reduceAdd,reduceSub,hch,q1]
    simp [chainCalm,q1]
  obtain ⟨h5,hu5⟩:=chain_five q1
  obtain ⟨y,hy⟩:=chain_first q1
  obtain ⟨m,e,ml,f,rd,lg,rfl,hm5,hr⟩:=chain_mem q1 (List.mem_of_getElem? hy)
  simp only at h5 hu5 hy hr
  have hl:=(List.getElem?_eq_some_iff.1 hy).1
  have hmn:ms.length≤1048576:=hs.2.1.1.1
  have hhd:=headLog_ok lo up prs kn sld cut ep ms fr nds ups bag ans h5 hm5 hy hl hr
  have hho:=head_at lo up prs kn sld cut ep ms fr nds ups bag ans hy hr
  simp only at hho
  cases q2:ups.all id
  · simp only[↓xP,xQ,xR,xS,flatR,reduceLT,Nat.reduceBEq,reduceAdd,reduceSub,hch,q1,hct,q2]
    simp [chainCalm,q1,q2]
  by_cases q3:bag.length=0
  · cases fr
    · have hcc:chainCalm ⟨⟨⟨lo,up⟩,prs,kn,sld,cut⟩,⟨ep,ms,false⟩,nds,ups,bag,ans⟩=((ms.drop 0).all (calmAt ⟨⟨⟨lo,up⟩,prs,kn,sld,cut⟩,⟨ep,ms,false⟩,nds,ups,bag,ans⟩)&&decide (ans.length=lg.length)):=by
        rw [chainCalm,q1,hho]; simp [q2,q3]
      rw [hcc]
      simp only[↓xP,xQ,xR,xS,flatR,reduceLT,Nat.reduceBEq,reduceAdd,reduceSub,hch,q1,hct,q2,q3,hhd,List.length_map]
      refine loop_ind (fun (i:Nat) st=>i≤ms.length∧st.s 1=.t (.sc (.ptr (.loc 1 0) 0 0))∧st.o (.loc 1 0)=some (.box [.u (.str lo),.u (.str up),.u (.sl 2 (prs.map Pair.u)),.u (.sl 3 (kn.map Session.u)),.u (.bool sld),.u (.str cut),.u (.int .i64 ep),.u (.sl 1 (ms.map iU)),.u (.bool false),.u (.sl 5 (nds.map Replica.u)),.u (.sl 1 (ups.map bU)),.u (.sl 7 (bag.map Message.u)),.u (.sl 7 (ans.map Answer.u))])∧st.s 3=DU (.sl 6 (lg.map Entry.u))∧st.s 30=DU (.sl 1 (ms.map iU))∧st.s 31=DI ms.length∧st.s 32=DI i) (fun i=>ms.length - i) (fun i=>ok1 (B ((ms.drop i).all (calmAt ⟨⟨⟨lo,up⟩,prs,kn,sld,cut⟩,⟨ep,ms,false⟩,nds,ups,bag,ans⟩)&&decide (ans.length=lg.length)))) ?_ 0 (by and_intros<;>first|omega|rfl|(simp only[↓xP,xQ,xR,xS,flatR,reduceLT,Nat.reduceBEq,reduceAdd,reduceSub]<;>first|done|rfl|omega))
      rintro i st ⟨hle,h1,hb,h3,h30,h31,h32⟩ ih
      by_cases hi:i<ms.length
      · obtain ⟨y,hx⟩:∃ x,ms[i]?=some x:=⟨_,List.getElem?_eq_getElem hi⟩
        obtain ⟨k,e2,ml2,f2,rd2,lg2,rfl,hk5,hrk⟩:=chain_mem q1 (List.mem_of_getElem? hx)
        simp only at hrk
        have hw:=w_succ (i:=i) (by omega)
        have hrs:=hs.2.2.1.2 _ (List.mem_of_getElem? hrk)
        have he1:=equalI_ok ml2 ms hrs.1.1.1
        have he2:=equalE_ok lg2 lg hrs.2.1.1
        rw [drop_at hx,List.all_cons,calm_at lo up prs kn sld cut ep ms false nds ups bag ans hrk,hho]
        cases q4:rd2
        · simp only[↓xP,xQ,xR,xS,flatR,reduceLT,Nat.reduceBEq,reduceAdd,reduceSub,h1,hb,h3,h30,h31,h32,hi,hx,iU,hrk,hk5,h5,Replica.u,q4]
          try simp
        cases q5:decide (e2=ep)
        · simp only[↓xP,xQ,xR,xS,flatR,reduceLT,Nat.reduceBEq,reduceAdd,reduceSub,rdx2,h1,hb,h3,h30,h31,h32,hi,hx,iU,hrk,hk5,h5,Replica.u,q4,q5,ne_eq,decide_not]
          try simp
        cases q6:decide (ml2=ms)
        · simp only[↓xP,xQ,xR,xS,flatR,reduceLT,Nat.reduceBEq,reduceAdd,reduceSub,rdx2,h1,hb,h3,h30,h31,h32,hi,hx,iU,hrk,hk5,h5,Replica.u,q4,q5,he1,q6,ne_eq,decide_not]
          try simp
        cases q7:eqEs lg2 lg
        · simp only[↓xP,xQ,xR,xS,flatR,reduceLT,Nat.reduceBEq,reduceAdd,reduceSub,rdx2,h1,hb,h3,h30,h31,h32,hi,hx,iU,hrk,hk5,h5,Replica.u,q4,q5,he1,he2,q6,q7,ne_eq,decide_not]
          try simp
        simp only[↓xP,xQ,xR,xS,flatR,reduceLT,Nat.reduceBEq,reduceAdd,reduceSub,rdx2,h1,hb,h3,h30,h31,h32,hi,hx,iU,hrk,hk5,h5,Replica.u,q4,q5,he1,he2,q6,q7,hw,ne_eq,decide_not]
        rw [ih (i+1) _ (by omega) (by and_intros<;>first|omega|rfl|(simp only[↓xP,xQ,xR,xS,flatR,reduceLT,Nat.reduceBEq,reduceAdd,reduceSub,h1,hb,h3,h30,h31,hw]<;>first|done|rfl|omega))]
        try simp
      · simp only[↓xP,xQ,xR,xS,flatR,reduceLT,Nat.reduceBEq,reduceAdd,reduceSub,h1,hb,h3,h30,h31,h32,hi,List.length_map]
        rw [List.drop_of_length_le (by omega)]; simp
    · simp only[↓xP,xQ,xR,xS,flatR,reduceLT,Nat.reduceBEq,reduceAdd,reduceSub,hch,q1,hct,q2,q3,List.length_map]
      simp [chainCalm,sel]
  · have q3':((0:Int)<(bag.length:Int))=True:=by simp; omega
    simp only[↓xP,xQ,xR,xS,flatR,reduceLT,Nat.reduceBEq,reduceAdd,reduceSub,hch,q1,hct,q2,q3',List.length_map]
    simp [chainCalm,q3,sel]
theorem l22Same_ok (l m:List Int) (hn:l.length≤1048576):EE F 138 [L 1 (l.map iU),L 1 (m.map iU)] []=ok1 (B (decide (l=m))):=by
  rw [R138,b138]
  by_cases hl:l.length=m.length
  · have hl':((l.length:Int)=(m.length:Int))=True:=by simp; omega
    simp only[↓xP,xQ,xR,xS,flatR,reduceLT,Nat.reduceBEq,reduceAdd,reduceSub,List.length_map,ne_eq,hl',not_true_eq_false]
    refine (loop_ind (fun (i:Nat) st=>st.s 0=DU (.sl 1 (l.map iU))∧st.s 1=DU (.sl 1 (m.map iU))∧st.s 5=DI i) (fun i=>l.length - i) (fun i=>ok1 (B (decide (l.drop i=m.drop i)))) ?_ 0 (by and_intros<;>first|omega|rfl|(simp only[↓xP,xQ,xR,xS,flatR,reduceLT,Nat.reduceBEq,reduceAdd,reduceSub]<;>first|done|rfl|omega))).trans (by simp)
    rintro i st ⟨h0,h1,h5⟩ ih
    by_cases hi:i<l.length
    · obtain ⟨x,hx⟩:∃ x,l[i]?=some x:=⟨_,List.getElem?_eq_getElem hi⟩
      obtain ⟨y,hy⟩:∃ x,m[i]?=some x:=⟨_,List.getElem?_eq_getElem (by omega)⟩
      have hi2:i<m.length:=by omega
      have hw:=w_succ (i:=i) (by omega)
      rw [drop_at hx,drop_at hy]
      by_cases e:x=y
      · subst e
        simp only[↓xP,xQ,xR,xS,flatR,reduceLT,Nat.reduceBEq,reduceAdd,reduceSub,rdx2,h0,h1,h5,hi,hi2,hx,hy,hw,iU,ne_eq,not_true_eq_false,decide_false]
        rw [ih (i+1) _ (by omega) (by and_intros<;>first|omega|rfl|(simp only[↓xP,xQ,xR,xS,flatR,reduceLT,Nat.reduceBEq,reduceAdd,reduceSub,h0,h1,hw]<;>first|done|rfl|omega))]
        simp [sel]
      · simp only[↓xP,xQ,xR,xS,flatR,reduceLT,Nat.reduceBEq,reduceAdd,reduceSub,rdx2,h0,h1,h5,hi,hi2,hx,hy,hw,iU,e,ne_eq,not_false_eq_true]
        simp [e,sel]
    · simp only[↓xP,xQ,xR,xS,flatR,reduceLT,Nat.reduceBEq,reduceAdd,reduceSub,h0,h1,h5,hi,List.length_map]
      rw [List.drop_of_length_le (by omega),List.drop_of_length_le (by omega)]; rfl
  · have hl':((l.length:Int)=(m.length:Int))=False:=by simp; omega
    have:¬l=m:=fun e=>hl (by rw [e])
    simp only[↓xP,xQ,xR,xS,flatR,reduceLT,Nat.reduceBEq,reduceAdd,reduceSub,List.length_map,ne_eq,hl',not_false_eq_true]
    simp [this]
theorem prefixOf_ok (l m:List Entry) (hl:l.length=m.length) (hn:l.length≤1048576):EE F 139 [L 6 (l.map Entry.u),L 6 (m.map Entry.u)] []=ok1 (B (eqEs l m)):=by
  rw [R139,b139]
  have hl':¬l.length<m.length:=by omega
  simp only[↓xP,xQ,xR,xS,flatR,reduceLT,Nat.reduceBEq,reduceAdd,reduceSub,List.length_map,hl']
  refine (loop_ind (fun (i:Nat) st=>st.s 0=DU (.sl 6 (l.map Entry.u))∧st.s 1=DU (.sl 6 (m.map Entry.u))∧st.s 5=DI i) (fun i=>l.length - i) (fun i=>ok1 (B (eqEs (l.drop i) (m.drop i)))) ?_ 0 (by and_intros<;>first|omega|rfl|(simp only[↓xP,xQ,xR,xS,flatR,reduceLT,Nat.reduceBEq,reduceAdd,reduceSub]<;>first|done|rfl|omega))).trans (by rfl)
  rintro i st ⟨h0,h1,h5⟩ ih
  by_cases hi:i<m.length
  · obtain ⟨⟨x1,x2,⟨x3,x4,x5,x6⟩⟩,hx⟩:∃ x,l[i]?=some x:=⟨_,List.getElem?_eq_getElem (by omega)⟩
    obtain ⟨⟨y1,y2,⟨y3,y4,y5,y6⟩⟩,hy⟩:∃ x,m[i]?=some x:=⟨_,List.getElem?_eq_getElem hi⟩
    have hi2:i<l.length:=by omega
    have hw:=w_succ (i:=i) (by omega)
    rw [drop_at hx,drop_at hy]
    simp only[↓xP,xQ,xR,xS,flatR,reduceLT,Nat.reduceBEq,reduceAdd,reduceSub,rdx2,h0,h1,h5,hi,hi2,hx,hy,hw,Entry.u]
    refine sel_split (fun h=>?_) (fun h=>?_)
    · have e:eqE ⟨x1,x2,⟨x3,x4,x5,x6⟩⟩ ⟨y1,y2,⟨y3,y4,y5,y6⟩⟩=false:=by simp at h; simp [eqE]; grind
      simp [eqEs,e]
    · have e:eqE ⟨x1,x2,⟨x3,x4,x5,x6⟩⟩ ⟨y1,y2,⟨y3,y4,y5,y6⟩⟩=true:=by simpa [eqE] using h
      rw [ih (i+1) _ (by omega) (by and_intros<;>first|omega|rfl|(simp only[↓xP,xQ,xR,xS,flatR,reduceLT,Nat.reduceBEq,reduceAdd,reduceSub,h0,h1,hw]<;>first|done|rfl|omega))]
      simp [eqEs,e]
  · simp only[↓xP,xQ,xR,xS,flatR,reduceLT,Nat.reduceBEq,reduceAdd,reduceSub,h0,h1,h5,hi,List.length_map]
    rw [List.drop_of_length_le (by omega),List.drop_of_length_le (by omega)]; rfl
theorem officialLog_ok (lo up:Str) (prs:List Pair) (kn:List Session) (sld:Bool) (cut:Str) (ep:Int) (ms:List Int) (fr:Bool) (nds:List Replica) (ups:List Bool) (bag:List Message) (ans:List Answer) (hs:Chain.Small ⟨⟨⟨lo,up⟩,prs,kn,sld,cut⟩,⟨ep,ms,fr⟩,nds,ups,bag,ans⟩) {m:Nat} {e:Int} {ml:List Int} {f rd:Bool} {lg:List Entry} (q1:chainValid ⟨⟨⟨lo,up⟩,prs,kn,sld,cut⟩,⟨ep,ms,fr⟩,nds,ups,bag,ans⟩=true) (h5:nds.length=5) (hm5:m<5) (hm:ms[0]?=some (m:Int)) (hl:0<ms.length) (hr:nds[m]?=some ⟨⟨e,ml,f⟩,rd,lg⟩) (hn:lg.length≤1048576):EE F 137 [.ag [.u (.str lo),.u (.str up),.u (.sl 2 (prs.map Pair.u)),.u (.sl 3 (kn.map Session.u)),.u (.bool sld),.u (.str cut),.u (.int .i64 ep),.u (.sl 1 (ms.map iU)),.u (.bool fr),.u (.sl 5 (nds.map Replica.u)),.u (.sl 1 (ups.map bU)),.u (.sl 7 (bag.map Message.u)),.u (.sl 7 (ans.map Answer.u))]] []=some ⟨[.sc (.own (.par 0) lg.length)],[.row 6 (lg.map Entry.u)],[]⟩:=by
  have hch:=chainValid_spec lo up prs kn sld cut ep ms fr nds ups bag ans hs
  have h1:lg.length≤maxLen:=by simp [maxLen]; omega
  have h2:lg.length*56≤140737488355328:=by omega
  rw [R137,b137]
  simp only[↓xP,xQ,xR,xS,flatR,reduceLT,Nat.reduceBEq,reduceAdd,reduceSub,rdx,rdx2,hch,q1,hm,hl,hr,h5,hm5,iU,Replica.u,h1,h2,List.length_map]
theorem chainCalm_spec (lo up:Str) (prs:List Pair) (kn:List Session) (sld:Bool) (cut:Str) (ep:Int) (ms:List Int) (fr:Bool) (nds:List Replica) (ups:List Bool) (bag:List Message) (ans:List Answer) (hs:Chain.Small ⟨⟨⟨lo,up⟩,prs,kn,sld,cut⟩,⟨ep,ms,fr⟩,nds,ups,bag,ans⟩):EE F 76 [.ag [.u (.str lo),.u (.str up),.u (.sl 2 (prs.map Pair.u)),.u (.sl 3 (kn.map Session.u)),.u (.bool sld),.u (.str cut),.u (.int .i64 ep),.u (.sl 1 (ms.map iU)),.u (.bool fr),.u (.sl 5 (nds.map Replica.u)),.u (.sl 1 (ups.map bU)),.u (.sl 7 (bag.map Message.u)),.u (.sl 7 (ans.map Answer.u))]] []=ok1 (B (chainCalm ⟨⟨⟨lo,up⟩,prs,kn,sld,cut⟩,⟨ep,ms,fr⟩,nds,ups,bag,ans⟩)):=by
  have hch:=chainValid_spec lo up prs kn sld cut ep ms fr nds ups bag ans hs
  rw [R76,b76]
  cases q1:chainValid ⟨⟨⟨lo,up⟩,prs,kn,sld,cut⟩,⟨ep,ms,fr⟩,nds,ups,bag,ans⟩
  · simp only[↓xP,xQ,xR,xS,flatR,reduceLT,Nat.reduceBEq,reduceAdd,reduceSub,hch,q1]
    simp [chainCalm,q1]
  obtain ⟨h5,hu5⟩:=chain_five q1
  obtain ⟨y,hy⟩:=chain_first q1
  obtain ⟨m,e,ml,f,rd,lg,rfl,hm5,hr⟩:=chain_mem q1 (List.mem_of_getElem? hy)
  simp only at h5 hu5 hy hr
  have hl:=(List.getElem?_eq_some_iff.1 hy).1
  have hmn:ms.length≤1048576:=hs.2.1.1.1
  have hlg:lg.length≤1048576:=(hs.2.2.1.2 _ (List.mem_of_getElem? hr)).2.1.1
  have hhd:=officialLog_ok lo up prs kn sld cut ep ms fr nds ups bag ans hs q1 h5 hm5 hy hl hr hlg
  have hho:=head_at lo up prs kn sld cut ep ms fr nds ups bag ans hy hr
  simp only at hho
  by_cases q3:bag.length=0
  · cases fr
    · have hcc:chainCalm ⟨⟨⟨lo,up⟩,prs,kn,sld,cut⟩,⟨ep,ms,false⟩,nds,ups,bag,ans⟩=((ups.drop 0).all id&&(ms.all (calmAt ⟨⟨⟨lo,up⟩,prs,kn,sld,cut⟩,⟨ep,ms,false⟩,nds,ups,bag,ans⟩)&&decide (ans.length=lg.length))):=by
        rw [chainCalm,q1,hho]; simp [q3,Bool.and_assoc]
      rw [hcc]
      simp only[↓xP,xQ,xR,xS,flatR,reduceLT,Nat.reduceBEq,reduceAdd,reduceSub,hch,q1,q3,List.length_map]
      refine loop_ind (fun (i:Nat) st=>i≤5∧st.s 1=.t (.sc (.ptr (.loc 1 0) 0 0))∧st.o (.loc 1 0)=some (.box [.u (.str lo),.u (.str up),.u (.sl 2 (prs.map Pair.u)),.u (.sl 3 (kn.map Session.u)),.u (.bool sld),.u (.str cut),.u (.int .i64 ep),.u (.sl 1 (ms.map iU)),.u (.bool false),.u (.sl 5 (nds.map Replica.u)),.u (.sl 1 (ups.map bU)),.u (.sl 7 (bag.map Message.u)),.u (.sl 7 (ans.map Answer.u))])∧st.s 3=DI i) (fun i=>5 - i) (fun i=>ok1 (B ((ups.drop i).all id&&(ms.all (calmAt ⟨⟨⟨lo,up⟩,prs,kn,sld,cut⟩,⟨ep,ms,false⟩,nds,ups,bag,ans⟩)&&decide (ans.length=lg.length))))) ?_ 0 (by and_intros<;>first|omega|rfl|(simp only[↓xP,xQ,xR,xS,flatR,reduceLT,Nat.reduceBEq,reduceAdd,reduceSub]<;>first|done|rfl|omega))
      rintro i st ⟨hle,h1,hb,h3⟩ ih
      by_cases hi:i<5
      · have hlt:((i:Int)<5)=True:=by simp; omega
        have hw:=w_succ (i:=i) (by omega)
        obtain ⟨b,hx⟩:∃ x,ups[i]?=some x:=⟨_,List.getElem?_eq_getElem (by omega)⟩
        rw [drop_at hx,List.all_cons]
        cases b
        · simp only[↓xP,xQ,xR,xS,flatR,reduceLT,Nat.reduceBEq,reduceAdd,reduceSub,rdx2,h1,hb,h3,hlt,hi,hx,hu5,bU]
          try simp
        · simp only[↓xP,xQ,xR,xS,flatR,reduceLT,Nat.reduceBEq,reduceAdd,reduceSub,rdx2,h1,hb,h3,hlt,hi,hx,hu5,hw,bU]
          rw [ih (i+1) _ (by omega) (by and_intros<;>first|omega|rfl|(simp only[↓xP,xQ,xR,xS,flatR,reduceLT,Nat.reduceBEq,reduceAdd,reduceSub,h1,hb,hw]<;>first|done|rfl|omega))]
          try simp
      have hlt:((i:Int)<5)=False:=by simp; omega
      have hd:ups.drop i=[]:=List.drop_of_length_le (by omega)
      rw [hd,List.all_nil,Bool.true_and]
      simp only[↓xP,xQ,xR,xS,flatR,reduceLT,Nat.reduceBEq,reduceAdd,reduceSub,h1,hb,h3,hlt,hhd]
      refine (loop_ind (fun (i:Nat) st=>i≤ms.length∧st.s 1=.t (.sc (.ptr (.loc 1 0) 0 0))∧st.o (.loc 1 0)=some (.box [.u (.str lo),.u (.str up),.u (.sl 2 (prs.map Pair.u)),.u (.sl 3 (kn.map Session.u)),.u (.bool sld),.u (.str cut),.u (.int .i64 ep),.u (.sl 1 (ms.map iU)),.u (.bool false),.u (.sl 5 (nds.map Replica.u)),.u (.sl 1 (ups.map bU)),.u (.sl 7 (bag.map Message.u)),.u (.sl 7 (ans.map Answer.u))])∧st.s 4=.t (.sc (.own (.loc 32 0) lg.length))∧st.o (.loc 32 0)=some (.row 6 (lg.map Entry.u))∧st.s 5=DI i) (fun i=>ms.length - i) (fun i=>ok1 (B ((ms.drop i).all (calmAt ⟨⟨⟨lo,up⟩,prs,kn,sld,cut⟩,⟨ep,ms,false⟩,nds,ups,bag,ans⟩)&&decide (ans.length=lg.length)))) ?_ 0 (by and_intros<;>first|omega|rfl|(simp only[↓xP,xQ,xR,xS,flatR,reduceLT,Nat.reduceBEq,reduceAdd,reduceSub,h1,hb]<;>first|done|rfl|omega))).trans (by rfl)
      clear h1 hb h3 hlt ih hi hle hd
      rintro i st ⟨hle,h1,hb,h4,ho,h5'⟩ ih
      by_cases hi:i<ms.length
      · obtain ⟨y,hx⟩:∃ x,ms[i]?=some x:=⟨_,List.getElem?_eq_getElem hi⟩
        obtain ⟨k,e2,ml2,f2,rd2,lg2,rfl,hk5,hrk⟩:=chain_mem q1 (List.mem_of_getElem? hx)
        simp only at hrk
        have hw:=w_succ (i:=i) (by omega)
        have hrs:=hs.2.2.1.2 _ (List.mem_of_getElem? hrk)
        have he1:=l22Same_ok ml2 ms hrs.1.1.1
        rw [drop_at hx,List.all_cons,calm_at lo up prs kn sld cut ep ms false nds ups bag ans hrk,hho]
        cases q4:rd2
        · simp only[↓xP,xQ,xR,xS,flatR,reduceLT,Nat.reduceBEq,reduceAdd,reduceSub,rdx,rdx2,h1,hb,h4,ho,h5',hi,hx,iU,hrk,hk5,h5,Replica.u,q4,List.length_map]
          try simp
        cases q5:decide (e2=ep)
        · simp only[↓xP,xQ,xR,xS,flatR,reduceLT,Nat.reduceBEq,reduceAdd,reduceSub,rdx,rdx2,h1,hb,h4,ho,h5',hi,hx,iU,hrk,hk5,h5,Replica.u,q4,q5,List.length_map,ne_eq,decide_not]
          try simp
        cases q6:decide (ml2=ms)
        · simp only[↓xP,xQ,xR,xS,flatR,reduceLT,Nat.reduceBEq,reduceAdd,reduceSub,rdx,rdx2,h1,hb,h4,ho,h5',hi,hx,iU,hrk,hk5,h5,Replica.u,q4,q5,he1,q6,List.length_map,ne_eq,decide_not]
          try simp
        by_cases q7:lg2.length=lg.length
        · have he2:=prefixOf_ok lg2 lg q7 hrs.2.1.1
          cases q8:eqEs lg2 lg
          · simp only[↓xP,xQ,xR,xS,flatR,reduceLT,Nat.reduceBEq,reduceAdd,reduceSub,rdx,rdx2,h1,hb,h4,ho,h5',hi,hx,iU,hrk,hk5,h5,Replica.u,q4,q5,he1,he2,q6,q7,q8,List.length_map,map_all,ne_eq,decide_not]
            try simp
          simp only[↓xP,xQ,xR,xS,flatR,reduceLT,Nat.reduceBEq,reduceAdd,reduceSub,rdx,rdx2,h1,hb,h4,ho,h5',hi,hx,iU,hrk,hk5,h5,Replica.u,q4,q5,he1,he2,q6,q7,q8,hw,List.length_map,map_all,ne_eq,decide_not]
          rw [ih (i+1) _ (by omega) (by and_intros<;>first|omega|rfl|(simp only[↓xP,xQ,xR,xS,flatR,reduceLT,Nat.reduceBEq,reduceAdd,reduceSub,h1,hb,h4,ho,hw]<;>first|done|rfl|omega))]
          try simp
        · have q8:=eqEs_len q7
          have q7':((lg2.length:Int)=(lg.length:Int))=False:=by simp; omega
          simp only[↓xP,xQ,xR,xS,flatR,reduceLT,Nat.reduceBEq,reduceAdd,reduceSub,rdx,rdx2,h1,hb,h4,ho,h5',hi,hx,iU,hrk,hk5,h5,Replica.u,q4,q5,he1,q6,q7',q8,List.length_map,map_all,ne_eq,decide_not]
          try simp
      · simp only[↓xP,xQ,xR,xS,flatR,reduceLT,Nat.reduceBEq,reduceAdd,reduceSub,h1,hb,h4,ho,h5',hi,List.length_map]
        rw [List.drop_of_length_le (by omega)]; simp
    · simp only[↓xP,xQ,xR,xS,flatR,reduceLT,Nat.reduceBEq,reduceAdd,reduceSub,hch,q1,q3,List.length_map]
      simp [chainCalm,sel]
  · have q3':((0:Int)<(bag.length:Int))=True:=by simp; omega
    simp only[↓xP,xQ,xR,xS,flatR,reduceLT,Nat.reduceBEq,reduceAdd,reduceSub,hch,q1,q3',List.length_map]
    simp [chainCalm,q3,sel]
def clusterRest (x:Cluster):Bool:=clusterValid x&&noPlan x.work&&x.shards.all (fun s=>chainCalm s.group)&&x.clients.all (fun c=>!c.busy)
theorem noPlan_kind {x:Cluster} (h:clusterValid x=true):noPlan x.work=decide (x.work.kind=0):=by
  have hw:workOk x.work x.shards.length=true:=by simp only[clusterValid,Bool.and_eq_true] at h; exact h.1.2
  cases hn:noPlan x.work
  · simp only[workOk,hn,Bool.false_or,Bool.and_eq_true] at hw
    have hp:=hw.1.1
    by_cases hk:x.work.kind=0
    · simp [planValid,hk] at hp
    · simp [hk]
  · simp only[noPlan,Bool.and_eq_true] at hn
    rw [hn.1.1.1.1.1.1]
theorem cluster_four {c0:List Shard} {c1:List Caller} {c2:List Result} {w:Plan} {a b:Int} (h:clusterValid ⟨c0,c1,c2,w,a,b⟩=true):c1.length=4:=by
  simp only[clusterValid,sizesOk,Bool.and_eq_true,decide_eq_true_eq] at h
  exact h.1.1.1.1.1.1.2
theorem clusterRest_impl (c0:List Shard) (c1:List Caller) (c2:List Result) (c3 c4 c5:Int) (c6:Str) (c7 c8 c9 c10 c11:Int) (hs:Cluster.Small ⟨c0,c1,c2,⟨c3,c4,c5,c6,c7,c8,c9⟩,c10,c11⟩):EE F 20 [.ag [.u (.sl 14 (c0.map Shard.u)),.u (.sl 8 (c1.map Caller.u)),.u (.sl 9 (c2.map Result.u)),.u (.int .i64 c3),.u (.int .i64 c4),.u (.int .i64 c5),.u (.str c6),.u (.int .i64 c7),.u (.int .i64 c8),.u (.int .i64 c9),.u (.int .i64 c10),.u (.int .i64 c11)]] []=ok1 (B (clusterRest ⟨c0,c1,c2,⟨c3,c4,c5,c6,c7,c8,c9⟩,c10,c11⟩)):=by
  have hcvs:=clusterValid_impl c0 c1 c2 c3 c4 c5 c6 c7 c8 c9 c10 c11 hs
  have hsh:=hs.1
  have hn0:c0.length≤1048576:=hsh.1
  have hn1:c1.length≤1048576:=hs.2.1.1
  have hnp:(decide (c3=0)&&(decide (c4=0)&&(decide (c5=0)&&(decide (c6=[])&&(decide (c7=0)&&(decide (c8=0)&&decide (c9=0)))))))=noPlan ⟨c3,c4,c5,c6,c7,c8,c9⟩:=by simp only[noPlan,Bool.and_assoc]
  rw [R20,b20]
  cases hv:clusterValid ⟨c0,c1,c2,⟨c3,c4,c5,c6,c7,c8,c9⟩,c10,c11⟩
  · simp only[↓xP,xQ,xR,xS,flatR,reduceLT,Nat.reduceBEq,reduceAdd,reduceSub,hcvs,hv]
    simp [clusterRest,hv]
  cases hp:noPlan ⟨c3,c4,c5,c6,c7,c8,c9⟩
  · simp only[↓xP,xQ,xR,xS,flatR,reduceLT,Nat.reduceBEq,reduceAdd,reduceSub,hcvs,hv,hnp,hp]
    simp [clusterRest,hv,hp]
  have hcr:clusterRest ⟨c0,c1,c2,⟨c3,c4,c5,c6,c7,c8,c9⟩,c10,c11⟩=((c0.drop 0).all (fun s=>chainCalm s.group)&&c1.all (fun c=>!c.busy)):=by simp [clusterRest,hv,hp]
  rw [hcr]
  simp only[↓xP,xQ,xR,xS,flatR,reduceLT,Nat.reduceBEq,reduceAdd,reduceSub,hcvs,hv,hnp,hp]
  refine loop_ind (fun (i:Nat) st=>i≤c0.length∧st.s 1=.t (.sc (.ptr (.loc 1 0) 0 0))∧st.o (.loc 1 0)=some (.box [.u (.sl 14 (c0.map Shard.u)),.u (.sl 8 (c1.map Caller.u)),.u (.sl 9 (c2.map Result.u)),.u (.int .i64 c3),.u (.int .i64 c4),.u (.int .i64 c5),.u (.str c6),.u (.int .i64 c7),.u (.int .i64 c8),.u (.int .i64 c9),.u (.int .i64 c10),.u (.int .i64 c11)])∧st.s 17=DU (.sl 14 (c0.map Shard.u))∧st.s 18=DI c0.length∧st.s 19=DI i) (fun i=>c0.length - i) (fun i=>ok1 (B ((c0.drop i).all (fun s=>chainCalm s.group)&&c1.all (fun c=>!c.busy)))) ?_ 0 (by and_intros<;>first|omega|rfl|(simp only[↓xP,xQ,xR,xS,flatR,reduceLT,Nat.reduceBEq,reduceAdd,reduceSub]<;>first|done|rfl|omega))
  rintro i st ⟨hle,h1,hb,h17,h18,h19⟩ ih
  by_cases hi:i<c0.length
  · obtain ⟨⟨live,⟨⟨⟨lo,up⟩,prs,kn,sld,cut⟩,⟨ep,ms,fr⟩,nds,ups,bag,ans⟩⟩,hx⟩:∃ x,c0[i]?=some x:=⟨_,List.getElem?_eq_getElem hi⟩
    have hw:=w_succ (i:=i) (by omega)
    have hsx:=hsh.2 _ (List.mem_of_getElem? hx)
    have hch:=chainCalm_impl lo up prs kn sld cut ep ms fr nds ups bag ans hsx.1
    rw [drop_at hx,List.all_cons]
    cases q1:chainCalm ⟨⟨⟨lo,up⟩,prs,kn,sld,cut⟩,⟨ep,ms,fr⟩,nds,ups,bag,ans⟩
    · simp only[↓xP,xQ,xR,xS,flatR,reduceLT,Nat.reduceBEq,reduceAdd,reduceSub,rdx2,h1,hb,h17,h18,h19,hi,hx,hw,Shard.u,hch,q1]
      try simp
    · simp only[↓xP,xQ,xR,xS,flatR,reduceLT,Nat.reduceBEq,reduceAdd,reduceSub,rdx2,h1,hb,h17,h18,h19,hi,hx,hw,Shard.u,hch,q1]
      rw [ih (i+1) _ (by omega) (by and_intros<;>first|omega|rfl|(simp only[↓xP,xQ,xR,xS,flatR,reduceLT,Nat.reduceBEq,reduceAdd,reduceSub,h1,hb,h17,h18,hw]<;>first|done|rfl|omega))]
      try simp
  simp only[↓xP,xQ,xR,xS,flatR,reduceLT,Nat.reduceBEq,reduceAdd,reduceSub,h1,hb,h17,h18,h19,hi]
  rw [List.drop_of_length_le (by omega),List.all_nil,Bool.true_and]
  refine (loop_ind (fun (i:Nat) st=>i≤c1.length∧st.s 29=DU (.sl 8 (c1.map Caller.u))∧st.s 30=DI c1.length∧st.s 31=DI i) (fun i=>c1.length - i) (fun i=>ok1 (B ((c1.drop i).all (fun c=>!c.busy)))) ?_ 0 (by and_intros<;>first|omega|rfl|(simp only[↓xP,xQ,xR,xS,flatR,reduceLT,Nat.reduceBEq,reduceAdd,reduceSub,h1,hb,h17,h18]<;>first|done|rfl|omega))).trans (by rfl)
  clear h1 hb h17 h18 h19 hi ih hle
  rintro i st ⟨hle,h29,h30,h31⟩ ih
  by_cases hi:i<c1.length
  · obtain ⟨⟨cch,csq,cbz,⟨ck,ckey,cv,co⟩,ccd⟩,hx⟩:∃ x,c1[i]?=some x:=⟨_,List.getElem?_eq_getElem hi⟩
    have hw:=w_succ (i:=i) (by omega)
    rw [drop_at hx,List.all_cons]
    cases cbz
    · simp only[↓xP,xQ,xR,xS,flatR,reduceLT,Nat.reduceBEq,reduceAdd,reduceSub,rdx2,h29,h30,h31,hi,hx,hw,Caller.u]
      rw [ih (i+1) _ (by omega) (by and_intros<;>first|omega|rfl|(simp only[↓xP,xQ,xR,xS,flatR,reduceLT,Nat.reduceBEq,reduceAdd,reduceSub,h29,h30,hw]<;>first|done|rfl|omega))]
      try simp
    · simp only[↓xP,xQ,xR,xS,flatR,reduceLT,Nat.reduceBEq,reduceAdd,reduceSub,rdx2,h29,h30,h31,hi,hx,hw,Caller.u]
      try simp
  simp only[↓xP,xQ,xR,xS,flatR,reduceLT,Nat.reduceBEq,reduceAdd,reduceSub,h29,h30,h31,hi]
  rw [List.drop_of_length_le (by omega)]; rfl
theorem clusterRest_spec (c0:List Shard) (c1:List Caller) (c2:List Result) (c3 c4 c5:Int) (c6:Str) (c7 c8 c9 c10 c11:Int) (hs:Cluster.Small ⟨c0,c1,c2,⟨c3,c4,c5,c6,c7,c8,c9⟩,c10,c11⟩):EE F 19 [.ag [.u (.sl 14 (c0.map Shard.u)),.u (.sl 8 (c1.map Caller.u)),.u (.sl 9 (c2.map Result.u)),.u (.int .i64 c3),.u (.int .i64 c4),.u (.int .i64 c5),.u (.str c6),.u (.int .i64 c7),.u (.int .i64 c8),.u (.int .i64 c9),.u (.int .i64 c10),.u (.int .i64 c11)]] []=ok1 (B (clusterRest ⟨c0,c1,c2,⟨c3,c4,c5,c6,c7,c8,c9⟩,c10,c11⟩)):=by
  have hcvs:=clusterValid_spec c0 c1 c2 c3 c4 c5 c6 c7 c8 c9 c10 c11 hs
  have hsh:=hs.1
  have hn0:c0.length≤1048576:=hsh.1
  rw [R19,b19]
  cases hv:clusterValid ⟨c0,c1,c2,⟨c3,c4,c5,c6,c7,c8,c9⟩,c10,c11⟩
  · simp only[↓xP,xQ,xR,xS,flatR,reduceLT,Nat.reduceBEq,reduceAdd,reduceSub,hcvs,hv]
    simp [clusterRest,hv]
  have h4:=cluster_four hv
  have hnk:=noPlan_kind hv
  simp only at hnk
  by_cases hp:c3=0
  · subst hp
    have hcr:clusterRest ⟨c0,c1,c2,⟨0,c4,c5,c6,c7,c8,c9⟩,c10,c11⟩=((c0.drop 0).all (fun s=>chainCalm s.group)&&c1.all (fun c=>!c.busy)):=by simp [clusterRest,hv,hnk]
    rw [hcr]
    simp only[↓xP,xQ,xR,xS,flatR,reduceLT,Nat.reduceBEq,reduceAdd,reduceSub,hcvs,hv,ne_eq,not_true_eq_false,decide_false]
    refine loop_ind (fun (i:Nat) st=>i≤c0.length∧st.s 1=.t (.sc (.ptr (.loc 1 0) 0 0))∧st.o (.loc 1 0)=some (.box [.u (.sl 14 (c0.map Shard.u)),.u (.sl 8 (c1.map Caller.u)),.u (.sl 9 (c2.map Result.u)),.u (.int .i64 0),.u (.int .i64 c4),.u (.int .i64 c5),.u (.str c6),.u (.int .i64 c7),.u (.int .i64 c8),.u (.int .i64 c9),.u (.int .i64 c10),.u (.int .i64 c11)])∧st.s 3=DI i) (fun i=>c0.length - i) (fun i=>ok1 (B ((c0.drop i).all (fun s=>chainCalm s.group)&&c1.all (fun c=>!c.busy)))) ?_ 0 (by and_intros<;>first|omega|rfl|(simp only[↓xP,xQ,xR,xS,flatR,reduceLT,Nat.reduceBEq,reduceAdd,reduceSub]<;>first|done|rfl|omega))
    rintro i st ⟨hle,h1,hb,h3⟩ ih
    by_cases hi:i<c0.length
    · obtain ⟨⟨live,⟨⟨⟨lo,up⟩,prs,kn,sld,cut⟩,⟨ep,ms,fr⟩,nds,ups,bag,ans⟩⟩,hx⟩:∃ x,c0[i]?=some x:=⟨_,List.getElem?_eq_getElem hi⟩
      have hw:=w_succ (i:=i) (by omega)
      have hsx:=hsh.2 _ (List.mem_of_getElem? hx)
      have hch:=chainCalm_spec lo up prs kn sld cut ep ms fr nds ups bag ans hsx.1
      rw [drop_at hx,List.all_cons]
      cases q1:chainCalm ⟨⟨⟨lo,up⟩,prs,kn,sld,cut⟩,⟨ep,ms,fr⟩,nds,ups,bag,ans⟩
      · simp only[↓xP,xQ,xR,xS,flatR,reduceLT,Nat.reduceBEq,reduceAdd,reduceSub,rdx2,h1,hb,h3,hi,hx,hw,Shard.u,hch,q1]
        try simp
      · simp only[↓xP,xQ,xR,xS,flatR,reduceLT,Nat.reduceBEq,reduceAdd,reduceSub,rdx2,h1,hb,h3,hi,hx,hw,Shard.u,hch,q1]
        rw [ih (i+1) _ (by omega) (by and_intros<;>first|omega|rfl|(simp only[↓xP,xQ,xR,xS,flatR,reduceLT,Nat.reduceBEq,reduceAdd,reduceSub,h1,hb,hw]<;>first|done|rfl|omega))]
        try simp
    simp only[↓xP,xQ,xR,xS,flatR,reduceLT,Nat.reduceBEq,reduceAdd,reduceSub,h1,hb,h3,hi]
    rw [List.drop_of_length_le (by omega),List.all_nil,Bool.true_and]
    refine (loop_ind (fun (i:Nat) st=>i≤4∧st.s 1=.t (.sc (.ptr (.loc 1 0) 0 0))∧st.o (.loc 1 0)=some (.box [.u (.sl 14 (c0.map Shard.u)),.u (.sl 8 (c1.map Caller.u)),.u (.sl 9 (c2.map Result.u)),.u (.int .i64 0),.u (.int .i64 c4),.u (.int .i64 c5),.u (.str c6),.u (.int .i64 c7),.u (.int .i64 c8),.u (.int .i64 c9),.u (.int .i64 c10),.u (.int .i64 c11)])∧st.s 4=DI i) (fun i=>4 - i) (fun i=>ok1 (B ((c1.drop i).all (fun c=>!c.busy)))) ?_ 0 (by and_intros<;>first|omega|rfl|(simp only[↓xP,xQ,xR,xS,flatR,reduceLT,Nat.reduceBEq,reduceAdd,reduceSub,h1,hb]<;>first|done|rfl|omega))).trans (by rfl)
    clear h1 hb h3 hi ih hle
    rintro i st ⟨hle,h1,hb,h5⟩ ih
    by_cases hi:i<4
    · have hlt:((i:Int)<4)=True:=by simp; omega
      have hi2:i<c1.length:=by omega
      obtain ⟨⟨cch,csq,cbz,⟨ck,ckey,cv,co⟩,ccd⟩,hx⟩:∃ x,c1[i]?=some x:=⟨_,List.getElem?_eq_getElem hi2⟩
      have hw:=w_succ (i:=i) (by omega)
      rw [drop_at hx,List.all_cons]
      cases cbz
      · simp only[↓xP,xQ,xR,xS,flatR,reduceLT,Nat.reduceBEq,reduceAdd,reduceSub,rdx2,h1,hb,h5,hlt,hi2,hx,hw,Caller.u]
        rw [ih (i+1) _ (by omega) (by and_intros<;>first|omega|rfl|(simp only[↓xP,xQ,xR,xS,flatR,reduceLT,Nat.reduceBEq,reduceAdd,reduceSub,h1,hb,hw]<;>first|done|rfl|omega))]
        try simp
      · simp only[↓xP,xQ,xR,xS,flatR,reduceLT,Nat.reduceBEq,reduceAdd,reduceSub,rdx2,h1,hb,h5,hlt,hi2,hx,hw,Caller.u]
        try simp
    have hlt:((i:Int)<4)=False:=by simp; omega
    simp only[↓xP,xQ,xR,xS,flatR,reduceLT,Nat.reduceBEq,reduceAdd,reduceSub,h1,hb,h5,hlt]
    rw [List.drop_of_length_le (by omega)]; rfl
  · simp only[↓xP,xQ,xR,xS,flatR,reduceLT,Nat.reduceBEq,reduceAdd,reduceSub,hcvs,hv,hp,ne_eq,not_false_eq_true]
    simp [clusterRest,hv,hnk,hp]
theorem dead3 (st:St) (d:Nat):st.dead d 3=(isNo (st.o (.loc d 0))&&(isNo (st.o (.loc d 1))&&isNo (st.o (.loc d 2)))):=by simp [St.dead,isNo,List.range_succ,Bool.and_assoc]
theorem app3 (st:St) (d:Nat) (v:D) (a b c:Id) (x y z:Obj) (rd:List Id):Fx.app ⟨some d,v,[(a,x),(b,y),(c,z)],rd⟩ st=(((st.obj a (some x)).obj b (some y)).obj c (some z)).put d v:=rfl
theorem law_FnExactClusterRest (us:List U) (hl:us.length=12) (ht:∀ (j:Nat) ty u,[Ty.sl [.b,.s,.s,.sl [.s,.i .i64],.sl [.i .i64,.i .i64,.i .i64],.b,.s,.i .i64,.sl [.i .i64],.b,.sl [.i .i64,.sl [.i .i64],.b,.b,.sl [.i .i64,.i .i64,.i .i64,.s,.i .i64,.i .i64]],.sl [.b],.sl [.i .i64,.i .i64,.i .i64,.i .i64,.sl [.i .i64],.b,.sl [.i .i64,.i .i64,.i .i64,.s,.i .i64,.i .i64]],.sl [.i .i64,.i .i64,.i .i64,.s,.i .i64,.i .i64,.i .i64]],.sl [.sl [.i .i64,.s,.s],.i .i64,.b,.i .i64,.s,.i .i64,.i .i64,.i .i64],.sl [.i .i64,.i .i64,.i .i64,.s,.i .i64,.i .i64,.i .i64,.i .i64,.i .i64],.i .i64,.i .i64,.i .i64,.s,.i .i64,.i .i64,.i .i64,.i .i64,.i .i64][j]?=some ty→us[j]?=some u→UT ty u):EE F 4 [.ag (us.map .u)] []=ok1 (B true):=by
  obtain ⟨⟨c0,c1,c2,⟨c3,c4,c5,c6,c7,c8,c9⟩,c10,c11⟩,rfl,hf⟩:=Cluster.of us hl ht
  rw [R4,b4]
  simp only[↓xP,xQ,xR,xS,flatR,reduceLT,Nat.reduceBEq,reduceAdd,reduceSub,Cluster.u,List.map,szCluster_ok c0 c1 c2 c3 c4 c5 c6 c7 c8 c9 c10 c11 hf]
  refine sel_split (fun h=>?_) (fun h=>?_)
  · rfl
  simp only[decide_eq_false_iff_not] at h
  have hs:=(szCluster_le _ hf 1048576 (by omega) (by omega)).2 (by omega)
  have hi:=clusterRest_impl c0 c1 c2 c3 c4 c5 c6 c7 c8 c9 c10 c11 hs
  have hsp:=clusterRest_spec c0 c1 c2 c3 c4 c5 c6 c7 c8 c9 c10 c11 hs
  cases hb:clusterRest ⟨c0,c1,c2,⟨c3,c4,c5,c6,c7,c8,c9⟩,c10,c11⟩<;>
  simp only[↓xP,xQ,xR,xS,flatR,reduceLT,Nat.reduceBEq,reduceAdd,reduceSub,rdx,rdx2,ofR,dead3,app3,List.getElem?_nil,toCluster_ok c0 c1 c2 c3 c4 c5 c6 c7 c8 c9 c10 c11 hs,hi,hsp,hb,eqCluster_ok c0 c1 c2 c3 c4 c5 c6 c7 c8 c9 c10 c11 hs,map_all,List.length_map,bne_self_eq_false]
end Go.Proofs.YtmfjkbbmhaofbaaGreatV
