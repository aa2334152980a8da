/- Lemmas of functions that the law FnExactHistory reaches, and that it returns true for all data of its types. No conditions but those that the lemmas state. -/
import Derived.Test.YtmfjkbbmhaofbaaGreatA1
namespace Go.Proofs.YtmfjkbbmhaofbaaGreatV
open Go Go.RowKit
open Nat (reduceLT reduceAdd reduceSub)
open IOp (dst isF args)
set_option linter.unusedVariables false
set_option linter.unusedSimpArgs false
set_option maxRecDepth 4000
theorem liveRoutes_ok (c0:List Shard) (c1:List Caller) (c2:List Result) (c3 c4 c5:Int) (c6:Str) (c7 c8 c9 c10 c11:Int) (h8:c0.length≤8):EE F 79 [.ag [.u (.sl 14 (c0.map Shard.u)),.u (.sl 8 (c1.map Caller.u)),.u (.sl 9 (c2.map Result.u)),.u (.int .i64 c3),.u (.int .i64 c4),.u (.int .i64 c5),.u (.str c6),.u (.int .i64 c7),.u (.int .i64 c8),.u (.int .i64 c9),.u (.int .i64 c10),.u (.int .i64 c11)]] []=routesRet c0:=by
  rw [R79,b79]
  simp only [↓xP,xQ,xR,xS,flatR,reduceLT,Nat.reduceBEq,reduceAdd,reduceSub]
  refine loop_ind (fun (i:Nat) st=>i≤c0.length∧st.s 3=.t (.sc (.own (.loc 3 0) (liveR (c0.take i) 0).length))∧st.o (.loc 3 0)=some (.row 3 ((liveR (c0.take i) 0).map Route.u))∧st.s 7=DU (.sl 14 (c0.map Shard.u))∧st.s 8=DI c0.length∧st.s 9=DI i) (fun i=>c0.length - i) (fun _=>routesRet c0) ?_ 0 (by and_intros<;>first | omega | rfl | (simp only [↓xP,xQ,xR,xS,flatR,reduceLT,Nat.reduceBEq,reduceAdd,reduceSub]<;>first | done | rfl | omega))
  rintro i st ⟨hle,h3,ho,h7,h8',h9⟩ ih
  by_cases hi:i<c0.length
  · obtain ⟨⟨live,⟨⟨⟨lo,up⟩,prs,kn,sld,cut⟩,⟨ep,ms,fr⟩,nds,ups,bag,ans⟩⟩,hx⟩:∃ x,c0[i]?=some x:=⟨_,List.getElem?_eq_getElem hi⟩
    have hw:=w_succ (i:=i) (by omega)
    have hst:=liveR_step hx
    have hll:=liveR_len (c0.take i) 0
    have hlt:(c0.take i).length=i:=by rw [List.length_take]; omega
    obtain ⟨q1,q2⟩:=small_max (n:=(liveR (c0.take i) 0).length+1) (k:=40) (by omega) (by omega)
    cases live
    · simp only [Bool.false_eq_true,if_false,List.append_nil] at hst
      simp only [↓xP,xQ,xR,xS,flatR,reduceLT,Nat.reduceBEq,reduceAdd,reduceSub,h3,ho,h7,h8',h9,hi,hx,hw,Shard.u]
      rw [ih (i+1) _ (by omega) (by and_intros<;>first | omega | rfl | (simp only [↓xP,xQ,xR,xS,flatR,reduceLT,Nat.reduceBEq,reduceAdd,reduceSub,h3,ho,h7,h8',hst]<;>first | done | rfl | omega))]
    · simp only [if_true] at hst
      simp only [↓xP,xQ,xR,xS,flatR,reduceLT,Nat.reduceBEq,reduceAdd,reduceSub,h3,ho,h7,h8',h9,hi,hx,hw,Shard.u,List.length_map,q1,q2]
      have hm:(liveR (c0.take i) 0).map Route.u++[[.int .i64 (i:Int),.str lo,.str up]]=(liveR (c0.take (i+1)) 0).map Route.u:=by rw [hst]; simp [Route.u]
      have hln:(liveR (c0.take i) 0).length+1=(liveR (c0.take (i+1)) 0).length:=by rw [hst]; simp
      rw [ih (i+1) _ (by omega) (by and_intros<;>first | omega | rfl | (simp only [↓xP,xQ,xR,xS,flatR,reduceLT,Nat.reduceBEq,reduceAdd,reduceSub,h3,ho,h7,h8',hm,hln]<;>first | done | rfl | omega))]
  · obtain rfl:i=c0.length:=by omega
    rw [List.take_length] at h3 ho
    have hll:=liveR_len c0 0
    have hs:=stableSort_go (liveR c0 0) _ rfl (by omega)
    have hsl:=sortR_len (liveR c0 0)
    simp only [↓xP,xQ,xR,xS,flatR,reduceLT,Nat.reduceBEq,reduceAdd,reduceSub,h3,ho,h7,h8',h9,hi,hs,List.length_map,hsl,Nat.le_refl,routesRet,routesOf]
theorem sortR_snoc (l:List Route) (x:Route):sortR (l++[x])=insL (sortR l) x:=by simp [sortR]
def swid:Bool→Id
  | false=>.loc 8 0
  | true=>.loc 33 0
theorem takes_ok {l:List Route} {j:Nat} {x:Route} (hj:j≤l.length) (ha:∀ q,q∈l.take j→rle q x=true) (hb:∀ q,l[j]?=some q→rle q x=false):l.take j++x::l.drop j=insL l x:=by
  have:=insL_at (a:=l.take j) (b:=l.drop j) (x:=x) ha (fun q hq=>hb q (by rw [List.head?_drop] at hq; exact hq))
  rw [List.take_append_drop] at this
  exact this.symm
theorem l27Routes_ok (c0:List Shard) (c1:List Caller) (c2:List Result) (c3 c4 c5:Int) (c6:Str) (c7 c8 c9 c10 c11:Int) (h8:c0.length≤8):EE F 82 [.ag [.u (.sl 14 (c0.map Shard.u)),.u (.sl 8 (c1.map Caller.u)),.u (.sl 9 (c2.map Result.u)),.u (.int .i64 c3),.u (.int .i64 c4),.u (.int .i64 c5),.u (.str c6),.u (.int .i64 c7),.u (.int .i64 c8),.u (.int .i64 c9),.u (.int .i64 c10),.u (.int .i64 c11)]] []=routesRet c0:=by
  rw [R82,b82]
  simp only [↓xP,xQ,xR,xS,flatR,reduceLT,Nat.reduceBEq,reduceAdd,reduceSub]
  refine loop_ind (fun (a:Nat×Bool) st=>a.1≤c0.length∧(a.2=false→sortR (liveR (c0.take a.1) 0)=[])∧st.s 1=.t (.sc (.ptr (.loc 1 0) 0 0))∧st.o (.loc 1 0)=some (.box [.u (.sl 14 (c0.map Shard.u)),.u (.sl 8 (c1.map Caller.u)),.u (.sl 9 (c2.map Result.u)),.u (.int .i64 c3),.u (.int .i64 c4),.u (.int .i64 c5),.u (.str c6),.u (.int .i64 c7),.u (.int .i64 c8),.u (.int .i64 c9),.u (.int .i64 c10),.u (.int .i64 c11)])∧st.s 3=.t (.sc (.own (swid a.2) (sortR (liveR (c0.take a.1) 0)).length))∧st.o (swid a.2)=some (.row 3 ((sortR (liveR (c0.take a.1) 0)).map Route.u))∧st.s 4=DI a.1) (fun a=>c0.length - a.1) (fun _=>routesRet c0) ?_ (0,false) ⟨by omega,fun _=>rfl,(by and_intros<;>first | omega | rfl | (simp only [↓xP,xQ,xR,xS,flatR,reduceLT,Nat.reduceBEq,reduceAdd,reduceSub]<;>first | done | rfl | omega))⟩
  rintro ⟨i,b⟩ st ⟨hle,hb,h1,hbx,h3,ho,h4⟩ ih
  dsimp only at *
  by_cases hi:i<c0.length
  · obtain ⟨⟨live,⟨⟨⟨lo,up⟩,prs,kn,sld,cut⟩,⟨ep,ms,fr⟩,nds,ups,bag,ans⟩⟩,hx⟩:∃ x,c0[i]?=some x:=⟨_,List.getElem?_eq_getElem hi⟩
    have hw:=w_succ (i:=i) (by omega)
    have hst:=liveR_step hx
    have hll:=liveR_len (c0.take i) 0
    have hlt:(c0.take i).length=i:=by rw [List.length_take]; omega
    have hsl:=sortR_len (liveR (c0.take i) 0)
    cases live
    · simp only [Bool.false_eq_true,if_false,List.append_nil] at hst
      rw [←hst] at hb h3 ho
      cases b<;>simp only [swid] at h3 ho<;>simp only [↓xP,xQ,xR,xS,flatR,reduceLT,Nat.reduceBEq,reduceAdd,reduceSub,h1,hbx,h3,ho,h4,hi,hx,hw,Shard.u]
      · exact ih (i+1,false) _ (by dsimp only; omega) ⟨by dsimp only; omega,hb,(by and_intros<;>first | omega | rfl | (simp only [↓xP,xQ,xR,xS,flatR,reduceLT,Nat.reduceBEq,reduceAdd,reduceSub,h1,hbx,h3,ho,swid]<;>first | done | rfl | omega))⟩
      · exact ih (i+1,true) _ (by dsimp only; omega) ⟨by dsimp only; omega,hb,(by and_intros<;>first | omega | rfl | (simp only [↓xP,xQ,xR,xS,flatR,reduceLT,Nat.reduceBEq,reduceAdd,reduceSub,h1,hbx,h3,ho,swid]<;>first | done | rfl | omega))⟩
    · simp only [if_true] at hst
      have hso:sortR (liveR (c0.take (i+1)) 0)=insL (sortR (liveR (c0.take i) 0)) ⟨(i:Int),⟨lo,up⟩⟩:=by rw [hst,sortR_snoc]
      obtain ⟨o,hoo⟩:∃ o,o=sortR (liveR (c0.take i) 0):=⟨_,rfl⟩
      rw [←hoo] at hb h3 ho hso hsl
      obtain ⟨q1,q2⟩:=small_max (n:=o.length+1) (k:=40) (by omega) (by omega)
      cases b
      · have ho0:o=[]:=hb rfl
        subst ho0
        simp only [swid,List.length_nil,List.map_nil] at h3 ho
        simp only [↓xP,xQ,xR,xS,flatR,reduceLT,Nat.reduceBEq,reduceAdd,reduceSub,h1,hbx,h3,ho,h4,hi,hx,hw,Shard.u]
        refine loop_ind (fun (_:Unit) st=>st.s 1=.t (.sc (.ptr (.loc 1 0) 0 0))∧st.o (.loc 1 0)=some (.box [.u (.sl 14 (c0.map Shard.u)),.u (.sl 8 (c1.map Caller.u)),.u (.sl 9 (c2.map Result.u)),.u (.int .i64 c3),.u (.int .i64 c4),.u (.int .i64 c5),.u (.str c6),.u (.int .i64 c7),.u (.int .i64 c8),.u (.int .i64 c9),.u (.int .i64 c10),.u (.int .i64 c11)])∧st.s 4=DI i∧st.s 5=.t (.sc (.ptr (.loc 5 0) 0 0))∧st.o (.loc 5 0)=some (.box [.u (.int .i64 (i:Int)),.u (.str lo),.u (.str up)])∧st.s 6=.t (.sc (.own (.loc 33 0) 0))∧st.o (.loc 33 0)=some (.row 3 [])∧st.s 7=DI 0∧st.s 3=.t (.sc (.own (.loc 8 0) 0))∧st.o (.loc 8 0)=some (.row 3 [])) (fun _=>0) (fun _=>routesRet c0) ?_ () (by and_intros<;>first | omega | rfl | (simp only [↓xP,xQ,xR,xS,flatR,reduceLT,Nat.reduceBEq,reduceAdd,reduceSub,h1,hbx,h3,ho,h4]<;>first | done | rfl | omega))
        clear h1 hbx h3 ho h4
        rintro _ st ⟨h1,hbx,h4,h5,hb5,h6,hb6,h7,h3,ho⟩ _
        have hc1:vcut 0 none (some (DI 0))=some (0,0):=by decide
        have hc2:vcut 0 (some (DI 0)) none=some (0,0):=by decide
        have z1:0≤maxLen:=Nat.zero_le _
        have z2:0*40≤140737488355328:=by omega
        have z3:1≤maxLen:=by simp [maxLen]
        have z4:1*40≤140737488355328:=by omega
        have hz:((0:Int)<((0:Nat):Int))=False:=by simp
        simp only [↓xP,xQ,xR,xS,flatR,reduceLT,Nat.reduceBEq,reduceAdd,reduceSub,rdx2,h1,hbx,h4,h5,hb5,h6,hb6,h7,h3,ho,hz,hc1,hc2,z1,z2,z3,z4,List.length_nil,List.length_cons,Nat.zero_add,Nat.add_zero,List.nil_append,List.append_nil]
        have hrow : [[U.int .i64 (i:Int),.str lo,.str up]]=(sortR (liveR (c0.take (i+1)) 0)).map Route.u:=by rw [hso]; rfl
        have hlen2:1=(sortR (liveR (c0.take (i+1)) 0)).length:=by rw [hso]; rfl
        exact ih (i+1,true) _ (by dsimp only; omega) ⟨by dsimp only; omega,(fun h=>by cases h),(by and_intros<;>first | omega | rfl | (simp only [↓xP,xQ,xR,xS,flatR,reduceLT,Nat.reduceBEq,reduceAdd,reduceSub,h1,hbx,hw,swid,hrow,←hlen2]<;>first | done | rfl | omega))⟩
      · simp only [swid] at h3 ho
        simp only [↓xP,xQ,xR,xS,flatR,reduceLT,Nat.reduceBEq,reduceAdd,reduceSub,h1,hbx,h3,ho,h4,hi,hx,hw,Shard.u]
        refine loop_ind (fun (j:Nat) st=>j≤o.length∧(∀ q,q∈o.take j→rle q ⟨(i:Int),⟨lo,up⟩⟩=true)∧st.s 1=.t (.sc (.ptr (.loc 1 0) 0 0))∧st.o (.loc 1 0)=some (.box [.u (.sl 14 (c0.map Shard.u)),.u (.sl 8 (c1.map Caller.u)),.u (.sl 9 (c2.map Result.u)),.u (.int .i64 c3),.u (.int .i64 c4),.u (.int .i64 c5),.u (.str c6),.u (.int .i64 c7),.u (.int .i64 c8),.u (.int .i64 c9),.u (.int .i64 c10),.u (.int .i64 c11)])∧st.s 4=DI i∧st.s 5=.t (.sc (.ptr (.loc 5 0) 0 0))∧st.o (.loc 5 0)=some (.box [.u (.int .i64 (i:Int)),.u (.str lo),.u (.str up)])∧st.s 6=.t (.sc (.own (.loc 33 0) 0))∧st.o (.loc 33 0)=some (.row 3 [])∧st.s 7=DI j∧st.s 3=DU (.sl 3 (o.map Route.u))) (fun j=>o.length - j) (fun _=>routesRet c0) ?_ 0 ⟨by omega,(by intro q hq; simp at hq),(by and_intros<;>first | omega | rfl | (simp only [↓xP,xQ,xR,xS,flatR,reduceLT,Nat.reduceBEq,reduceAdd,reduceSub,h1,hbx,h3,ho,h4]<;>first | done | rfl | omega))⟩
        clear h1 hbx h3 ho h4
        rintro j st ⟨hj,hta,h1,hbx,h4,h5,hb5,h6,hb6,h7,h3⟩ ih2
        have hdone:(∀ q,o[j]?=some q→rle q ⟨(i:Int),⟨lo,up⟩⟩=false)→o.take j++⟨(i:Int),⟨lo,up⟩⟩::o.drop j=insL o ⟨(i:Int),⟨lo,up⟩⟩:=fun h=>takes_ok hj hta h
        have hc1:vcut o.length none (some (DI (j:Int)))=some (0,j):=cut_to (by omega)
        have hc2:vcut o.length (some (DI (j:Int))) none=some (j,o.length):=cut_from (by omega)
        obtain ⟨m1,m2⟩:=small_max (n:=j) (k:=40) (by omega) (by omega)
        obtain ⟨m3,m4⟩:=small_max (n:=j+1) (k:=40) (by omega) (by omega)
        obtain ⟨m5,m6⟩:=small_max (n:=j+1 + (o.length - j)) (k:=40) (by omega) (by omega)
        have ht1:(List.take j (o.map Route.u)).length=j:=by rw [List.length_take,List.length_map]; omega
        have ht2:(List.drop j (o.map Route.u)).length=o.length - j:=by rw [List.length_drop,List.length_map]
        by_cases hjo:j<o.length
        · obtain ⟨⟨qn,⟨qlo,qup⟩⟩,hq⟩:∃ x,o[j]?=some x:=⟨_,List.getElem?_eq_getElem hjo⟩
          have hw2:=w_succ (i:=j) (by omega)
          cases hr:strLt lo qlo
          · simp only [↓xP,xQ,xR,xS,flatR,reduceLT,Nat.reduceBEq,reduceAdd,reduceSub,rdx2,h1,hbx,h4,h5,hb5,h6,hb6,h7,h3,hjo,hq,hw2,Route.u,le_iff,hr]
            have hta':∀ q,q∈o.take (j+1)→rle q ⟨(i:Int),⟨lo,up⟩⟩=true:=by
              intro q hq2
              rw [List.take_add_one,hq] at hq2
              rcases List.mem_append.1 hq2 with hq2 | hq2
              · exact hta q hq2
              · simp at hq2; subst hq2; simp [rle,hr]
            exact ih2 (j+1) _ (by omega) ⟨by omega,hta',(by and_intros<;>first | omega | rfl | (simp only [↓xP,xQ,xR,xS,flatR,reduceLT,Nat.reduceBEq,reduceAdd,reduceSub,h1,hbx,h4,h5,hb5,h6,hb6,h3,hw2]<;>first | done | rfl | omega))⟩
          · simp only [↓xP,xQ,xR,xS,flatR,reduceLT,Nat.reduceBEq,reduceAdd,reduceSub,rdx2,h1,hbx,h4,h5,hb5,h6,hb6,h7,h3,hjo,hq,hw2,Route.u,le_iff,hr,hc1,hc2,List.length_map,m1,m2,m3,m4,m5,m6,ht1,ht2,Nat.zero_add,List.nil_append,List.length_append,List.length_cons,List.length_nil,List.drop_zero]
            have hrow:List.take j (o.map Route.u)++[[U.int .i64 (i:Int),.str lo,.str up]]++List.drop j (o.map Route.u)=(sortR (liveR (c0.take (i+1)) 0)).map Route.u:=by
              rw [hso,←hdone (fun q hq2=>by rw [hq] at hq2; cases hq2; simp [rle,hr])]; simp [Route.u]
            have hlen2:j+1 + (o.length - j)=(sortR (liveR (c0.take (i+1)) 0)).length:=by rw [hso,insL_len]; omega
            exact ih (i+1,true) _ (by dsimp only; omega) ⟨by dsimp only; omega,(fun h=>by cases h),(by and_intros<;>first | omega | rfl | (simp only [↓xP,xQ,xR,xS,flatR,reduceLT,Nat.reduceBEq,reduceAdd,reduceSub,h1,hbx,hw,swid,hrow,hlen2]<;>first | done | rfl | omega))⟩
        · simp only [↓xP,xQ,xR,xS,flatR,reduceLT,Nat.reduceBEq,reduceAdd,reduceSub,rdx2,h1,hbx,h4,h5,hb5,h6,hb6,h7,h3,hjo,hc1,hc2,List.length_map,m1,m2,m3,m4,m5,m6,ht1,ht2,Nat.zero_add,List.nil_append,List.length_append,List.length_cons,List.length_nil,List.drop_zero]
          have hrow:List.take j (o.map Route.u)++[[U.int .i64 (i:Int),.str lo,.str up]]++List.drop j (o.map Route.u)=(sortR (liveR (c0.take (i+1)) 0)).map Route.u:=by
            rw [hso,←hdone (fun q hq2=>by rw [List.getElem?_eq_none (by omega)] at hq2; cases hq2)]; simp [Route.u]
          have hlen2:j+1 + (o.length - j)=(sortR (liveR (c0.take (i+1)) 0)).length:=by rw [hso,insL_len]; omega
          exact ih (i+1,true) _ (by dsimp only; omega) ⟨by dsimp only; omega,(fun h=>by cases h),(by and_intros<;>first | omega | rfl | (simp only [↓xP,xQ,xR,xS,flatR,reduceLT,Nat.reduceBEq,reduceAdd,reduceSub,h1,hbx,hw,swid,hrow,hlen2]<;>first | done | rfl | omega))⟩
  · obtain rfl:i=c0.length:=by omega
    rw [List.take_length] at h3 ho
    cases b<;>simp only [swid] at h3 ho<;>simp only [↓xP,xQ,xR,xS,flatR,reduceLT,Nat.reduceBEq,reduceAdd,reduceSub,h1,hbx,h3,ho,h4,hi,routesRet,routesOf,List.length_map]
def noPlan (p:Plan):Bool:=decide (p.kind=0)&&decide (p.first=0)&&decide (p.second=0)&&decide (p.key=[])&&decide (p.from_=0)&&decide (p.to_=0)&&decide (p.step=0)
def workOk (p:Plan) (n:Nat):Bool:=noPlan p||(planValid p&&decide (p.first<n)&&decide (p.second<n))
theorem l27Work_ok (k f s:Int) (key:Str) (a b c:Int) (n:Nat):EE F 116 [.ag [.u (.int .i64 k),.u (.int .i64 f),.u (.int .i64 s),.u (.str key),.u (.int .i64 a),.u (.int .i64 b),.u (.int .i64 c)],I n] []=ok1 (B (workOk ⟨k,f,s,key,a,b,c⟩ n)):=by
  rw [R116,b116]
  simp only [↓xP,xQ,xR,xS,flatR,reduceLT,Nat.reduceBEq,reduceAdd,reduceSub,planValid_spec]
  repeat' (refine sel_split (fun h=>?_) (fun h=>?_))
  all_goals first | (simp_all [workOk,noPlan]; done) | (simp_all [workOk,noPlan]; grind) | skip
theorem equalB_ok (l m:List Bool) (hn:l.length≤1048576):EE F 125 [L 1 (l.map bU),L 1 (m.map bU)] []=ok1 (B (decide (l=m))):=by
  rw [R125,b125]
  by_cases hl:l.length=m.length
  · have hl':((l.length:Int)=(m.length:Int))=True:=by simp; omega
    simp only [↓xP,xQ,xR,xS,flatR,reduceLT,Nat.reduceBEq,reduceAdd,reduceSub,List.length_map,ne_eq,hl',not_true_eq_false]
    refine (loop_ind (fun (i:Nat) st=>st.s 0=DU (.sl 1 (l.map bU))∧st.s 1=DU (.sl 1 (m.map bU))∧st.s 11=DU (.sl 1 (l.map bU))∧st.s 12=DI l.length∧st.s 13=DI i) (fun i=>l.length - i) (fun i=>ok1 (B (decide (l.drop i=m.drop i)))) ?_ 0 (by and_intros<;>first | omega | rfl | (simp only [↓xP,xQ,xR,xS,flatR,reduceLT,Nat.reduceBEq,reduceAdd,reduceSub]<;>first | done | rfl | omega))).trans (by simp)
    rintro i st ⟨h0,h1,h11,h12,h13⟩ ih
    by_cases hi:i<l.length
    · obtain ⟨x,hx⟩:∃ x,l[i]?=some x:=⟨_,List.getElem?_eq_getElem hi⟩
      obtain ⟨y,hy⟩:∃ x,m[i]?=some x:=⟨_,List.getElem?_eq_getElem (by omega)⟩
      have hi2:i<m.length:=by omega
      have hw:=w_succ (i:=i) (by omega)
      rw [drop_at hx,drop_at hy]
      by_cases e:x=y
      · subst e
        simp only [↓xP,xQ,xR,xS,flatR,reduceLT,Nat.reduceBEq,reduceAdd,reduceSub,rdx2,h0,h1,h11,h12,h13,hi,hi2,hx,hy,hw,bU]
        rw [ih (i+1) _ (by omega) (by and_intros<;>first | omega | rfl | (simp only [↓xP,xQ,xR,xS,flatR,reduceLT,Nat.reduceBEq,reduceAdd,reduceSub,h0,h1,h11,h12]<;>first | done | rfl | omega))]
        simp
      · have hb:(x==y)=false:=by simpa using e
        simp only [↓xP,xQ,xR,xS,flatR,reduceLT,Nat.reduceBEq,reduceAdd,reduceSub,rdx2,h0,h1,h11,h12,h13,hi,hi2,hx,hy,hw,bU,hb]
        simp [e]
    · simp only [↓xP,xQ,xR,xS,flatR,reduceLT,Nat.reduceBEq,reduceAdd,reduceSub,h0,h1,h11,h12,h13,hi]
      rw [List.drop_of_length_le (by omega),List.drop_of_length_le (by omega)]; rfl
  · have hl':((l.length:Int)=(m.length:Int))=False:=by simp; omega
    have:¬l=m:=fun e=>hl (by rw [e])
    simp only [↓xP,xQ,xR,xS,flatR,reduceLT,Nat.reduceBEq,reduceAdd,reduceSub,List.length_map,ne_eq,hl',not_false_eq_true]
    simp [this]
def freeCaller (c:Caller):Bool:=decide (c.cache.length=0)&&decide (c.seq=0)
def upOf (l:List Shard):List Bool:=match l with
  | []=>[]
  | s::_=>s.group.up
def firstFree (l:List Caller):Bool:=match l with
  | []=>false
  | c::_=>freeCaller c
def shardOk (u:List Bool) (s:Shard):Bool:=chainValid s.group&&decide (s.group.up=u)
def sizesOk (x:Cluster):Bool:=decide (1≤x.shards.length)&&decide (x.shards.length≤8)&&decide (x.clients.length=4)&&decide (x.results.length≤40)
def endsOk (x:Cluster):Bool:=routesValid (routesOf x.shards)&&firstFree x.clients&&inR x.turn 0 999&&inR x.clock 0 200
def clusterValid (x:Cluster):Bool:=sizesOk x&&x.shards.all (shardOk (upOf x.shards))&&x.clients.all callerValid&&x.results.all resultValid&&workOk x.work x.shards.length&&endsOk x
theorem noCaller_free {c:Caller} (h:callerValid c=true):(decide (c.cache.length=0)&&decide (c.seq=0)&&!c.busy&&noCommand c.wish&&decide (c.called=0))=freeCaller c:=by
  obtain ⟨l,s,bz,w,cd⟩:=c
  simp only [callerValid,Bool.and_eq_true] at h
  obtain ⟨_,h⟩:=h
  cases bz
  · simp only [Bool.false_eq_true,if_false,Bool.and_eq_true] at h
    simp [freeCaller,h.1,h.2]
  · simp only [if_true,Bool.and_eq_true,decide_eq_true_eq] at h
    have:¬s=0:=by have:=h.1.1; omega
    simp [freeCaller,this]
theorem ends_tree (np pv a b rv ff t0 t9 ck:Bool):sel (!np) (sel pv (sel a (sel (!b) (ok1 (B false)) (sel rv (sel ff (sel t0 (sel t9 (ok1 (B ck)) (ok1 (B false))) (ok1 (B false))) (ok1 (B false))) (ok1 (B false)))) (ok1 (B false))) (ok1 (B false))) (sel rv (sel ff (sel t0 (sel t9 (ok1 (B ck)) (ok1 (B false))) (ok1 (B false))) (ok1 (B false))) (ok1 (B false)))=ok1 (B ((np||(pv&&a&&b))&&(rv&&ff&&(t0&&t9)&&ck))):=by
  cases np<;>cases pv<;>cases a<;>cases b<;>cases rv<;>cases ff<;>cases t0<;>cases t9<;>cases ck<;>rfl
theorem clusterValid_impl (c0:List Shard) (c1:List Caller) (c2:List Result) (c3 c4 c5:Int) (c6:Str) (c7 c8 c9 c10 c11:Int) (hs:Cluster.Small ⟨c0,c1,c2,⟨c3,c4,c5,c6,c7,c8,c9⟩,c10,c11⟩):EE F 71 [.ag [.u (.sl 14 (c0.map Shard.u)),.u (.sl 8 (c1.map Caller.u)),.u (.sl 9 (c2.map Result.u)),.u (.int .i64 c3),.u (.int .i64 c4),.u (.int .i64 c5),.u (.str c6),.u (.int .i64 c7),.u (.int .i64 c8),.u (.int .i64 c9),.u (.int .i64 c10),.u (.int .i64 c11)]] []=ok1 (B (clusterValid ⟨c0,c1,c2,⟨c3,c4,c5,c6,c7,c8,c9⟩,c10,c11⟩)):=by
  obtain ⟨hsh,hcl,hrs,hwk,_⟩:=hs
  have hn0:c0.length≤1048576:=hsh.1
  have hn1:c1.length≤1048576:=hcl.1
  have hn2:c2.length≤1048576:=hrs.1
  rw [R71,b71]
  simp only [↓xP,xQ,xR,xS,flatR,reduceLT,Nat.reduceBEq,reduceAdd,reduceSub,List.length_map,ne_eq]
  refine sel_split (fun h=>?_) (fun g1=>?_)
  · have:¬1≤c0.length:=by simp at h; omega
    simp [clusterValid,sizesOk,this]
  refine sel_split (fun h=>?_) (fun g2=>?_)
  · have:¬c0.length≤8:=by simp at h; omega
    simp [clusterValid,sizesOk,this]
  refine sel_split (fun h=>?_) (fun g3=>?_)
  · have:¬c1.length=4:=by simp at h; omega
    simp [clusterValid,sizesOk,this]
  refine sel_split (fun h=>?_) (fun g4=>?_)
  · have:¬c2.length≤40:=by simp at h; omega
    simp [clusterValid,sizesOk,this]
  have g1':1≤c0.length:=by simp at g1; omega
  have g2':c0.length≤8:=by simp at g2; omega
  have g3':c1.length=4:=by simp at g3; omega
  have g4':c2.length≤40:=by simp at g4; omega
  have hsz:sizesOk ⟨c0,c1,c2,⟨c3,c4,c5,c6,c7,c8,c9⟩,c10,c11⟩=true:=by simp [sizesOk,g1',g2',g3',g4']
  obtain ⟨fs,hf0⟩:∃ x,c0[0]?=some x:=⟨_,List.getElem?_eq_getElem (by omega)⟩
  have hup:upOf c0=fs.group.up:=by
    cases c0 with
    | nil=>simp at hf0
    | cons a l=>simp at hf0; subst hf0; rfl
  obtain ⟨flive,⟨⟨⟨flo,fup⟩,fprs,fkn,fsld,fcut⟩,⟨fep,fms,ffr⟩,fnds,fups,fbag,fans⟩⟩:=fs
  simp only at hup
  have hcv:clusterValid ⟨c0,c1,c2,⟨c3,c4,c5,c6,c7,c8,c9⟩,c10,c11⟩=((c0.drop 0).all (shardOk fups)&&(c1.all callerValid&&(c2.all resultValid&&(workOk ⟨c3,c4,c5,c6,c7,c8,c9⟩ c0.length&&endsOk ⟨c0,c1,c2,⟨c3,c4,c5,c6,c7,c8,c9⟩,c10,c11⟩)))):=by
    simp only [clusterValid,hsz,hup,Bool.true_and,Bool.and_assoc,List.drop_zero]
  rw [hcv]
  refine loop_ind (fun (i:Nat) st=>st.s 1=.t (.sc (.ptr (.loc 1 0) 0 0))∧st.o (.loc 1 0)=some (.box [.u (.sl 14 (c0.map Shard.u)),.u (.sl 8 (c1.map Caller.u)),.u (.sl 9 (c2.map Result.u)),.u (.int .i64 c3),.u (.int .i64 c4),.u (.int .i64 c5),.u (.str c6),.u (.int .i64 c7),.u (.int .i64 c8),.u (.int .i64 c9),.u (.int .i64 c10),.u (.int .i64 c11)])∧st.s 32=DU (.sl 14 (c0.map Shard.u))∧st.s 33=DI c0.length∧st.s 34=DI i) (fun i=>c0.length - i) (fun i=>ok1 (B ((c0.drop i).all (shardOk fups)&&(c1.all callerValid&&(c2.all resultValid&&(workOk ⟨c3,c4,c5,c6,c7,c8,c9⟩ c0.length&&endsOk ⟨c0,c1,c2,⟨c3,c4,c5,c6,c7,c8,c9⟩,c10,c11⟩)))))) ?_ 0 (by and_intros<;>first | omega | rfl | (simp only [↓xP,xQ,xR,xS,flatR,reduceLT,Nat.reduceBEq,reduceAdd,reduceSub]<;>first | done | rfl | omega))
  rintro i st ⟨h1,hb,h32,h33,h34⟩ ih
  by_cases hi:i<c0.length
  · obtain ⟨⟨live,⟨⟨⟨lo,up⟩,prs,kn,sld,cut⟩,⟨ep,ms,fr⟩,nds,ups,bag,ans⟩⟩,hx⟩:∃ x,c0[i]?=some x:=⟨_,List.getElem?_eq_getElem hi⟩
    have hw:=w_succ (i:=i) (by omega)
    have hsx:=hsh.2 _ (List.mem_of_getElem? hx)
    have hch:=chainValid_impl lo up prs kn sld cut ep ms fr nds ups bag ans hsx.1
    have heq:=equalB_ok ups fups hsx.1.2.2.2.1.1
    rw [drop_at hx,List.all_cons,shardOk]
    cases q1:chainValid ⟨⟨⟨lo,up⟩,prs,kn,sld,cut⟩,⟨ep,ms,fr⟩,nds,ups,bag,ans⟩
    · simp only [↓xP,xQ,xR,xS,flatR,reduceLT,Nat.reduceBEq,reduceAdd,reduceSub,rdx2,h1,hb,h32,h33,h34,hi,hx,hw,Shard.u,hch,q1]
      try simp
    · cases q2:decide (ups=fups)
      · simp only [↓xP,xQ,xR,xS,flatR,reduceLT,Nat.reduceBEq,reduceAdd,reduceSub,rdx2,h1,hb,h32,h33,h34,hi,hx,hf0,hw,Shard.u,hch,q1,heq,q2]
        try simp
      · simp only [↓xP,xQ,xR,xS,flatR,reduceLT,Nat.reduceBEq,reduceAdd,reduceSub,rdx2,h1,hb,h32,h33,h34,hi,hx,hf0,hw,Shard.u,hch,q1,heq,q2]
        rw [ih (i+1) _ (by omega) (by and_intros<;>first | omega | rfl | (simp only [↓xP,xQ,xR,xS,flatR,reduceLT,Nat.reduceBEq,reduceAdd,reduceSub,h1,hb,h32,h33,hw]<;>first | done | rfl | omega))]
        try simp
  simp only [↓xP,xQ,xR,xS,flatR,reduceLT,Nat.reduceBEq,reduceAdd,reduceSub,h1,hb,h32,h33,h34,hi]
  rw [List.drop_of_length_le (by omega),List.all_nil,Bool.true_and]
  refine loop_ind (fun (i:Nat) st=>st.s 1=.t (.sc (.ptr (.loc 1 0) 0 0))∧st.o (.loc 1 0)=some (.box [.u (.sl 14 (c0.map Shard.u)),.u (.sl 8 (c1.map Caller.u)),.u (.sl 9 (c2.map Result.u)),.u (.int .i64 c3),.u (.int .i64 c4),.u (.int .i64 c5),.u (.str c6),.u (.int .i64 c7),.u (.int .i64 c8),.u (.int .i64 c9),.u (.int .i64 c10),.u (.int .i64 c11)])∧st.s 57=DU (.sl 8 (c1.map Caller.u))∧st.s 58=DI c1.length∧st.s 59=DI i∧(∀ c,c∈c1.take i→callerValid c=true)) (fun i=>c1.length - i) (fun i=>ok1 (B ((c1.drop i).all callerValid&&(c2.all resultValid&&(workOk ⟨c3,c4,c5,c6,c7,c8,c9⟩ c0.length&&endsOk ⟨c0,c1,c2,⟨c3,c4,c5,c6,c7,c8,c9⟩,c10,c11⟩))))) ?_ 0 ⟨(by and_intros<;>first | omega | rfl | (simp only [↓xP,xQ,xR,xS,flatR,reduceLT,Nat.reduceBEq,reduceAdd,reduceSub,h1]<;>first | done | rfl | omega)),(by and_intros<;>first | omega | rfl | (simp only [↓xP,xQ,xR,xS,flatR,reduceLT,Nat.reduceBEq,reduceAdd,reduceSub,hb]<;>first | done | rfl | omega)),(by and_intros<;>first | omega | rfl | (simp only [↓xP,xQ,xR,xS,flatR,reduceLT,Nat.reduceBEq,reduceAdd,reduceSub,h1,hb]<;>first | done | rfl | omega)),(by and_intros<;>first | omega | rfl | (simp only [↓xP,xQ,xR,xS,flatR,reduceLT,Nat.reduceBEq,reduceAdd,reduceSub,h1,hb]<;>first | done | rfl | omega)),(by and_intros<;>first | omega | rfl | (simp only [↓xP,xQ,xR,xS,flatR,reduceLT,Nat.reduceBEq,reduceAdd,reduceSub,h1,hb]<;>first | done | rfl | omega)),by simp⟩
  clear h1 hb h32 h33 h34 hi ih
  rintro i st ⟨h1,hb,h32,h33,h34,hall⟩ ih
  by_cases hi:i<c1.length
  · obtain ⟨⟨cch,csq,cbz,⟨ck,ckey,cv,co⟩,ccd⟩,hx⟩:∃ x,c1[i]?=some x:=⟨_,List.getElem?_eq_getElem hi⟩
    have hw:=w_succ (i:=i) (by omega)
    have hsx:=hcl.2 _ (List.mem_of_getElem? hx)
    have hch:=callerValid_impl cch csq cbz ck ckey cv co ccd hsx.1.1
    simp only [↓xP,xQ,xR,xS,flatR,reduceLT,Nat.reduceBEq,reduceAdd,reduceSub,h1,hb,h32,h33,h34,hi,hx,hw,Caller.u,hch]
    rw [drop_at hx,List.all_cons]
    refine sel_split (fun h=>?_) (fun q1=>?_)
    · rw [Bool.not_eq_true'] at h; simp [h]
    rw [Bool.not_eq_false'] at q1
    have hall2:∀ c,c∈c1.take (i+1)→callerValid c=true:=by
      intro c hc
      rw [List.take_add_one,hx] at hc
      rcases List.mem_append.1 hc with hc | hc
      · exact hall c hc
      · simp at hc; subst hc; exact q1
    rw [ih (i+1) _ (by omega) ⟨(by and_intros<;>first | omega | rfl | (simp only [↓xP,xQ,xR,xS,flatR,reduceLT,Nat.reduceBEq,reduceAdd,reduceSub,h1]<;>first | done | rfl | omega)),(by and_intros<;>first | omega | rfl | (simp only [↓xP,xQ,xR,xS,flatR,reduceLT,Nat.reduceBEq,reduceAdd,reduceSub,hb]<;>first | done | rfl | omega)),(by and_intros<;>first | omega | rfl | (simp only [↓xP,xQ,xR,xS,flatR,reduceLT,Nat.reduceBEq,reduceAdd,reduceSub,h32]<;>first | done | rfl | omega)),(by and_intros<;>first | omega | rfl | (simp only [↓xP,xQ,xR,xS,flatR,reduceLT,Nat.reduceBEq,reduceAdd,reduceSub,h33]<;>first | done | rfl | omega)),(by and_intros<;>first | omega | rfl | (simp only [↓xP,xQ,xR,xS,flatR,reduceLT,Nat.reduceBEq,reduceAdd,reduceSub,hw]<;>first | done | rfl | omega)),hall2⟩]
    simp [q1]
  simp only [↓xP,xQ,xR,xS,flatR,reduceLT,Nat.reduceBEq,reduceAdd,reduceSub,h1,hb,h32,h33,h34,hi]
  rw [List.drop_of_length_le (by omega),List.all_nil,Bool.true_and]
  have hall4:∀ c,c∈c1→callerValid c=true:=by rw [List.take_of_length_le (by omega)] at hall; exact hall
  refine loop_ind (fun (i:Nat) st=>st.s 1=.t (.sc (.ptr (.loc 1 0) 0 0))∧st.o (.loc 1 0)=some (.box [.u (.sl 14 (c0.map Shard.u)),.u (.sl 8 (c1.map Caller.u)),.u (.sl 9 (c2.map Result.u)),.u (.int .i64 c3),.u (.int .i64 c4),.u (.int .i64 c5),.u (.str c6),.u (.int .i64 c7),.u (.int .i64 c8),.u (.int .i64 c9),.u (.int .i64 c10),.u (.int .i64 c11)])∧st.s 68=DU (.sl 9 (c2.map Result.u))∧st.s 69=DI c2.length∧st.s 70=DI i) (fun i=>c2.length - i) (fun i=>ok1 (B ((c2.drop i).all resultValid&&(workOk ⟨c3,c4,c5,c6,c7,c8,c9⟩ c0.length&&endsOk ⟨c0,c1,c2,⟨c3,c4,c5,c6,c7,c8,c9⟩,c10,c11⟩)))) ?_ 0 (by and_intros<;>first | omega | rfl | (simp only [↓xP,xQ,xR,xS,flatR,reduceLT,Nat.reduceBEq,reduceAdd,reduceSub,h1,hb]<;>first | done | rfl | omega))
  clear h1 hb h32 h33 h34 hi ih hall
  rintro i st ⟨h1,hb,h32,h33,h34⟩ ih
  by_cases hi:i<c2.length
  · obtain ⟨⟨rc,rs,⟨rk,rkey,rv,ro⟩,rr,rcd,rrt⟩,hx⟩:∃ x,c2[i]?=some x:=⟨_,List.getElem?_eq_getElem hi⟩
    have hw:=w_succ (i:=i) (by omega)
    simp only [↓xP,xQ,xR,xS,flatR,reduceLT,Nat.reduceBEq,reduceAdd,reduceSub,h1,hb,h32,h33,h34,hi,hx,hw,Result.u,resultValid_impl]
    rw [drop_at hx,List.all_cons]
    refine sel_split (fun h=>?_) (fun q1=>?_)
    · rw [Bool.not_eq_true'] at h; simp [h]
    rw [Bool.not_eq_false'] at q1
    rw [ih (i+1) _ (by omega) (by and_intros<;>first | omega | rfl | (simp only [↓xP,xQ,xR,xS,flatR,reduceLT,Nat.reduceBEq,reduceAdd,reduceSub,h1,hb,h32,h33]<;>first | done | rfl | omega))]
    simp [q1]
  simp only [↓xP,xQ,xR,xS,flatR,reduceLT,Nat.reduceBEq,reduceAdd,reduceSub,h1,hb,h32,h33,h34,hi]
  rw [List.drop_of_length_le (by omega),List.all_nil,Bool.true_and]
  obtain ⟨⟨cch,csq,cbz,⟨ck,ckey,cv,co⟩,ccd⟩,hc0⟩:∃ x,c1[0]?=some x:=⟨_,List.getElem?_eq_getElem (by omega)⟩
  have hq:=hall4 _ (List.mem_of_getElem? hc0)
  have hnc:=noCaller_ok cch csq cbz ck ckey cv co ccd
  have hfree:=noCaller_free hq
  have hff:firstFree c1=freeCaller ⟨cch,csq,cbz,⟨ck,ckey,cv,co⟩,ccd⟩:=by
    cases c1 with
    | nil=>simp at hc0
    | cons a l=>simp at hc0; subst hc0; rfl
  simp only at hfree
  rw [hfree,←hff] at hnc
  have hlr:=liveRoutes_ok c0 c1 c2 c3 c4 c5 c6 c7 c8 c9 c10 c11 g2'
  simp only [routesRet] at hlr
  have hrl:(routesOf c0).length≤1048576:=by
    have:=sortR_len (liveR c0 0)
    have:=liveR_len c0 0
    simp only [routesOf]; omega
  have hrv:=routesValid_impl (routesOf c0) hrl
  have htk:List.take (routesOf c0).length (List.map Route.u (routesOf c0))=List.map Route.u (routesOf c0):=List.take_of_length_le (by simp)
  simp only [↓xP,xQ,xR,xS,flatR,reduceLT,Nat.reduceBEq,reduceAdd,reduceSub,h1,hb,hc0,Caller.u,planValid_impl,hlr,hrv,htk,Nat.le_refl,List.length_map,hnc,timeValid_ok]
  have hnp:(decide (c3=0)&&(decide (c4=0)&&(decide (c5=0)&&(decide (c6=[])&&(decide (c7=0)&&(decide (c8=0)&&decide (c9=0)))))))=noPlan ⟨c3,c4,c5,c6,c7,c8,c9⟩:=by simp only [noPlan,Bool.and_assoc]
  rw [hnp]
  refine (ends_tree (noPlan ⟨c3,c4,c5,c6,c7,c8,c9⟩) (planValid ⟨c3,c4,c5,c6,c7,c8,c9⟩) (decide (c4<(c0.length:Int))) (decide (c5<(c0.length:Int))) (routesValid (routesOf c0)) (firstFree c1) (decide (0≤c10)) (decide (c10≤999)) (inR c11 0 200)).trans ?_
  rfl
theorem chainValid_up {c:Chain} (h:chainValid c=true):c.up.length=5:=by
  simp only [chainValid,Bool.and_eq_true,decide_eq_true_eq] at h
  exact h.1.1.1.1.2
def freeAt (l:List Caller) (i:Nat):Bool:=if i=0 then firstFree l else true
theorem clusterValid_spec (c0:List Shard) (c1:List Caller) (c2:List Result) (c3 c4 c5:Int) (c6:Str) (c7 c8 c9 c10 c11:Int) (hs:Cluster.Small ⟨c0,c1,c2,⟨c3,c4,c5,c6,c7,c8,c9⟩,c10,c11⟩):EE F 65 [.ag [.u (.sl 14 (c0.map Shard.u)),.u (.sl 8 (c1.map Caller.u)),.u (.sl 9 (c2.map Result.u)),.u (.int .i64 c3),.u (.int .i64 c4),.u (.int .i64 c5),.u (.str c6),.u (.int .i64 c7),.u (.int .i64 c8),.u (.int .i64 c9),.u (.int .i64 c10),.u (.int .i64 c11)]] []=ok1 (B (clusterValid ⟨c0,c1,c2,⟨c3,c4,c5,c6,c7,c8,c9⟩,c10,c11⟩)):=by
  obtain ⟨hsh,hcl,hrs,hwk,_⟩:=hs
  have hn0:c0.length≤1048576:=hsh.1
  have hn1:c1.length≤1048576:=hcl.1
  have hn2:c2.length≤1048576:=hrs.1
  rw [R65,b65]
  simp only [↓xP,xQ,xR,xS,flatR,reduceLT,Nat.reduceBEq,reduceAdd,reduceSub,List.length_map,ne_eq,l1In_ok,l27Work_ok]
  refine sel_split (fun h=>?_) (fun g1=>?_)
  · have:¬(1≤c0.length∧c0.length≤8):=by simp [inR] at h; omega
    have:sizesOk ⟨c0,c1,c2,⟨c3,c4,c5,c6,c7,c8,c9⟩,c10,c11⟩=false:=by
      by_cases e1:1≤c0.length
      · have e2:¬c0.length≤8:=fun e2=>this ⟨e1,e2⟩
        simp [sizesOk,e2]
      · simp [sizesOk,e1]
    simp [clusterValid,this]
  refine sel_split (fun h=>?_) (fun g3=>?_)
  · have:¬c1.length=4:=by simp at h; omega
    simp [clusterValid,sizesOk,this]
  refine sel_split (fun h=>?_) (fun g4=>?_)
  · have:¬c2.length≤40:=by simp at h; omega
    simp [clusterValid,sizesOk,this]
  refine sel_split (fun h=>?_) (fun g5=>?_)
  · rw [Bool.not_eq_true'] at h; simp [clusterValid,h]
  refine sel_split (fun h=>?_) (fun g6=>?_)
  · rw [Bool.not_eq_true'] at h; simp [clusterValid,endsOk,h]
  refine sel_split (fun h=>?_) (fun g7=>?_)
  · rw [Bool.not_eq_true'] at h; simp [clusterValid,endsOk,h]
  rw [Bool.not_eq_false'] at g1 g5 g6 g7
  have g12:1≤c0.length∧c0.length≤8:=by simp [inR] at g1; omega
  have g3':c1.length=4:=by simp at g3; omega
  have g4':c2.length≤40:=by simp at g4; omega
  have hsz:sizesOk ⟨c0,c1,c2,⟨c3,c4,c5,c6,c7,c8,c9⟩,c10,c11⟩=true:=by simp [sizesOk,g12.1,g12.2,g3',g4']
  obtain ⟨fs,hf0⟩:∃ x,c0[0]?=some x:=⟨_,List.getElem?_eq_getElem (by omega)⟩
  have hup:upOf c0=fs.group.up:=by
    cases c0 with
    | nil=>simp at hf0
    | cons a l=>simp at hf0; subst hf0; rfl
  obtain ⟨flive,⟨⟨⟨flo,fup⟩,fprs,fkn,fsld,fcut⟩,⟨fep,fms,ffr⟩,fnds,fups,fbag,fans⟩⟩:=fs
  simp only at hup
  have hcv:clusterValid ⟨c0,c1,c2,⟨c3,c4,c5,c6,c7,c8,c9⟩,c10,c11⟩=((c0.drop 0).all (shardOk fups)&&(c1.all callerValid&&firstFree c1&&(c2.all resultValid&&routesValid (routesOf c0)))):=by
    simp only [clusterValid,hsz,hup,endsOk,g5,g6,g7,Bool.true_and,Bool.and_true,List.drop_zero]
    cases c0.all (shardOk fups)<;>cases c1.all callerValid<;>cases c2.all resultValid<;>cases firstFree c1<;>cases routesValid (routesOf c0)<;>rfl
  rw [hcv]
  refine loop_ind (fun (i:Nat) st=>st.s 1=.t (.sc (.ptr (.loc 1 0) 0 0))∧st.o (.loc 1 0)=some (.box [.u (.sl 14 (c0.map Shard.u)),.u (.sl 8 (c1.map Caller.u)),.u (.sl 9 (c2.map Result.u)),.u (.int .i64 c3),.u (.int .i64 c4),.u (.int .i64 c5),.u (.str c6),.u (.int .i64 c7),.u (.int .i64 c8),.u (.int .i64 c9),.u (.int .i64 c10),.u (.int .i64 c11)])∧st.s 3=DI i∧(i=0∨fups.length=5)) (fun i=>c0.length - i) (fun i=>ok1 (B ((c0.drop i).all (shardOk fups)&&(c1.all callerValid&&firstFree c1&&(c2.all resultValid&&routesValid (routesOf c0)))))) ?_ 0 (by and_intros<;>first | omega | rfl | (simp only [↓xP,xQ,xR,xS,flatR,reduceLT,Nat.reduceBEq,reduceAdd,reduceSub]<;>first | done | rfl | omega))
  rintro i st ⟨h1,hb,h3,hf5⟩ ih
  by_cases hi:i<c0.length
  · obtain ⟨⟨live,⟨⟨⟨lo,up⟩,prs,kn,sld,cut⟩,⟨ep,ms,fr⟩,nds,ups,bag,ans⟩⟩,hx⟩:∃ x,c0[i]?=some x:=⟨_,List.getElem?_eq_getElem hi⟩
    have hw:=w_succ (i:=i) (by omega)
    have hsx:=hsh.2 _ (List.mem_of_getElem? hx)
    have hch:=chainValid_spec lo up prs kn sld cut ep ms fr nds ups bag ans hsx.1
    rw [drop_at hx,List.all_cons,shardOk]
    cases q1:chainValid ⟨⟨⟨lo,up⟩,prs,kn,sld,cut⟩,⟨ep,ms,fr⟩,nds,ups,bag,ans⟩
    · simp only [↓xP,xQ,xR,xS,flatR,reduceLT,Nat.reduceBEq,reduceAdd,reduceSub,rdx2,h1,hb,h3,hi,hx,hw,Shard.u,hch,q1]
      try simp
    have hu5:ups.length=5:=chainValid_up q1
    have hfu5:fups.length=5:=by
      rcases hf5 with rfl | e
      · rw [hf0] at hx; cases hx; exact hu5
      · exact e
    have hd0:decide (ups=fups)=decide (ups.drop 0=fups.drop 0):=by simp
    simp only [↓xP,xQ,xR,xS,flatR,reduceLT,Nat.reduceBEq,reduceAdd,reduceSub,rdx2,h1,hb,h3,hi,hx,hw,Shard.u,hch,q1]
    try rw [Bool.true_and]
    rw [hd0]
    refine loop_ind (fun (j:Nat) st=>j≤5∧st.s 1=.t (.sc (.ptr (.loc 1 0) 0 0))∧st.o (.loc 1 0)=some (.box [.u (.sl 14 (c0.map Shard.u)),.u (.sl 8 (c1.map Caller.u)),.u (.sl 9 (c2.map Result.u)),.u (.int .i64 c3),.u (.int .i64 c4),.u (.int .i64 c5),.u (.str c6),.u (.int .i64 c7),.u (.int .i64 c8),.u (.int .i64 c9),.u (.int .i64 c10),.u (.int .i64 c11)])∧st.s 3=DI i∧st.s 4=DI j) (fun j=>5 - j) (fun j=>ok1 (B (decide (ups.drop j=fups.drop j)&&(c0.drop (i+1)).all (shardOk fups)&&(c1.all callerValid&&firstFree c1&&(c2.all resultValid&&routesValid (routesOf c0)))))) ?_ 0 (by and_intros<;>first | omega | rfl | (simp only [↓xP,xQ,xR,xS,flatR,reduceLT,Nat.reduceBEq,reduceAdd,reduceSub,h1,hb,h3]<;>first | done | rfl | omega))
    clear h1 hb h3
    rintro j st ⟨hj5,h1,hb,h3,h4⟩ ih2
    by_cases hj:j<5
    · obtain ⟨x,hxx⟩:∃ x,ups[j]?=some x:=⟨_,List.getElem?_eq_getElem (by omega)⟩
      obtain ⟨y,hyy⟩:∃ x,fups[j]?=some x:=⟨_,List.getElem?_eq_getElem (by omega)⟩
      have hw2:=w_succ (i:=j) (by omega)
      have hlt:((j:Int)<5)=True:=by simp; omega
      rw [drop_at hxx,drop_at hyy]
      by_cases e:x=y
      · subst e
        simp only [↓xP,xQ,xR,xS,flatR,reduceLT,Nat.reduceBEq,reduceAdd,reduceSub,rdx2,h1,hb,h3,h4,hi,hx,hf0,hxx,hyy,hw2,hlt,Shard.u,bU]
        rw [ih2 (j+1) _ (by omega) (by and_intros<;>first | omega | rfl | (simp only [↓xP,xQ,xR,xS,flatR,reduceLT,Nat.reduceBEq,reduceAdd,reduceSub,h1,hb,h3,hw2]<;>first | done | rfl | omega))]
        simp
      · have hbe:(x==y)=false:=by simpa using e
        simp only [↓xP,xQ,xR,xS,flatR,reduceLT,Nat.reduceBEq,reduceAdd,reduceSub,rdx2,h1,hb,h3,h4,hi,hx,hf0,hxx,hyy,hw2,hlt,Shard.u,bU,hbe]
        simp [e]
    have hlt:((j:Int)<5)=False:=by simp; omega
    simp only [↓xP,xQ,xR,xS,flatR,reduceLT,Nat.reduceBEq,reduceAdd,reduceSub,h1,hb,h3,h4,hlt]
    rw [List.drop_of_length_le (by omega),List.drop_of_length_le (by omega)]
    rw [ih (i+1) _ (by omega) ⟨(by and_intros<;>first | omega | rfl | (simp only [↓xP,xQ,xR,xS,flatR,reduceLT,Nat.reduceBEq,reduceAdd,reduceSub,h1]<;>first | done | rfl | omega)),(by and_intros<;>first | omega | rfl | (simp only [↓xP,xQ,xR,xS,flatR,reduceLT,Nat.reduceBEq,reduceAdd,reduceSub,hb]<;>first | done | rfl | omega)),(by and_intros<;>first | omega | rfl | (simp only [↓xP,xQ,xR,xS,flatR,reduceLT,Nat.reduceBEq,reduceAdd,reduceSub,hw]<;>first | done | rfl | omega)),.inr hfu5⟩]
    simp
  simp only [↓xP,xQ,xR,xS,flatR,reduceLT,Nat.reduceBEq,reduceAdd,reduceSub,h1,hb,h3,hi]
  rw [List.drop_of_length_le (by omega),List.all_nil,Bool.true_and]
  have hc10:(c1.all callerValid&&firstFree c1&&(c2.all resultValid&&routesValid (routesOf c0)))=((c1.drop 0).all callerValid&&freeAt c1 0&&(c2.all resultValid&&routesValid (routesOf c0))):=rfl
  rw [hc10]
  refine loop_ind (fun (i:Nat) st=>i≤4∧st.s 1=.t (.sc (.ptr (.loc 1 0) 0 0))∧st.o (.loc 1 0)=some (.box [.u (.sl 14 (c0.map Shard.u)),.u (.sl 8 (c1.map Caller.u)),.u (.sl 9 (c2.map Result.u)),.u (.int .i64 c3),.u (.int .i64 c4),.u (.int .i64 c5),.u (.str c6),.u (.int .i64 c7),.u (.int .i64 c8),.u (.int .i64 c9),.u (.int .i64 c10),.u (.int .i64 c11)])∧st.s 5=DI i) (fun i=>4 - i) (fun i=>ok1 (B ((c1.drop i).all callerValid&&freeAt c1 i&&(c2.all resultValid&&routesValid (routesOf c0))))) ?_ 0 (by and_intros<;>first | omega | rfl | (simp only [↓xP,xQ,xR,xS,flatR,reduceLT,Nat.reduceBEq,reduceAdd,reduceSub,h1,hb]<;>first | done | rfl | omega))
  clear h1 hb h3 hi ih
  rintro i st ⟨hi4,h1,hb,h3⟩ ih
  by_cases hi:i<4
  · obtain ⟨⟨cch,csq,cbz,⟨ck,ckey,cv,co⟩,ccd⟩,hx⟩:∃ x,c1[i]?=some x:=⟨_,List.getElem?_eq_getElem (by omega)⟩
    have hw:=w_succ (i:=i) (by omega)
    have hlt:((i:Int)<4)=True:=by simp; omega
    have hsx:=hcl.2 _ (List.mem_of_getElem? hx)
    have hch:=callerValid_spec cch csq cbz ck ckey cv co ccd hsx.1.1
    rw [drop_at hx,List.all_cons]
    have hnext:freeAt c1 (i+1)=true:=rfl
    by_cases e0:i=0
    · subst e0
      have hff:freeAt c1 0=freeCaller ⟨cch,csq,cbz,⟨ck,ckey,cv,co⟩,ccd⟩:=by
        cases c1 with
        | nil=>simp at hx
        | cons a l=>simp at hx; subst hx; rfl
      have hz:(((0:Nat):Int)=0)=True:=by simp
      rw [hff]
      simp only [↓xP,xQ,xR,xS,flatR,reduceLT,Nat.reduceBEq,reduceAdd,reduceSub,h1,hb,h3,hlt,hx,hw,hz,Caller.u,hch,ne_eq,List.length_map]
      refine sel_split (fun h=>?_) (fun q1=>?_)
      · rw [Bool.not_eq_true'] at h; simp [h]
      rw [Bool.not_eq_false'] at q1
      refine sel_split (fun h=>?_) (fun q2=>?_)
      · have:¬csq=0:=by simpa using h
        simp [freeCaller,this]
      refine sel_split (fun h=>?_) (fun q3=>?_)
      · have:¬cch=[]:=by intro e; subst e; simp at h
        simp [freeCaller,this]
      have q2':csq=0:=by simpa using q2
      have q3':cch.length=0:=by simp at q3; simpa using q3
      rw [ih 1 _ (by omega) (by and_intros<;>first | omega | rfl | (simp only [↓xP,xQ,xR,xS,flatR,reduceLT,Nat.reduceBEq,reduceAdd,reduceSub,h1,hb]<;>first | done | rfl | omega))]
      rw [q1]; simp [freeCaller,q2',q3',freeAt]
    · have hz:((i:Int)=0)=False:=by simp; omega
      simp only [↓xP,xQ,xR,xS,flatR,reduceLT,Nat.reduceBEq,reduceAdd,reduceSub,h1,hb,h3,hlt,hx,hw,hz,Caller.u,hch,ne_eq,List.length_map]
      refine sel_split (fun h=>?_) (fun q1=>?_)
      · rw [Bool.not_eq_true'] at h; simp [h]
      rw [Bool.not_eq_false'] at q1
      rw [ih (i+1) _ (by omega) (by and_intros<;>first | omega | rfl | (simp only [↓xP,xQ,xR,xS,flatR,reduceLT,Nat.reduceBEq,reduceAdd,reduceSub,h1,hb]<;>first | done | rfl | omega))]
      simp [q1,freeAt,e0]
  have hlt:((i:Int)<4)=False:=by simp; omega
  have hfi:freeAt c1 i=true:=by simp only [freeAt]; rw [if_neg (by omega)]
  simp only [↓xP,xQ,xR,xS,flatR,reduceLT,Nat.reduceBEq,reduceAdd,reduceSub,h1,hb,h3,hlt]
  rw [List.drop_of_length_le (by omega),List.all_nil,hfi,Bool.true_and,Bool.true_and]
  refine loop_ind (fun (i:Nat) st=>st.s 1=.t (.sc (.ptr (.loc 1 0) 0 0))∧st.o (.loc 1 0)=some (.box [.u (.sl 14 (c0.map Shard.u)),.u (.sl 8 (c1.map Caller.u)),.u (.sl 9 (c2.map Result.u)),.u (.int .i64 c3),.u (.int .i64 c4),.u (.int .i64 c5),.u (.str c6),.u (.int .i64 c7),.u (.int .i64 c8),.u (.int .i64 c9),.u (.int .i64 c10),.u (.int .i64 c11)])∧st.s 6=DI i) (fun i=>c2.length - i) (fun i=>ok1 (B ((c2.drop i).all resultValid&&routesValid (routesOf c0)))) ?_ 0 (by and_intros<;>first | omega | rfl | (simp only [↓xP,xQ,xR,xS,flatR,reduceLT,Nat.reduceBEq,reduceAdd,reduceSub,h1,hb]<;>first | done | rfl | omega))
  clear h1 hb h3 hi ih hlt hfi
  rintro i st ⟨h1,hb,h3⟩ ih
  by_cases hi:i<c2.length
  · obtain ⟨⟨rc,rs,⟨rk,rkey,rv,ro⟩,rr,rcd,rrt⟩,hx⟩:∃ x,c2[i]?=some x:=⟨_,List.getElem?_eq_getElem hi⟩
    have hw:=w_succ (i:=i) (by omega)
    simp only [↓xP,xQ,xR,xS,flatR,reduceLT,Nat.reduceBEq,reduceAdd,reduceSub,h1,hb,h3,hi,hx,hw,Result.u,resultValid_spec]
    rw [drop_at hx,List.all_cons]
    refine sel_split (fun h=>?_) (fun q1=>?_)
    · rw [Bool.not_eq_true'] at h; simp [h]
    rw [Bool.not_eq_false'] at q1
    rw [ih (i+1) _ (by omega) (by and_intros<;>first | omega | rfl | (simp only [↓xP,xQ,xR,xS,flatR,reduceLT,Nat.reduceBEq,reduceAdd,reduceSub,h1,hb]<;>first | done | rfl | omega))]
    simp [q1]
  have hlr:=l27Routes_ok c0 c1 c2 c3 c4 c5 c6 c7 c8 c9 c10 c11 g12.2
  simp only [routesRet] at hlr
  have hrl:(routesOf c0).length≤1048576:=by
    have:=sortR_len (liveR c0 0)
    have:=liveR_len c0 0
    simp only [routesOf]; omega
  have hrv:=routesValid_spec (routesOf c0) hrl
  have htk:List.take (routesOf c0).length (List.map Route.u (routesOf c0))=List.map Route.u (routesOf c0):=List.take_of_length_le (by simp)
  simp only [↓xP,xQ,xR,xS,flatR,reduceLT,Nat.reduceBEq,reduceAdd,reduceSub,h1,hb,h3,hi,hlr,hrv,htk,Nat.le_refl,List.length_map]
  rw [List.drop_of_length_le (by omega),List.all_nil,Bool.true_and]
theorem shard_conf {c0:List Shard} {c1:List Caller} {c2:List Result} {w:Plan} {a b:Int} (h:clusterValid ⟨c0,c1,c2,w,a,b⟩=true) {s:Shard} (hs:s∈c0):chainValid s.group=true:=by
  simp only [clusterValid,Bool.and_eq_true] at h
  have:=List.all_eq_true.1 h.1.1.1.1.2 s hs
  simp only [shardOk,Bool.and_eq_true] at this
  exact this.1
theorem cluster_eight {c0:List Shard} {c1:List Caller} {c2:List Result} {w:Plan} {a b:Int} (h:clusterValid ⟨c0,c1,c2,w,a,b⟩=true):c0.length≤8:=by
  simp only [clusterValid,sizesOk,Bool.and_eq_true,decide_eq_true_eq] at h
  exact h.1.1.1.1.1.1.1.2
def mkBool (K:Int):Bool:=(decide ((K).tmod 3=0))
theorem markBoolS_ok (l:List Bool) (K:Int) (h1:1≤K) (h2:K+1*l.length≤4611686018427387904):EE F 152 [.sc (.own (.par 0) l.length),I K] [.row 1 (l.map bU)]=some ⟨[I (K+1*l.length)],[],[.row 1 ((mkL mkBool 1 K l.length).map bU)]⟩:=by
  refine (EE_run (fn:=i152) (by kernel_rfl) rfl).trans ?_
  simp only [i152,b152,argSt,insSt,List.length_cons,List.length_nil]
  simp only [↓xP,xQ,xR,xS,flatR,reduceLT,Nat.reduceBEq,reduceAdd,reduceSub]
  refine (loop_ind (fun (i:Nat) st=>i≤l.length∧st.s 0=.t (.sc (.own (.par 0) l.length))∧st.s 5=DI i∧st.s 1=DI (K+1*i)∧st.o (.par 0)=some (.row 1 ((mkL mkBool 1 K i++l.drop i).map bU))) (fun i=>l.length - i) (fun i=>some ⟨[I (K+1*l.length)],[],[.row 1 ((mkL mkBool 1 K l.length).map bU)]⟩) ?_ 0 ⟨by omega,by simp only [↓xP,xQ,xR,xS,flatR,reduceLT,Nat.reduceBEq,reduceAdd,reduceSub],by simp only [↓xP,xQ,xR,xS,flatR,reduceLT,Nat.reduceBEq,reduceAdd,reduceSub]; rfl,by simp only [↓xP,xQ,xR,xS,flatR,reduceLT,Nat.reduceBEq,reduceAdd,reduceSub]; exact DI_eq (by omega),by simp only [↓xP,xQ,xR,xS,flatR,reduceLT,Nat.reduceBEq,reduceAdd,reduceSub]; simp [mkL]⟩).trans rfl
  rintro i st ⟨hle,h0,h5,h1',ho⟩ ih
  by_cases hi:i<l.length
  · obtain ⟨x,hx⟩:∃ x,l[i]?=some x:=⟨_,List.getElem?_eq_getElem hi⟩
    have hw:=w_succ (i:=i) (by omega)
    have hg:=mk_get (u:=bU) (f:=mkBool) (w:=1) (K:=K) hx
    have hf:=mk_set (u:=bU) (f:=mkBool) (w:=1) (K:=K) hx
    have hlen:i<((mkL mkBool 1 K i++l.drop i).map bU).length:=by simp [mkL_len]; omega
    have hk1:1≤K+1 * (i:Int):=by omega
    have hk2:K+1 * (i:Int)+1≤4611686018427387904:=by omega
    have hn:K+1 * ((i+1:Nat):Int)=K+1 * (i:Int)+1:=by omega
    generalize (mkL mkBool 1 K i++l.drop i).map bU=r at hg hf hlen ho
    obtain ⟨K',hK⟩:∃ K',K'=K+1 * (i:Int):=⟨_,rfl⟩
    rw [←hK] at h1' hf hn hk1 hk2
    
    simp only [bU,mkBool] at hg hf
    have hgs:=get_set r i hlen
    have hw0:IntKind.i64.wrap (K'+1)=K'+1:=by rw [w64 (by omega) (by omega)]
    have h3_0:¬(3:Int)=0:=by omega
    simp only [↓xP,xQ,xR,xS,flatR,reduceLT,Nat.reduceBEq,reduceAdd,reduceSub,h0,h5,h1',ho,hi,hg,hgs,List.set_set,hw,hf,hw0,h3_0]
    exact ih (i+1) _ (by omega) ⟨by omega,by simp only [↓xP,xQ,xR,xS,flatR,reduceLT,Nat.reduceBEq,reduceAdd,reduceSub,h0],by simp only [↓xP,xQ,xR,xS,flatR,reduceLT,Nat.reduceBEq,reduceAdd,reduceSub],by simp only [↓xP,xQ,xR,xS,flatR,reduceLT,Nat.reduceBEq,reduceAdd,reduceSub]; exact DI_eq (by omega),by simp only [↓xP,xQ,xR,xS,flatR,reduceLT,Nat.reduceBEq,reduceAdd,reduceSub]⟩
  · have:i=l.length:=by omega
    subst this
    simp only [↓xP,xQ,xR,xS,flatR,reduceLT,Nat.reduceBEq,reduceAdd,reduceSub,h0,h5,h1',ho,hi,List.drop_length,List.append_nil,List.length_map,mkL_len]
def mkEntry (K:Int):Entry:=⟨(K),(K+1),⟨(K+1+1),(mtext (K+1+1+1)),(K+1+1+1+1),(K+1+1+1+1+1)⟩⟩
theorem markEntryS_ok (l:List Entry) (K:Int) (h1:1≤K) (h2:K+6*l.length≤4611686018427387904):EE F 212 [.sc (.own (.par 0) l.length),I K] [.row 6 (l.map Entry.u)]=some ⟨[I (K+6*l.length)],[],[.row 6 ((mkL mkEntry 6 K l.length).map Entry.u)]⟩:=by
  refine (EE_run (fn:=i212) (by kernel_rfl) rfl).trans ?_
  simp only [i212,b212,argSt,insSt,List.length_cons,List.length_nil]
  simp only [↓xP,xQ,xR,xS,flatR,reduceLT,Nat.reduceBEq,reduceAdd,reduceSub]
  refine (loop_ind (fun (i:Nat) st=>i≤l.length∧st.s 0=.t (.sc (.own (.par 0) l.length))∧st.s 5=DI i∧st.s 1=DI (K+6*i)∧st.o (.par 0)=some (.row 6 ((mkL mkEntry 6 K i++l.drop i).map Entry.u))) (fun i=>l.length - i) (fun i=>some ⟨[I (K+6*l.length)],[],[.row 6 ((mkL mkEntry 6 K l.length).map Entry.u)]⟩) ?_ 0 ⟨by omega,by simp only [↓xP,xQ,xR,xS,flatR,reduceLT,Nat.reduceBEq,reduceAdd,reduceSub],by simp only [↓xP,xQ,xR,xS,flatR,reduceLT,Nat.reduceBEq,reduceAdd,reduceSub]; rfl,by simp only [↓xP,xQ,xR,xS,flatR,reduceLT,Nat.reduceBEq,reduceAdd,reduceSub]; exact DI_eq (by omega),by simp only [↓xP,xQ,xR,xS,flatR,reduceLT,Nat.reduceBEq,reduceAdd,reduceSub]; simp [mkL]⟩).trans rfl
  rintro i st ⟨hle,h0,h5,h1',ho⟩ ih
  by_cases hi:i<l.length
  · obtain ⟨x,hx⟩:∃ x,l[i]?=some x:=⟨_,List.getElem?_eq_getElem hi⟩
    have hw:=w_succ (i:=i) (by omega)
    have hg:=mk_get (u:=Entry.u) (f:=mkEntry) (w:=6) (K:=K) hx
    have hf:=mk_set (u:=Entry.u) (f:=mkEntry) (w:=6) (K:=K) hx
    have hlen:i<((mkL mkEntry 6 K i++l.drop i).map Entry.u).length:=by simp [mkL_len]; omega
    have hk1:1≤K+6 * (i:Int):=by omega
    have hk2:K+6 * (i:Int)+6≤4611686018427387904:=by omega
    have hn:K+6 * ((i+1:Nat):Int)=K+6 * (i:Int)+6:=by omega
    generalize (mkL mkEntry 6 K i++l.drop i).map Entry.u=r at hg hf hlen ho
    obtain ⟨K',hK⟩:∃ K',K'=K+6 * (i:Int):=⟨_,rfl⟩
    rw [←hK] at h1' hf hn hk1 hk2
    obtain ⟨c1,c2,⟨c3,c4,c5,c6⟩⟩:=x
    simp only [Entry.u,mkEntry] at hg hf
    have hgs:=get_set r i hlen
    have hw0:IntKind.i64.wrap (K'+1)=K'+1:=by rw [w64 (by omega) (by omega)]
    have hw1:IntKind.i64.wrap (K'+1+1)=K'+1+1:=by rw [w64 (by omega) (by omega)]
    have hw2:IntKind.i64.wrap (K'+1+1+1)=K'+1+1+1:=by rw [w64 (by omega) (by omega)]
    have hw3:IntKind.i64.wrap (K'+1+1+1+1)=K'+1+1+1+1:=by rw [w64 (by omega) (by omega)]
    have hw4:IntKind.i64.wrap (K'+1+1+1+1+1)=K'+1+1+1+1+1:=by rw [w64 (by omega) (by omega)]
    have hw5:IntKind.i64.wrap (K'+1+1+1+1+1+1)=K'+1+1+1+1+1+1:=by rw [w64 (by omega) (by omega)]
    have mt3:=markText_ok (K'+1+1+1) (by omega) (by omega)
    simp only [↓xP,xQ,xR,xS,flatR,reduceLT,Nat.reduceBEq,reduceAdd,reduceSub,h0,h5,h1',ho,hi,hg,hgs,List.set_set,hw,hf,hw0,hw1,hw2,hw3,hw4,hw5,mt3]
    exact ih (i+1) _ (by omega) ⟨by omega,by simp only [↓xP,xQ,xR,xS,flatR,reduceLT,Nat.reduceBEq,reduceAdd,reduceSub,h0],by simp only [↓xP,xQ,xR,xS,flatR,reduceLT,Nat.reduceBEq,reduceAdd,reduceSub],by simp only [↓xP,xQ,xR,xS,flatR,reduceLT,Nat.reduceBEq,reduceAdd,reduceSub]; exact DI_eq (by omega),by simp only [↓xP,xQ,xR,xS,flatR,reduceLT,Nat.reduceBEq,reduceAdd,reduceSub]⟩
  · have:i=l.length:=by omega
    subst this
    simp only [↓xP,xQ,xR,xS,flatR,reduceLT,Nat.reduceBEq,reduceAdd,reduceSub,h0,h5,h1',ho,hi,List.drop_length,List.append_nil,List.length_map,mkL_len]
def mkRoute (K:Int):Route:=⟨(K),⟨(mtext (K+1)),(mtext (K+1+1))⟩⟩
theorem markRouteS_ok (l:List Route) (K:Int) (h1:1≤K) (h2:K+3*l.length≤4611686018427387904):EE F 28 [.sc (.own (.par 0) l.length),I K] [.row 3 (l.map Route.u)]=some ⟨[I (K+3*l.length)],[],[.row 3 ((mkL mkRoute 3 K l.length).map Route.u)]⟩:=by
  refine (EE_run (fn:=i28) (by kernel_rfl) rfl).trans ?_
  simp only [i28,b28,argSt,insSt,List.length_cons,List.length_nil]
  simp only [↓xP,xQ,xR,xS,flatR,reduceLT,Nat.reduceBEq,reduceAdd,reduceSub]
  refine (loop_ind (fun (i:Nat) st=>i≤l.length∧st.s 0=.t (.sc (.own (.par 0) l.length))∧st.s 5=DI i∧st.s 1=DI (K+3*i)∧st.o (.par 0)=some (.row 3 ((mkL mkRoute 3 K i++l.drop i).map Route.u))) (fun i=>l.length - i) (fun i=>some ⟨[I (K+3*l.length)],[],[.row 3 ((mkL mkRoute 3 K l.length).map Route.u)]⟩) ?_ 0 ⟨by omega,by simp only [↓xP,xQ,xR,xS,flatR,reduceLT,Nat.reduceBEq,reduceAdd,reduceSub],by simp only [↓xP,xQ,xR,xS,flatR,reduceLT,Nat.reduceBEq,reduceAdd,reduceSub]; rfl,by simp only [↓xP,xQ,xR,xS,flatR,reduceLT,Nat.reduceBEq,reduceAdd,reduceSub]; exact DI_eq (by omega),by simp only [↓xP,xQ,xR,xS,flatR,reduceLT,Nat.reduceBEq,reduceAdd,reduceSub]; simp [mkL]⟩).trans rfl
  rintro i st ⟨hle,h0,h5,h1',ho⟩ ih
  by_cases hi:i<l.length
  · obtain ⟨x,hx⟩:∃ x,l[i]?=some x:=⟨_,List.getElem?_eq_getElem hi⟩
    have hw:=w_succ (i:=i) (by omega)
    have hg:=mk_get (u:=Route.u) (f:=mkRoute) (w:=3) (K:=K) hx
    have hf:=mk_set (u:=Route.u) (f:=mkRoute) (w:=3) (K:=K) hx
    have hlen:i<((mkL mkRoute 3 K i++l.drop i).map Route.u).length:=by simp [mkL_len]; omega
    have hk1:1≤K+3 * (i:Int):=by omega
    have hk2:K+3 * (i:Int)+3≤4611686018427387904:=by omega
    have hn:K+3 * ((i+1:Nat):Int)=K+3 * (i:Int)+3:=by omega
    generalize (mkL mkRoute 3 K i++l.drop i).map Route.u=r at hg hf hlen ho
    obtain ⟨K',hK⟩:∃ K',K'=K+3 * (i:Int):=⟨_,rfl⟩
    rw [←hK] at h1' hf hn hk1 hk2
    obtain ⟨c1,⟨c2,c3⟩⟩:=x
    simp only [Route.u,mkRoute] at hg hf
    have hgs:=get_set r i hlen
    have hw0:IntKind.i64.wrap (K'+1)=K'+1:=by rw [w64 (by omega) (by omega)]
    have hw1:IntKind.i64.wrap (K'+1+1)=K'+1+1:=by rw [w64 (by omega) (by omega)]
    have hw2:IntKind.i64.wrap (K'+1+1+1)=K'+1+1+1:=by rw [w64 (by omega) (by omega)]
    have mt1:=markText_ok (K'+1) (by omega) (by omega)
    have mt2:=markText_ok (K'+1+1) (by omega) (by omega)
    simp only [↓xP,xQ,xR,xS,flatR,reduceLT,Nat.reduceBEq,reduceAdd,reduceSub,h0,h5,h1',ho,hi,hg,hgs,List.set_set,hw,hf,hw0,hw1,hw2,mt1,mt2]
    exact ih (i+1) _ (by omega) ⟨by omega,by simp only [↓xP,xQ,xR,xS,flatR,reduceLT,Nat.reduceBEq,reduceAdd,reduceSub,h0],by simp only [↓xP,xQ,xR,xS,flatR,reduceLT,Nat.reduceBEq,reduceAdd,reduceSub],by simp only [↓xP,xQ,xR,xS,flatR,reduceLT,Nat.reduceBEq,reduceAdd,reduceSub]; exact DI_eq (by omega),by simp only [↓xP,xQ,xR,xS,flatR,reduceLT,Nat.reduceBEq,reduceAdd,reduceSub]⟩
  · have:i=l.length:=by omega
    subst this
    simp only [↓xP,xQ,xR,xS,flatR,reduceLT,Nat.reduceBEq,reduceAdd,reduceSub,h0,h5,h1',ho,hi,List.drop_length,List.append_nil,List.length_map,mkL_len]
def mkResult (K:Int):Result:=⟨(K),(K+1),⟨(K+1+1),(mtext (K+1+1+1)),(K+1+1+1+1),(K+1+1+1+1+1)⟩,(K+1+1+1+1+1+1),(K+1+1+1+1+1+1+1),(K+1+1+1+1+1+1+1+1)⟩
theorem markResultS_ok (l:List Result) (K:Int) (h1:1≤K) (h2:K+9*l.length≤4611686018427387904):EE F 86 [.sc (.own (.par 0) l.length),I K] [.row 9 (l.map Result.u)]=some ⟨[I (K+9*l.length)],[],[.row 9 ((mkL mkResult 9 K l.length).map Result.u)]⟩:=by
  refine (EE_run (fn:=i86) (by kernel_rfl) rfl).trans ?_
  simp only [i86,b86,argSt,insSt,List.length_cons,List.length_nil]
  simp only [↓xP,xQ,xR,xS,flatR,reduceLT,Nat.reduceBEq,reduceAdd,reduceSub]
  refine (loop_ind (fun (i:Nat) st=>i≤l.length∧st.s 0=.t (.sc (.own (.par 0) l.length))∧st.s 5=DI i∧st.s 1=DI (K+9*i)∧st.o (.par 0)=some (.row 9 ((mkL mkResult 9 K i++l.drop i).map Result.u))) (fun i=>l.length - i) (fun i=>some ⟨[I (K+9*l.length)],[],[.row 9 ((mkL mkResult 9 K l.length).map Result.u)]⟩) ?_ 0 ⟨by omega,by simp only [↓xP,xQ,xR,xS,flatR,reduceLT,Nat.reduceBEq,reduceAdd,reduceSub],by simp only [↓xP,xQ,xR,xS,flatR,reduceLT,Nat.reduceBEq,reduceAdd,reduceSub]; rfl,by simp only [↓xP,xQ,xR,xS,flatR,reduceLT,Nat.reduceBEq,reduceAdd,reduceSub]; exact DI_eq (by omega),by simp only [↓xP,xQ,xR,xS,flatR,reduceLT,Nat.reduceBEq,reduceAdd,reduceSub]; simp [mkL]⟩).trans rfl
  rintro i st ⟨hle,h0,h5,h1',ho⟩ ih
  by_cases hi:i<l.length
  · obtain ⟨x,hx⟩:∃ x,l[i]?=some x:=⟨_,List.getElem?_eq_getElem hi⟩
    have hw:=w_succ (i:=i) (by omega)
    have hg:=mk_get (u:=Result.u) (f:=mkResult) (w:=9) (K:=K) hx
    have hf:=mk_set (u:=Result.u) (f:=mkResult) (w:=9) (K:=K) hx
    have hlen:i<((mkL mkResult 9 K i++l.drop i).map Result.u).length:=by simp [mkL_len]; omega
    have hk1:1≤K+9 * (i:Int):=by omega
    have hk2:K+9 * (i:Int)+9≤4611686018427387904:=by omega
    have hn:K+9 * ((i+1:Nat):Int)=K+9 * (i:Int)+9:=by omega
    generalize (mkL mkResult 9 K i++l.drop i).map Result.u=r at hg hf hlen ho
    obtain ⟨K',hK⟩:∃ K',K'=K+9 * (i:Int):=⟨_,rfl⟩
    rw [←hK] at h1' hf hn hk1 hk2
    obtain ⟨c1,c2,⟨c3,c4,c5,c6⟩,c7,c8,c9⟩:=x
    simp only [Result.u,mkResult] at hg hf
    have hgs:=get_set r i hlen
    have hw0:IntKind.i64.wrap (K'+1)=K'+1:=by rw [w64 (by omega) (by omega)]
    have hw1:IntKind.i64.wrap (K'+1+1)=K'+1+1:=by rw [w64 (by omega) (by omega)]
    have hw2:IntKind.i64.wrap (K'+1+1+1)=K'+1+1+1:=by rw [w64 (by omega) (by omega)]
    have hw3:IntKind.i64.wrap (K'+1+1+1+1)=K'+1+1+1+1:=by rw [w64 (by omega) (by omega)]
    have hw4:IntKind.i64.wrap (K'+1+1+1+1+1)=K'+1+1+1+1+1:=by rw [w64 (by omega) (by omega)]
    have hw5:IntKind.i64.wrap (K'+1+1+1+1+1+1)=K'+1+1+1+1+1+1:=by rw [w64 (by omega) (by omega)]
    have hw6:IntKind.i64.wrap (K'+1+1+1+1+1+1+1)=K'+1+1+1+1+1+1+1:=by rw [w64 (by omega) (by omega)]
    have hw7:IntKind.i64.wrap (K'+1+1+1+1+1+1+1+1)=K'+1+1+1+1+1+1+1+1:=by rw [w64 (by omega) (by omega)]
    have hw8:IntKind.i64.wrap (K'+1+1+1+1+1+1+1+1+1)=K'+1+1+1+1+1+1+1+1+1:=by rw [w64 (by omega) (by omega)]
    have mt3:=markText_ok (K'+1+1+1) (by omega) (by omega)
    simp only [↓xP,xQ,xR,xS,flatR,reduceLT,Nat.reduceBEq,reduceAdd,reduceSub,h0,h5,h1',ho,hi,hg,hgs,List.set_set,hw,hf,hw0,hw1,hw2,hw3,hw4,hw5,hw6,hw7,hw8,mt3]
    exact ih (i+1) _ (by omega) ⟨by omega,by simp only [↓xP,xQ,xR,xS,flatR,reduceLT,Nat.reduceBEq,reduceAdd,reduceSub,h0],by simp only [↓xP,xQ,xR,xS,flatR,reduceLT,Nat.reduceBEq,reduceAdd,reduceSub],by simp only [↓xP,xQ,xR,xS,flatR,reduceLT,Nat.reduceBEq,reduceAdd,reduceSub]; exact DI_eq (by omega),by simp only [↓xP,xQ,xR,xS,flatR,reduceLT,Nat.reduceBEq,reduceAdd,reduceSub]⟩
  · have:i=l.length:=by omega
    subst this
    simp only [↓xP,xQ,xR,xS,flatR,reduceLT,Nat.reduceBEq,reduceAdd,reduceSub,h0,h5,h1',ho,hi,List.drop_length,List.append_nil,List.length_map,mkL_len]
theorem heldAnswerS_ok (n:Nat) (K:Int) (h1:1≤K) (h2:K+7*n≤4611686018427387904):EE F 39 [L 7 ((mkL mkAnswer 7 K n).map Answer.u),I K] []=ok1 (I (K+7*n)):=by
  rw [R39,b39]
  simp only [↓xP,xQ,xR,xS,flatR,reduceLT,Nat.reduceBEq,reduceAdd,reduceSub]
  refine (loop_ind (fun (i:Nat) st=>i≤n∧st.s 0=DU (.sl 7 ((mkL mkAnswer 7 K n).map Answer.u))∧st.s 5=DI i∧st.s 1=DI (K+7*i)) (fun i=>n - i) (fun i=>ok1 (I (K+7*n))) ?_ 0 ⟨by omega,by simp only [↓xP,xQ,xR,xS,flatR,reduceLT,Nat.reduceBEq,reduceAdd,reduceSub],by simp only [↓xP,xQ,xR,xS,flatR,reduceLT,Nat.reduceBEq,reduceAdd,reduceSub]; rfl,by simp only [↓xP,xQ,xR,xS,flatR,reduceLT,Nat.reduceBEq,reduceAdd,reduceSub]; exact DI_eq (by omega)⟩).trans rfl
  rintro i st ⟨hle,h0,h5,h1'⟩ ih
  have hlen:=mkL_len mkAnswer 7 K n
  by_cases hi:i<n
  · have hx:=mkL_get mkAnswer 7 K hi
    have hw:=w_succ (i:=i) (by omega)
    have hk1:1≤K+7 * (i:Int):=by omega
    have hk2:K+7 * (i:Int)+7≤4611686018427387904:=by omega
    have hn:K+7 * ((i+1:Nat):Int)=K+7 * (i:Int)+7:=by omega
    obtain ⟨K',hK⟩:∃ K',K'=K+7 * (i:Int):=⟨_,rfl⟩
    rw [←hK] at h1' hx hn hk1 hk2
    have hw0:IntKind.i64.wrap (K'+1)=K'+1:=by rw [w64 (by omega) (by omega)]
    have hw1:IntKind.i64.wrap (K'+1+1)=K'+1+1:=by rw [w64 (by omega) (by omega)]
    have hw2:IntKind.i64.wrap (K'+1+1+1)=K'+1+1+1:=by rw [w64 (by omega) (by omega)]
    have hw3:IntKind.i64.wrap (K'+1+1+1+1)=K'+1+1+1+1:=by rw [w64 (by omega) (by omega)]
    have hw4:IntKind.i64.wrap (K'+1+1+1+1+1)=K'+1+1+1+1+1:=by rw [w64 (by omega) (by omega)]
    have hw5:IntKind.i64.wrap (K'+1+1+1+1+1+1)=K'+1+1+1+1+1+1:=by rw [w64 (by omega) (by omega)]
    have hw6:IntKind.i64.wrap (K'+1+1+1+1+1+1+1)=K'+1+1+1+1+1+1+1:=by rw [w64 (by omega) (by omega)]
    have mt3:=markText_ok (K'+1+1+1) (by omega) (by omega)
    simp only [↓xP,xQ,xR,xS,flatR,reduceLT,Nat.reduceBEq,reduceAdd,reduceSub,h0,h5,h1',hlen,hi,hx,hw,Answer.u,mkAnswer,hw0,hw1,hw2,hw3,hw4,hw5,hw6,mt3,ne_eq,not_true_eq_false,decide_false]
    exact ih (i+1) _ (by omega) ⟨by omega,by simp only [↓xP,xQ,xR,xS,flatR,reduceLT,Nat.reduceBEq,reduceAdd,reduceSub,h0],by simp only [↓xP,xQ,xR,xS,flatR,reduceLT,Nat.reduceBEq,reduceAdd,reduceSub],by simp only [↓xP,xQ,xR,xS,flatR,reduceLT,Nat.reduceBEq,reduceAdd,reduceSub]; exact DI_eq (by omega)⟩
  · have:i=n:=by omega
    subst this
    simp only [↓xP,xQ,xR,xS,flatR,reduceLT,Nat.reduceBEq,reduceAdd,reduceSub,h0,h5,h1',hlen,hi]
def mGo {α:Type} (w:α→Nat) (f:Int→α→α):Int→List α→List α
  | _,[]=>[]
  | K,x::xs=>f K x::mGo w f (K+w x) xs
def sumW {α:Type} (w:α→Nat):List α→Nat
  | []=>0
  | x::xs=>w x+sumW w xs
theorem sumW_append {α:Type} (w:α→Nat) (b:List α):∀ a:List α,sumW w (a++b)=sumW w a+sumW w b
  | []=>by simp [sumW]
  | x::xs=>by simp only [List.cons_append,sumW,sumW_append w b xs]; omega
theorem mGo_append {α:Type} (w:α→Nat) (f:Int→α→α) (b:List α):∀ (K:Int) (a:List α),mGo w f K (a++b)=mGo w f K a++mGo w f (K+sumW w a) b
  | K,[]=>by simp [mGo,sumW]
  | K,x::xs=>by
    simp only [List.cons_append,mGo,sumW,mGo_append w f b (K+w x) xs]
    rw [show K + (w x:Int) + (sumW w xs:Int)=K + ((w x+sumW w xs:Nat):Int) by omega]
theorem mGo_len {α:Type} (w:α→Nat) (f:Int→α→α):∀ (K:Int) (l:List α),(mGo w f K l).length=l.length
  | _,[]=>rfl
  | K,x::xs=>by simp only [mGo,List.length_cons,mGo_len w f _ xs]
theorem sumW_step {α:Type} (w:α→Nat) {l:List α} {i:Nat} {x:α} (h:l[i]?=some x):sumW w (l.take (i+1))=sumW w (l.take i)+w x:=by
  rw [List.take_add_one,h,Option.toList_some,sumW_append]; simp [sumW]
theorem sumW_take {α:Type} (w:α→Nat) (l:List α) (i:Nat):sumW w (l.take i)≤sumW w l:=by
  have:=sumW_append w (l.drop i) (l.take i)
  rw [List.take_append_drop] at this; omega
theorem sumW_add {α:Type} (c:Nat) (w:α→Nat):∀ l:List α,sumW (fun x=>c+w x) l=c*l.length+sumW w l
  | []=>by simp [sumW]
  | x::xs=>by simp only [sumW,List.length_cons,sumW_add c w xs,Nat.mul_add]; omega
def mMid {α:Type} (w:α→Nat) (f:Int→α→α) (K:Int) (l:List α) (i:Nat):List α:=mGo w f K (l.take i)++l.drop i
theorem mMid_len {α:Type} (w:α→Nat) (f:Int→α→α) (K:Int) (l:List α) (i:Nat):(mMid w f K l i).length=l.length:=by
  simp only [mMid,List.length_append,mGo_len,List.length_take,List.length_drop]; omega
theorem mMid_zero {α:Type} (w:α→Nat) (f:Int→α→α) (K:Int) (l:List α):mMid w f K l 0=l:=by simp [mMid,mGo]
theorem mMid_all {α:Type} (w:α→Nat) (f:Int→α→α) (K:Int) (l:List α):mMid w f K l l.length=mGo w f K l:=by simp [mMid]
theorem mMid_get {α:Type} (w:α→Nat) (f:Int→α→α) (K:Int) {l:List α} {i:Nat} {x:α} (h:l[i]?=some x):(mMid w f K l i)[i]?=some x:=by
  have hi:=(List.getElem?_eq_some_iff.1 h).1
  have e:(mGo w f K (l.take i)).length=i:=by rw [mGo_len,List.length_take]; omega
  rw [mMid,List.getElem?_append_right (by omega),e,List.getElem?_drop]
  simpa using h
theorem mMid_map {α β:Type} {u:α→β} (w:α→Nat) (f:Int→α→α) (K:Int) {l:List α} {i:Nat} {x:α} (h:l[i]?=some x):((mMid w f K l i).map u)[i]?=some (u x):=by rw [List.getElem?_map,mMid_get w f K h]; rfl
theorem mMid_set {α β:Type} {u:α→β} (w:α→Nat) (f:Int→α→α) (K:Int) {l:List α} {i:Nat} {x:α} (h:l[i]?=some x):((mMid w f K l i).map u).set i (u (f (K+sumW w (l.take i)) x))=(mMid w f K l (i+1)).map u:=by
  have hi:=(List.getElem?_eq_some_iff.1 h).1
  have e:(mGo w f K (l.take i)).length=i:=by rw [mGo_len,List.length_take]; omega
  have e2:mGo w f K (l.take (i+1))=mGo w f K (l.take i)++[f (K+sumW w (l.take i)) x]:=by
    rw [List.take_add_one,h,Option.toList_some,mGo_append]; simp [mGo]
  rw [mMid,mMid,←List.map_set,List.set_append_right _ _ (by omega),e,Nat.sub_self,drop_at h,List.set_cons_zero,e2,List.append_assoc]
  rfl
def Cost (g:Int→Int) (w:Nat):Prop:=∀ a,0≤a→a≤1048576→0≤g a→g a≤a∧9*g a+w≤9*a
theorem Cost.nil:Cost (fun a=>a) 0:=fun a _ _ _=>⟨Int.le_refl _,by show 9*a + ((0:Nat):Int)≤9*a; omega⟩
theorem Cost.off {n:Nat} {k:Int→Int} {w w':Nat} (hn:n≤1048576) (hw:w≤9*n+w') (hk:Cost k w'):Cost (fun a=>offZ a n k) w:=by
  intro a h0 h1 h2
  simp only [offZ] at h2 ⊢
  rw [w64 (by omega) (by omega)] at h2 ⊢
  split at h2
  · omega
  · rename_i hlt
    rw [if_neg hlt]
    obtain ⟨h3,h4⟩:=hk (a - n) (by omega) (by omega) h2
    omega
theorem Cost.chk {g k:Int→Int} {w w':Nat} (hg:Cost g w) (hk:Cost k w'):Cost (fun a=>chkZ (g a) k) (w+w'):=by
  intro a h0 h1 h2
  simp only [chkZ] at h2 ⊢
  split at h2
  · omega
  · rename_i hlt
    rw [if_neg hlt]
    obtain ⟨h3,h4⟩:=hg a h0 h1 (by omega)
    obtain ⟨h5,h6⟩:=hk (g a) (by omega) (by omega) h2
    omega
theorem Cost.all {α:Type} {g:α→Int→Int} {w:α→Nat}:∀ {l:List α},(∀ x,x∈l→Cost (g x) (w x))→Cost (allZ g l) (sumW w l)
  | [],_=>Cost.nil
  | x::xs,h=>(h x (List.mem_cons_self ..)).chk (Cost.all (l:=xs) fun y hy=>h y (List.mem_cons_of_mem _ hy))
theorem Cost.less {g:Int→Int} {w w':Nat} (h:Cost g w) (hw:w'≤w):Cost g w':=fun a h0 h1 h2=>by
  have:=h a h0 h1 h2
  omega
theorem Cost.none {α:Type} {g:α→Int→Int} {l:List α} (h:∀ x,x∈l→Cost (g x) 0):Cost (allZ g l) 0:=(Cost.all (w:=fun _=>0) h).less (by omega)
theorem Cost.key {n:Nat} (h:n≤1048576):Cost (fun a=>offZ a n fun a=>a) 0:=Cost.off h (by omega) Cost.nil
theorem cInts {l:List Int} (h:SmallIntS l):Cost (szIntSG l) l.length:=Cost.off h.1 (by omega) Cost.nil
theorem cBools {l:List Bool} (h:SmallBoolS l):Cost (szBoolSG l) l.length:=Cost.off h.1 (by omega) Cost.nil
theorem cSessions {l:List Session} (h:SmallSessionS l):Cost (szSessionSG l) (3*l.length):=Cost.off h.1 (by omega) Cost.nil
theorem cPairs {l:List Pair} (h:SmallPairS l):Cost (szPairSG l) (2*l.length):=Cost.off h.1 (by omega) (Cost.none fun x hx=>Cost.key (h.2 x hx).1)
theorem cCommand {c:Command} (h:Command.Small c):Cost (szCommandG c) 0:=Cost.key h.1
theorem cEntry {e:Entry} (h:Entry.Small e):Cost (szEntryG e) 0:=(cCommand h.1).chk Cost.nil
theorem cAnswer {e:Answer} (h:Answer.Small e):Cost (szAnswerG e) 0:=(cEntry h.1).chk Cost.nil
theorem cInterval {x:Interval} (h:Interval.Small x):Cost (szIntervalG x) 0:=Cost.off h.1 (by omega) (Cost.key h.2.1)
theorem cEntries {l:List Entry} (h:SmallEntryS l):Cost (szEntrySG l) (6*l.length):=Cost.off h.1 (by omega) (Cost.none fun x hx=>cEntry (h.2 x hx))
theorem cAnswers {l:List Answer} (h:SmallAnswerS l):Cost (szAnswerSG l) (7*l.length):=Cost.off h.1 (by omega) (Cost.none fun x hx=>cAnswer (h.2 x hx))
theorem cRoutes {l:List Route} (h:SmallRouteS l):Cost (szRouteSG l) (3*l.length):=Cost.off h.1 (by omega) (Cost.none fun x hx=>(cInterval (h.2 x hx).1).chk Cost.nil)
theorem cResults {l:List Result} (h:SmallResultS l):Cost (szResultSG l) (9*l.length):=Cost.off h.1 (by omega) (Cost.none fun x hx=>(cCommand (h.2 x hx).1).chk Cost.nil)
theorem cState {x:State} (h:State.Small x):Cost (szStateG x) (2*x.pairs.length+3*x.known.length):=((cInterval h.1).chk ((cPairs h.2.1).chk ((cSessions h.2.2.1).chk (Cost.key h.2.2.2.1)))).less (by omega)
theorem cConfig {x:Config} (h:Config.Small x):Cost (szConfigG x) x.members.length:=((cInts h.1).chk Cost.nil).less (by omega)
def cRep (r:Replica):Nat:=r.conf.members.length+6*r.log.length
def cMsg (m:Message):Nat:=m.conf.members.length+6*m.log.length
def wRep (r:Replica):Nat:=3+cRep r
def wMsg (m:Message):Nat:=5+cMsg m
theorem cReplica {r:Replica} (h:Replica.Small r):Cost (szReplicaG r) (cRep r):=((cConfig h.1).chk ((cEntries h.2.1).chk Cost.nil)).less (by simp only [cRep]; omega)
theorem cMessage {r:Message} (h:Message.Small r):Cost (szMessageG r) (cMsg r):=((cConfig h.1).chk ((cEntries h.2.1).chk Cost.nil)).less (by simp only [cMsg]; omega)
theorem cReplicas {l:List Replica} (h:SmallReplicaS l):Cost (szReplicaSG l) (sumW wRep l):=Cost.off h.1 (by rw [show wRep=fun r=>3+cRep r from rfl,sumW_add]; omega) (Cost.all fun x hx=>cReplica (h.2 x hx))
theorem cMessages {l:List Message} (h:SmallMessageS l):Cost (szMessageSG l) (sumW wMsg l):=Cost.off h.1 (by rw [show wMsg=fun r=>5+cMsg r from rfl,sumW_add]; omega) (Cost.all fun x hx=>cMessage (h.2 x hx))
def cChn (c:Chain):Nat:=2*c.base.pairs.length+3*c.base.known.length+c.conf.members.length+sumW wRep c.nodes+c.up.length+sumW wMsg c.bag+7*c.answers.length
def wShard (s:Shard):Nat:=7+cChn s.group
theorem cChain {c:Chain} (h:Chain.Small c):Cost (szChainG c) (cChn c):=((cState h.1).chk ((cConfig h.2.1).chk ((cReplicas h.2.2.1).chk ((cBools h.2.2.2.1).chk ((cMessages h.2.2.2.2.1).chk ((cAnswers h.2.2.2.2.2.1).chk Cost.nil)))))).less (by simp only [cChn]; omega)
theorem cShards {l:List Shard} (h:SmallShardS l):Cost (szShardSG l) (sumW wShard l):=Cost.off h.1 (by rw [show wShard=fun s=>7+cChn s.group from rfl,sumW_add]; omega) (Cost.all (w:=fun s:Shard=>cChn s.group) fun x hx=>((cChain (h.2 x hx).1).chk Cost.nil).less (by omega))
def cCal (c:Caller):Nat:=3*c.cache.length
def wCal (c:Caller):Nat:=7+cCal c
theorem cCallers {l:List Caller} (h:SmallCallerS l):Cost (szCallerSG l) (sumW wCal l):=Cost.off h.1 (by rw [show wCal=fun c=>7+cCal c from rfl,sumW_add]; omega) (Cost.all (w:=cCal) fun x hx=>((cRoutes (h.2 x hx).1).chk ((cCommand (h.2 x hx).2.1).chk Cost.nil)).less (by simp only [cCal]; omega))
theorem cCluster {x:Cluster} (h:Cluster.Small x):Cost (szClusterG x) (sumW wShard x.shards+sumW wCal x.clients+9*x.results.length):=((cShards h.1).chk ((cCallers h.2.1).chk ((cResults h.2.2.1).chk ((Cost.key h.2.2.2.1.1).chk Cost.nil)))).less (by omega)
theorem scalR:(∀ l:List Int,scalRs (l.map iU)=true)∧(∀ l:List Bool,scalRs (l.map bU)=true)∧(∀ l:List Entry,scalRs (l.map Entry.u)=true)∧(∀ l:List Pair,scalRs (l.map Pair.u)=true)∧(∀ l:List Session,scalRs (l.map Session.u)=true)∧(∀ l:List Answer,scalRs (l.map Answer.u)=true)∧(∀ l:List Route,scalRs (l.map Route.u)=true):=
  ⟨scal_map fun _=>rfl,scal_map fun _=>rfl,scal_map fun _=>rfl,scal_map fun _=>rfl,scal_map fun _=>rfl,scal_map fun _=>rfl,scal_map fun _=>rfl⟩
theorem vlenD:(∀ i n,vlen (.t (.sc (.down i n)))=some (DI (n:Int)))∧(∀ i a b n,vlen (.t (.sc (.sub i a b n)))=some (DI (n:Int))):=⟨fun _ _=>rfl,fun _ _ _ _=>rfl⟩
theorem setKid_at {rows:List (List U)} {i c:Nat} {x:U} {row:List U} (h:i<rows.length):setKid (rows.set i row) i c x=rows.set i (row.set c x):=by
  rw [setKid_set (get_set rows i h row),List.set_set]
def mRep (K:Int) (r:Replica):Replica:=⟨⟨K,mkL mkInt 1 (K+1) r.conf.members.length,decide ((K+1+1 * (r.conf.members.length:Int)).tmod 3=0)⟩,decide ((K+1+1 * (r.conf.members.length:Int)+1).tmod 3=0),mkL mkEntry 6 (K+1+1 * (r.conf.members.length:Int)+1+1) r.log.length⟩
theorem markReplicaS_ok (l:List Replica) (K:Int) (h1:1≤K) (h2:K+sumW wRep l≤4611686018427387904):EE F 151 [.sc (.down (.par 0) l.length),I K] [.deep 5 (l.map Replica.u)]=some ⟨[I (K+sumW wRep l)],[],[.deep 5 ((mGo wRep mRep K l).map Replica.u)]⟩:=by
  have hln:3*l.length≤sumW wRep l:=by rw [show wRep=fun r=>3+cRep r from rfl,sumW_add]; omega
  refine (EE_run (fn:=i151) (by kernel_rfl) rfl).trans ?_
  simp only [i151,b151,argSt,insSt,List.length_cons,List.length_nil]
  simp only [↓xP,xQ,xR,xS,flatR,reduceLT,Nat.reduceBEq,reduceAdd,reduceSub]
  refine (loop_ind (fun (i:Nat) st=>i≤l.length∧st.s 0=.t (.sc (.down (.par 0) l.length))∧st.s 5=DI i∧st.s 1=DI (K+sumW wRep (l.take i))∧st.o (.par 0)=some (.deep 5 ((mMid wRep mRep K l i).map Replica.u))) (fun i=>l.length - i) (fun i=>some ⟨[I (K+sumW wRep l)],[],[.deep 5 ((mGo wRep mRep K l).map Replica.u)]⟩) ?_ 0 ⟨by omega,by simp only [↓xP,xQ,xR,xS,flatR,reduceLT,Nat.reduceBEq,reduceAdd,reduceSub],by simp only [↓xP,xQ,xR,xS,flatR,reduceLT,Nat.reduceBEq,reduceAdd,reduceSub]; rfl,by simp only [↓xP,xQ,xR,xS,flatR,reduceLT,Nat.reduceBEq,reduceAdd,reduceSub,List.take_zero,sumW]; exact DI_eq (by omega),by simp only [↓xP,xQ,xR,xS,flatR,reduceLT,Nat.reduceBEq,reduceAdd,reduceSub,mMid_zero]⟩).trans rfl
  rintro i st ⟨hle,h0,h5,h1',ho⟩ ih
  by_cases hi:i<l.length
  · obtain ⟨⟨⟨e,ms,f⟩,rd,lg⟩,hx⟩:∃ x,l[i]?=some x:=⟨_,List.getElem?_eq_getElem hi⟩
    have hw:=w_succ (i:=i) (by omega)
    have hg:=mMid_map (u:=Replica.u) wRep mRep K hx
    have hf:=mMid_set (u:=Replica.u) wRep mRep K hx
    have hlen:i<((mMid wRep mRep K l i).map Replica.u).length:=by rw [List.length_map,mMid_len]; omega
    have hst:=sumW_step wRep hx
    have hsl:=sumW_take wRep l (i+1)
    simp only [wRep,cRep] at hst
    have hk0:1≤K+sumW wRep (l.take i):=by omega
    generalize (mMid wRep mRep K l i).map Replica.u=r at hg hf hlen ho
    obtain ⟨K',hK⟩:∃ K',K'=K+sumW wRep (l.take i):=⟨_,rfl⟩
    rw [←hK] at h1' hf
    have hK2:K+sumW wRep (l.take (i+1))=K'+1+1 * (ms.length:Int)+1+1+6 * (lg.length:Int):=by omega
    have hK3:K'+1+1 * (ms.length:Int)+1+1+6 * (lg.length:Int)≤4611686018427387904:=by omega
    simp only [Replica.u,mRep] at hg hf
    have hgs:=get_set r i hlen
    have hw0:IntKind.i64.wrap (K'+1)=K'+1:=by rw [w64 (by omega) (by omega)]
    have mk1:=markIntS_ok ms (K'+1) (by omega) (by omega)
    have hw2:IntKind.i64.wrap (K'+1+1 * (ms.length:Int)+1)=K'+1+1 * (ms.length:Int)+1:=by rw [w64 (by omega) (by omega)]
    have hw3:IntKind.i64.wrap (K'+1+1 * (ms.length:Int)+1+1)=K'+1+1 * (ms.length:Int)+1+1:=by rw [w64 (by omega) (by omega)]
    have mk4:=markEntryS_ok lg (K'+1+1 * (ms.length:Int)+1+1) (by omega) (by omega)
    have h3_0:¬(3:Int)=0:=by omega
    simp only [↓xP,xQ,xR,xS,flatR,reduceLT,Nat.reduceBEq,reduceAdd,reduceSub,h0,h5,h1',ho,hi,hg,hgs,List.set_set,List.set_cons_succ,List.set_cons_zero,setKid_at hlen,vlenD,hw,hw0,hw2,hw3,mk1,mk4,h3_0,scalR,List.length_map,mkL_len,hf]
    exact ih (i+1) _ (by omega) ⟨by omega,by simp only [↓xP,xQ,xR,xS,flatR,reduceLT,Nat.reduceBEq,reduceAdd,reduceSub,h0],by simp only [↓xP,xQ,xR,xS,flatR,reduceLT,Nat.reduceBEq,reduceAdd,reduceSub],by simp only [↓xP,xQ,xR,xS,flatR,reduceLT,Nat.reduceBEq,reduceAdd,reduceSub]; exact DI_eq (by omega),by simp only [↓xP,xQ,xR,xS,flatR,reduceLT,Nat.reduceBEq,reduceAdd,reduceSub]⟩
  · have:i=l.length:=by omega
    subst this
    rw [mMid_all] at ho
    simp only [↓xP,xQ,xR,xS,flatR,reduceLT,Nat.reduceBEq,reduceAdd,reduceSub,h0,h5,h1',ho,hi,vlenD,List.take_length,List.length_map,mGo_len]
def mMsg (K:Int):Message→Message
  | ⟨kd,tt,eo,⟨ep,ms,fr⟩,lg⟩=>⟨K,K+1,K+1+1,⟨K+1+1+1,mkL mkInt 1 (K+1+1+1+1) ms.length,decide ((K+1+1+1+1+1 * (ms.length:Int)).tmod 3=0)⟩,mkL mkEntry 6 (K+1+1+1+1+1 * (ms.length:Int)+1) lg.length⟩
theorem markMessageS_ok (l:List Message) (K:Int) (h1:1≤K) (h2:K+sumW wMsg l≤4611686018427387904):EE F 153 [.sc (.down (.par 0) l.length),I K] [.deep 7 (l.map Message.u)]=some ⟨[I (K+sumW wMsg l)],[],[.deep 7 ((mGo wMsg mMsg K l).map Message.u)]⟩:=by
  have hln:5*l.length≤sumW wMsg l:=by rw [show wMsg=fun x=>5+cMsg x from rfl,sumW_add]; omega
  refine (EE_run (fn:=i153) (by kernel_rfl) rfl).trans ?_
  simp only [i153,b153,argSt,insSt,List.length_cons,List.length_nil]
  simp only [↓xP,xQ,xR,xS,flatR,reduceLT,Nat.reduceBEq,reduceAdd,reduceSub]
  refine (loop_ind (fun (i:Nat) st=>i≤l.length∧st.s 0=.t (.sc (.down (.par 0) l.length))∧st.s 5=DI i∧st.s 1=DI (K+sumW wMsg (l.take i))∧st.o (.par 0)=some (.deep 7 ((mMid wMsg mMsg K l i).map Message.u))) (fun i=>l.length - i) (fun i=>some ⟨[I (K+sumW wMsg l)],[],[.deep 7 ((mGo wMsg mMsg K l).map Message.u)]⟩) ?_ 0 ⟨by omega,by simp only [↓xP,xQ,xR,xS,flatR,reduceLT,Nat.reduceBEq,reduceAdd,reduceSub],by simp only [↓xP,xQ,xR,xS,flatR,reduceLT,Nat.reduceBEq,reduceAdd,reduceSub]; rfl,by simp only [↓xP,xQ,xR,xS,flatR,reduceLT,Nat.reduceBEq,reduceAdd,reduceSub,List.take_zero,sumW]; exact DI_eq (by omega),by simp only [↓xP,xQ,xR,xS,flatR,reduceLT,Nat.reduceBEq,reduceAdd,reduceSub,mMid_zero]⟩).trans rfl
  rintro i st ⟨hle,h0,h5,h1',ho⟩ ih
  by_cases hi:i<l.length
  · obtain ⟨⟨kd,tt,eo,⟨ep,ms,fr⟩,lg⟩,hx⟩:∃ x,l[i]?=some x:=⟨_,List.getElem?_eq_getElem hi⟩
    have hw:=w_succ (i:=i) (by omega)
    have hg:=mMid_map (u:=Message.u) wMsg mMsg K hx
    have hf:=mMid_set (u:=Message.u) wMsg mMsg K hx
    have hlen:i<((mMid wMsg mMsg K l i).map Message.u).length:=by rw [List.length_map,mMid_len]; omega
    have hst:=sumW_step wMsg hx
    have hsl:=sumW_take wMsg l (i+1)
    simp only [wMsg,cMsg] at hst
    have hk0:1≤K+sumW wMsg (l.take i):=by omega
    generalize (mMid wMsg mMsg K l i).map Message.u=r at hg hf hlen ho
    obtain ⟨K',hK⟩:∃ K',K'=K+sumW wMsg (l.take i):=⟨_,rfl⟩
    rw [←hK] at h1' hf
    have hK2:K+sumW wMsg (l.take (i+1))=K'+1+1+1+1+1 * (ms.length:Int)+1+6 * (lg.length:Int):=by omega
    have hK3:K'+1+1+1+1+1 * (ms.length:Int)+1+6 * (lg.length:Int)≤4611686018427387904:=by omega
    simp only [Message.u,mMsg] at hg hf
    have hgs:=get_set r i hlen
    have hw0:IntKind.i64.wrap (K'+1)=K'+1:=by rw [w64 (by omega) (by omega)]
    have hw1:IntKind.i64.wrap (K'+1+1)=K'+1+1:=by rw [w64 (by omega) (by omega)]
    have hw2:IntKind.i64.wrap (K'+1+1+1)=K'+1+1+1:=by rw [w64 (by omega) (by omega)]
    have hw3:IntKind.i64.wrap (K'+1+1+1+1)=K'+1+1+1+1:=by rw [w64 (by omega) (by omega)]
    have mk4:=markIntS_ok ms (K'+1+1+1+1) (by omega) (by omega)
    have hw5:IntKind.i64.wrap (K'+1+1+1+1+1 * (ms.length:Int)+1)=K'+1+1+1+1+1 * (ms.length:Int)+1:=by rw [w64 (by omega) (by omega)]
    have mk6:=markEntryS_ok lg (K'+1+1+1+1+1 * (ms.length:Int)+1) (by omega) (by omega)
    have h3_0:¬(3:Int)=0:=by omega
    simp only [↓xP,xQ,xR,xS,flatR,reduceLT,Nat.reduceBEq,reduceAdd,reduceSub,h0,h5,h1',ho,hi,hg,hgs,List.set_set,List.set_cons_succ,List.set_cons_zero,setKid_at hlen,vlenD,hw,hw0,hw1,hw2,hw3,mk4,hw5,mk6,h3_0,scalR,List.length_map,mkL_len,mGo_len,hf]
    exact ih (i+1) _ (by omega) ⟨by omega,by simp only [↓xP,xQ,xR,xS,flatR,reduceLT,Nat.reduceBEq,reduceAdd,reduceSub,h0],by simp only [↓xP,xQ,xR,xS,flatR,reduceLT,Nat.reduceBEq,reduceAdd,reduceSub],by simp only [↓xP,xQ,xR,xS,flatR,reduceLT,Nat.reduceBEq,reduceAdd,reduceSub]; exact DI_eq (by omega),by simp only [↓xP,xQ,xR,xS,flatR,reduceLT,Nat.reduceBEq,reduceAdd,reduceSub]⟩
  · have:i=l.length:=by omega
    subst this
    rw [mMid_all] at ho
    simp only [↓xP,xQ,xR,xS,flatR,reduceLT,Nat.reduceBEq,reduceAdd,reduceSub,h0,h5,h1',ho,hi,vlenD,List.take_length,List.length_map,mGo_len]
def mCal (K:Int):Caller→Caller
  | ⟨cch,sq,bz,⟨ck,ckey,cv,co⟩,cd⟩=>⟨mkL mkRoute 3 (K) cch.length,K+3 * (cch.length:Int),decide ((K+3 * (cch.length:Int)+1).tmod 3=0),⟨K+3 * (cch.length:Int)+1+1,mtext (K+3 * (cch.length:Int)+1+1+1),K+3 * (cch.length:Int)+1+1+1+1,K+3 * (cch.length:Int)+1+1+1+1+1⟩,K+3 * (cch.length:Int)+1+1+1+1+1+1⟩
theorem markCallerS_ok (l:List Caller) (K:Int) (h1:1≤K) (h2:K+sumW wCal l≤4611686018427387904):EE F 85 [.sc (.down (.par 0) l.length),I K] [.deep 8 (l.map Caller.u)]=some ⟨[I (K+sumW wCal l)],[],[.deep 8 ((mGo wCal mCal K l).map Caller.u)]⟩:=by
  have hln:7*l.length≤sumW wCal l:=by rw [show wCal=fun x=>7+cCal x from rfl,sumW_add]; omega
  refine (EE_run (fn:=i85) (by kernel_rfl) rfl).trans ?_
  simp only [i85,b85,argSt,insSt,List.length_cons,List.length_nil]
  simp only [↓xP,xQ,xR,xS,flatR,reduceLT,Nat.reduceBEq,reduceAdd,reduceSub]
  refine (loop_ind (fun (i:Nat) st=>i≤l.length∧st.s 0=.t (.sc (.down (.par 0) l.length))∧st.s 5=DI i∧st.s 1=DI (K+sumW wCal (l.take i))∧st.o (.par 0)=some (.deep 8 ((mMid wCal mCal K l i).map Caller.u))) (fun i=>l.length - i) (fun i=>some ⟨[I (K+sumW wCal l)],[],[.deep 8 ((mGo wCal mCal K l).map Caller.u)]⟩) ?_ 0 ⟨by omega,by simp only [↓xP,xQ,xR,xS,flatR,reduceLT,Nat.reduceBEq,reduceAdd,reduceSub],by simp only [↓xP,xQ,xR,xS,flatR,reduceLT,Nat.reduceBEq,reduceAdd,reduceSub]; rfl,by simp only [↓xP,xQ,xR,xS,flatR,reduceLT,Nat.reduceBEq,reduceAdd,reduceSub,List.take_zero,sumW]; exact DI_eq (by omega),by simp only [↓xP,xQ,xR,xS,flatR,reduceLT,Nat.reduceBEq,reduceAdd,reduceSub,mMid_zero]⟩).trans rfl
  rintro i st ⟨hle,h0,h5,h1',ho⟩ ih
  by_cases hi:i<l.length
  · obtain ⟨⟨cch,sq,bz,⟨ck,ckey,cv,co⟩,cd⟩,hx⟩:∃ x,l[i]?=some x:=⟨_,List.getElem?_eq_getElem hi⟩
    have hw:=w_succ (i:=i) (by omega)
    have hg:=mMid_map (u:=Caller.u) wCal mCal K hx
    have hf:=mMid_set (u:=Caller.u) wCal mCal K hx
    have hlen:i<((mMid wCal mCal K l i).map Caller.u).length:=by rw [List.length_map,mMid_len]; omega
    have hst:=sumW_step wCal hx
    have hsl:=sumW_take wCal l (i+1)
    simp only [wCal,cCal] at hst
    have hk0:1≤K+sumW wCal (l.take i):=by omega
    generalize (mMid wCal mCal K l i).map Caller.u=r at hg hf hlen ho
    obtain ⟨K',hK⟩:∃ K',K'=K+sumW wCal (l.take i):=⟨_,rfl⟩
    rw [←hK] at h1' hf
    have hK2:K+sumW wCal (l.take (i+1))=K'+3 * (cch.length:Int)+1+1+1+1+1+1+1:=by omega
    have hK3:K'+3 * (cch.length:Int)+1+1+1+1+1+1+1≤4611686018427387904:=by omega
    simp only [Caller.u,mCal] at hg hf
    have hgs:=get_set r i hlen
    have hks:=fun c x=>setKid_set (c:=c) (x:=x) hg
    have mk0:=markRouteS_ok cch (K') (by omega) (by omega)
    have hw1:IntKind.i64.wrap (K'+3 * (cch.length:Int)+1)=K'+3 * (cch.length:Int)+1:=by rw [w64 (by omega) (by omega)]
    have hw2:IntKind.i64.wrap (K'+3 * (cch.length:Int)+1+1)=K'+3 * (cch.length:Int)+1+1:=by rw [w64 (by omega) (by omega)]
    have hw3:IntKind.i64.wrap (K'+3 * (cch.length:Int)+1+1+1)=K'+3 * (cch.length:Int)+1+1+1:=by rw [w64 (by omega) (by omega)]
    have hw4:IntKind.i64.wrap (K'+3 * (cch.length:Int)+1+1+1+1)=K'+3 * (cch.length:Int)+1+1+1+1:=by rw [w64 (by omega) (by omega)]
    have mt4:=markText_ok (K'+3 * (cch.length:Int)+1+1+1) (by omega) (by omega)
    have hw5:IntKind.i64.wrap (K'+3 * (cch.length:Int)+1+1+1+1+1)=K'+3 * (cch.length:Int)+1+1+1+1+1:=by rw [w64 (by omega) (by omega)]
    have hw6:IntKind.i64.wrap (K'+3 * (cch.length:Int)+1+1+1+1+1+1)=K'+3 * (cch.length:Int)+1+1+1+1+1+1:=by rw [w64 (by omega) (by omega)]
    have hw7:IntKind.i64.wrap (K'+3 * (cch.length:Int)+1+1+1+1+1+1+1)=K'+3 * (cch.length:Int)+1+1+1+1+1+1+1:=by rw [w64 (by omega) (by omega)]
    have h3_0:¬(3:Int)=0:=by omega
    simp only [↓xP,xQ,xR,xS,flatR,reduceLT,Nat.reduceBEq,reduceAdd,reduceSub,h0,h5,h1',ho,hi,hg,hgs,List.set_set,List.set_cons_succ,List.set_cons_zero,setKid_at hlen,vlenD,hw,mk0,hw1,hw2,hw3,hw4,mt4,hw5,hw6,hw7,h3_0,hks,scalR,List.length_map,mkL_len,mGo_len,hf]
    exact ih (i+1) _ (by omega) ⟨by omega,by simp only [↓xP,xQ,xR,xS,flatR,reduceLT,Nat.reduceBEq,reduceAdd,reduceSub,h0],by simp only [↓xP,xQ,xR,xS,flatR,reduceLT,Nat.reduceBEq,reduceAdd,reduceSub],by simp only [↓xP,xQ,xR,xS,flatR,reduceLT,Nat.reduceBEq,reduceAdd,reduceSub]; exact DI_eq (by omega),by simp only [↓xP,xQ,xR,xS,flatR,reduceLT,Nat.reduceBEq,reduceAdd,reduceSub]⟩
  · have:i=l.length:=by omega
    subst this
    rw [mMid_all] at ho
    simp only [↓xP,xQ,xR,xS,flatR,reduceLT,Nat.reduceBEq,reduceAdd,reduceSub,h0,h5,h1',ho,hi,vlenD,List.take_length,List.length_map,mGo_len]
def mShd (K:Int):Shard→Shard
  | ⟨lv,⟨⟨⟨lo,up⟩,prs,kn,sld,cut⟩,⟨ep,ms,fr⟩,nds,ups,bag,ans⟩⟩=>⟨decide ((K).tmod 3=0),⟨⟨⟨mtext (K+1),mtext (K+1+1)⟩,mkL mkPair 2 (K+1+1+1) prs.length,mkL mkSession 3 (K+1+1+1+2 * (prs.length:Int)) kn.length,decide ((K+1+1+1+2 * (prs.length:Int)+3 * (kn.length:Int)).tmod 3=0),mtext (K+1+1+1+2 * (prs.length:Int)+3 * (kn.length:Int)+1)⟩,⟨K+1+1+1+2 * (prs.length:Int)+3 * (kn.length:Int)+1+1,mkL mkInt 1 (K+1+1+1+2 * (prs.length:Int)+3 * (kn.length:Int)+1+1+1) ms.length,decide ((K+1+1+1+2 * (prs.length:Int)+3 * (kn.length:Int)+1+1+1+1 * (ms.length:Int)).tmod 3=0)⟩,mGo wRep mRep (K+1+1+1+2 * (prs.length:Int)+3 * (kn.length:Int)+1+1+1+1 * (ms.length:Int)+1) nds,mkL mkBool 1 (K+1+1+1+2 * (prs.length:Int)+3 * (kn.length:Int)+1+1+1+1 * (ms.length:Int)+1 + (sumW wRep nds:Int)) ups.length,mGo wMsg mMsg (K+1+1+1+2 * (prs.length:Int)+3 * (kn.length:Int)+1+1+1+1 * (ms.length:Int)+1 + (sumW wRep nds:Int)+1 * (ups.length:Int)) bag,mkL mkAnswer 7 (K+1+1+1+2 * (prs.length:Int)+3 * (kn.length:Int)+1+1+1+1 * (ms.length:Int)+1 + (sumW wRep nds:Int)+1 * (ups.length:Int) + (sumW wMsg bag:Int)) ans.length⟩⟩
theorem markShardS_ok (l:List Shard) (K:Int) (h1:1≤K) (h2:K+sumW wShard l≤4611686018427387904):EE F 84 [.sc (.down (.par 0) l.length),I K] [.deep 14 (l.map Shard.u)]=some ⟨[I (K+sumW wShard l)],[],[.deep 14 ((mGo wShard mShd K l).map Shard.u)]⟩:=by
  have hln:7*l.length≤sumW wShard l:=by rw [show wShard=fun x=>7+cChn x.group from rfl,sumW_add]; omega
  refine (EE_run (fn:=i84) (by kernel_rfl) rfl).trans ?_
  simp only [i84,b84,argSt,insSt,List.length_cons,List.length_nil]
  simp only [↓xP,xQ,xR,xS,flatR,reduceLT,Nat.reduceBEq,reduceAdd,reduceSub]
  refine (loop_ind (fun (i:Nat) st=>i≤l.length∧st.s 0=.t (.sc (.down (.par 0) l.length))∧st.s 5=DI i∧st.s 1=DI (K+sumW wShard (l.take i))∧st.o (.par 0)=some (.deep 14 ((mMid wShard mShd K l i).map Shard.u))) (fun i=>l.length - i) (fun i=>some ⟨[I (K+sumW wShard l)],[],[.deep 14 ((mGo wShard mShd K l).map Shard.u)]⟩) ?_ 0 ⟨by omega,by simp only [↓xP,xQ,xR,xS,flatR,reduceLT,Nat.reduceBEq,reduceAdd,reduceSub],by simp only [↓xP,xQ,xR,xS,flatR,reduceLT,Nat.reduceBEq,reduceAdd,reduceSub]; rfl,by simp only [↓xP,xQ,xR,xS,flatR,reduceLT,Nat.reduceBEq,reduceAdd,reduceSub,List.take_zero,sumW]; exact DI_eq (by omega),by simp only [↓xP,xQ,xR,xS,flatR,reduceLT,Nat.reduceBEq,reduceAdd,reduceSub,mMid_zero]⟩).trans rfl
  rintro i st ⟨hle,h0,h5,h1',ho⟩ ih
  by_cases hi:i<l.length
  · obtain ⟨⟨lv,⟨⟨⟨lo,up⟩,prs,kn,sld,cut⟩,⟨ep,ms,fr⟩,nds,ups,bag,ans⟩⟩,hx⟩:∃ x,l[i]?=some x:=⟨_,List.getElem?_eq_getElem hi⟩
    have hw:=w_succ (i:=i) (by omega)
    have hg:=mMid_map (u:=Shard.u) wShard mShd K hx
    have hf:=mMid_set (u:=Shard.u) wShard mShd K hx
    have hlen:i<((mMid wShard mShd K l i).map Shard.u).length:=by rw [List.length_map,mMid_len]; omega
    have hst:=sumW_step wShard hx
    have hsl:=sumW_take wShard l (i+1)
    simp only [wShard,cChn] at hst
    have hk0:1≤K+sumW wShard (l.take i):=by omega
    generalize (mMid wShard mShd K l i).map Shard.u=r at hg hf hlen ho
    obtain ⟨K',hK⟩:∃ K',K'=K+sumW wShard (l.take i):=⟨_,rfl⟩
    rw [←hK] at h1' hf
    have hK2:K+sumW wShard (l.take (i+1))=K'+1+1+1+2 * (prs.length:Int)+3 * (kn.length:Int)+1+1+1+1 * (ms.length:Int)+1 + (sumW wRep nds:Int)+1 * (ups.length:Int) + (sumW wMsg bag:Int)+7 * (ans.length:Int):=by omega
    have hK3:K'+1+1+1+2 * (prs.length:Int)+3 * (kn.length:Int)+1+1+1+1 * (ms.length:Int)+1 + (sumW wRep nds:Int)+1 * (ups.length:Int) + (sumW wMsg bag:Int)+7 * (ans.length:Int)≤4611686018427387904:=by omega
    simp only [Shard.u,mShd] at hg hf
    have hgs:=get_set r i hlen
    have hw0:IntKind.i64.wrap (K'+1)=K'+1:=by rw [w64 (by omega) (by omega)]
    have hw1:IntKind.i64.wrap (K'+1+1)=K'+1+1:=by rw [w64 (by omega) (by omega)]
    have mt1:=markText_ok (K'+1) (by omega) (by omega)
    have hw2:IntKind.i64.wrap (K'+1+1+1)=K'+1+1+1:=by rw [w64 (by omega) (by omega)]
    have mt2:=markText_ok (K'+1+1) (by omega) (by omega)
    have mk3:=markPairS_ok prs (K'+1+1+1) (by omega) (by omega)
    have mk4:=markSessionS_ok kn (K'+1+1+1+2 * (prs.length:Int)) (by omega) (by omega)
    have hw5:IntKind.i64.wrap (K'+1+1+1+2 * (prs.length:Int)+3 * (kn.length:Int)+1)=K'+1+1+1+2 * (prs.length:Int)+3 * (kn.length:Int)+1:=by rw [w64 (by omega) (by omega)]
    have hw6:IntKind.i64.wrap (K'+1+1+1+2 * (prs.length:Int)+3 * (kn.length:Int)+1+1)=K'+1+1+1+2 * (prs.length:Int)+3 * (kn.length:Int)+1+1:=by rw [w64 (by omega) (by omega)]
    have mt6:=markText_ok (K'+1+1+1+2 * (prs.length:Int)+3 * (kn.length:Int)+1) (by omega) (by omega)
    have hw7:IntKind.i64.wrap (K'+1+1+1+2 * (prs.length:Int)+3 * (kn.length:Int)+1+1+1)=K'+1+1+1+2 * (prs.length:Int)+3 * (kn.length:Int)+1+1+1:=by rw [w64 (by omega) (by omega)]
    have mk8:=markIntS_ok ms (K'+1+1+1+2 * (prs.length:Int)+3 * (kn.length:Int)+1+1+1) (by omega) (by omega)
    have hw9:IntKind.i64.wrap (K'+1+1+1+2 * (prs.length:Int)+3 * (kn.length:Int)+1+1+1+1 * (ms.length:Int)+1)=K'+1+1+1+2 * (prs.length:Int)+3 * (kn.length:Int)+1+1+1+1 * (ms.length:Int)+1:=by rw [w64 (by omega) (by omega)]
    have mk10:=markReplicaS_ok nds (K'+1+1+1+2 * (prs.length:Int)+3 * (kn.length:Int)+1+1+1+1 * (ms.length:Int)+1) (by omega) (by omega)
    have mk11:=markBoolS_ok ups (K'+1+1+1+2 * (prs.length:Int)+3 * (kn.length:Int)+1+1+1+1 * (ms.length:Int)+1 + (sumW wRep nds:Int)) (by omega) (by omega)
    have mk12:=markMessageS_ok bag (K'+1+1+1+2 * (prs.length:Int)+3 * (kn.length:Int)+1+1+1+1 * (ms.length:Int)+1 + (sumW wRep nds:Int)+1 * (ups.length:Int)) (by omega) (by omega)
    have mk13:=markAnswerS_ok ans (K'+1+1+1+2 * (prs.length:Int)+3 * (kn.length:Int)+1+1+1+1 * (ms.length:Int)+1 + (sumW wRep nds:Int)+1 * (ups.length:Int) + (sumW wMsg bag:Int)) (by omega) (by omega)
    have h3_0:¬(3:Int)=0:=by omega
    simp only [↓xP,xQ,xR,xS,flatR,reduceLT,Nat.reduceBEq,reduceAdd,reduceSub,h0,h5,h1',ho,hi,hg,hgs,List.set_set,List.set_cons_succ,List.set_cons_zero,setKid_at hlen,vlenD,hw,hw0,hw1,mt1,hw2,mt2,mk3,mk4,hw5,hw6,mt6,hw7,mk8,hw9,mk10,mk11,mk12,mk13,h3_0,scalR,List.length_map,mkL_len,mGo_len,hf]
    exact ih (i+1) _ (by omega) ⟨by omega,by simp only [↓xP,xQ,xR,xS,flatR,reduceLT,Nat.reduceBEq,reduceAdd,reduceSub,h0],by simp only [↓xP,xQ,xR,xS,flatR,reduceLT,Nat.reduceBEq,reduceAdd,reduceSub],by simp only [↓xP,xQ,xR,xS,flatR,reduceLT,Nat.reduceBEq,reduceAdd,reduceSub]; exact DI_eq (by omega),by simp only [↓xP,xQ,xR,xS,flatR,reduceLT,Nat.reduceBEq,reduceAdd,reduceSub]⟩
  · have:i=l.length:=by omega
    subst this
    rw [mMid_all] at ho
    simp only [↓xP,xQ,xR,xS,flatR,reduceLT,Nat.reduceBEq,reduceAdd,reduceSub,h0,h5,h1',ho,hi,vlenD,List.take_length,List.length_map,mGo_len]
theorem sameD:∀ z r z' r',sameKind (some (.deep z r)) (.deep z' r')=decide (r.length≤r'.length):=fun _ _ _ _=>rfl
theorem markCluster_ok (c0:List Shard) (c1:List Caller) (c2:List Result) (c3 c4 c5:Int) (c6:Str) (c7 c8 c9 c10 c11:Int) (K:Int) (h1:1≤K) (h2:K+sumW wShard c0+sumW wCal c1+9*c2.length≤4611686018427387904):EE F 27 [.ag [.down (.par 0) c0.length,.down (.par 1) c1.length,.own (.par 2) c2.length,.u (.int .i64 c3),.u (.int .i64 c4),.u (.int .i64 c5),.u (.str c6),.u (.int .i64 c7),.u (.int .i64 c8),.u (.int .i64 c9),.u (.int .i64 c10),.u (.int .i64 c11)],I K] [.deep 14 (c0.map Shard.u),.deep 8 (c1.map Caller.u),.row 9 (c2.map Result.u)] =
    some ⟨[I (K+sumW wShard c0+sumW wCal c1+9*c2.length)],[],[.deep 14 ((mGo wShard mShd K c0).map Shard.u),.deep 8 ((mGo wCal mCal (K+sumW wShard c0) c1).map Caller.u),.row 9 ((mkL mkResult 9 (K+sumW wShard c0+sumW wCal c1) c2.length).map Result.u)]⟩:=by
  refine (EE_run (fn:=i27) (by kernel_rfl) rfl).trans ?_
  have m1:=markShardS_ok c0 K h1 (by omega)
  have m2:=markCallerS_ok c1 (K+sumW wShard c0) (by omega) (by omega)
  have m3:=markResultS_ok c2 (K+sumW wShard c0+sumW wCal c1) (by omega) (by omega)
  simp only [i27,b27,argSt,insSt,List.length_cons,List.length_nil]
  simp only [↓xP,xQ,xR,xS,flatR,reduceLT,Nat.reduceBEq,reduceAdd,reduceSub,m1,m2,m3,sameD,Nat.le_refl,List.length_map,mGo_len,mkL_len]
def isReq (a:Answer) (c s:Int):Bool:=decide (a.asked.client=c)&&decide (a.asked.seq=s)
def reqAt (c s:Int):Nat→List Answer→Int
  | _,[]=>-1
  | i,a::l=>if isReq a c s=true then (i:Int) else reqAt c s (i+1) l
def hasReq (l:List Answer) (c s:Int):Bool:=l.any fun a=>isReq a c s
theorem reqAt_lt (c s:Int):∀ (i:Nat) (l:List Answer),decide (reqAt c s i l<0)=!hasReq l c s
  | _,[]=>by simp [reqAt,hasReq]
  | i,a::l=>by
    have:=reqAt_lt c s (i+1) l
    cases h:isReq a c s
    · simpa [reqAt,hasReq,h] using this
    · have:¬(i:Int)<0:=by omega
      simp [reqAt,hasReq,h,this]
def takes (l:List Answer) (a:Answer):Bool:=!decide (a.asked.client=0)&&(decide (-2≤a.reply)&&!hasReq l a.asked.client a.asked.seq)
def histAdd (l:List Answer) (a:Answer):List Answer:=if takes l a=true then l++[a] else l
def histOf (l:List Answer) (m:List Answer):List Answer:=m.foldl histAdd l
def histS (l:List Shard):List Answer:=l.foldl (fun o s=>histOf o s.group.answers) []
def history (x:Cluster):List Answer:=if clusterValid x=true then histS x.shards else []
theorem histOf_step {o l:List Answer} {j:Nat} {a:Answer} (h:l[j]?=some a):histOf o (l.take (j+1))=histAdd (histOf o (l.take j)) a:=by
  rw [histOf,List.take_add_one,h,Option.toList_some,List.foldl_append]; rfl
theorem histS_step {l:List Shard} {i:Nat} {s:Shard} (h:l[i]?=some s):histS (l.take (i+1))=histOf (histS (l.take i)) s.group.answers:=by
  rw [histS,List.take_add_one,h,Option.toList_some,List.foldl_append]; rfl
theorem histAdd_len (l:List Answer) (a:Answer):(histAdd l a).length≤l.length+1:=by
  unfold histAdd; split<;>simp
theorem histOf_len:∀ (m l:List Answer),(histOf l m).length≤l.length+m.length
  | [],l=>by simp [histOf]
  | a::m,l=>by
    have:=histOf_len m (histAdd l a)
    have:=histAdd_len l a
    simp only [histOf,List.foldl_cons,List.length_cons] at *
    omega
theorem histS_len {l:List Shard} (hl:∀ s,s∈l→s.group.answers.length≤24):∀ i,i≤l.length→(histS (l.take i)).length≤24*i
  | 0,_=>by simp [histS]
  | i+1,h=>by
    obtain ⟨s,hs⟩:∃ x,l[i]?=some x:=⟨_,List.getElem?_eq_getElem (by omega)⟩
    have h1:=histS_len hl i (by omega)
    have h2:=histOf_len s.group.answers (histS (l.take i))
    have h3:=hl s (List.mem_of_getElem? hs)
    rw [histS_step hs]; omega
theorem answers_24 {c0:List Shard} {c1:List Caller} {c2:List Result} {w:Plan} {a b:Int} (h:clusterValid ⟨c0,c1,c2,w,a,b⟩=true):∀ s,s∈c0→s.group.answers.length≤24:=by
  intro s hs
  have:=shard_conf h hs
  simp only [chainValid,answersValid,Bool.and_eq_true,decide_eq_true_eq] at this
  exact this.2.1
theorem answerIs_ok (cl sq kd:Int) (key:Str) (v o rp c s:Int):EE F 133 [.ag [.u (.int .i64 cl),.u (.int .i64 sq),.u (.int .i64 kd),.u (.str key),.u (.int .i64 v),.u (.int .i64 o),.u (.int .i64 rp)],.sc (.u (.rp [.int .i64 c])),.sc (.u (.rp [.int .i64 s]))] []=ok1 (B (isReq ⟨⟨cl,sq,⟨kd,key,v,o⟩⟩,rp⟩ c s)):=by
  rw [R133,b133]
  cases h:decide (cl=c)<;>simp only [↓xP,xQ,xR,xS,flatR,reduceLT,Nat.reduceBEq,reduceAdd,reduceSub,h,isReq,Bool.false_and,Bool.true_and]
theorem answerIndex_ok (l:List Answer) (c s:Int) (hn:l.length≤1048576):EE F 132 [L 7 (l.map Answer.u),.sc (.u (.fn 133 [.rp [.int .i64 c],.rp [.int .i64 s]]))] []=ok1 (I (reqAt c s 0 l)):=by
  rw [R132,b132]
  simp only [↓xP,xQ,xR,xS,flatR,reduceLT,Nat.reduceBEq,reduceAdd,reduceSub]
  refine (loop_ind (fun (i:Nat) st=>i≤l.length∧st.s 0=DU (.sl 7 (l.map Answer.u))∧st.s 1=DU (.fn 133 [.rp [.int .i64 c],.rp [.int .i64 s]])∧st.s 7=DI l.length∧st.s 8=DI i) (fun i=>l.length - i) (fun i=>ok1 (I (reqAt c s i (l.drop i)))) ?_ 0 (by and_intros<;>first | omega | rfl | (simp only [↓xP,xQ,xR,xS,flatR,reduceLT,Nat.reduceBEq,reduceAdd,reduceSub]<;>first | done | rfl | omega))).trans (by rfl)
  rintro i st ⟨hle,h0,h1,h7,h8⟩ ih
  by_cases hi:i<l.length
  · obtain ⟨⟨⟨cl,sq,⟨kd,key,v,o⟩⟩,rp⟩,hx⟩:∃ x,l[i]?=some x:=⟨_,List.getElem?_eq_getElem hi⟩
    have hw:=w_succ (i:=i) (by omega)
    rw [drop_at hx]
    cases h:isReq ⟨⟨cl,sq,⟨kd,key,v,o⟩⟩,rp⟩ c s
    · simp only [↓xP,xQ,xR,xS,flatR,reduceLT,Nat.reduceBEq,reduceAdd,reduceSub,rdx2,h0,h1,h7,h8,hi,hx,hw,Answer.u,answerIs_ok,h]
      rw [ih (i+1) _ (by omega) (by and_intros<;>first | omega | rfl | (simp only [↓xP,xQ,xR,xS,flatR,reduceLT,Nat.reduceBEq,reduceAdd,reduceSub,h0,h1,h7]<;>first | done | rfl | omega))]
      simp [reqAt,h]
    · simp only [↓xP,xQ,xR,xS,flatR,reduceLT,Nat.reduceBEq,reduceAdd,reduceSub,rdx2,h0,h1,h7,h8,hi,hx,hw,Answer.u,answerIs_ok,h]
      simp [reqAt,h]
  · simp only [↓xP,xQ,xR,xS,flatR,reduceLT,Nat.reduceBEq,reduceAdd,reduceSub,h0,h1,h7,h8,hi]
    rw [List.drop_of_length_le (by omega)]; rfl
theorem answerPlace_ok (l:List Answer) (c s:Int) (hn:l.length≤1048576):EE F 72 [L 7 (l.map Answer.u),I c,I s] []=ok1 (I (reqAt c s 0 l)):=by
  rw [R72,b72]
  simp only [↓xP,xQ,xR,xS,flatR,reduceLT,Nat.reduceBEq,reduceAdd,reduceSub,List.map,answerIndex_ok l c s hn]
theorem l29has_ok (l:List Answer) (c s:Int) (hn:l.length≤1048576):EE F 89 [L 7 (l.map Answer.u),I c,I s] []=ok1 (B (hasReq l c s)):=by
  rw [R89,b89]
  simp only [↓xP,xQ,xR,xS,flatR,reduceLT,Nat.reduceBEq,reduceAdd,reduceSub]
  refine (loop_ind (fun (i:Nat) st=>i≤l.length∧st.s 0=DU (.sl 7 (l.map Answer.u))∧st.s 1=DI c∧st.s 2=DI s∧st.s 7=DI i) (fun i=>l.length - i) (fun i=>ok1 (B (hasReq (l.drop i) c s))) ?_ 0 (by and_intros<;>first | omega | rfl | (simp only [↓xP,xQ,xR,xS,flatR,reduceLT,Nat.reduceBEq,reduceAdd,reduceSub]<;>first | done | rfl | omega))).trans (by rfl)
  rintro i st ⟨hle,h0,h1,h2,h7⟩ ih
  by_cases hi:i<l.length
  · obtain ⟨⟨⟨cl,sq,⟨kd,key,v,o⟩⟩,rp⟩,hx⟩:∃ x,l[i]?=some x:=⟨_,List.getElem?_eq_getElem hi⟩
    have hw:=w_succ (i:=i) (by omega)
    rw [drop_at hx]
    cases q1:decide (cl=c)
    · simp only [↓xP,xQ,xR,xS,flatR,reduceLT,Nat.reduceBEq,reduceAdd,reduceSub,rdx2,h0,h1,h2,h7,hi,hx,hw,Answer.u,q1,List.length_map]
      rw [ih (i+1) _ (by omega) (by and_intros<;>first | omega | rfl | (simp only [↓xP,xQ,xR,xS,flatR,reduceLT,Nat.reduceBEq,reduceAdd,reduceSub,h0,h1,h2,hw]<;>first | done | rfl | omega))]
      simp [hasReq,isReq,q1]
    · cases q2:decide (sq=s)
      · simp only [↓xP,xQ,xR,xS,flatR,reduceLT,Nat.reduceBEq,reduceAdd,reduceSub,rdx2,h0,h1,h2,h7,hi,hx,hw,Answer.u,q1,q2,List.length_map]
        rw [ih (i+1) _ (by omega) (by and_intros<;>first | omega | rfl | (simp only [↓xP,xQ,xR,xS,flatR,reduceLT,Nat.reduceBEq,reduceAdd,reduceSub,h0,h1,h2,hw]<;>first | done | rfl | omega))]
        simp [hasReq,isReq,q1,q2]
      · simp only [↓xP,xQ,xR,xS,flatR,reduceLT,Nat.reduceBEq,reduceAdd,reduceSub,rdx2,h0,h1,h2,h7,hi,hx,hw,Answer.u,q1,q2,List.length_map]
        simp [hasReq,isReq,q1,q2]
  · simp only [↓xP,xQ,xR,xS,flatR,reduceLT,Nat.reduceBEq,reduceAdd,reduceSub,h0,h1,h2,h7,hi,List.length_map]
    rw [List.drop_of_length_le (by omega)]; rfl
def histsRet (l:List Answer):Option Ret:=some ⟨[.sc (.own (.par 0) l.length)],[.row 7 (l.map Answer.u)],[]⟩
theorem history_impl (c0:List Shard) (c1:List Caller) (c2:List Result) (c3 c4 c5:Int) (c6:Str) (c7 c8 c9 c10 c11:Int) (hs:Cluster.Small ⟨c0,c1,c2,⟨c3,c4,c5,c6,c7,c8,c9⟩,c10,c11⟩):EE F 36 [.ag [.u (.sl 14 (c0.map Shard.u)),.u (.sl 8 (c1.map Caller.u)),.u (.sl 9 (c2.map Result.u)),.u (.int .i64 c3),.u (.int .i64 c4),.u (.int .i64 c5),.u (.str c6),.u (.int .i64 c7),.u (.int .i64 c8),.u (.int .i64 c9),.u (.int .i64 c10),.u (.int .i64 c11)]] []=histsRet (history ⟨c0,c1,c2,⟨c3,c4,c5,c6,c7,c8,c9⟩,c10,c11⟩):=by
  have hcvs:=clusterValid_impl c0 c1 c2 c3 c4 c5 c6 c7 c8 c9 c10 c11 hs
  rw [R36,b36]
  cases hv:clusterValid ⟨c0,c1,c2,⟨c3,c4,c5,c6,c7,c8,c9⟩,c10,c11⟩
  · simp only [↓xP,xQ,xR,xS,flatR,reduceLT,Nat.reduceBEq,reduceAdd,reduceSub,hcvs,hv]
    simp [history,hv,histsRet]
  have h8:=cluster_eight hv
  have h24:=answers_24 hv
  have hrt:history ⟨c0,c1,c2,⟨c3,c4,c5,c6,c7,c8,c9⟩,c10,c11⟩=histS c0:=by simp [history,hv]
  rw [hrt]
  simp only [↓xP,xQ,xR,xS,flatR,reduceLT,Nat.reduceBEq,reduceAdd,reduceSub,hcvs,hv]
  refine loop_ind (fun (i:Nat) st=>i≤c0.length∧st.s 3=.t (.sc (.own (.loc 3 0) (histS (c0.take i)).length))∧st.o (.loc 3 0)=some (.row 7 ((histS (c0.take i)).map Answer.u))∧st.s 12=DU (.sl 14 (c0.map Shard.u))∧st.s 13=DI c0.length∧st.s 14=DI i) (fun i=>c0.length - i) (fun _=>histsRet (histS c0)) ?_ 0 (by and_intros<;>first | omega | rfl | (simp only [↓xP,xQ,xR,xS,flatR,reduceLT,Nat.reduceBEq,reduceAdd,reduceSub]<;>first | done | rfl | omega))
  rintro i st ⟨hle,h3,ho,h12,h13,h14⟩ ih
  by_cases hi:i<c0.length
  · obtain ⟨⟨live,⟨⟨⟨lo,up⟩,prs,kn,sld,cut⟩,⟨ep,ms,fr⟩,nds,ups,bag,ans⟩⟩,hx⟩:∃ x,c0[i]?=some x:=⟨_,List.getElem?_eq_getElem hi⟩
    have hw:=w_succ (i:=i) (by omega)
    have hal:=h24 _ (List.mem_of_getElem? hx)
    have hstep:=histS_step hx
    have hhl:=histS_len h24 i hle
    simp only at hal hstep
    simp only [↓xP,xQ,xR,xS,flatR,reduceLT,Nat.reduceBEq,reduceAdd,reduceSub,h3,ho,h12,h13,h14,hi,hx,Shard.u]
    refine loop_ind (fun (j:Nat) st=>j≤ans.length∧st.s 3=.t (.sc (.own (.loc 3 0) (histOf (histS (c0.take i)) (ans.take j)).length))∧st.o (.loc 3 0)=some (.row 7 ((histOf (histS (c0.take i)) (ans.take j)).map Answer.u))∧st.s 12=DU (.sl 14 (c0.map Shard.u))∧st.s 13=DI c0.length∧st.s 14=DI i∧st.s 20=DU (.sl 7 (ans.map Answer.u))∧st.s 21=DI ans.length∧st.s 22=DI j) (fun j=>ans.length - j) (fun _=>histsRet (histS c0)) ?_ 0 (by and_intros<;>first | omega | rfl | (simp only [↓xP,xQ,xR,xS,flatR,reduceLT,Nat.reduceBEq,reduceAdd,reduceSub,h3,ho,h12,h13,h14,histOf,List.take_zero,List.foldl_nil]<;>first | done | rfl | omega))
    clear h3 ho h12 h13 h14
    rintro j st ⟨hjl,h3,ho,h12,h13,h14,h20,h21,h22⟩ ih2
    by_cases hj:j<ans.length
    · obtain ⟨⟨⟨cl,sq,⟨kd,key,v,o⟩⟩,rp⟩,hy⟩:∃ x,ans[j]?=some x:=⟨_,List.getElem?_eq_getElem hj⟩
      have hw2:=w_succ (i:=j) (by omega)
      have hst2:=histOf_step (o:=histS (c0.take i)) hy
      have hol:=histOf_len (ans.take j) (histS (c0.take i))
      rw [List.length_take] at hol
      generalize histOf (histS (c0.take i)) (ans.take j)=O at h3 ho hst2 hol
      have hO:O.length≤1048576:=by omega
      have m1:O.length+1≤maxLen:=by simp [maxLen]; omega
      have m2:(O.length+1)*64≤140737488355328:=by omega
      have hap:=answerPlace_ok O cl sq hO
      have hlt:=reqAt_lt cl sq 0 O
      cases q1:decide (cl=0)
      · cases q2:decide (-2≤rp)
        · simp only [↓xP,xQ,xR,xS,flatR,reduceLT,Nat.reduceBEq,reduceAdd,reduceSub,rdx2,h3,ho,h12,h13,h14,h20,h21,h22,hj,hy,hw2,Answer.u,q1,q2,ge_iff_le,ne_eq,decide_not]
          exact ih2 (j+1) _ (by omega) (by and_intros<;>first | omega | rfl | (simp only [↓xP,xQ,xR,xS,flatR,reduceLT,Nat.reduceBEq,reduceAdd,reduceSub,h3,ho,h12,h13,h14,h20,h21,hst2,histAdd,takes,q1,q2]<;>first | done | rfl | omega))
        · cases q3:hasReq O cl sq
          · rw [q3] at hlt
            simp only [↓xP,xQ,xR,xS,flatR,reduceLT,Nat.reduceBEq,reduceAdd,reduceSub,rdx2,h3,ho,h12,h13,h14,h20,h21,h22,hj,hy,hw2,Answer.u,q1,q2,ge_iff_le,ne_eq,decide_not,hap,hlt,map_all,List.length_map,m1,m2]
            have e:histAdd O ⟨⟨cl,sq,⟨kd,key,v,o⟩⟩,rp⟩=O++[⟨⟨cl,sq,⟨kd,key,v,o⟩⟩,rp⟩]:=by simp [histAdd,takes,q1,q2,q3]
            rw [e] at hst2
            exact ih2 (j+1) _ (by omega) (by and_intros<;>first | omega | rfl | (simp only [↓xP,xQ,xR,xS,flatR,reduceLT,Nat.reduceBEq,reduceAdd,reduceSub,h3,ho,h12,h13,h14,h20,h21,hst2,List.length_append,List.map_append,List.length_cons,List.length_nil,List.map_cons,List.map_nil,Answer.u]<;>first | done | rfl | omega))
          · rw [q3] at hlt
            simp only [↓xP,xQ,xR,xS,flatR,reduceLT,Nat.reduceBEq,reduceAdd,reduceSub,rdx2,h3,ho,h12,h13,h14,h20,h21,h22,hj,hy,hw2,Answer.u,q1,q2,ge_iff_le,ne_eq,decide_not,hap,hlt,map_all]
            exact ih2 (j+1) _ (by omega) (by and_intros<;>first | omega | rfl | (simp only [↓xP,xQ,xR,xS,flatR,reduceLT,Nat.reduceBEq,reduceAdd,reduceSub,h3,ho,h12,h13,h14,h20,h21,hst2,histAdd,takes,q1,q2,q3]<;>first | done | rfl | omega))
      · simp only [↓xP,xQ,xR,xS,flatR,reduceLT,Nat.reduceBEq,reduceAdd,reduceSub,rdx2,h3,ho,h12,h13,h14,h20,h21,h22,hj,hy,hw2,Answer.u,q1,ne_eq,decide_not]
        exact ih2 (j+1) _ (by omega) (by and_intros<;>first | omega | rfl | (simp only [↓xP,xQ,xR,xS,flatR,reduceLT,Nat.reduceBEq,reduceAdd,reduceSub,h3,ho,h12,h13,h14,h20,h21,hst2,histAdd,takes,q1]<;>first | done | rfl | omega))
    · have hall:ans.take j=ans:=List.take_of_length_le (by omega)
      rw [hall,←hstep] at h3 ho
      simp only [↓xP,xQ,xR,xS,flatR,reduceLT,Nat.reduceBEq,reduceAdd,reduceSub,h3,ho,h12,h13,h14,h20,h21,h22,hj,hw]
      exact ih (i+1) _ (by omega) (by and_intros<;>first | omega | rfl | (simp only [↓xP,xQ,xR,xS,flatR,reduceLT,Nat.reduceBEq,reduceAdd,reduceSub,h3,ho,h12,h13]<;>first | done | rfl | omega))
  · have hall:c0.take i=c0:=List.take_of_length_le (by omega)
    rw [hall] at h3 ho
    simp only [↓xP,xQ,xR,xS,flatR,reduceLT,Nat.reduceBEq,reduceAdd,reduceSub,h3,ho,h12,h13,h14,hi,histsRet]
theorem history_spec (c0:List Shard) (c1:List Caller) (c2:List Result) (c3 c4 c5:Int) (c6:Str) (c7 c8 c9 c10 c11:Int) (hs:Cluster.Small ⟨c0,c1,c2,⟨c3,c4,c5,c6,c7,c8,c9⟩,c10,c11⟩):EE F 35 [.ag [.u (.sl 14 (c0.map Shard.u)),.u (.sl 8 (c1.map Caller.u)),.u (.sl 9 (c2.map Result.u)),.u (.int .i64 c3),.u (.int .i64 c4),.u (.int .i64 c5),.u (.str c6),.u (.int .i64 c7),.u (.int .i64 c8),.u (.int .i64 c9),.u (.int .i64 c10),.u (.int .i64 c11)]] []=histsRet (history ⟨c0,c1,c2,⟨c3,c4,c5,c6,c7,c8,c9⟩,c10,c11⟩):=by
  have hcvs:=clusterValid_spec c0 c1 c2 c3 c4 c5 c6 c7 c8 c9 c10 c11 hs
  rw [R35,b35]
  cases hv:clusterValid ⟨c0,c1,c2,⟨c3,c4,c5,c6,c7,c8,c9⟩,c10,c11⟩
  · simp only [↓xP,xQ,xR,xS,flatR,reduceLT,Nat.reduceBEq,reduceAdd,reduceSub,hcvs,hv]
    simp [history,hv,histsRet]
  have h8:=cluster_eight hv
  have h24:=answers_24 hv
  have hrt:history ⟨c0,c1,c2,⟨c3,c4,c5,c6,c7,c8,c9⟩,c10,c11⟩=histS c0:=by simp [history,hv]
  rw [hrt]
  simp only [↓xP,xQ,xR,xS,flatR,reduceLT,Nat.reduceBEq,reduceAdd,reduceSub,hcvs,hv]
  refine loop_ind (fun (i:Nat) st=>i≤c0.length∧st.s 1=.t (.sc (.ptr (.loc 1 0) 0 0))∧st.o (.loc 1 0)=some (.box [.u (.sl 14 (c0.map Shard.u)),.u (.sl 8 (c1.map Caller.u)),.u (.sl 9 (c2.map Result.u)),.u (.int .i64 c3),.u (.int .i64 c4),.u (.int .i64 c5),.u (.str c6),.u (.int .i64 c7),.u (.int .i64 c8),.u (.int .i64 c9),.u (.int .i64 c10),.u (.int .i64 c11)])∧st.s 3=.t (.sc (.own (.loc 8 0) (histS (c0.take i)).length))∧st.o (.loc 8 0)=some (.row 7 ((histS (c0.take i)).map Answer.u))∧st.s 4=DI i) (fun i=>c0.length - i) (fun _=>histsRet (histS c0)) ?_ 0 (by and_intros<;>first | omega | rfl | (simp only [↓xP,xQ,xR,xS,flatR,reduceLT,Nat.reduceBEq,reduceAdd,reduceSub]<;>first | done | rfl | omega))
  rintro i st ⟨hle,h1,hb,h3,ho,h4⟩ ih
  by_cases hi:i<c0.length
  · obtain ⟨⟨live,⟨⟨⟨lo,up⟩,prs,kn,sld,cut⟩,⟨ep,ms,fr⟩,nds,ups,bag,ans⟩⟩,hx⟩:∃ x,c0[i]?=some x:=⟨_,List.getElem?_eq_getElem hi⟩
    have hw:=w_succ (i:=i) (by omega)
    have hal:=h24 _ (List.mem_of_getElem? hx)
    have hstep:=histS_step hx
    have hhl:=histS_len h24 i hle
    simp only at hal hstep
    simp only [↓xP,xQ,xR,xS,flatR,reduceLT,Nat.reduceBEq,reduceAdd,reduceSub,h1,hb,h3,ho,h4,hi,hx,Shard.u]
    refine loop_ind (fun (j:Nat) st=>j≤ans.length∧st.s 1=.t (.sc (.ptr (.loc 1 0) 0 0))∧st.o (.loc 1 0)=some (.box [.u (.sl 14 (c0.map Shard.u)),.u (.sl 8 (c1.map Caller.u)),.u (.sl 9 (c2.map Result.u)),.u (.int .i64 c3),.u (.int .i64 c4),.u (.int .i64 c5),.u (.str c6),.u (.int .i64 c7),.u (.int .i64 c8),.u (.int .i64 c9),.u (.int .i64 c10),.u (.int .i64 c11)])∧st.s 3=.t (.sc (.own (.loc 8 0) (histOf (histS (c0.take i)) (ans.take j)).length))∧st.o (.loc 8 0)=some (.row 7 ((histOf (histS (c0.take i)) (ans.take j)).map Answer.u))∧st.s 4=DI i∧st.s 5=DU (.sl 7 (ans.map Answer.u))∧st.s 6=DI j) (fun j=>ans.length - j) (fun _=>histsRet (histS c0)) ?_ 0 (by and_intros<;>first | omega | rfl | (simp only [↓xP,xQ,xR,xS,flatR,reduceLT,Nat.reduceBEq,reduceAdd,reduceSub,h1,hb,h3,ho,h4,histOf,List.take_zero,List.foldl_nil]<;>first | done | rfl | omega))
    clear h1 hb h3 ho h4
    rintro j st ⟨hjl,h1,hb,h3,ho,h4,h5,h6⟩ ih2
    by_cases hj:j<ans.length
    · obtain ⟨⟨⟨cl,sq,⟨kd,key,v,o⟩⟩,rp⟩,hy⟩:∃ x,ans[j]?=some x:=⟨_,List.getElem?_eq_getElem hj⟩
      have hw2:=w_succ (i:=j) (by omega)
      have hst2:=histOf_step (o:=histS (c0.take i)) hy
      have hol:=histOf_len (ans.take j) (histS (c0.take i))
      rw [List.length_take] at hol
      generalize histOf (histS (c0.take i)) (ans.take j)=O at h3 ho hst2 hol
      have hO:O.length≤1048576:=by omega
      have m1:O.length+1≤maxLen:=by simp [maxLen]; omega
      have m2:(O.length+1)*64≤140737488355328:=by omega
      have hap:=l29has_ok O cl sq hO
      cases q1:decide (cl=0)
      · cases q2:decide (-2≤rp)
        · simp only [↓xP,xQ,xR,xS,flatR,reduceLT,Nat.reduceBEq,reduceAdd,reduceSub,rdx2,h1,hb,h3,ho,h4,h5,h6,hj,hy,hw2,Answer.u,q1,q2,ge_iff_le,ne_eq,decide_not,List.length_map]
          exact ih2 (j+1) _ (by omega) (by and_intros<;>first | omega | rfl | (simp only [↓xP,xQ,xR,xS,flatR,reduceLT,Nat.reduceBEq,reduceAdd,reduceSub,h1,hb,h3,ho,h4,h5,hw2,hst2,histAdd,takes,q1,q2]<;>first | done | rfl | omega))
        · cases q3:hasReq O cl sq
          · simp only [↓xP,xQ,xR,xS,flatR,reduceLT,Nat.reduceBEq,reduceAdd,reduceSub,rdx2,h1,hb,h3,ho,h4,h5,h6,hj,hy,hw2,Answer.u,q1,q2,ge_iff_le,ne_eq,decide_not,hap,q3,map_all,List.length_map,m1,m2]
            have e:histAdd O ⟨⟨cl,sq,⟨kd,key,v,o⟩⟩,rp⟩=O++[⟨⟨cl,sq,⟨kd,key,v,o⟩⟩,rp⟩]:=by simp [histAdd,takes,q1,q2,q3]
            rw [e] at hst2
            exact ih2 (j+1) _ (by omega) (by and_intros<;>first | omega | rfl | (simp only [↓xP,xQ,xR,xS,flatR,reduceLT,Nat.reduceBEq,reduceAdd,reduceSub,h1,hb,h3,ho,h4,h5,hw2,hst2,List.length_append,List.map_append,List.length_cons,List.length_nil,List.map_cons,List.map_nil,Answer.u]<;>first | done | rfl | omega))
          · simp only [↓xP,xQ,xR,xS,flatR,reduceLT,Nat.reduceBEq,reduceAdd,reduceSub,rdx2,h1,hb,h3,ho,h4,h5,h6,hj,hy,hw2,Answer.u,q1,q2,ge_iff_le,ne_eq,decide_not,hap,q3,map_all,List.length_map]
            exact ih2 (j+1) _ (by omega) (by and_intros<;>first | omega | rfl | (simp only [↓xP,xQ,xR,xS,flatR,reduceLT,Nat.reduceBEq,reduceAdd,reduceSub,h1,hb,h3,ho,h4,h5,hw2,hst2,histAdd,takes,q1,q2,q3]<;>first | done | rfl | omega))
      · simp only [↓xP,xQ,xR,xS,flatR,reduceLT,Nat.reduceBEq,reduceAdd,reduceSub,rdx2,h1,hb,h3,ho,h4,h5,h6,hj,hy,hw2,Answer.u,q1,ne_eq,decide_not,List.length_map]
        exact ih2 (j+1) _ (by omega) (by and_intros<;>first | omega | rfl | (simp only [↓xP,xQ,xR,xS,flatR,reduceLT,Nat.reduceBEq,reduceAdd,reduceSub,h1,hb,h3,ho,h4,h5,hw2,hst2,histAdd,takes,q1]<;>first | done | rfl | omega))
    · have hall:ans.take j=ans:=List.take_of_length_le (by omega)
      rw [hall,←hstep] at h3 ho
      simp only [↓xP,xQ,xR,xS,flatR,reduceLT,Nat.reduceBEq,reduceAdd,reduceSub,h1,hb,h3,ho,h4,h5,h6,hj,hw,List.length_map]
      exact ih (i+1) _ (by omega) (by and_intros<;>first | omega | rfl | (simp only [↓xP,xQ,xR,xS,flatR,reduceLT,Nat.reduceBEq,reduceAdd,reduceSub,h1,hb,h3,ho]<;>first | done | rfl | omega))
  · have hall:c0.take i=c0:=List.take_of_length_le (by omega)
    rw [hall] at h3 ho
    simp only [↓xP,xQ,xR,xS,flatR,reduceLT,Nat.reduceBEq,reduceAdd,reduceSub,h1,hb,h3,ho,h4,hi,histsRet]
theorem history_len {c0:List Shard} {c1:List Caller} {c2:List Result} {w:Plan} {a b:Int} (h:clusterValid ⟨c0,c1,c2,w,a,b⟩=true):(history ⟨c0,c1,c2,w,a,b⟩).length≤200:=by
  have h8:=cluster_eight h
  have:=histS_len (answers_24 h) c0.length (Nat.le_refl _)
  rw [List.take_length] at this
  simp only [history,h,if_true]
  omega
theorem histOf_mem:∀ (m l:List Answer) (a:Answer),a∈histOf l m→a∈l∨a∈m
  | [],l,a,h=>.inl h
  | b :: m,l,a,h=>by
    rcases histOf_mem m (histAdd l b) a h with h | h
    · simp only [histAdd] at h
      split at h
      · rcases List.mem_append.1 h with h | h
        · exact .inl h
        · exact .inr (by simp at h; simp [h])
      · exact .inl h
    · exact .inr (List.mem_cons_of_mem _ h)
theorem histS_mem:∀ (l:List Shard) (o:List Answer) (a:Answer),a∈l.foldl (fun o s=>histOf o s.group.answers) o→a∈o∨∃ s,s∈l∧a∈s.group.answers
  | [],o,a,h=>.inl h
  | s :: l,o,a,h=>by
    rcases histS_mem l _ a h with h | ⟨t,ht,h⟩
    · rcases histOf_mem _ _ a h with h | h
      · exact .inl h
      · exact .inr ⟨s,List.mem_cons_self ..,h⟩
    · exact .inr ⟨t,List.mem_cons_of_mem _ ht,h⟩
theorem answer_small {l:List Shard} (hs:SmallShardS l) {a:Answer} (h:a∈histS l):Answer.Small a:=by
  rcases histS_mem l [] a h with h | ⟨s,hm,h⟩
  · cases h
  · exact (hs.2 s hm).1.2.2.2.2.2.1.2 a h
theorem dead3 (st:St) (d:Nat):st.dead d 3=(isNo (st.o (.loc d 0))&&(isNo (st.o (.loc d 1))&&isNo (st.o (.loc d 2)))):=by simp [St.dead,isNo,List.range_succ,Bool.and_assoc]
theorem app3 (st:St) (d:Nat) (v:D) (a b c:Id) (x y z:Obj) (rd:List Id):Fx.app ⟨some d,v,[(a,x),(b,y),(c,z)],rd⟩ st=(((st.obj a (some x)).obj b (some y)).obj c (some z)).put d v:=rfl
theorem law_FnExactHistory (us:List U) (hl:us.length=12) (ht:∀ (j:Nat) ty u,[Ty.sl [.b,.s,.s,.sl [.s,.i .i64],.sl [.i .i64,.i .i64,.i .i64],.b,.s,.i .i64,.sl [.i .i64],.b,.sl [.i .i64,.sl [.i .i64],.b,.b,.sl [.i .i64,.i .i64,.i .i64,.s,.i .i64,.i .i64]],.sl [.b],.sl [.i .i64,.i .i64,.i .i64,.i .i64,.sl [.i .i64],.b,.sl [.i .i64,.i .i64,.i .i64,.s,.i .i64,.i .i64]],.sl [.i .i64,.i .i64,.i .i64,.s,.i .i64,.i .i64,.i .i64]],.sl [.sl [.i .i64,.s,.s],.i .i64,.b,.i .i64,.s,.i .i64,.i .i64,.i .i64],.sl [.i .i64,.i .i64,.i .i64,.s,.i .i64,.i .i64,.i .i64,.i .i64,.i .i64],.i .i64,.i .i64,.i .i64,.s,.i .i64,.i .i64,.i .i64,.i .i64,.i .i64][j]?=some ty→us[j]?=some u→UT ty u):EE F 8 [.ag (us.map .u)] []=ok1 (B true):=by
  obtain ⟨⟨c0,c1,c2,⟨c3,c4,c5,c6,c7,c8,c9⟩,c10,c11⟩,rfl,hf⟩:=Cluster.of us hl ht
  rw [R8,b8]
  simp only [↓xP,xQ,xR,xS,flatR,reduceLT,Nat.reduceBEq,reduceAdd,reduceSub,Cluster.u,List.map,szCluster_ok c0 c1 c2 c3 c4 c5 c6 c7 c8 c9 c10 c11 hf]
  refine sel_split (fun h=>?_) (fun h=>?_)
  · rfl
  simp only [decide_eq_false_iff_not] at h
  have hs:=(szCluster_le _ hf 1048576 (by omega) (by omega)).2 (by omega)
  have hi:=history_impl c0 c1 c2 c3 c4 c5 c6 c7 c8 c9 c10 c11 hs
  have hsp:=history_spec c0 c1 c2 c3 c4 c5 c6 c7 c8 c9 c10 c11 hs
  have hcost:=(cCluster hs 1048576 (by omega) (by omega) (by omega)).2
  dsimp only at hcost
  have hmc:=markCluster_ok c0 c1 c2 c3 c4 c5 c6 c7 c8 c9 c10 c11 1 (by omega) (by omega)
  have hg:¬(1:Int)+sumW wShard c0+sumW wCal c1+9*c2.length<0:=by omega
  have h10:¬(1:Int)<0:=by omega
  have hR:SmallAnswerS (history ⟨c0,c1,c2,⟨c3,c4,c5,c6,c7,c8,c9⟩,c10,c11⟩):=by
    unfold history
    split
    · rename_i hv
      have h1:=history_len hv
      simp only [history,hv,if_true] at h1
      exact ⟨by dsimp only; omega,fun y hy=>answer_small hs.1 hy⟩
    · exact ⟨by simp,fun y hy=>by cases hy⟩
  generalize history ⟨c0,c1,c2,⟨c3,c4,c5,c6,c7,c8,c9⟩,c10,c11⟩=R at hi hsp hR
  simp only [histsRet] at hi hsp
  have hRl:=hR.1
  have he:=eqAnswerS_ok R hR
  have hm3:=markAnswerS_ok R 1 (by omega) (by omega)
  have hh:=heldAnswerS_ok R.length 1 (by omega) (by omega)
  have hg2:¬(1:Int)+7 * (R.length:Int)<0:=by omega
  simp only [↓xP,xQ,xR,xS,flatR,reduceLT,Nat.reduceBEq,reduceAdd,reduceSub,rdx,rdx2,ofR,dead3,app3,sameD,List.getElem?_nil,toCluster_ok c0 c1 c2 c3 c4 c5 c6 c7 c8 c9 c10 c11 hs,hi,hsp,eqCluster_ok c0 c1 c2 c3 c4 c5 c6 c7 c8 c9 c10 c11 hs,he,hmc,hm3,hh,hg,hg2,h10,mkL_len,mkL_take,mGo_len,map_all,List.length_map,Nat.le_refl,ne_eq,not_true_eq_false]
end Go.Proofs.YtmfjkbbmhaofbaaGreatV
