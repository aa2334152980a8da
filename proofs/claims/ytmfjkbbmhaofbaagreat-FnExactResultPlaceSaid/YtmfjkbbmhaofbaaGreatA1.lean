/- Lemmas of functions that the law FnExactResultPlace reaches. No conditions but those that the lemmas state. -/
import Derived.Test.YtmfjkbbmhaofbaaGreatT1
import Derived.Test.YtmfjkbbmhaofbaaGreatJ
import Derived.Test.YtmfjkbbmhaofbaaGreatS7
import Derived.Test.YtmfjkbbmhaofbaaGreatS8
namespace Go.Proofs.YtmfjkbbmhaofbaaGreatV
open Go Go.RowKit
open Nat (reduceLT reduceAdd reduceSub)
open IOp (dst isF args)
set_option linter.unusedVariables false
set_option linter.unusedSimpArgs false
set_option maxRecDepth 4000
/-- A part is taken off, unless that is too much. -/
def offZ (left:Int) (n:Nat) (k:Int→Int):Int:=if IntKind.i64.wrap (left - n)<0 then -1 else k (IntKind.i64.wrap (left - n))
def chkZ (a:Int) (k:Int→Int):Int:=if a<0 then -1 else k a
def allZ {α:Type} (g:α→Int→Int):List α→Int→Int
  | [],a=>a
  | x::xs,a=>chkZ (g x a) (allZ g xs)
theorem allZ_at {α:Type} {g:α→Int→Int} {l:List α} {i:Nat} {x:α} (h:l[i]?=some x) (a:Int):allZ g (l.drop i) a=chkZ (g x a) (allZ g (l.drop (i+1))):=by
  have hi:=(List.getElem?_eq_some_iff.1 h).1
  have he:=(List.getElem?_eq_some_iff.1 h).2
  rw [List.drop_eq_getElem_cons hi,he]; rfl
/-- No more is left than was there; what was counted is small. -/
def LeZ (g:Int→Int) (P:Prop):Prop:=∀ a,0≤a→a≤1048576→g a≤a∧(0≤g a→P)
theorem LeZ.id:LeZ (fun a=>a) True:=fun a _ _=>⟨Int.le_refl _,fun _=>trivial⟩
theorem LeZ.off {n:Nat} {k:Int→Int} {P:Prop} (hn:n≤9223372036854775807) (hk:LeZ k P):LeZ (fun a=>offZ a n k) (n≤1048576∧P):=by
  intro a h0 h1
  simp only[offZ]
  rw [w64 (by omega) (by omega)]
  split
  · exact ⟨by omega,fun h=>by omega⟩
  · obtain ⟨h2,h3⟩:=hk (a - n) (by omega) (by omega)
    exact ⟨by omega,fun h=>⟨by omega,h3 h⟩⟩
theorem LeZ.chk {g k:Int→Int} {P Q:Prop} (hg:LeZ g P) (hk:LeZ k Q):LeZ (fun a=>chkZ (g a) k) (P∧Q):=by
  intro a h0 h1
  obtain ⟨h2,h3⟩:=hg a h0 h1
  simp only[chkZ]
  split
  · exact ⟨by omega,fun h=>by omega⟩
  · obtain ⟨h4,h5⟩:=hk (g a) (by omega) (by omega)
    exact ⟨by omega,fun h=>⟨h3 (by omega),h5 h⟩⟩
theorem LeZ.all {α:Type} {g:α→Int→Int} {P:α→Prop}:∀ {l:List α},(∀ x,x∈l→LeZ (g x) (P x))→LeZ (allZ g l) (∀ x,x∈l→P x)
  | [],_=>fun a _ _=>⟨Int.le_refl _,fun _ x h=>by cases h⟩
  | x::xs,h=>by
    have h1:=(h x (List.mem_cons_self ..)).chk (LeZ.all (l:=xs) (fun y hy=>h y (List.mem_cons_of_mem _ hy)))
    intro a h0 h2
    obtain ⟨h3,h4⟩:=h1 a h0 h2
    refine ⟨h3,fun h y hy=>?_⟩
    rcases List.mem_cons.1 hy with rfl|hy
    · exact (h4 h).1
    · exact (h4 h).2 y hy
theorem fill_set {α:Type} {f:α→List U} {z:List U} {l:List α} {i:Nat} {x:α} (h:l[i]?=some x):((l.take i).map f++List.replicate (l.length - i) z).set i (f x)=(l.take (i+1)).map f++List.replicate (l.length - (i+1)) z:=by
  have hi:=(List.getElem?_eq_some_iff.1 h).1
  have he:=(List.getElem?_eq_some_iff.1 h).2
  have h1:((l.take i).map f).length=i:=by simp; omega
  rw [List.set_append_right _ _ (by omega),h1,Nat.sub_self,show l.length - i=(l.length - (i+1))+1 by omega,List.replicate_succ,List.set_cons_zero,List.take_succ_eq_append_getElem hi,List.map_append,List.append_assoc,he]
  rfl
theorem fill_get {α:Type} {f:α→List U} {z:List U} {l:List α} {i:Nat} (hi:i<l.length):((l.take i).map f++List.replicate (l.length - i) z)[i]?=some z:=by
  have h1:((l.take i).map f).length=i:=by simp; omega
  rw [List.getElem?_append_right (by omega),h1,Nat.sub_self,show l.length - i=(l.length - (i+1))+1 by omega,List.replicate_succ]
  rfl
theorem fill_all {α:Type} {f:α→List U} {z:List U} {l:List α}:(l.take l.length).map f++List.replicate (l.length - l.length) z=l.map f:=by simp
theorem mk_ok (st:St) (d n:Nat) (zero:List U) (bytes:Nat) (h:n*bytes≤140737488355328):stMk st d (DI (n:Int)) (DI (n:Int)) zero bytes=some (((st.cool (.loc d 0)).obj (.loc d 0) (some (.row zero.length (List.replicate n zero)))).put d (.t (.sc (.own (.loc d 0) n)))):=by
  simp [stMk,D.int?,h]
theorem mkd_ok (st:St) (d n:Nat) (zero:List U) (bytes:Nat) (h:n*bytes≤140737488355328) (hz:zero.all U.zed=true):stMkd st d (DI (n:Int)) (DI (n:Int)) zero bytes=some (((st.cool (.loc d 0)).obj (.loc d 0) (some (.deep zero.length (List.replicate n zero)))).put d (.t (.sc (.down (.loc d 0) n)))):=by
  simp only[List.all_eq_true] at hz
  simp only[stMkd,D.int?,Option.bind_some,List.all_eq_true]
  rw [if_pos ⟨by omega,by omega,by simpa using h,hz⟩]
  simp
def SmallIntS (l:(List Int)):Prop:=l.length≤1048576∧True
def szIntSG (l:(List Int)) (left:Int):Int:=offZ left l.length fun a=>a
theorem szIntS_ok (l:(List Int)) (left:Int):EE F 283 [L 1 (l.map iU),I left] []=ok1 (I (szIntSG l left)):=by
  rw [R283,b283]
  simp only[↓xP,xQ,xR,xD,flatR,Nat.reduceBEq,reduceAdd,reduceSub]
  refine sel_split (fun h=>?_) (fun h=>?_)<;>(simp only[decide_eq_true_eq,decide_eq_false_iff_not] at h; simp [szIntSG,offZ,h])
theorem szIntS_le (l:(List Int)) (hf:(l.length≤9223372036854775807∧∀ y,y∈l→Fit64 y)):LeZ (szIntSG l) (SmallIntS l):=LeZ.off hf.1 (LeZ.id)
theorem toIntS_ok (l:(List Int)) (hs:SmallIntS l):EE F 289 [L 1 (l.map iU)] []=some ⟨[.sc (.own (.par 0) l.length)],[.row 1 (l.map iU)],[]⟩:=by
  have hl:=hs.1
  rw [R289,b289]
  simp only[↓xP,xQ,xR,xD,flatR,Nat.reduceBEq,reduceAdd,reduceSub,mk_ok _ 7 l.length [.int .i64 0] 8 (by omega)]
  refine (loop_ind (fun (i:Nat) st=>i≤l.length∧st.s 0=DU (.sl 1 (l.map iU))∧st.s 4=DI i∧st.s 3=.t (.sc (.own (.loc 7 0) l.length))∧st.o (.loc 7 0)=some (.row 1 ((l.take i).map iU++List.replicate (l.length - i) [.int .i64 0]))) (fun i=>l.length - i) (fun i=>some ⟨[.sc (.own (.par 0) l.length)],[.row 1 (l.map iU)],[]⟩) ?_ 0 ⟨by omega,by simp only[↓xP,xQ,xR,xD,flatR,Nat.reduceBEq,reduceAdd,reduceSub],by simp only[↓xP,xQ,xR,xD,flatR,Nat.reduceBEq,reduceAdd,reduceSub]; rfl,by simp only[↓xP,xQ,xR,xD,flatR,Nat.reduceBEq,reduceAdd,reduceSub],by simp only[↓xP,xQ,xR,xD,flatR,Nat.reduceBEq,reduceAdd,reduceSub,Nat.sub_zero]⟩)
  rintro i st ⟨hle,h0,h4,h3,ho⟩ ih
  by_cases hi:i<l.length
  · obtain ⟨x,hx⟩:∃ x,l[i]?=some x:=⟨_,List.getElem?_eq_getElem hi⟩
    have hw:=w_succ (i:=i) (by omega)
    have hg:=fill_get (f:=iU) (z:=[.int .i64 0]) hi
    have hf:=fill_set (f:=iU) (z:=[.int .i64 0]) hx
    simp only[iU] at hf
    simp only[↓xP,xQ,xR,xD,flatR,Nat.reduceBEq,reduceAdd,reduceSub,h0,h4,h3,ho,hi,hx,hw,hg,hf,iU]
    exact ih (i+1) _ (by omega) ⟨by omega,by simp only[↓xP,xQ,xR,xD,flatR,Nat.reduceBEq,reduceAdd,reduceSub,h0],by simp only[↓xP,xQ,xR,xD,flatR,Nat.reduceBEq,reduceAdd,reduceSub],by simp only[↓xP,xQ,xR,xD,flatR,Nat.reduceBEq,reduceAdd,reduceSub,h3],by simp only[↓xP,xQ,xR,xD,flatR,Nat.reduceBEq,reduceAdd,reduceSub,iU]⟩
  · have:i=l.length:=by omega
    subst this
    rw [fill_all] at ho
    simp only[↓xP,xQ,xR,xD,flatR,Nat.reduceBEq,reduceAdd,reduceSub,h0,h4,h3,ho,hi]
theorem eqIntS_ok (l:(List Int)) (hs:SmallIntS l):EE F 32 [L 1 (l.map iU),L 1 (l.map iU)] []=ok1 (B true):=by
  have hl:=hs.1
  rw [R32,b32]
  simp only[↓xP,xQ,xR,xD,flatR,Nat.reduceBEq,reduceAdd,reduceSub,ne_eq,not_true_eq_false]
  refine (loop_ind (fun (i:Nat) st=>st.s 0=DU (.sl 1 (l.map iU))∧st.s 1=DU (.sl 1 (l.map iU))∧st.s 5=DI i) (fun i=>l.length - i) (fun i=>ok1 (B true)) ?_ 0 ⟨by simp only[↓xP,xQ,xR,xD,flatR,Nat.reduceBEq,reduceAdd,reduceSub],by simp only[↓xP,xQ,xR,xD,flatR,Nat.reduceBEq,reduceAdd,reduceSub],by simp only[↓xP,xQ,xR,xD,flatR,Nat.reduceBEq,reduceAdd,reduceSub]; rfl⟩)
  rintro i st ⟨h0,h1,h5⟩ ih
  by_cases hi:i<l.length
  · obtain ⟨x,hx⟩:∃ x,l[i]?=some x:=⟨_,List.getElem?_eq_getElem hi⟩
    have hw:=w_succ (i:=i) (by omega)
    simp only[↓xP,xQ,xR,xD,flatR,Nat.reduceBEq,reduceAdd,reduceSub,h0,h1,h5,hi,hx,hw,iU,ne_eq,not_true_eq_false]
    exact ih (i+1) _ (by omega) ⟨by simp only[↓xP,xQ,xR,xD,flatR,Nat.reduceBEq,reduceAdd,reduceSub,h0],by simp only[↓xP,xQ,xR,xD,flatR,Nat.reduceBEq,reduceAdd,reduceSub,h1],by simp only[↓xP,xQ,xR,xD,flatR,Nat.reduceBEq,reduceAdd,reduceSub]⟩
  · simp only[↓xP,xQ,xR,xD,flatR,Nat.reduceBEq,reduceAdd,reduceSub,h0,h1,h5,hi]
def SmallBoolS (l:(List Bool)):Prop:=l.length≤1048576∧True
def szBoolSG (l:(List Bool)) (left:Int):Int:=offZ left l.length fun a=>a
theorem szBoolS_ok (l:(List Bool)) (left:Int):EE F 246 [L 1 (l.map bU),I left] []=ok1 (I (szBoolSG l left)):=by
  rw [R246,b246]
  simp only[↓xP,xQ,xR,xD,flatR,Nat.reduceBEq,reduceAdd,reduceSub]
  refine sel_split (fun h=>?_) (fun h=>?_)<;>(simp only[decide_eq_true_eq,decide_eq_false_iff_not] at h; simp [szBoolSG,offZ,h])
theorem szBoolS_le (l:(List Bool)) (hf:(l.length≤9223372036854775807∧∀ y,y∈l→True)):LeZ (szBoolSG l) (SmallBoolS l):=LeZ.off hf.1 (LeZ.id)
theorem toBoolS_ok (l:(List Bool)) (hs:SmallBoolS l):EE F 255 [L 1 (l.map bU)] []=some ⟨[.sc (.own (.par 0) l.length)],[.row 1 (l.map bU)],[]⟩:=by
  have hl:=hs.1
  rw [R255,b255]
  simp only[↓xP,xQ,xR,xD,flatR,Nat.reduceBEq,reduceAdd,reduceSub,mk_ok _ 7 l.length [.bool false] 1 (by omega)]
  refine (loop_ind (fun (i:Nat) st=>i≤l.length∧st.s 0=DU (.sl 1 (l.map bU))∧st.s 4=DI i∧st.s 3=.t (.sc (.own (.loc 7 0) l.length))∧st.o (.loc 7 0)=some (.row 1 ((l.take i).map bU++List.replicate (l.length - i) [.bool false]))) (fun i=>l.length - i) (fun i=>some ⟨[.sc (.own (.par 0) l.length)],[.row 1 (l.map bU)],[]⟩) ?_ 0 ⟨by omega,by simp only[↓xP,xQ,xR,xD,flatR,Nat.reduceBEq,reduceAdd,reduceSub],by simp only[↓xP,xQ,xR,xD,flatR,Nat.reduceBEq,reduceAdd,reduceSub]; rfl,by simp only[↓xP,xQ,xR,xD,flatR,Nat.reduceBEq,reduceAdd,reduceSub],by simp only[↓xP,xQ,xR,xD,flatR,Nat.reduceBEq,reduceAdd,reduceSub,Nat.sub_zero]⟩)
  rintro i st ⟨hle,h0,h4,h3,ho⟩ ih
  by_cases hi:i<l.length
  · obtain ⟨x,hx⟩:∃ x,l[i]?=some x:=⟨_,List.getElem?_eq_getElem hi⟩
    have hw:=w_succ (i:=i) (by omega)
    have hg:=fill_get (f:=bU) (z:=[.bool false]) hi
    have hf:=fill_set (f:=bU) (z:=[.bool false]) hx
    simp only[bU] at hf
    simp only[↓xP,xQ,xR,xD,flatR,Nat.reduceBEq,reduceAdd,reduceSub,h0,h4,h3,ho,hi,hx,hw,hg,hf,bU]
    exact ih (i+1) _ (by omega) ⟨by omega,by simp only[↓xP,xQ,xR,xD,flatR,Nat.reduceBEq,reduceAdd,reduceSub,h0],by simp only[↓xP,xQ,xR,xD,flatR,Nat.reduceBEq,reduceAdd,reduceSub],by simp only[↓xP,xQ,xR,xD,flatR,Nat.reduceBEq,reduceAdd,reduceSub,h3],by simp only[↓xP,xQ,xR,xD,flatR,Nat.reduceBEq,reduceAdd,reduceSub,bU]⟩
  · have:i=l.length:=by omega
    subst this
    rw [fill_all] at ho
    simp only[↓xP,xQ,xR,xD,flatR,Nat.reduceBEq,reduceAdd,reduceSub,h0,h4,h3,ho,hi]
theorem eqBoolS_ok (l:(List Bool)) (hs:SmallBoolS l):EE F 264 [L 1 (l.map bU),L 1 (l.map bU)] []=ok1 (B true):=by
  have hl:=hs.1
  rw [R264,b264]
  simp only[↓xP,xQ,xR,xD,flatR,Nat.reduceBEq,reduceAdd,reduceSub,ne_eq,not_true_eq_false]
  refine (loop_ind (fun (i:Nat) st=>st.s 0=DU (.sl 1 (l.map bU))∧st.s 1=DU (.sl 1 (l.map bU))∧st.s 5=DI i) (fun i=>l.length - i) (fun i=>ok1 (B true)) ?_ 0 ⟨by simp only[↓xP,xQ,xR,xD,flatR,Nat.reduceBEq,reduceAdd,reduceSub],by simp only[↓xP,xQ,xR,xD,flatR,Nat.reduceBEq,reduceAdd,reduceSub],by simp only[↓xP,xQ,xR,xD,flatR,Nat.reduceBEq,reduceAdd,reduceSub]; rfl⟩)
  rintro i st ⟨h0,h1,h5⟩ ih
  by_cases hi:i<l.length
  · obtain ⟨x,hx⟩:∃ x,l[i]?=some x:=⟨_,List.getElem?_eq_getElem hi⟩
    have hw:=w_succ (i:=i) (by omega)
    simp only[↓xP,xQ,xR,xD,flatR,Nat.reduceBEq,reduceAdd,reduceSub,h0,h1,h5,hi,hx,hw,bU,ne_eq,not_true_eq_false]
    exact ih (i+1) _ (by omega) ⟨by simp only[↓xP,xQ,xR,xD,flatR,Nat.reduceBEq,reduceAdd,reduceSub,h0],by simp only[↓xP,xQ,xR,xD,flatR,Nat.reduceBEq,reduceAdd,reduceSub,h1],by simp only[↓xP,xQ,xR,xD,flatR,Nat.reduceBEq,reduceAdd,reduceSub]⟩
  · simp only[↓xP,xQ,xR,xD,flatR,Nat.reduceBEq,reduceAdd,reduceSub,h0,h1,h5,hi]
def Interval.Small (x:Interval):Prop:=x.low.length≤1048576∧x.high.length≤1048576∧True
def szIntervalG (x:Interval) (a:Int):Int:=offZ a x.low.length fun a=>offZ a x.high.length fun a=>a
theorem szInterval_ok (c0:Str) (c1:Str) (left:Int):EE F 54 [.ag [.u (.str c0),.u (.str c1)],I left] []=ok1 (I (szIntervalG ⟨c0,c1⟩ left)):=by
  rw [R54,b54]
  simp only[↓xP,xQ,xR,xD,flatR,Nat.reduceBEq,reduceAdd,reduceSub]
  repeat' (refine sel_split (fun h=>?_) (fun h=>?_))
  all_goals (simp only[decide_eq_true_eq,decide_eq_false_iff_not] at *; simp [szIntervalG,offZ,chkZ, *])
theorem szInterval_le (x:Interval) (hf:Interval.Fit x):LeZ (szIntervalG x) (Interval.Small x):=LeZ.off hf.1 (LeZ.off hf.2 LeZ.id)
theorem toInterval_ok (c0:Str) (c1:Str):EE F 56 [.ag [.u (.str c0),.u (.str c1)]] []=ok1 (.ag [.u (.str c0),.u (.str c1)]):=by
  rw [R56,b56]
  simp only[↓xP,xQ,xR,xD,flatR,Nat.reduceBEq,reduceAdd,reduceSub]
theorem eqInterval_ok (c0:Str) (c1:Str):EE F 150 [.ag [.u (.str c0),.u (.str c1)],.ag [.u (.str c0),.u (.str c1)]] []=ok1 (B true):=by
  rw [R150,b150]
  simp only[↓xP,xQ,xR,xD,flatR,Nat.reduceBEq,reduceAdd,reduceSub,ne_eq,not_true_eq_false]
def Pair.Small (x:Pair):Prop:=x.key.length≤1048576∧True
def szPairG (x:Pair) (a:Int):Int:=offZ a x.key.length fun a=>a
theorem szPair_ok (c0:Str) (c1:Int) (left:Int):EE F 301 [.ag [.u (.str c0),.u (.int .i64 c1)],I left] []=ok1 (I (szPairG ⟨c0,c1⟩ left)):=by
  rw [R301,b301]
  simp only[↓xP,xQ,xR,xD,flatR,Nat.reduceBEq,reduceAdd,reduceSub]
  repeat' (refine sel_split (fun h=>?_) (fun h=>?_))
  all_goals (simp only[decide_eq_true_eq,decide_eq_false_iff_not] at *; simp [szPairG,offZ,chkZ, *])
theorem szPair_le (x:Pair) (hf:Pair.Fit x):LeZ (szPairG x) (Pair.Small x):=LeZ.off hf.1 LeZ.id
theorem toPair_ok (c0:Str) (c1:Int):EE F 304 [.ag [.u (.str c0),.u (.int .i64 c1)]] []=ok1 (.ag [.u (.str c0),.u (.int .i64 c1)]):=by
  rw [R304,b304]
  simp only[↓xP,xQ,xR,xD,flatR,Nat.reduceBEq,reduceAdd,reduceSub]
theorem eqPair_ok (c0:Str) (c1:Int):EE F 97 [.ag [.u (.str c0),.u (.int .i64 c1)],.ag [.u (.str c0),.u (.int .i64 c1)]] []=ok1 (B true):=by
  rw [R97,b97]
  simp only[↓xP,xQ,xR,xD,flatR,Nat.reduceBEq,reduceAdd,reduceSub,ne_eq,not_true_eq_false]
def SmallPairS (l:(List Pair)):Prop:=l.length≤1048576∧∀ y,y∈l→Pair.Small y
def szPairSG (l:(List Pair)) (left:Int):Int:=offZ left l.length fun a=>allZ szPairG l a
theorem szPairS_ok (l:(List Pair)) (hf:(l.length≤9223372036854775807∧∀ y,y∈l→Pair.Fit y)) (left:Int):EE F 281 [L 2 (l.map Pair.u),I left] []=ok1 (I (szPairSG l left)):=by
  have hl:=hf.1
  rw [R281,b281]
  simp only[↓xP,xQ,xR,xD,flatR,Nat.reduceBEq,reduceAdd,reduceSub]
  refine sel_split (fun h=>?_) (fun h=>?_)
  · simp only[decide_eq_true_eq] at h
    simp [szPairSG,offZ,h]
  · refine (loop_ind (fun (a:Nat×Int) st=>st.s 0=DU (.sl 2 (l.map Pair.u))∧st.s 5=DI a.1∧st.s 1=DI a.2) (fun a=>l.length - a.1) (fun a=>ok1 (I (allZ szPairG (l.drop a.1) a.2))) ?_ (0,IntKind.i64.wrap (left - l.length)) ⟨by simp only[↓xP,xQ,xR,xD,flatR,Nat.reduceBEq,reduceAdd,reduceSub],by simp only[↓xP,xQ,xR,xD,flatR,Nat.reduceBEq,reduceAdd,reduceSub]; rfl,by simp only[↓xP,xQ,xR,xD,flatR,Nat.reduceBEq,reduceAdd,reduceSub]⟩).trans ?_
    · rintro ⟨i,a⟩ st ⟨h0,h5,h1⟩ ih
      dsimp only at h0 h5 h1 ih ⊢
      by_cases hi:i<l.length
      · obtain ⟨⟨c0,c1⟩,hx⟩:∃ x,l[i]?=some x:=⟨_,List.getElem?_eq_getElem hi⟩
        have hw:=w_succ (i:=i) (by omega)
        have hfx:=hf.2 _ (List.mem_of_getElem? hx)
        simp only[↓xP,xQ,xR,xD,flatR,Nat.reduceBEq,reduceAdd,reduceSub,h0,h5,h1,hi,hx,hw,Pair.u,szPair_ok]
        rw [allZ_at hx,chkZ]
        refine sel_split (fun h=>?_) (fun h=>?_)
        · simp only[decide_eq_true_eq] at h
          simp [h]
        · rw [ih (i+1,szPairG ⟨c0,c1⟩ a) _ (by dsimp only; omega) ⟨by simp only[↓xP,xQ,xR,xD,flatR,Nat.reduceBEq,reduceAdd,reduceSub,h0],by simp only[↓xP,xQ,xR,xD,flatR,Nat.reduceBEq,reduceAdd,reduceSub],by simp only[↓xP,xQ,xR,xD,flatR,Nat.reduceBEq,reduceAdd,reduceSub]⟩]
          simp only[decide_eq_false_iff_not] at h
          simp [h]
      · simp only[↓xP,xQ,xR,xD,flatR,Nat.reduceBEq,reduceAdd,reduceSub,h0,h5,h1,hi]
        rw [List.drop_of_length_le (by omega)]; rfl
    · simp only[decide_eq_false_iff_not] at h
      simp [szPairSG,offZ,h]
theorem szPairS_le (l:(List Pair)) (hf:(l.length≤9223372036854775807∧∀ y,y∈l→Pair.Fit y)):LeZ (szPairSG l) (SmallPairS l):=LeZ.off hf.1 (LeZ.all fun x hx=>szPair_le x (hf.2 x hx))
theorem toPairS_ok (l:(List Pair)) (hs:SmallPairS l):EE F 287 [L 2 (l.map Pair.u)] []=some ⟨[.sc (.own (.par 0) l.length)],[.row 2 (l.map Pair.u)],[]⟩:=by
  have hl:=hs.1
  rw [R287,b287]
  simp only[↓xP,xQ,xR,xD,flatR,Nat.reduceBEq,reduceAdd,reduceSub,mk_ok _ 7 l.length [.str [],.int .i64 0] 24 (by omega)]
  refine (loop_ind (fun (i:Nat) st=>i≤l.length∧st.s 0=DU (.sl 2 (l.map Pair.u))∧st.s 4=DI i∧st.s 3=.t (.sc (.own (.loc 7 0) l.length))∧st.o (.loc 7 0)=some (.row 2 ((l.take i).map Pair.u++List.replicate (l.length - i) [.str [],.int .i64 0]))) (fun i=>l.length - i) (fun i=>some ⟨[.sc (.own (.par 0) l.length)],[.row 2 (l.map Pair.u)],[]⟩) ?_ 0 ⟨by omega,by simp only[↓xP,xQ,xR,xD,flatR,Nat.reduceBEq,reduceAdd,reduceSub],by simp only[↓xP,xQ,xR,xD,flatR,Nat.reduceBEq,reduceAdd,reduceSub]; rfl,by simp only[↓xP,xQ,xR,xD,flatR,Nat.reduceBEq,reduceAdd,reduceSub],by simp only[↓xP,xQ,xR,xD,flatR,Nat.reduceBEq,reduceAdd,reduceSub,Nat.sub_zero]⟩)
  rintro i st ⟨hle,h0,h4,h3,ho⟩ ih
  by_cases hi:i<l.length
  · obtain ⟨⟨c0,c1⟩,hx⟩:∃ x,l[i]?=some x:=⟨_,List.getElem?_eq_getElem hi⟩
    have hw:=w_succ (i:=i) (by omega)
    have hg:=fill_get (f:=Pair.u) (z:=[.str [],.int .i64 0]) hi
    have hf:=fill_set (f:=Pair.u) (z:=[.str [],.int .i64 0]) hx
    simp only[Pair.u] at hf
    simp only[↓xP,xQ,xR,xD,flatR,Nat.reduceBEq,reduceAdd,reduceSub,h0,h4,h3,ho,hi,hx,hw,hg,hf,Pair.u,toPair_ok]
    exact ih (i+1) _ (by omega) ⟨by omega,by simp only[↓xP,xQ,xR,xD,flatR,Nat.reduceBEq,reduceAdd,reduceSub,h0],by simp only[↓xP,xQ,xR,xD,flatR,Nat.reduceBEq,reduceAdd,reduceSub],by simp only[↓xP,xQ,xR,xD,flatR,Nat.reduceBEq,reduceAdd,reduceSub,h3],by simp only[↓xP,xQ,xR,xD,flatR,Nat.reduceBEq,reduceAdd,reduceSub,Pair.u]⟩
  · have:i=l.length:=by omega
    subst this
    rw [fill_all] at ho
    simp only[↓xP,xQ,xR,xD,flatR,Nat.reduceBEq,reduceAdd,reduceSub,h0,h4,h3,ho,hi]
theorem eqPairS_ok (l:(List Pair)) (hs:SmallPairS l):EE F 44 [L 2 (l.map Pair.u),L 2 (l.map Pair.u)] []=ok1 (B true):=by
  have hl:=hs.1
  rw [R44,b44]
  simp only[↓xP,xQ,xR,xD,flatR,Nat.reduceBEq,reduceAdd,reduceSub,ne_eq,not_true_eq_false]
  refine (loop_ind (fun (i:Nat) st=>st.s 0=DU (.sl 2 (l.map Pair.u))∧st.s 1=DU (.sl 2 (l.map Pair.u))∧st.s 5=DI i) (fun i=>l.length - i) (fun i=>ok1 (B true)) ?_ 0 ⟨by simp only[↓xP,xQ,xR,xD,flatR,Nat.reduceBEq,reduceAdd,reduceSub],by simp only[↓xP,xQ,xR,xD,flatR,Nat.reduceBEq,reduceAdd,reduceSub],by simp only[↓xP,xQ,xR,xD,flatR,Nat.reduceBEq,reduceAdd,reduceSub]; rfl⟩)
  rintro i st ⟨h0,h1,h5⟩ ih
  by_cases hi:i<l.length
  · obtain ⟨⟨c0,c1⟩,hx⟩:∃ x,l[i]?=some x:=⟨_,List.getElem?_eq_getElem hi⟩
    have hw:=w_succ (i:=i) (by omega)
    simp only[↓xP,xQ,xR,xD,flatR,Nat.reduceBEq,reduceAdd,reduceSub,h0,h1,h5,hi,hx,hw,Pair.u,eqPair_ok,ne_eq,not_true_eq_false]
    exact ih (i+1) _ (by omega) ⟨by simp only[↓xP,xQ,xR,xD,flatR,Nat.reduceBEq,reduceAdd,reduceSub,h0],by simp only[↓xP,xQ,xR,xD,flatR,Nat.reduceBEq,reduceAdd,reduceSub,h1],by simp only[↓xP,xQ,xR,xD,flatR,Nat.reduceBEq,reduceAdd,reduceSub]⟩
  · simp only[↓xP,xQ,xR,xD,flatR,Nat.reduceBEq,reduceAdd,reduceSub,h0,h1,h5,hi]
def Command.Small (x:Command):Prop:=x.key.length≤1048576∧True
def szCommandG (x:Command) (a:Int):Int:=offZ a x.key.length fun a=>a
theorem szCommand_ok (c0:Int) (c1:Str) (c2:Int) (c3:Int) (left:Int):EE F 185 [.ag [.u (.int .i64 c0),.u (.str c1),.u (.int .i64 c2),.u (.int .i64 c3)],I left] []=ok1 (I (szCommandG ⟨c0,c1,c2,c3⟩ left)):=by
  rw [R185,b185]
  simp only[↓xP,xQ,xR,xD,flatR,Nat.reduceBEq,reduceAdd,reduceSub]
  repeat' (refine sel_split (fun h=>?_) (fun h=>?_))
  all_goals (simp only[decide_eq_true_eq,decide_eq_false_iff_not] at *; simp [szCommandG,offZ,chkZ, *])
theorem szCommand_le (x:Command) (hf:Command.Fit x):LeZ (szCommandG x) (Command.Small x):=LeZ.off hf.2.1 LeZ.id
theorem toCommand_ok (c0:Int) (c1:Str) (c2:Int) (c3:Int):EE F 193 [.ag [.u (.int .i64 c0),.u (.str c1),.u (.int .i64 c2),.u (.int .i64 c3)]] []=ok1 (.ag [.u (.int .i64 c0),.u (.str c1),.u (.int .i64 c2),.u (.int .i64 c3)]):=by
  rw [R193,b193]
  simp only[↓xP,xQ,xR,xD,flatR,Nat.reduceBEq,reduceAdd,reduceSub]
theorem eqCommand_ok (c0:Int) (c1:Str) (c2:Int) (c3:Int):EE F 207 [.ag [.u (.int .i64 c0),.u (.str c1),.u (.int .i64 c2),.u (.int .i64 c3)],.ag [.u (.int .i64 c0),.u (.str c1),.u (.int .i64 c2),.u (.int .i64 c3)]] []=ok1 (B true):=by
  rw [R207,b207]
  simp only[↓xP,xQ,xR,xD,flatR,Nat.reduceBEq,reduceAdd,reduceSub,ne_eq,not_true_eq_false]
theorem toSession_ok (c0:Int) (c1:Int) (c2:Int):EE F 305 [.ag [.u (.int .i64 c0),.u (.int .i64 c1),.u (.int .i64 c2)]] []=ok1 (.ag [.u (.int .i64 c0),.u (.int .i64 c1),.u (.int .i64 c2)]):=by
  rw [R305,b305]
  simp only[↓xP,xQ,xR,xD,flatR,Nat.reduceBEq,reduceAdd,reduceSub]
theorem eqSession_ok (c0:Int) (c1:Int) (c2:Int):EE F 228 [.ag [.u (.int .i64 c0),.u (.int .i64 c1),.u (.int .i64 c2)],.ag [.u (.int .i64 c0),.u (.int .i64 c1),.u (.int .i64 c2)]] []=ok1 (B true):=by
  rw [R228,b228]
  simp only[↓xP,xQ,xR,xD,flatR,Nat.reduceBEq,reduceAdd,reduceSub,ne_eq,not_true_eq_false]
def SmallSessionS (l:(List Session)):Prop:=l.length≤1048576∧True
def szSessionSG (l:(List Session)) (left:Int):Int:=offZ left l.length fun a=>a
theorem szSessionS_ok (l:(List Session)) (left:Int):EE F 282 [L 3 (l.map Session.u),I left] []=ok1 (I (szSessionSG l left)):=by
  rw [R282,b282]
  simp only[↓xP,xQ,xR,xD,flatR,Nat.reduceBEq,reduceAdd,reduceSub]
  refine sel_split (fun h=>?_) (fun h=>?_)<;>(simp only[decide_eq_true_eq,decide_eq_false_iff_not] at h; simp [szSessionSG,offZ,h])
theorem szSessionS_le (l:(List Session)) (hf:(l.length≤9223372036854775807∧∀ y,y∈l→Session.Fit y)):LeZ (szSessionSG l) (SmallSessionS l):=LeZ.off hf.1 (LeZ.id)
theorem toSessionS_ok (l:(List Session)) (hs:SmallSessionS l):EE F 288 [L 3 (l.map Session.u)] []=some ⟨[.sc (.own (.par 0) l.length)],[.row 3 (l.map Session.u)],[]⟩:=by
  have hl:=hs.1
  rw [R288,b288]
  simp only[↓xP,xQ,xR,xD,flatR,Nat.reduceBEq,reduceAdd,reduceSub,mk_ok _ 7 l.length [.int .i64 0,.int .i64 0,.int .i64 0] 24 (by omega)]
  refine (loop_ind (fun (i:Nat) st=>i≤l.length∧st.s 0=DU (.sl 3 (l.map Session.u))∧st.s 4=DI i∧st.s 3=.t (.sc (.own (.loc 7 0) l.length))∧st.o (.loc 7 0)=some (.row 3 ((l.take i).map Session.u++List.replicate (l.length - i) [.int .i64 0,.int .i64 0,.int .i64 0]))) (fun i=>l.length - i) (fun i=>some ⟨[.sc (.own (.par 0) l.length)],[.row 3 (l.map Session.u)],[]⟩) ?_ 0 ⟨by omega,by simp only[↓xP,xQ,xR,xD,flatR,Nat.reduceBEq,reduceAdd,reduceSub],by simp only[↓xP,xQ,xR,xD,flatR,Nat.reduceBEq,reduceAdd,reduceSub]; rfl,by simp only[↓xP,xQ,xR,xD,flatR,Nat.reduceBEq,reduceAdd,reduceSub],by simp only[↓xP,xQ,xR,xD,flatR,Nat.reduceBEq,reduceAdd,reduceSub,Nat.sub_zero]⟩)
  rintro i st ⟨hle,h0,h4,h3,ho⟩ ih
  by_cases hi:i<l.length
  · obtain ⟨⟨c0,c1,c2⟩,hx⟩:∃ x,l[i]?=some x:=⟨_,List.getElem?_eq_getElem hi⟩
    have hw:=w_succ (i:=i) (by omega)
    have hg:=fill_get (f:=Session.u) (z:=[.int .i64 0,.int .i64 0,.int .i64 0]) hi
    have hf:=fill_set (f:=Session.u) (z:=[.int .i64 0,.int .i64 0,.int .i64 0]) hx
    simp only[Session.u] at hf
    simp only[↓xP,xQ,xR,xD,flatR,Nat.reduceBEq,reduceAdd,reduceSub,h0,h4,h3,ho,hi,hx,hw,hg,hf,Session.u,toSession_ok]
    exact ih (i+1) _ (by omega) ⟨by omega,by simp only[↓xP,xQ,xR,xD,flatR,Nat.reduceBEq,reduceAdd,reduceSub,h0],by simp only[↓xP,xQ,xR,xD,flatR,Nat.reduceBEq,reduceAdd,reduceSub],by simp only[↓xP,xQ,xR,xD,flatR,Nat.reduceBEq,reduceAdd,reduceSub,h3],by simp only[↓xP,xQ,xR,xD,flatR,Nat.reduceBEq,reduceAdd,reduceSub,Session.u]⟩
  · have:i=l.length:=by omega
    subst this
    rw [fill_all] at ho
    simp only[↓xP,xQ,xR,xD,flatR,Nat.reduceBEq,reduceAdd,reduceSub,h0,h4,h3,ho,hi]
theorem eqSessionS_ok (l:(List Session)) (hs:SmallSessionS l):EE F 168 [L 3 (l.map Session.u),L 3 (l.map Session.u)] []=ok1 (B true):=by
  have hl:=hs.1
  rw [R168,b168]
  simp only[↓xP,xQ,xR,xD,flatR,Nat.reduceBEq,reduceAdd,reduceSub,ne_eq,not_true_eq_false]
  refine (loop_ind (fun (i:Nat) st=>st.s 0=DU (.sl 3 (l.map Session.u))∧st.s 1=DU (.sl 3 (l.map Session.u))∧st.s 5=DI i) (fun i=>l.length - i) (fun i=>ok1 (B true)) ?_ 0 ⟨by simp only[↓xP,xQ,xR,xD,flatR,Nat.reduceBEq,reduceAdd,reduceSub],by simp only[↓xP,xQ,xR,xD,flatR,Nat.reduceBEq,reduceAdd,reduceSub],by simp only[↓xP,xQ,xR,xD,flatR,Nat.reduceBEq,reduceAdd,reduceSub]; rfl⟩)
  rintro i st ⟨h0,h1,h5⟩ ih
  by_cases hi:i<l.length
  · obtain ⟨⟨c0,c1,c2⟩,hx⟩:∃ x,l[i]?=some x:=⟨_,List.getElem?_eq_getElem hi⟩
    have hw:=w_succ (i:=i) (by omega)
    simp only[↓xP,xQ,xR,xD,flatR,Nat.reduceBEq,reduceAdd,reduceSub,h0,h1,h5,hi,hx,hw,Session.u,eqSession_ok,ne_eq,not_true_eq_false]
    exact ih (i+1) _ (by omega) ⟨by simp only[↓xP,xQ,xR,xD,flatR,Nat.reduceBEq,reduceAdd,reduceSub,h0],by simp only[↓xP,xQ,xR,xD,flatR,Nat.reduceBEq,reduceAdd,reduceSub,h1],by simp only[↓xP,xQ,xR,xD,flatR,Nat.reduceBEq,reduceAdd,reduceSub]⟩
  · simp only[↓xP,xQ,xR,xD,flatR,Nat.reduceBEq,reduceAdd,reduceSub,h0,h1,h5,hi]
def Entry.Small (x:Entry):Prop:=Command.Small x.cmd∧True
def szEntryG (x:Entry) (a:Int):Int:=chkZ (szCommandG x.cmd a) fun a=>a
theorem szEntry_ok (c0:Int) (c1:Int) (c2:Int) (c3:Str) (c4:Int) (c5:Int) (left:Int):EE F 303 [.ag [.u (.int .i64 c0),.u (.int .i64 c1),.u (.int .i64 c2),.u (.str c3),.u (.int .i64 c4),.u (.int .i64 c5)],I left] []=ok1 (I (szEntryG ⟨c0,c1,⟨c2,c3,c4,c5⟩⟩ left)):=by
  rw [R303,b303]
  simp only[↓xP,xQ,xR,xD,flatR,Nat.reduceBEq,reduceAdd,reduceSub,szCommand_ok]
  repeat' (refine sel_split (fun h=>?_) (fun h=>?_))
  all_goals (simp only[decide_eq_true_eq,decide_eq_false_iff_not] at *; simp [szEntryG,offZ,chkZ, *])
theorem szEntry_le (x:Entry) (hf:Entry.Fit x):LeZ (szEntryG x) (Entry.Small x):=LeZ.chk (szCommand_le _ hf.2.2) LeZ.id
theorem toEntry_ok (c0:Int) (c1:Int) (c2:Int) (c3:Str) (c4:Int) (c5:Int):EE F 307 [.ag [.u (.int .i64 c0),.u (.int .i64 c1),.u (.int .i64 c2),.u (.str c3),.u (.int .i64 c4),.u (.int .i64 c5)]] []=ok1 (.ag [.u (.int .i64 c0),.u (.int .i64 c1),.u (.int .i64 c2),.u (.str c3),.u (.int .i64 c4),.u (.int .i64 c5)]):=by
  rw [R307,b307]
  simp only[↓xP,xQ,xR,xD,flatR,Nat.reduceBEq,reduceAdd,reduceSub,toCommand_ok]
theorem eqEntry_ok (c0:Int) (c1:Int) (c2:Int) (c3:Str) (c4:Int) (c5:Int):EE F 154 [.ag [.u (.int .i64 c0),.u (.int .i64 c1),.u (.int .i64 c2),.u (.str c3),.u (.int .i64 c4),.u (.int .i64 c5)],.ag [.u (.int .i64 c0),.u (.int .i64 c1),.u (.int .i64 c2),.u (.str c3),.u (.int .i64 c4),.u (.int .i64 c5)]] []=ok1 (B true):=by
  rw [R154,b154]
  simp only[↓xP,xQ,xR,xD,flatR,Nat.reduceBEq,reduceAdd,reduceSub,eqCommand_ok,ne_eq,not_true_eq_false]
def SmallEntryS (l:(List Entry)):Prop:=l.length≤1048576∧∀ y,y∈l→Entry.Small y
def szEntrySG (l:(List Entry)) (left:Int):Int:=offZ left l.length fun a=>allZ szEntryG l a
theorem szEntryS_ok (l:(List Entry)) (hf:(l.length≤9223372036854775807∧∀ y,y∈l→Entry.Fit y)) (left:Int):EE F 302 [L 6 (l.map Entry.u),I left] []=ok1 (I (szEntrySG l left)):=by
  have hl:=hf.1
  rw [R302,b302]
  simp only[↓xP,xQ,xR,xD,flatR,Nat.reduceBEq,reduceAdd,reduceSub]
  refine sel_split (fun h=>?_) (fun h=>?_)
  · simp only[decide_eq_true_eq] at h
    simp [szEntrySG,offZ,h]
  · refine (loop_ind (fun (a:Nat×Int) st=>st.s 0=DU (.sl 6 (l.map Entry.u))∧st.s 5=DI a.1∧st.s 1=DI a.2) (fun a=>l.length - a.1) (fun a=>ok1 (I (allZ szEntryG (l.drop a.1) a.2))) ?_ (0,IntKind.i64.wrap (left - l.length)) ⟨by simp only[↓xP,xQ,xR,xD,flatR,Nat.reduceBEq,reduceAdd,reduceSub],by simp only[↓xP,xQ,xR,xD,flatR,Nat.reduceBEq,reduceAdd,reduceSub]; rfl,by simp only[↓xP,xQ,xR,xD,flatR,Nat.reduceBEq,reduceAdd,reduceSub]⟩).trans ?_
    · rintro ⟨i,a⟩ st ⟨h0,h5,h1⟩ ih
      dsimp only at h0 h5 h1 ih ⊢
      by_cases hi:i<l.length
      · obtain ⟨⟨c0,c1,⟨c2,c3,c4,c5⟩⟩,hx⟩:∃ x,l[i]?=some x:=⟨_,List.getElem?_eq_getElem hi⟩
        have hw:=w_succ (i:=i) (by omega)
        have hfx:=hf.2 _ (List.mem_of_getElem? hx)
        simp only[↓xP,xQ,xR,xD,flatR,Nat.reduceBEq,reduceAdd,reduceSub,h0,h5,h1,hi,hx,hw,Entry.u,szEntry_ok]
        rw [allZ_at hx,chkZ]
        refine sel_split (fun h=>?_) (fun h=>?_)
        · simp only[decide_eq_true_eq] at h
          simp [h]
        · rw [ih (i+1,szEntryG ⟨c0,c1,⟨c2,c3,c4,c5⟩⟩ a) _ (by dsimp only; omega) ⟨by simp only[↓xP,xQ,xR,xD,flatR,Nat.reduceBEq,reduceAdd,reduceSub,h0],by simp only[↓xP,xQ,xR,xD,flatR,Nat.reduceBEq,reduceAdd,reduceSub],by simp only[↓xP,xQ,xR,xD,flatR,Nat.reduceBEq,reduceAdd,reduceSub]⟩]
          simp only[decide_eq_false_iff_not] at h
          simp [h]
      · simp only[↓xP,xQ,xR,xD,flatR,Nat.reduceBEq,reduceAdd,reduceSub,h0,h5,h1,hi]
        rw [List.drop_of_length_le (by omega)]; rfl
    · simp only[decide_eq_false_iff_not] at h
      simp [szEntrySG,offZ,h]
theorem szEntryS_le (l:(List Entry)) (hf:(l.length≤9223372036854775807∧∀ y,y∈l→Entry.Fit y)):LeZ (szEntrySG l) (SmallEntryS l):=LeZ.off hf.1 (LeZ.all fun x hx=>szEntry_le x (hf.2 x hx))
theorem toEntryS_ok (l:(List Entry)) (hs:SmallEntryS l):EE F 306 [L 6 (l.map Entry.u)] []=some ⟨[.sc (.own (.par 0) l.length)],[.row 6 (l.map Entry.u)],[]⟩:=by
  have hl:=hs.1
  rw [R306,b306]
  simp only[↓xP,xQ,xR,xD,flatR,Nat.reduceBEq,reduceAdd,reduceSub,mk_ok _ 7 l.length [.int .i64 0,.int .i64 0,.int .i64 0,.str [],.int .i64 0,.int .i64 0] 56 (by omega)]
  refine (loop_ind (fun (i:Nat) st=>i≤l.length∧st.s 0=DU (.sl 6 (l.map Entry.u))∧st.s 4=DI i∧st.s 3=.t (.sc (.own (.loc 7 0) l.length))∧st.o (.loc 7 0)=some (.row 6 ((l.take i).map Entry.u++List.replicate (l.length - i) [.int .i64 0,.int .i64 0,.int .i64 0,.str [],.int .i64 0,.int .i64 0]))) (fun i=>l.length - i) (fun i=>some ⟨[.sc (.own (.par 0) l.length)],[.row 6 (l.map Entry.u)],[]⟩) ?_ 0 ⟨by omega,by simp only[↓xP,xQ,xR,xD,flatR,Nat.reduceBEq,reduceAdd,reduceSub],by simp only[↓xP,xQ,xR,xD,flatR,Nat.reduceBEq,reduceAdd,reduceSub]; rfl,by simp only[↓xP,xQ,xR,xD,flatR,Nat.reduceBEq,reduceAdd,reduceSub],by simp only[↓xP,xQ,xR,xD,flatR,Nat.reduceBEq,reduceAdd,reduceSub,Nat.sub_zero]⟩)
  rintro i st ⟨hle,h0,h4,h3,ho⟩ ih
  by_cases hi:i<l.length
  · obtain ⟨⟨c0,c1,⟨c2,c3,c4,c5⟩⟩,hx⟩:∃ x,l[i]?=some x:=⟨_,List.getElem?_eq_getElem hi⟩
    have hw:=w_succ (i:=i) (by omega)
    have hg:=fill_get (f:=Entry.u) (z:=[.int .i64 0,.int .i64 0,.int .i64 0,.str [],.int .i64 0,.int .i64 0]) hi
    have hf:=fill_set (f:=Entry.u) (z:=[.int .i64 0,.int .i64 0,.int .i64 0,.str [],.int .i64 0,.int .i64 0]) hx
    simp only[Entry.u] at hf
    simp only[↓xP,xQ,xR,xD,flatR,Nat.reduceBEq,reduceAdd,reduceSub,h0,h4,h3,ho,hi,hx,hw,hg,hf,Entry.u,toEntry_ok]
    exact ih (i+1) _ (by omega) ⟨by omega,by simp only[↓xP,xQ,xR,xD,flatR,Nat.reduceBEq,reduceAdd,reduceSub,h0],by simp only[↓xP,xQ,xR,xD,flatR,Nat.reduceBEq,reduceAdd,reduceSub],by simp only[↓xP,xQ,xR,xD,flatR,Nat.reduceBEq,reduceAdd,reduceSub,h3],by simp only[↓xP,xQ,xR,xD,flatR,Nat.reduceBEq,reduceAdd,reduceSub,Entry.u]⟩
  · have:i=l.length:=by omega
    subst this
    rw [fill_all] at ho
    simp only[↓xP,xQ,xR,xD,flatR,Nat.reduceBEq,reduceAdd,reduceSub,h0,h4,h3,ho,hi]
theorem eqEntryS_ok (l:(List Entry)) (hs:SmallEntryS l):EE F 308 [L 6 (l.map Entry.u),L 6 (l.map Entry.u)] []=ok1 (B true):=by
  have hl:=hs.1
  rw [R308,b308]
  simp only[↓xP,xQ,xR,xD,flatR,Nat.reduceBEq,reduceAdd,reduceSub,ne_eq,not_true_eq_false]
  refine (loop_ind (fun (i:Nat) st=>st.s 0=DU (.sl 6 (l.map Entry.u))∧st.s 1=DU (.sl 6 (l.map Entry.u))∧st.s 5=DI i) (fun i=>l.length - i) (fun i=>ok1 (B true)) ?_ 0 ⟨by simp only[↓xP,xQ,xR,xD,flatR,Nat.reduceBEq,reduceAdd,reduceSub],by simp only[↓xP,xQ,xR,xD,flatR,Nat.reduceBEq,reduceAdd,reduceSub],by simp only[↓xP,xQ,xR,xD,flatR,Nat.reduceBEq,reduceAdd,reduceSub]; rfl⟩)
  rintro i st ⟨h0,h1,h5⟩ ih
  by_cases hi:i<l.length
  · obtain ⟨⟨c0,c1,⟨c2,c3,c4,c5⟩⟩,hx⟩:∃ x,l[i]?=some x:=⟨_,List.getElem?_eq_getElem hi⟩
    have hw:=w_succ (i:=i) (by omega)
    simp only[↓xP,xQ,xR,xD,flatR,Nat.reduceBEq,reduceAdd,reduceSub,h0,h1,h5,hi,hx,hw,Entry.u,eqEntry_ok,ne_eq,not_true_eq_false]
    exact ih (i+1) _ (by omega) ⟨by simp only[↓xP,xQ,xR,xD,flatR,Nat.reduceBEq,reduceAdd,reduceSub,h0],by simp only[↓xP,xQ,xR,xD,flatR,Nat.reduceBEq,reduceAdd,reduceSub,h1],by simp only[↓xP,xQ,xR,xD,flatR,Nat.reduceBEq,reduceAdd,reduceSub]⟩
  · simp only[↓xP,xQ,xR,xD,flatR,Nat.reduceBEq,reduceAdd,reduceSub,h0,h1,h5,hi]
def Answer.Small (x:Answer):Prop:=Entry.Small x.asked∧True
def szAnswerG (x:Answer) (a:Int):Int:=chkZ (szEntryG x.asked a) fun a=>a
theorem szAnswer_ok (c0:Int) (c1:Int) (c2:Int) (c3:Str) (c4:Int) (c5:Int) (c6:Int) (left:Int):EE F 286 [.ag [.u (.int .i64 c0),.u (.int .i64 c1),.u (.int .i64 c2),.u (.str c3),.u (.int .i64 c4),.u (.int .i64 c5),.u (.int .i64 c6)],I left] []=ok1 (I (szAnswerG ⟨⟨c0,c1,⟨c2,c3,c4,c5⟩⟩,c6⟩ left)):=by
  rw [R286,b286]
  simp only[↓xP,xQ,xR,xD,flatR,Nat.reduceBEq,reduceAdd,reduceSub,szEntry_ok]
  repeat' (refine sel_split (fun h=>?_) (fun h=>?_))
  all_goals (simp only[decide_eq_true_eq,decide_eq_false_iff_not] at *; simp [szAnswerG,offZ,chkZ, *])
theorem szAnswer_le (x:Answer) (hf:Answer.Fit x):LeZ (szAnswerG x) (Answer.Small x):=LeZ.chk (szEntry_le _ hf.1) LeZ.id
theorem toAnswer_ok (c0:Int) (c1:Int) (c2:Int) (c3:Str) (c4:Int) (c5:Int) (c6:Int):EE F 292 [.ag [.u (.int .i64 c0),.u (.int .i64 c1),.u (.int .i64 c2),.u (.str c3),.u (.int .i64 c4),.u (.int .i64 c5),.u (.int .i64 c6)]] []=ok1 (.ag [.u (.int .i64 c0),.u (.int .i64 c1),.u (.int .i64 c2),.u (.str c3),.u (.int .i64 c4),.u (.int .i64 c5),.u (.int .i64 c6)]):=by
  rw [R292,b292]
  simp only[↓xP,xQ,xR,xD,flatR,Nat.reduceBEq,reduceAdd,reduceSub,toEntry_ok]
theorem eqAnswer_ok (c0:Int) (c1:Int) (c2:Int) (c3:Str) (c4:Int) (c5:Int) (c6:Int):EE F 90 [.ag [.u (.int .i64 c0),.u (.int .i64 c1),.u (.int .i64 c2),.u (.str c3),.u (.int .i64 c4),.u (.int .i64 c5),.u (.int .i64 c6)],.ag [.u (.int .i64 c0),.u (.int .i64 c1),.u (.int .i64 c2),.u (.str c3),.u (.int .i64 c4),.u (.int .i64 c5),.u (.int .i64 c6)]] []=ok1 (B true):=by
  rw [R90,b90]
  simp only[↓xP,xQ,xR,xD,flatR,Nat.reduceBEq,reduceAdd,reduceSub,eqEntry_ok,ne_eq,not_true_eq_false]
def SmallAnswerS (l:(List Answer)):Prop:=l.length≤1048576∧∀ y,y∈l→Answer.Small y
def szAnswerSG (l:(List Answer)) (left:Int):Int:=offZ left l.length fun a=>allZ szAnswerG l a
theorem szAnswerS_ok (l:(List Answer)) (hf:(l.length≤9223372036854775807∧∀ y,y∈l→Answer.Fit y)) (left:Int):EE F 248 [L 7 (l.map Answer.u),I left] []=ok1 (I (szAnswerSG l left)):=by
  have hl:=hf.1
  rw [R248,b248]
  simp only[↓xP,xQ,xR,xD,flatR,Nat.reduceBEq,reduceAdd,reduceSub]
  refine sel_split (fun h=>?_) (fun h=>?_)
  · simp only[decide_eq_true_eq] at h
    simp [szAnswerSG,offZ,h]
  · refine (loop_ind (fun (a:Nat×Int) st=>st.s 0=DU (.sl 7 (l.map Answer.u))∧st.s 5=DI a.1∧st.s 1=DI a.2) (fun a=>l.length - a.1) (fun a=>ok1 (I (allZ szAnswerG (l.drop a.1) a.2))) ?_ (0,IntKind.i64.wrap (left - l.length)) ⟨by simp only[↓xP,xQ,xR,xD,flatR,Nat.reduceBEq,reduceAdd,reduceSub],by simp only[↓xP,xQ,xR,xD,flatR,Nat.reduceBEq,reduceAdd,reduceSub]; rfl,by simp only[↓xP,xQ,xR,xD,flatR,Nat.reduceBEq,reduceAdd,reduceSub]⟩).trans ?_
    · rintro ⟨i,a⟩ st ⟨h0,h5,h1⟩ ih
      dsimp only at h0 h5 h1 ih ⊢
      by_cases hi:i<l.length
      · obtain ⟨⟨⟨c0,c1,⟨c2,c3,c4,c5⟩⟩,c6⟩,hx⟩:∃ x,l[i]?=some x:=⟨_,List.getElem?_eq_getElem hi⟩
        have hw:=w_succ (i:=i) (by omega)
        have hfx:=hf.2 _ (List.mem_of_getElem? hx)
        simp only[↓xP,xQ,xR,xD,flatR,Nat.reduceBEq,reduceAdd,reduceSub,h0,h5,h1,hi,hx,hw,Answer.u,szAnswer_ok]
        rw [allZ_at hx,chkZ]
        refine sel_split (fun h=>?_) (fun h=>?_)
        · simp only[decide_eq_true_eq] at h
          simp [h]
        · rw [ih (i+1,szAnswerG ⟨⟨c0,c1,⟨c2,c3,c4,c5⟩⟩,c6⟩ a) _ (by dsimp only; omega) ⟨by simp only[↓xP,xQ,xR,xD,flatR,Nat.reduceBEq,reduceAdd,reduceSub,h0],by simp only[↓xP,xQ,xR,xD,flatR,Nat.reduceBEq,reduceAdd,reduceSub],by simp only[↓xP,xQ,xR,xD,flatR,Nat.reduceBEq,reduceAdd,reduceSub]⟩]
          simp only[decide_eq_false_iff_not] at h
          simp [h]
      · simp only[↓xP,xQ,xR,xD,flatR,Nat.reduceBEq,reduceAdd,reduceSub,h0,h5,h1,hi]
        rw [List.drop_of_length_le (by omega)]; rfl
    · simp only[decide_eq_false_iff_not] at h
      simp [szAnswerSG,offZ,h]
theorem szAnswerS_le (l:(List Answer)) (hf:(l.length≤9223372036854775807∧∀ y,y∈l→Answer.Fit y)):LeZ (szAnswerSG l) (SmallAnswerS l):=LeZ.off hf.1 (LeZ.all fun x hx=>szAnswer_le x (hf.2 x hx))
theorem toAnswerS_ok (l:(List Answer)) (hs:SmallAnswerS l):EE F 257 [L 7 (l.map Answer.u)] []=some ⟨[.sc (.own (.par 0) l.length)],[.row 7 (l.map Answer.u)],[]⟩:=by
  have hl:=hs.1
  rw [R257,b257]
  simp only[↓xP,xQ,xR,xD,flatR,Nat.reduceBEq,reduceAdd,reduceSub,mk_ok _ 7 l.length [.int .i64 0,.int .i64 0,.int .i64 0,.str [],.int .i64 0,.int .i64 0,.int .i64 0] 64 (by omega)]
  refine (loop_ind (fun (i:Nat) st=>i≤l.length∧st.s 0=DU (.sl 7 (l.map Answer.u))∧st.s 4=DI i∧st.s 3=.t (.sc (.own (.loc 7 0) l.length))∧st.o (.loc 7 0)=some (.row 7 ((l.take i).map Answer.u++List.replicate (l.length - i) [.int .i64 0,.int .i64 0,.int .i64 0,.str [],.int .i64 0,.int .i64 0,.int .i64 0]))) (fun i=>l.length - i) (fun i=>some ⟨[.sc (.own (.par 0) l.length)],[.row 7 (l.map Answer.u)],[]⟩) ?_ 0 ⟨by omega,by simp only[↓xP,xQ,xR,xD,flatR,Nat.reduceBEq,reduceAdd,reduceSub],by simp only[↓xP,xQ,xR,xD,flatR,Nat.reduceBEq,reduceAdd,reduceSub]; rfl,by simp only[↓xP,xQ,xR,xD,flatR,Nat.reduceBEq,reduceAdd,reduceSub],by simp only[↓xP,xQ,xR,xD,flatR,Nat.reduceBEq,reduceAdd,reduceSub,Nat.sub_zero]⟩)
  rintro i st ⟨hle,h0,h4,h3,ho⟩ ih
  by_cases hi:i<l.length
  · obtain ⟨⟨⟨c0,c1,⟨c2,c3,c4,c5⟩⟩,c6⟩,hx⟩:∃ x,l[i]?=some x:=⟨_,List.getElem?_eq_getElem hi⟩
    have hw:=w_succ (i:=i) (by omega)
    have hg:=fill_get (f:=Answer.u) (z:=[.int .i64 0,.int .i64 0,.int .i64 0,.str [],.int .i64 0,.int .i64 0,.int .i64 0]) hi
    have hf:=fill_set (f:=Answer.u) (z:=[.int .i64 0,.int .i64 0,.int .i64 0,.str [],.int .i64 0,.int .i64 0,.int .i64 0]) hx
    simp only[Answer.u] at hf
    simp only[↓xP,xQ,xR,xD,flatR,Nat.reduceBEq,reduceAdd,reduceSub,h0,h4,h3,ho,hi,hx,hw,hg,hf,Answer.u,toAnswer_ok]
    exact ih (i+1) _ (by omega) ⟨by omega,by simp only[↓xP,xQ,xR,xD,flatR,Nat.reduceBEq,reduceAdd,reduceSub,h0],by simp only[↓xP,xQ,xR,xD,flatR,Nat.reduceBEq,reduceAdd,reduceSub],by simp only[↓xP,xQ,xR,xD,flatR,Nat.reduceBEq,reduceAdd,reduceSub,h3],by simp only[↓xP,xQ,xR,xD,flatR,Nat.reduceBEq,reduceAdd,reduceSub,Answer.u]⟩
  · have:i=l.length:=by omega
    subst this
    rw [fill_all] at ho
    simp only[↓xP,xQ,xR,xD,flatR,Nat.reduceBEq,reduceAdd,reduceSub,h0,h4,h3,ho,hi]
theorem eqAnswerS_ok (l:(List Answer)) (hs:SmallAnswerS l):EE F 37 [L 7 (l.map Answer.u),L 7 (l.map Answer.u)] []=ok1 (B true):=by
  have hl:=hs.1
  rw [R37,b37]
  simp only[↓xP,xQ,xR,xD,flatR,Nat.reduceBEq,reduceAdd,reduceSub,ne_eq,not_true_eq_false]
  refine (loop_ind (fun (i:Nat) st=>st.s 0=DU (.sl 7 (l.map Answer.u))∧st.s 1=DU (.sl 7 (l.map Answer.u))∧st.s 5=DI i) (fun i=>l.length - i) (fun i=>ok1 (B true)) ?_ 0 ⟨by simp only[↓xP,xQ,xR,xD,flatR,Nat.reduceBEq,reduceAdd,reduceSub],by simp only[↓xP,xQ,xR,xD,flatR,Nat.reduceBEq,reduceAdd,reduceSub],by simp only[↓xP,xQ,xR,xD,flatR,Nat.reduceBEq,reduceAdd,reduceSub]; rfl⟩)
  rintro i st ⟨h0,h1,h5⟩ ih
  by_cases hi:i<l.length
  · obtain ⟨⟨⟨c0,c1,⟨c2,c3,c4,c5⟩⟩,c6⟩,hx⟩:∃ x,l[i]?=some x:=⟨_,List.getElem?_eq_getElem hi⟩
    have hw:=w_succ (i:=i) (by omega)
    simp only[↓xP,xQ,xR,xD,flatR,Nat.reduceBEq,reduceAdd,reduceSub,h0,h1,h5,hi,hx,hw,Answer.u,eqAnswer_ok,ne_eq,not_true_eq_false]
    exact ih (i+1) _ (by omega) ⟨by simp only[↓xP,xQ,xR,xD,flatR,Nat.reduceBEq,reduceAdd,reduceSub,h0],by simp only[↓xP,xQ,xR,xD,flatR,Nat.reduceBEq,reduceAdd,reduceSub,h1],by simp only[↓xP,xQ,xR,xD,flatR,Nat.reduceBEq,reduceAdd,reduceSub]⟩
  · simp only[↓xP,xQ,xR,xD,flatR,Nat.reduceBEq,reduceAdd,reduceSub,h0,h1,h5,hi]
def State.Small (x:State):Prop:=Interval.Small x.span∧SmallPairS x.pairs∧SmallSessionS x.known∧x.cut.length≤1048576∧True
def szStateG (x:State) (a:Int):Int:=chkZ (szIntervalG x.span a) fun a=>chkZ (szPairSG x.pairs a) fun a=>chkZ (szSessionSG x.known a) fun a=>offZ a x.cut.length fun a=>a
theorem szState_ok (c0:Str) (c1:Str) (c2:(List Pair)) (c3:(List Session)) (c4:Bool) (c5:Str) (hf:State.Fit ⟨⟨c0,c1⟩,c2,c3,c4,c5⟩) (left:Int):EE F 243 [.ag [.u (.str c0),.u (.str c1),.u (.sl 2 (c2.map Pair.u)),.u (.sl 3 (c3.map Session.u)),.u (.bool c4),.u (.str c5)],I left] []=ok1 (I (szStateG ⟨⟨c0,c1⟩,c2,c3,c4,c5⟩ left)):=by
  rw [R243,b243]
  simp only[↓xP,xQ,xR,xD,flatR,Nat.reduceBEq,reduceAdd,reduceSub,szInterval_ok,szPairS_ok c2 hf.2.1,szSessionS_ok]
  repeat' (refine sel_split (fun h=>?_) (fun h=>?_))
  all_goals (simp only[decide_eq_true_eq,decide_eq_false_iff_not] at *; simp [szStateG,offZ,chkZ, *])
theorem szState_le (x:State) (hf:State.Fit x):LeZ (szStateG x) (State.Small x):=LeZ.chk (szInterval_le _ hf.1) (LeZ.chk (szPairS_le _ hf.2.1) (LeZ.chk (szSessionS_le _ hf.2.2.1) (LeZ.off hf.2.2.2.2 LeZ.id)))
theorem toState_ok (c0:Str) (c1:Str) (c2:(List Pair)) (c3:(List Session)) (c4:Bool) (c5:Str) (hs:State.Small ⟨⟨c0,c1⟩,c2,c3,c4,c5⟩):EE F 252 [.ag [.u (.str c0),.u (.str c1),.u (.sl 2 (c2.map Pair.u)),.u (.sl 3 (c3.map Session.u)),.u (.bool c4),.u (.str c5)]] []=some ⟨[.ag [.u (.str c0),.u (.str c1),.own (.par 0) c2.length,.own (.par 1) c3.length,.u (.bool c4),.u (.str c5)]],[.row 2 (c2.map Pair.u),.row 3 (c3.map Session.u)],[]⟩:=by
  rw [R252,b252]
  simp only[↓xP,xQ,xR,xD,flatR,Nat.reduceBEq,reduceAdd,reduceSub,toInterval_ok,toPairS_ok c2 hs.2.1,toSessionS_ok c3 hs.2.2.1]
theorem eqState_ok (c0:Str) (c1:Str) (c2:(List Pair)) (c3:(List Session)) (c4:Bool) (c5:Str) (hs:State.Small ⟨⟨c0,c1⟩,c2,c3,c4,c5⟩):EE F 100 [.ag [.u (.str c0),.u (.str c1),.u (.sl 2 (c2.map Pair.u)),.u (.sl 3 (c3.map Session.u)),.u (.bool c4),.u (.str c5)],.ag [.u (.str c0),.u (.str c1),.u (.sl 2 (c2.map Pair.u)),.u (.sl 3 (c3.map Session.u)),.u (.bool c4),.u (.str c5)]] []=ok1 (B true):=by
  rw [R100,b100]
  simp only[↓xP,xQ,xR,xD,flatR,Nat.reduceBEq,reduceAdd,reduceSub,eqInterval_ok,eqPairS_ok c2 hs.2.1,eqSessionS_ok c3 hs.2.2.1,ne_eq,not_true_eq_false]
def Piece.Small (x:Piece):Prop:=Interval.Small x.span∧SmallPairS x.pairs∧True
def Config.Small (x:Config):Prop:=SmallIntS x.members∧True
def szConfigG (x:Config) (a:Int):Int:=chkZ (szIntSG x.members a) fun a=>a
theorem szConfig_ok (c0:Int) (c1:(List Int)) (c2:Bool) (left:Int):EE F 244 [.ag [.u (.int .i64 c0),.u (.sl 1 (c1.map iU)),.u (.bool c2)],I left] []=ok1 (I (szConfigG ⟨c0,c1,c2⟩ left)):=by
  rw [R244,b244]
  simp only[↓xP,xQ,xR,xD,flatR,Nat.reduceBEq,reduceAdd,reduceSub,szIntS_ok]
  repeat' (refine sel_split (fun h=>?_) (fun h=>?_))
  all_goals (simp only[decide_eq_true_eq,decide_eq_false_iff_not] at *; simp [szConfigG,offZ,chkZ, *])
theorem szConfig_le (x:Config) (hf:Config.Fit x):LeZ (szConfigG x) (Config.Small x):=LeZ.chk (szIntS_le _ hf.2.1) LeZ.id
theorem toConfig_ok (c0:Int) (c1:(List Int)) (c2:Bool) (hs:Config.Small ⟨c0,c1,c2⟩):EE F 253 [.ag [.u (.int .i64 c0),.u (.sl 1 (c1.map iU)),.u (.bool c2)]] []=some ⟨[.ag [.u (.int .i64 c0),.own (.par 0) c1.length,.u (.bool c2)]],[.row 1 (c1.map iU)],[]⟩:=by
  rw [R253,b253]
  simp only[↓xP,xQ,xR,xD,flatR,Nat.reduceBEq,reduceAdd,reduceSub,toIntS_ok c1 hs.1]
theorem eqConfig_ok (c0:Int) (c1:(List Int)) (c2:Bool) (hs:Config.Small ⟨c0,c1,c2⟩):EE F 262 [.ag [.u (.int .i64 c0),.u (.sl 1 (c1.map iU)),.u (.bool c2)],.ag [.u (.int .i64 c0),.u (.sl 1 (c1.map iU)),.u (.bool c2)]] []=ok1 (B true):=by
  rw [R262,b262]
  simp only[↓xP,xQ,xR,xD,flatR,Nat.reduceBEq,reduceAdd,reduceSub,eqIntS_ok c1 hs.1,ne_eq,not_true_eq_false]
def Event.Small (x:Event):Prop:=Entry.Small x.sent∧True
def Plan.Small (x:Plan):Prop:=x.key.length≤1048576∧True
def szPlanG (x:Plan) (a:Int):Int:=offZ a x.key.length fun a=>a
theorem szPlan_ok (c0:Int) (c1:Int) (c2:Int) (c3:Str) (c4:Int) (c5:Int) (c6:Int) (left:Int):EE F 64 [.ag [.u (.int .i64 c0),.u (.int .i64 c1),.u (.int .i64 c2),.u (.str c3),.u (.int .i64 c4),.u (.int .i64 c5),.u (.int .i64 c6)],I left] []=ok1 (I (szPlanG ⟨c0,c1,c2,c3,c4,c5,c6⟩ left)):=by
  rw [R64,b64]
  simp only[↓xP,xQ,xR,xD,flatR,Nat.reduceBEq,reduceAdd,reduceSub]
  repeat' (refine sel_split (fun h=>?_) (fun h=>?_))
  all_goals (simp only[decide_eq_true_eq,decide_eq_false_iff_not] at *; simp [szPlanG,offZ,chkZ, *])
theorem szPlan_le (x:Plan) (hf:Plan.Fit x):LeZ (szPlanG x) (Plan.Small x):=LeZ.off hf.2.2.2.1 LeZ.id
theorem toPlan_ok (c0:Int) (c1:Int) (c2:Int) (c3:Str) (c4:Int) (c5:Int) (c6:Int):EE F 70 [.ag [.u (.int .i64 c0),.u (.int .i64 c1),.u (.int .i64 c2),.u (.str c3),.u (.int .i64 c4),.u (.int .i64 c5),.u (.int .i64 c6)]] []=ok1 (.ag [.u (.int .i64 c0),.u (.int .i64 c1),.u (.int .i64 c2),.u (.str c3),.u (.int .i64 c4),.u (.int .i64 c5),.u (.int .i64 c6)]):=by
  rw [R70,b70]
  simp only[↓xP,xQ,xR,xD,flatR,Nat.reduceBEq,reduceAdd,reduceSub]
theorem eqPlan_ok (c0:Int) (c1:Int) (c2:Int) (c3:Str) (c4:Int) (c5:Int) (c6:Int):EE F 23 [.ag [.u (.int .i64 c0),.u (.int .i64 c1),.u (.int .i64 c2),.u (.str c3),.u (.int .i64 c4),.u (.int .i64 c5),.u (.int .i64 c6)],.ag [.u (.int .i64 c0),.u (.int .i64 c1),.u (.int .i64 c2),.u (.str c3),.u (.int .i64 c4),.u (.int .i64 c5),.u (.int .i64 c6)]] []=ok1 (B true):=by
  rw [R23,b23]
  simp only[↓xP,xQ,xR,xD,flatR,Nat.reduceBEq,reduceAdd,reduceSub,ne_eq,not_true_eq_false]
def Deed.Small (x:Deed):Prop:=Command.Small x.wish∧Event.Small x.inner∧Plan.Small x.work∧True
def Replica.Small (x:Replica):Prop:=Config.Small x.conf∧SmallEntryS x.log∧True
def szReplicaG (x:Replica) (a:Int):Int:=chkZ (szConfigG x.conf a) fun a=>chkZ (szEntrySG x.log a) fun a=>a
theorem szReplica_ok (c0:Int) (c1:(List Int)) (c2:Bool) (c3:Bool) (c4:(List Entry)) (hf:Replica.Fit ⟨⟨c0,c1,c2⟩,c3,c4⟩) (left:Int):EE F 284 [.ag [.u (.int .i64 c0),.u (.sl 1 (c1.map iU)),.u (.bool c2),.u (.bool c3),.u (.sl 6 (c4.map Entry.u))],I left] []=ok1 (I (szReplicaG ⟨⟨c0,c1,c2⟩,c3,c4⟩ left)):=by
  rw [R284,b284]
  simp only[↓xP,xQ,xR,xD,flatR,Nat.reduceBEq,reduceAdd,reduceSub,szConfig_ok,szEntryS_ok c4 hf.2.2]
  repeat' (refine sel_split (fun h=>?_) (fun h=>?_))
  all_goals (simp only[decide_eq_true_eq,decide_eq_false_iff_not] at *; simp [szReplicaG,offZ,chkZ, *])
theorem szReplica_le (x:Replica) (hf:Replica.Fit x):LeZ (szReplicaG x) (Replica.Small x):=LeZ.chk (szConfig_le _ hf.1) (LeZ.chk (szEntryS_le _ hf.2.2) LeZ.id)
theorem toReplica_ok (c0:Int) (c1:(List Int)) (c2:Bool) (c3:Bool) (c4:(List Entry)) (hs:Replica.Small ⟨⟨c0,c1,c2⟩,c3,c4⟩):EE F 290 [.ag [.u (.int .i64 c0),.u (.sl 1 (c1.map iU)),.u (.bool c2),.u (.bool c3),.u (.sl 6 (c4.map Entry.u))]] []=some ⟨[.ag [.u (.int .i64 c0),.own (.par 0) c1.length,.u (.bool c2),.u (.bool c3),.own (.par 1) c4.length]],[.row 1 (c1.map iU),.row 6 (c4.map Entry.u)],[]⟩:=by
  rw [R290,b290]
  simp only[↓xP,xQ,xR,xD,flatR,Nat.reduceBEq,reduceAdd,reduceSub,toConfig_ok c0 c1 c2 hs.1,toEntryS_ok c4 hs.2.1]
theorem eqReplica_ok (c0:Int) (c1:(List Int)) (c2:Bool) (c3:Bool) (c4:(List Entry)) (hs:Replica.Small ⟨⟨c0,c1,c2⟩,c3,c4⟩):EE F 293 [.ag [.u (.int .i64 c0),.u (.sl 1 (c1.map iU)),.u (.bool c2),.u (.bool c3),.u (.sl 6 (c4.map Entry.u))],.ag [.u (.int .i64 c0),.u (.sl 1 (c1.map iU)),.u (.bool c2),.u (.bool c3),.u (.sl 6 (c4.map Entry.u))]] []=ok1 (B true):=by
  rw [R293,b293]
  simp only[↓xP,xQ,xR,xD,flatR,Nat.reduceBEq,reduceAdd,reduceSub,eqConfig_ok c0 c1 c2 hs.1,eqEntryS_ok c4 hs.2.1,ne_eq,not_true_eq_false]
def SmallReplicaS (l:(List Replica)):Prop:=l.length≤1048576∧∀ y,y∈l→Replica.Small y
def szReplicaSG (l:(List Replica)) (left:Int):Int:=offZ left l.length fun a=>allZ szReplicaG l a
theorem szReplicaS_ok (l:(List Replica)) (hf:(l.length≤9223372036854775807∧∀ y,y∈l→Replica.Fit y)) (left:Int):EE F 245 [L 5 (l.map Replica.u),I left] []=ok1 (I (szReplicaSG l left)):=by
  have hl:=hf.1
  rw [R245,b245]
  simp only[↓xP,xQ,xR,xD,flatR,Nat.reduceBEq,reduceAdd,reduceSub]
  refine sel_split (fun h=>?_) (fun h=>?_)
  · simp only[decide_eq_true_eq] at h
    simp [szReplicaSG,offZ,h]
  · refine (loop_ind (fun (a:Nat×Int) st=>st.s 0=DU (.sl 5 (l.map Replica.u))∧st.s 5=DI a.1∧st.s 1=DI a.2) (fun a=>l.length - a.1) (fun a=>ok1 (I (allZ szReplicaG (l.drop a.1) a.2))) ?_ (0,IntKind.i64.wrap (left - l.length)) ⟨by simp only[↓xP,xQ,xR,xD,flatR,Nat.reduceBEq,reduceAdd,reduceSub],by simp only[↓xP,xQ,xR,xD,flatR,Nat.reduceBEq,reduceAdd,reduceSub]; rfl,by simp only[↓xP,xQ,xR,xD,flatR,Nat.reduceBEq,reduceAdd,reduceSub]⟩).trans ?_
    · rintro ⟨i,a⟩ st ⟨h0,h5,h1⟩ ih
      dsimp only at h0 h5 h1 ih ⊢
      by_cases hi:i<l.length
      · obtain ⟨⟨⟨c0,c1,c2⟩,c3,c4⟩,hx⟩:∃ x,l[i]?=some x:=⟨_,List.getElem?_eq_getElem hi⟩
        have hw:=w_succ (i:=i) (by omega)
        have hfx:=hf.2 _ (List.mem_of_getElem? hx)
        simp only[↓xP,xQ,xR,xD,flatR,Nat.reduceBEq,reduceAdd,reduceSub,h0,h5,h1,hi,hx,hw,Replica.u,szReplica_ok c0 c1 c2 c3 c4 hfx]
        rw [allZ_at hx,chkZ]
        refine sel_split (fun h=>?_) (fun h=>?_)
        · simp only[decide_eq_true_eq] at h
          simp [h]
        · rw [ih (i+1,szReplicaG ⟨⟨c0,c1,c2⟩,c3,c4⟩ a) _ (by dsimp only; omega) ⟨by simp only[↓xP,xQ,xR,xD,flatR,Nat.reduceBEq,reduceAdd,reduceSub,h0],by simp only[↓xP,xQ,xR,xD,flatR,Nat.reduceBEq,reduceAdd,reduceSub],by simp only[↓xP,xQ,xR,xD,flatR,Nat.reduceBEq,reduceAdd,reduceSub]⟩]
          simp only[decide_eq_false_iff_not] at h
          simp [h]
      · simp only[↓xP,xQ,xR,xD,flatR,Nat.reduceBEq,reduceAdd,reduceSub,h0,h5,h1,hi]
        rw [List.drop_of_length_le (by omega)]; rfl
    · simp only[decide_eq_false_iff_not] at h
      simp [szReplicaSG,offZ,h]
theorem szReplicaS_le (l:(List Replica)) (hf:(l.length≤9223372036854775807∧∀ y,y∈l→Replica.Fit y)):LeZ (szReplicaSG l) (SmallReplicaS l):=LeZ.off hf.1 (LeZ.all fun x hx=>szReplica_le x (hf.2 x hx))
theorem toReplicaS_ok (l:(List Replica)) (hs:SmallReplicaS l):EE F 254 [L 5 (l.map Replica.u)] []=some ⟨[.sc (.down (.par 0) l.length)],[.deep 5 (l.map Replica.u)],[]⟩:=by
  have hl:=hs.1
  rw [R254,b254]
  simp only[↓xP,xQ,xR,xD,flatR,Nat.reduceBEq,reduceAdd,reduceSub,mkd_ok _ 7 l.length [.int .i64 0,.sl 1 [],.bool false,.bool false,.sl 6 []] 72 (by omega) rfl]
  refine (loop_ind (fun (i:Nat) st=>i≤l.length∧st.s 0=DU (.sl 5 (l.map Replica.u))∧st.s 4=DI i∧st.s 3=.t (.sc (.down (.loc 7 0) l.length))∧st.o (.loc 7 0)=some (.deep 5 ((l.take i).map Replica.u++List.replicate (l.length - i) [.int .i64 0,.sl 1 [],.bool false,.bool false,.sl 6 []]))) (fun i=>l.length - i) (fun i=>some ⟨[.sc (.down (.par 0) l.length)],[.deep 5 (l.map Replica.u)],[]⟩) ?_ 0 ⟨by omega,by simp only[↓xP,xQ,xR,xD,flatR,Nat.reduceBEq,reduceAdd,reduceSub],by simp only[↓xP,xQ,xR,xD,flatR,Nat.reduceBEq,reduceAdd,reduceSub]; rfl,by simp only[↓xP,xQ,xR,xD,flatR,Nat.reduceBEq,reduceAdd,reduceSub],by simp only[↓xP,xQ,xR,xD,flatR,Nat.reduceBEq,reduceAdd,reduceSub,Nat.sub_zero]⟩)
  rintro i st ⟨hle,h0,h4,h3,ho⟩ ih
  by_cases hi:i<l.length
  · obtain ⟨⟨⟨c0,c1,c2⟩,c3,c4⟩,hx⟩:∃ x,l[i]?=some x:=⟨_,List.getElem?_eq_getElem hi⟩
    have hw:=w_succ (i:=i) (by omega)
    have hg:=fill_get (f:=Replica.u) (z:=[.int .i64 0,.sl 1 [],.bool false,.bool false,.sl 6 []]) hi
    have hf:=fill_set (f:=Replica.u) (z:=[.int .i64 0,.sl 1 [],.bool false,.bool false,.sl 6 []]) hx
    simp only[Replica.u] at hf
    have hsx:=hs.2 _ (List.mem_of_getElem? hx)
    simp only[↓xP,xQ,xR,xD,flatR,Nat.reduceBEq,reduceAdd,reduceSub,h0,h4,h3,ho,hi,hx,hw,hg,hf,Replica.u,toReplica_ok c0 c1 c2 c3 c4 hsx]
    exact ih (i+1) _ (by omega) ⟨by omega,by simp only[↓xP,xQ,xR,xD,flatR,Nat.reduceBEq,reduceAdd,reduceSub,h0],by simp only[↓xP,xQ,xR,xD,flatR,Nat.reduceBEq,reduceAdd,reduceSub],by simp only[↓xP,xQ,xR,xD,flatR,Nat.reduceBEq,reduceAdd,reduceSub,h3],by simp only[↓xP,xQ,xR,xD,flatR,Nat.reduceBEq,reduceAdd,reduceSub,Replica.u]⟩
  · have:i=l.length:=by omega
    subst this
    rw [fill_all] at ho
    simp only[↓xP,xQ,xR,xD,flatR,Nat.reduceBEq,reduceAdd,reduceSub,h0,h4,h3,ho,hi]
theorem eqReplicaS_ok (l:(List Replica)) (hs:SmallReplicaS l):EE F 263 [L 5 (l.map Replica.u),L 5 (l.map Replica.u)] []=ok1 (B true):=by
  have hl:=hs.1
  rw [R263,b263]
  simp only[↓xP,xQ,xR,xD,flatR,Nat.reduceBEq,reduceAdd,reduceSub,ne_eq,not_true_eq_false]
  refine (loop_ind (fun (i:Nat) st=>st.s 0=DU (.sl 5 (l.map Replica.u))∧st.s 1=DU (.sl 5 (l.map Replica.u))∧st.s 5=DI i) (fun i=>l.length - i) (fun i=>ok1 (B true)) ?_ 0 ⟨by simp only[↓xP,xQ,xR,xD,flatR,Nat.reduceBEq,reduceAdd,reduceSub],by simp only[↓xP,xQ,xR,xD,flatR,Nat.reduceBEq,reduceAdd,reduceSub],by simp only[↓xP,xQ,xR,xD,flatR,Nat.reduceBEq,reduceAdd,reduceSub]; rfl⟩)
  rintro i st ⟨h0,h1,h5⟩ ih
  by_cases hi:i<l.length
  · obtain ⟨⟨⟨c0,c1,c2⟩,c3,c4⟩,hx⟩:∃ x,l[i]?=some x:=⟨_,List.getElem?_eq_getElem hi⟩
    have hw:=w_succ (i:=i) (by omega)
    have hsx:=hs.2 _ (List.mem_of_getElem? hx)
    simp only[↓xP,xQ,xR,xD,flatR,Nat.reduceBEq,reduceAdd,reduceSub,h0,h1,h5,hi,hx,hw,Replica.u,eqReplica_ok c0 c1 c2 c3 c4 hsx,ne_eq,not_true_eq_false]
    exact ih (i+1) _ (by omega) ⟨by simp only[↓xP,xQ,xR,xD,flatR,Nat.reduceBEq,reduceAdd,reduceSub,h0],by simp only[↓xP,xQ,xR,xD,flatR,Nat.reduceBEq,reduceAdd,reduceSub,h1],by simp only[↓xP,xQ,xR,xD,flatR,Nat.reduceBEq,reduceAdd,reduceSub]⟩
  · simp only[↓xP,xQ,xR,xD,flatR,Nat.reduceBEq,reduceAdd,reduceSub,h0,h1,h5,hi]
def Message.Small (x:Message):Prop:=Config.Small x.conf∧SmallEntryS x.log∧True
def szMessageG (x:Message) (a:Int):Int:=chkZ (szConfigG x.conf a) fun a=>chkZ (szEntrySG x.log a) fun a=>a
theorem szMessage_ok (c0:Int) (c1:Int) (c2:Int) (c3:Int) (c4:(List Int)) (c5:Bool) (c6:(List Entry)) (hf:Message.Fit ⟨c0,c1,c2,⟨c3,c4,c5⟩,c6⟩) (left:Int):EE F 285 [.ag [.u (.int .i64 c0),.u (.int .i64 c1),.u (.int .i64 c2),.u (.int .i64 c3),.u (.sl 1 (c4.map iU)),.u (.bool c5),.u (.sl 6 (c6.map Entry.u))],I left] []=ok1 (I (szMessageG ⟨c0,c1,c2,⟨c3,c4,c5⟩,c6⟩ left)):=by
  rw [R285,b285]
  simp only[↓xP,xQ,xR,xD,flatR,Nat.reduceBEq,reduceAdd,reduceSub,szConfig_ok,szEntryS_ok c6 hf.2.2.2.2]
  repeat' (refine sel_split (fun h=>?_) (fun h=>?_))
  all_goals (simp only[decide_eq_true_eq,decide_eq_false_iff_not] at *; simp [szMessageG,offZ,chkZ, *])
theorem szMessage_le (x:Message) (hf:Message.Fit x):LeZ (szMessageG x) (Message.Small x):=LeZ.chk (szConfig_le _ hf.2.2.2.1) (LeZ.chk (szEntryS_le _ hf.2.2.2.2) LeZ.id)
theorem toMessage_ok (c0:Int) (c1:Int) (c2:Int) (c3:Int) (c4:(List Int)) (c5:Bool) (c6:(List Entry)) (hs:Message.Small ⟨c0,c1,c2,⟨c3,c4,c5⟩,c6⟩):EE F 291 [.ag [.u (.int .i64 c0),.u (.int .i64 c1),.u (.int .i64 c2),.u (.int .i64 c3),.u (.sl 1 (c4.map iU)),.u (.bool c5),.u (.sl 6 (c6.map Entry.u))]] []=some ⟨[.ag [.u (.int .i64 c0),.u (.int .i64 c1),.u (.int .i64 c2),.u (.int .i64 c3),.own (.par 0) c4.length,.u (.bool c5),.own (.par 1) c6.length]],[.row 1 (c4.map iU),.row 6 (c6.map Entry.u)],[]⟩:=by
  rw [R291,b291]
  simp only[↓xP,xQ,xR,xD,flatR,Nat.reduceBEq,reduceAdd,reduceSub,toConfig_ok c3 c4 c5 hs.1,toEntryS_ok c6 hs.2.1]
theorem eqMessage_ok (c0:Int) (c1:Int) (c2:Int) (c3:Int) (c4:(List Int)) (c5:Bool) (c6:(List Entry)) (hs:Message.Small ⟨c0,c1,c2,⟨c3,c4,c5⟩,c6⟩):EE F 294 [.ag [.u (.int .i64 c0),.u (.int .i64 c1),.u (.int .i64 c2),.u (.int .i64 c3),.u (.sl 1 (c4.map iU)),.u (.bool c5),.u (.sl 6 (c6.map Entry.u))],.ag [.u (.int .i64 c0),.u (.int .i64 c1),.u (.int .i64 c2),.u (.int .i64 c3),.u (.sl 1 (c4.map iU)),.u (.bool c5),.u (.sl 6 (c6.map Entry.u))]] []=ok1 (B true):=by
  rw [R294,b294]
  simp only[↓xP,xQ,xR,xD,flatR,Nat.reduceBEq,reduceAdd,reduceSub,eqConfig_ok c3 c4 c5 hs.1,eqEntryS_ok c6 hs.2.1,ne_eq,not_true_eq_false]
def SmallMessageS (l:(List Message)):Prop:=l.length≤1048576∧∀ y,y∈l→Message.Small y
def szMessageSG (l:(List Message)) (left:Int):Int:=offZ left l.length fun a=>allZ szMessageG l a
theorem szMessageS_ok (l:(List Message)) (hf:(l.length≤9223372036854775807∧∀ y,y∈l→Message.Fit y)) (left:Int):EE F 247 [L 7 (l.map Message.u),I left] []=ok1 (I (szMessageSG l left)):=by
  have hl:=hf.1
  rw [R247,b247]
  simp only[↓xP,xQ,xR,xD,flatR,Nat.reduceBEq,reduceAdd,reduceSub]
  refine sel_split (fun h=>?_) (fun h=>?_)
  · simp only[decide_eq_true_eq] at h
    simp [szMessageSG,offZ,h]
  · refine (loop_ind (fun (a:Nat×Int) st=>st.s 0=DU (.sl 7 (l.map Message.u))∧st.s 5=DI a.1∧st.s 1=DI a.2) (fun a=>l.length - a.1) (fun a=>ok1 (I (allZ szMessageG (l.drop a.1) a.2))) ?_ (0,IntKind.i64.wrap (left - l.length)) ⟨by simp only[↓xP,xQ,xR,xD,flatR,Nat.reduceBEq,reduceAdd,reduceSub],by simp only[↓xP,xQ,xR,xD,flatR,Nat.reduceBEq,reduceAdd,reduceSub]; rfl,by simp only[↓xP,xQ,xR,xD,flatR,Nat.reduceBEq,reduceAdd,reduceSub]⟩).trans ?_
    · rintro ⟨i,a⟩ st ⟨h0,h5,h1⟩ ih
      dsimp only at h0 h5 h1 ih ⊢
      by_cases hi:i<l.length
      · obtain ⟨⟨c0,c1,c2,⟨c3,c4,c5⟩,c6⟩,hx⟩:∃ x,l[i]?=some x:=⟨_,List.getElem?_eq_getElem hi⟩
        have hw:=w_succ (i:=i) (by omega)
        have hfx:=hf.2 _ (List.mem_of_getElem? hx)
        simp only[↓xP,xQ,xR,xD,flatR,Nat.reduceBEq,reduceAdd,reduceSub,h0,h5,h1,hi,hx,hw,Message.u,szMessage_ok c0 c1 c2 c3 c4 c5 c6 hfx]
        rw [allZ_at hx,chkZ]
        refine sel_split (fun h=>?_) (fun h=>?_)
        · simp only[decide_eq_true_eq] at h
          simp [h]
        · rw [ih (i+1,szMessageG ⟨c0,c1,c2,⟨c3,c4,c5⟩,c6⟩ a) _ (by dsimp only; omega) ⟨by simp only[↓xP,xQ,xR,xD,flatR,Nat.reduceBEq,reduceAdd,reduceSub,h0],by simp only[↓xP,xQ,xR,xD,flatR,Nat.reduceBEq,reduceAdd,reduceSub],by simp only[↓xP,xQ,xR,xD,flatR,Nat.reduceBEq,reduceAdd,reduceSub]⟩]
          simp only[decide_eq_false_iff_not] at h
          simp [h]
      · simp only[↓xP,xQ,xR,xD,flatR,Nat.reduceBEq,reduceAdd,reduceSub,h0,h5,h1,hi]
        rw [List.drop_of_length_le (by omega)]; rfl
    · simp only[decide_eq_false_iff_not] at h
      simp [szMessageSG,offZ,h]
theorem szMessageS_le (l:(List Message)) (hf:(l.length≤9223372036854775807∧∀ y,y∈l→Message.Fit y)):LeZ (szMessageSG l) (SmallMessageS l):=LeZ.off hf.1 (LeZ.all fun x hx=>szMessage_le x (hf.2 x hx))
theorem toMessageS_ok (l:(List Message)) (hs:SmallMessageS l):EE F 256 [L 7 (l.map Message.u)] []=some ⟨[.sc (.down (.par 0) l.length)],[.deep 7 (l.map Message.u)],[]⟩:=by
  have hl:=hs.1
  rw [R256,b256]
  simp only[↓xP,xQ,xR,xD,flatR,Nat.reduceBEq,reduceAdd,reduceSub,mkd_ok _ 7 l.length [.int .i64 0,.int .i64 0,.int .i64 0,.int .i64 0,.sl 1 [],.bool false,.sl 6 []] 88 (by omega) rfl]
  refine (loop_ind (fun (i:Nat) st=>i≤l.length∧st.s 0=DU (.sl 7 (l.map Message.u))∧st.s 4=DI i∧st.s 3=.t (.sc (.down (.loc 7 0) l.length))∧st.o (.loc 7 0)=some (.deep 7 ((l.take i).map Message.u++List.replicate (l.length - i) [.int .i64 0,.int .i64 0,.int .i64 0,.int .i64 0,.sl 1 [],.bool false,.sl 6 []]))) (fun i=>l.length - i) (fun i=>some ⟨[.sc (.down (.par 0) l.length)],[.deep 7 (l.map Message.u)],[]⟩) ?_ 0 ⟨by omega,by simp only[↓xP,xQ,xR,xD,flatR,Nat.reduceBEq,reduceAdd,reduceSub],by simp only[↓xP,xQ,xR,xD,flatR,Nat.reduceBEq,reduceAdd,reduceSub]; rfl,by simp only[↓xP,xQ,xR,xD,flatR,Nat.reduceBEq,reduceAdd,reduceSub],by simp only[↓xP,xQ,xR,xD,flatR,Nat.reduceBEq,reduceAdd,reduceSub,Nat.sub_zero]⟩)
  rintro i st ⟨hle,h0,h4,h3,ho⟩ ih
  by_cases hi:i<l.length
  · obtain ⟨⟨c0,c1,c2,⟨c3,c4,c5⟩,c6⟩,hx⟩:∃ x,l[i]?=some x:=⟨_,List.getElem?_eq_getElem hi⟩
    have hw:=w_succ (i:=i) (by omega)
    have hg:=fill_get (f:=Message.u) (z:=[.int .i64 0,.int .i64 0,.int .i64 0,.int .i64 0,.sl 1 [],.bool false,.sl 6 []]) hi
    have hf:=fill_set (f:=Message.u) (z:=[.int .i64 0,.int .i64 0,.int .i64 0,.int .i64 0,.sl 1 [],.bool false,.sl 6 []]) hx
    simp only[Message.u] at hf
    have hsx:=hs.2 _ (List.mem_of_getElem? hx)
    simp only[↓xP,xQ,xR,xD,flatR,Nat.reduceBEq,reduceAdd,reduceSub,h0,h4,h3,ho,hi,hx,hw,hg,hf,Message.u,toMessage_ok c0 c1 c2 c3 c4 c5 c6 hsx]
    exact ih (i+1) _ (by omega) ⟨by omega,by simp only[↓xP,xQ,xR,xD,flatR,Nat.reduceBEq,reduceAdd,reduceSub,h0],by simp only[↓xP,xQ,xR,xD,flatR,Nat.reduceBEq,reduceAdd,reduceSub],by simp only[↓xP,xQ,xR,xD,flatR,Nat.reduceBEq,reduceAdd,reduceSub,h3],by simp only[↓xP,xQ,xR,xD,flatR,Nat.reduceBEq,reduceAdd,reduceSub,Message.u]⟩
  · have:i=l.length:=by omega
    subst this
    rw [fill_all] at ho
    simp only[↓xP,xQ,xR,xD,flatR,Nat.reduceBEq,reduceAdd,reduceSub,h0,h4,h3,ho,hi]
theorem eqMessageS_ok (l:(List Message)) (hs:SmallMessageS l):EE F 265 [L 7 (l.map Message.u),L 7 (l.map Message.u)] []=ok1 (B true):=by
  have hl:=hs.1
  rw [R265,b265]
  simp only[↓xP,xQ,xR,xD,flatR,Nat.reduceBEq,reduceAdd,reduceSub,ne_eq,not_true_eq_false]
  refine (loop_ind (fun (i:Nat) st=>st.s 0=DU (.sl 7 (l.map Message.u))∧st.s 1=DU (.sl 7 (l.map Message.u))∧st.s 5=DI i) (fun i=>l.length - i) (fun i=>ok1 (B true)) ?_ 0 ⟨by simp only[↓xP,xQ,xR,xD,flatR,Nat.reduceBEq,reduceAdd,reduceSub],by simp only[↓xP,xQ,xR,xD,flatR,Nat.reduceBEq,reduceAdd,reduceSub],by simp only[↓xP,xQ,xR,xD,flatR,Nat.reduceBEq,reduceAdd,reduceSub]; rfl⟩)
  rintro i st ⟨h0,h1,h5⟩ ih
  by_cases hi:i<l.length
  · obtain ⟨⟨c0,c1,c2,⟨c3,c4,c5⟩,c6⟩,hx⟩:∃ x,l[i]?=some x:=⟨_,List.getElem?_eq_getElem hi⟩
    have hw:=w_succ (i:=i) (by omega)
    have hsx:=hs.2 _ (List.mem_of_getElem? hx)
    simp only[↓xP,xQ,xR,xD,flatR,Nat.reduceBEq,reduceAdd,reduceSub,h0,h1,h5,hi,hx,hw,Message.u,eqMessage_ok c0 c1 c2 c3 c4 c5 c6 hsx,ne_eq,not_true_eq_false]
    exact ih (i+1) _ (by omega) ⟨by simp only[↓xP,xQ,xR,xD,flatR,Nat.reduceBEq,reduceAdd,reduceSub,h0],by simp only[↓xP,xQ,xR,xD,flatR,Nat.reduceBEq,reduceAdd,reduceSub,h1],by simp only[↓xP,xQ,xR,xD,flatR,Nat.reduceBEq,reduceAdd,reduceSub]⟩
  · simp only[↓xP,xQ,xR,xD,flatR,Nat.reduceBEq,reduceAdd,reduceSub,h0,h1,h5,hi]
def Chain.Small (x:Chain):Prop:=State.Small x.base∧Config.Small x.conf∧SmallReplicaS x.nodes∧SmallBoolS x.up∧SmallMessageS x.bag∧SmallAnswerS x.answers∧True
def szChainG (x:Chain) (a:Int):Int:=chkZ (szStateG x.base a) fun a=>chkZ (szConfigG x.conf a) fun a=>chkZ (szReplicaSG x.nodes a) fun a=>chkZ (szBoolSG x.up a) fun a=>chkZ (szMessageSG x.bag a) fun a=>chkZ (szAnswerSG x.answers a) fun a=>a
theorem szChain_ok (c0:Str) (c1:Str) (c2:(List Pair)) (c3:(List Session)) (c4:Bool) (c5:Str) (c6:Int) (c7:(List Int)) (c8:Bool) (c9:(List Replica)) (c10:(List Bool)) (c11:(List Message)) (c12:(List Answer)) (hf:Chain.Fit ⟨⟨⟨c0,c1⟩,c2,c3,c4,c5⟩,⟨c6,c7,c8⟩,c9,c10,c11,c12⟩) (left:Int):EE F 183 [.ag [.u (.str c0),.u (.str c1),.u (.sl 2 (c2.map Pair.u)),.u (.sl 3 (c3.map Session.u)),.u (.bool c4),.u (.str c5),.u (.int .i64 c6),.u (.sl 1 (c7.map iU)),.u (.bool c8),.u (.sl 5 (c9.map Replica.u)),.u (.sl 1 (c10.map bU)),.u (.sl 7 (c11.map Message.u)),.u (.sl 7 (c12.map Answer.u))],I left] []=ok1 (I (szChainG ⟨⟨⟨c0,c1⟩,c2,c3,c4,c5⟩,⟨c6,c7,c8⟩,c9,c10,c11,c12⟩ left)):=by
  rw [R183,b183]
  simp only[↓xP,xQ,xR,xD,flatR,Nat.reduceBEq,reduceAdd,reduceSub,szState_ok c0 c1 c2 c3 c4 c5 hf.1,szConfig_ok,szReplicaS_ok c9 hf.2.2.1,szBoolS_ok,szMessageS_ok c11 hf.2.2.2.2.1,szAnswerS_ok c12 hf.2.2.2.2.2]
  repeat' (refine sel_split (fun h=>?_) (fun h=>?_))
  all_goals (simp only[decide_eq_true_eq,decide_eq_false_iff_not] at *; simp [szChainG,offZ,chkZ, *])
theorem szChain_le (x:Chain) (hf:Chain.Fit x):LeZ (szChainG x) (Chain.Small x):=LeZ.chk (szState_le _ hf.1) (LeZ.chk (szConfig_le _ hf.2.1) (LeZ.chk (szReplicaS_le _ hf.2.2.1) (LeZ.chk (szBoolS_le _ hf.2.2.2.1) (LeZ.chk (szMessageS_le _ hf.2.2.2.2.1) (LeZ.chk (szAnswerS_le _ hf.2.2.2.2.2) LeZ.id)))))
theorem toChain_ok (c0:Str) (c1:Str) (c2:(List Pair)) (c3:(List Session)) (c4:Bool) (c5:Str) (c6:Int) (c7:(List Int)) (c8:Bool) (c9:(List Replica)) (c10:(List Bool)) (c11:(List Message)) (c12:(List Answer)) (hs:Chain.Small ⟨⟨⟨c0,c1⟩,c2,c3,c4,c5⟩,⟨c6,c7,c8⟩,c9,c10,c11,c12⟩):EE F 191 [.ag [.u (.str c0),.u (.str c1),.u (.sl 2 (c2.map Pair.u)),.u (.sl 3 (c3.map Session.u)),.u (.bool c4),.u (.str c5),.u (.int .i64 c6),.u (.sl 1 (c7.map iU)),.u (.bool c8),.u (.sl 5 (c9.map Replica.u)),.u (.sl 1 (c10.map bU)),.u (.sl 7 (c11.map Message.u)),.u (.sl 7 (c12.map Answer.u))]] []=some ⟨[.ag [.u (.str c0),.u (.str c1),.own (.par 0) c2.length,.own (.par 1) c3.length,.u (.bool c4),.u (.str c5),.u (.int .i64 c6),.own (.par 2) c7.length,.u (.bool c8),.down (.par 3) c9.length,.own (.par 4) c10.length,.down (.par 5) c11.length,.own (.par 6) c12.length]],[.row 2 (c2.map Pair.u),.row 3 (c3.map Session.u),.row 1 (c7.map iU),.deep 5 (c9.map Replica.u),.row 1 (c10.map bU),.deep 7 (c11.map Message.u),.row 7 (c12.map Answer.u)],[]⟩:=by
  rw [R191,b191]
  simp only[↓xP,xQ,xR,xD,flatR,Nat.reduceBEq,reduceAdd,reduceSub,toState_ok c0 c1 c2 c3 c4 c5 hs.1,toConfig_ok c6 c7 c8 hs.2.1,toReplicaS_ok c9 hs.2.2.1,toBoolS_ok c10 hs.2.2.2.1,toMessageS_ok c11 hs.2.2.2.2.1,toAnswerS_ok c12 hs.2.2.2.2.2.1]
theorem eqChain_ok (c0:Str) (c1:Str) (c2:(List Pair)) (c3:(List Session)) (c4:Bool) (c5:Str) (c6:Int) (c7:(List Int)) (c8:Bool) (c9:(List Replica)) (c10:(List Bool)) (c11:(List Message)) (c12:(List Answer)) (hs:Chain.Small ⟨⟨⟨c0,c1⟩,c2,c3,c4,c5⟩,⟨c6,c7,c8⟩,c9,c10,c11,c12⟩):EE F 206 [.ag [.u (.str c0),.u (.str c1),.u (.sl 2 (c2.map Pair.u)),.u (.sl 3 (c3.map Session.u)),.u (.bool c4),.u (.str c5),.u (.int .i64 c6),.u (.sl 1 (c7.map iU)),.u (.bool c8),.u (.sl 5 (c9.map Replica.u)),.u (.sl 1 (c10.map bU)),.u (.sl 7 (c11.map Message.u)),.u (.sl 7 (c12.map Answer.u))],.ag [.u (.str c0),.u (.str c1),.u (.sl 2 (c2.map Pair.u)),.u (.sl 3 (c3.map Session.u)),.u (.bool c4),.u (.str c5),.u (.int .i64 c6),.u (.sl 1 (c7.map iU)),.u (.bool c8),.u (.sl 5 (c9.map Replica.u)),.u (.sl 1 (c10.map bU)),.u (.sl 7 (c11.map Message.u)),.u (.sl 7 (c12.map Answer.u))]] []=ok1 (B true):=by
  rw [R206,b206]
  simp only[↓xP,xQ,xR,xD,flatR,Nat.reduceBEq,reduceAdd,reduceSub,eqState_ok c0 c1 c2 c3 c4 c5 hs.1,eqConfig_ok c6 c7 c8 hs.2.1,eqReplicaS_ok c9 hs.2.2.1,eqBoolS_ok c10 hs.2.2.2.1,eqMessageS_ok c11 hs.2.2.2.2.1,eqAnswerS_ok c12 hs.2.2.2.2.2.1,ne_eq,not_true_eq_false]
def Route.Small (x:Route):Prop:=Interval.Small x.span∧True
def szRouteG (x:Route) (a:Int):Int:=chkZ (szIntervalG x.span a) fun a=>a
theorem szRoute_ok (c0:Int) (c1:Str) (c2:Str) (left:Int):EE F 249 [.ag [.u (.int .i64 c0),.u (.str c1),.u (.str c2)],I left] []=ok1 (I (szRouteG ⟨c0,⟨c1,c2⟩⟩ left)):=by
  rw [R249,b249]
  simp only[↓xP,xQ,xR,xD,flatR,Nat.reduceBEq,reduceAdd,reduceSub,szInterval_ok]
  repeat' (refine sel_split (fun h=>?_) (fun h=>?_))
  all_goals (simp only[decide_eq_true_eq,decide_eq_false_iff_not] at *; simp [szRouteG,offZ,chkZ, *])
theorem szRoute_le (x:Route) (hf:Route.Fit x):LeZ (szRouteG x) (Route.Small x):=LeZ.chk (szInterval_le _ hf.2) LeZ.id
theorem toRoute_ok (c0:Int) (c1:Str) (c2:Str):EE F 258 [.ag [.u (.int .i64 c0),.u (.str c1),.u (.str c2)]] []=ok1 (.ag [.u (.int .i64 c0),.u (.str c1),.u (.str c2)]):=by
  rw [R258,b258]
  simp only[↓xP,xQ,xR,xD,flatR,Nat.reduceBEq,reduceAdd,reduceSub,toInterval_ok]
theorem eqRoute_ok (c0:Int) (c1:Str) (c2:Str):EE F 83 [.ag [.u (.int .i64 c0),.u (.str c1),.u (.str c2)],.ag [.u (.int .i64 c0),.u (.str c1),.u (.str c2)]] []=ok1 (B true):=by
  rw [R83,b83]
  simp only[↓xP,xQ,xR,xD,flatR,Nat.reduceBEq,reduceAdd,reduceSub,eqInterval_ok,ne_eq,not_true_eq_false]
def SmallRouteS (l:(List Route)):Prop:=l.length≤1048576∧∀ y,y∈l→Route.Small y
def szRouteSG (l:(List Route)) (left:Int):Int:=offZ left l.length fun a=>allZ szRouteG l a
theorem szRouteS_ok (l:(List Route)) (hf:(l.length≤9223372036854775807∧∀ y,y∈l→Route.Fit y)) (left:Int):EE F 184 [L 3 (l.map Route.u),I left] []=ok1 (I (szRouteSG l left)):=by
  have hl:=hf.1
  rw [R184,b184]
  simp only[↓xP,xQ,xR,xD,flatR,Nat.reduceBEq,reduceAdd,reduceSub]
  refine sel_split (fun h=>?_) (fun h=>?_)
  · simp only[decide_eq_true_eq] at h
    simp [szRouteSG,offZ,h]
  · refine (loop_ind (fun (a:Nat×Int) st=>st.s 0=DU (.sl 3 (l.map Route.u))∧st.s 5=DI a.1∧st.s 1=DI a.2) (fun a=>l.length - a.1) (fun a=>ok1 (I (allZ szRouteG (l.drop a.1) a.2))) ?_ (0,IntKind.i64.wrap (left - l.length)) ⟨by simp only[↓xP,xQ,xR,xD,flatR,Nat.reduceBEq,reduceAdd,reduceSub],by simp only[↓xP,xQ,xR,xD,flatR,Nat.reduceBEq,reduceAdd,reduceSub]; rfl,by simp only[↓xP,xQ,xR,xD,flatR,Nat.reduceBEq,reduceAdd,reduceSub]⟩).trans ?_
    · rintro ⟨i,a⟩ st ⟨h0,h5,h1⟩ ih
      dsimp only at h0 h5 h1 ih ⊢
      by_cases hi:i<l.length
      · obtain ⟨⟨c0,⟨c1,c2⟩⟩,hx⟩:∃ x,l[i]?=some x:=⟨_,List.getElem?_eq_getElem hi⟩
        have hw:=w_succ (i:=i) (by omega)
        have hfx:=hf.2 _ (List.mem_of_getElem? hx)
        simp only[↓xP,xQ,xR,xD,flatR,Nat.reduceBEq,reduceAdd,reduceSub,h0,h5,h1,hi,hx,hw,Route.u,szRoute_ok]
        rw [allZ_at hx,chkZ]
        refine sel_split (fun h=>?_) (fun h=>?_)
        · simp only[decide_eq_true_eq] at h
          simp [h]
        · rw [ih (i+1,szRouteG ⟨c0,⟨c1,c2⟩⟩ a) _ (by dsimp only; omega) ⟨by simp only[↓xP,xQ,xR,xD,flatR,Nat.reduceBEq,reduceAdd,reduceSub,h0],by simp only[↓xP,xQ,xR,xD,flatR,Nat.reduceBEq,reduceAdd,reduceSub],by simp only[↓xP,xQ,xR,xD,flatR,Nat.reduceBEq,reduceAdd,reduceSub]⟩]
          simp only[decide_eq_false_iff_not] at h
          simp [h]
      · simp only[↓xP,xQ,xR,xD,flatR,Nat.reduceBEq,reduceAdd,reduceSub,h0,h5,h1,hi]
        rw [List.drop_of_length_le (by omega)]; rfl
    · simp only[decide_eq_false_iff_not] at h
      simp [szRouteSG,offZ,h]
theorem szRouteS_le (l:(List Route)) (hf:(l.length≤9223372036854775807∧∀ y,y∈l→Route.Fit y)):LeZ (szRouteSG l) (SmallRouteS l):=LeZ.off hf.1 (LeZ.all fun x hx=>szRoute_le x (hf.2 x hx))
theorem toRouteS_ok (l:(List Route)) (hs:SmallRouteS l):EE F 192 [L 3 (l.map Route.u)] []=some ⟨[.sc (.own (.par 0) l.length)],[.row 3 (l.map Route.u)],[]⟩:=by
  have hl:=hs.1
  rw [R192,b192]
  simp only[↓xP,xQ,xR,xD,flatR,Nat.reduceBEq,reduceAdd,reduceSub,mk_ok _ 7 l.length [.int .i64 0,.str [],.str []] 40 (by omega)]
  refine (loop_ind (fun (i:Nat) st=>i≤l.length∧st.s 0=DU (.sl 3 (l.map Route.u))∧st.s 4=DI i∧st.s 3=.t (.sc (.own (.loc 7 0) l.length))∧st.o (.loc 7 0)=some (.row 3 ((l.take i).map Route.u++List.replicate (l.length - i) [.int .i64 0,.str [],.str []]))) (fun i=>l.length - i) (fun i=>some ⟨[.sc (.own (.par 0) l.length)],[.row 3 (l.map Route.u)],[]⟩) ?_ 0 ⟨by omega,by simp only[↓xP,xQ,xR,xD,flatR,Nat.reduceBEq,reduceAdd,reduceSub],by simp only[↓xP,xQ,xR,xD,flatR,Nat.reduceBEq,reduceAdd,reduceSub]; rfl,by simp only[↓xP,xQ,xR,xD,flatR,Nat.reduceBEq,reduceAdd,reduceSub],by simp only[↓xP,xQ,xR,xD,flatR,Nat.reduceBEq,reduceAdd,reduceSub,Nat.sub_zero]⟩)
  rintro i st ⟨hle,h0,h4,h3,ho⟩ ih
  by_cases hi:i<l.length
  · obtain ⟨⟨c0,⟨c1,c2⟩⟩,hx⟩:∃ x,l[i]?=some x:=⟨_,List.getElem?_eq_getElem hi⟩
    have hw:=w_succ (i:=i) (by omega)
    have hg:=fill_get (f:=Route.u) (z:=[.int .i64 0,.str [],.str []]) hi
    have hf:=fill_set (f:=Route.u) (z:=[.int .i64 0,.str [],.str []]) hx
    simp only[Route.u] at hf
    simp only[↓xP,xQ,xR,xD,flatR,Nat.reduceBEq,reduceAdd,reduceSub,h0,h4,h3,ho,hi,hx,hw,hg,hf,Route.u,toRoute_ok]
    exact ih (i+1) _ (by omega) ⟨by omega,by simp only[↓xP,xQ,xR,xD,flatR,Nat.reduceBEq,reduceAdd,reduceSub,h0],by simp only[↓xP,xQ,xR,xD,flatR,Nat.reduceBEq,reduceAdd,reduceSub],by simp only[↓xP,xQ,xR,xD,flatR,Nat.reduceBEq,reduceAdd,reduceSub,h3],by simp only[↓xP,xQ,xR,xD,flatR,Nat.reduceBEq,reduceAdd,reduceSub,Route.u]⟩
  · have:i=l.length:=by omega
    subst this
    rw [fill_all] at ho
    simp only[↓xP,xQ,xR,xD,flatR,Nat.reduceBEq,reduceAdd,reduceSub,h0,h4,h3,ho,hi]
theorem eqRouteS_ok (l:(List Route)) (hs:SmallRouteS l):EE F 26 [L 3 (l.map Route.u),L 3 (l.map Route.u)] []=ok1 (B true):=by
  have hl:=hs.1
  rw [R26,b26]
  simp only[↓xP,xQ,xR,xD,flatR,Nat.reduceBEq,reduceAdd,reduceSub,ne_eq,not_true_eq_false]
  refine (loop_ind (fun (i:Nat) st=>st.s 0=DU (.sl 3 (l.map Route.u))∧st.s 1=DU (.sl 3 (l.map Route.u))∧st.s 5=DI i) (fun i=>l.length - i) (fun i=>ok1 (B true)) ?_ 0 ⟨by simp only[↓xP,xQ,xR,xD,flatR,Nat.reduceBEq,reduceAdd,reduceSub],by simp only[↓xP,xQ,xR,xD,flatR,Nat.reduceBEq,reduceAdd,reduceSub],by simp only[↓xP,xQ,xR,xD,flatR,Nat.reduceBEq,reduceAdd,reduceSub]; rfl⟩)
  rintro i st ⟨h0,h1,h5⟩ ih
  by_cases hi:i<l.length
  · obtain ⟨⟨c0,⟨c1,c2⟩⟩,hx⟩:∃ x,l[i]?=some x:=⟨_,List.getElem?_eq_getElem hi⟩
    have hw:=w_succ (i:=i) (by omega)
    simp only[↓xP,xQ,xR,xD,flatR,Nat.reduceBEq,reduceAdd,reduceSub,h0,h1,h5,hi,hx,hw,Route.u,eqRoute_ok,ne_eq,not_true_eq_false]
    exact ih (i+1) _ (by omega) ⟨by simp only[↓xP,xQ,xR,xD,flatR,Nat.reduceBEq,reduceAdd,reduceSub,h0],by simp only[↓xP,xQ,xR,xD,flatR,Nat.reduceBEq,reduceAdd,reduceSub,h1],by simp only[↓xP,xQ,xR,xD,flatR,Nat.reduceBEq,reduceAdd,reduceSub]⟩
  · simp only[↓xP,xQ,xR,xD,flatR,Nat.reduceBEq,reduceAdd,reduceSub,h0,h1,h5,hi]
def Caller.Small (x:Caller):Prop:=SmallRouteS x.cache∧Command.Small x.wish∧True
def szCallerG (x:Caller) (a:Int):Int:=chkZ (szRouteSG x.cache a) fun a=>chkZ (szCommandG x.wish a) fun a=>a
theorem szCaller_ok (c0:(List Route)) (c1:Int) (c2:Bool) (c3:Int) (c4:Str) (c5:Int) (c6:Int) (c7:Int) (hf:Caller.Fit ⟨c0,c1,c2,⟨c3,c4,c5,c6⟩,c7⟩) (left:Int):EE F 114 [.ag [.u (.sl 3 (c0.map Route.u)),.u (.int .i64 c1),.u (.bool c2),.u (.int .i64 c3),.u (.str c4),.u (.int .i64 c5),.u (.int .i64 c6),.u (.int .i64 c7)],I left] []=ok1 (I (szCallerG ⟨c0,c1,c2,⟨c3,c4,c5,c6⟩,c7⟩ left)):=by
  rw [R114,b114]
  simp only[↓xP,xQ,xR,xD,flatR,Nat.reduceBEq,reduceAdd,reduceSub,szRouteS_ok c0 hf.1,szCommand_ok]
  repeat' (refine sel_split (fun h=>?_) (fun h=>?_))
  all_goals (simp only[decide_eq_true_eq,decide_eq_false_iff_not] at *; simp [szCallerG,offZ,chkZ, *])
theorem szCaller_le (x:Caller) (hf:Caller.Fit x):LeZ (szCallerG x) (Caller.Small x):=LeZ.chk (szRouteS_le _ hf.1) (LeZ.chk (szCommand_le _ hf.2.2.2.1) LeZ.id)
theorem toCaller_ok (c0:(List Route)) (c1:Int) (c2:Bool) (c3:Int) (c4:Str) (c5:Int) (c6:Int) (c7:Int) (hs:Caller.Small ⟨c0,c1,c2,⟨c3,c4,c5,c6⟩,c7⟩):EE F 122 [.ag [.u (.sl 3 (c0.map Route.u)),.u (.int .i64 c1),.u (.bool c2),.u (.int .i64 c3),.u (.str c4),.u (.int .i64 c5),.u (.int .i64 c6),.u (.int .i64 c7)]] []=some ⟨[.ag [.own (.par 0) c0.length,.u (.int .i64 c1),.u (.bool c2),.u (.int .i64 c3),.u (.str c4),.u (.int .i64 c5),.u (.int .i64 c6),.u (.int .i64 c7)]],[.row 3 (c0.map Route.u)],[]⟩:=by
  rw [R122,b122]
  simp only[↓xP,xQ,xR,xD,flatR,Nat.reduceBEq,reduceAdd,reduceSub,toRouteS_ok c0 hs.1,toCommand_ok]
theorem eqCaller_ok (c0:(List Route)) (c1:Int) (c2:Bool) (c3:Int) (c4:Str) (c5:Int) (c6:Int) (c7:Int) (hs:Caller.Small ⟨c0,c1,c2,⟨c3,c4,c5,c6⟩,c7⟩):EE F 135 [.ag [.u (.sl 3 (c0.map Route.u)),.u (.int .i64 c1),.u (.bool c2),.u (.int .i64 c3),.u (.str c4),.u (.int .i64 c5),.u (.int .i64 c6),.u (.int .i64 c7)],.ag [.u (.sl 3 (c0.map Route.u)),.u (.int .i64 c1),.u (.bool c2),.u (.int .i64 c3),.u (.str c4),.u (.int .i64 c5),.u (.int .i64 c6),.u (.int .i64 c7)]] []=ok1 (B true):=by
  rw [R135,b135]
  simp only[↓xP,xQ,xR,xD,flatR,Nat.reduceBEq,reduceAdd,reduceSub,eqRouteS_ok c0 hs.1,eqCommand_ok,ne_eq,not_true_eq_false]
def SmallCallerS (l:(List Caller)):Prop:=l.length≤1048576∧∀ y,y∈l→Caller.Small y
def szCallerSG (l:(List Caller)) (left:Int):Int:=offZ left l.length fun a=>allZ szCallerG l a
theorem szCallerS_ok (l:(List Caller)) (hf:(l.length≤9223372036854775807∧∀ y,y∈l→Caller.Fit y)) (left:Int):EE F 62 [L 8 (l.map Caller.u),I left] []=ok1 (I (szCallerSG l left)):=by
  have hl:=hf.1
  rw [R62,b62]
  simp only[↓xP,xQ,xR,xD,flatR,Nat.reduceBEq,reduceAdd,reduceSub]
  refine sel_split (fun h=>?_) (fun h=>?_)
  · simp only[decide_eq_true_eq] at h
    simp [szCallerSG,offZ,h]
  · refine (loop_ind (fun (a:Nat×Int) st=>st.s 0=DU (.sl 8 (l.map Caller.u))∧st.s 5=DI a.1∧st.s 1=DI a.2) (fun a=>l.length - a.1) (fun a=>ok1 (I (allZ szCallerG (l.drop a.1) a.2))) ?_ (0,IntKind.i64.wrap (left - l.length)) ⟨by simp only[↓xP,xQ,xR,xD,flatR,Nat.reduceBEq,reduceAdd,reduceSub],by simp only[↓xP,xQ,xR,xD,flatR,Nat.reduceBEq,reduceAdd,reduceSub]; rfl,by simp only[↓xP,xQ,xR,xD,flatR,Nat.reduceBEq,reduceAdd,reduceSub]⟩).trans ?_
    · rintro ⟨i,a⟩ st ⟨h0,h5,h1⟩ ih
      dsimp only at h0 h5 h1 ih ⊢
      by_cases hi:i<l.length
      · obtain ⟨⟨c0,c1,c2,⟨c3,c4,c5,c6⟩,c7⟩,hx⟩:∃ x,l[i]?=some x:=⟨_,List.getElem?_eq_getElem hi⟩
        have hw:=w_succ (i:=i) (by omega)
        have hfx:=hf.2 _ (List.mem_of_getElem? hx)
        simp only[↓xP,xQ,xR,xD,flatR,Nat.reduceBEq,reduceAdd,reduceSub,h0,h5,h1,hi,hx,hw,Caller.u,szCaller_ok c0 c1 c2 c3 c4 c5 c6 c7 hfx]
        rw [allZ_at hx,chkZ]
        refine sel_split (fun h=>?_) (fun h=>?_)
        · simp only[decide_eq_true_eq] at h
          simp [h]
        · rw [ih (i+1,szCallerG ⟨c0,c1,c2,⟨c3,c4,c5,c6⟩,c7⟩ a) _ (by dsimp only; omega) ⟨by simp only[↓xP,xQ,xR,xD,flatR,Nat.reduceBEq,reduceAdd,reduceSub,h0],by simp only[↓xP,xQ,xR,xD,flatR,Nat.reduceBEq,reduceAdd,reduceSub],by simp only[↓xP,xQ,xR,xD,flatR,Nat.reduceBEq,reduceAdd,reduceSub]⟩]
          simp only[decide_eq_false_iff_not] at h
          simp [h]
      · simp only[↓xP,xQ,xR,xD,flatR,Nat.reduceBEq,reduceAdd,reduceSub,h0,h5,h1,hi]
        rw [List.drop_of_length_le (by omega)]; rfl
    · simp only[decide_eq_false_iff_not] at h
      simp [szCallerSG,offZ,h]
theorem szCallerS_le (l:(List Caller)) (hf:(l.length≤9223372036854775807∧∀ y,y∈l→Caller.Fit y)):LeZ (szCallerSG l) (SmallCallerS l):=LeZ.off hf.1 (LeZ.all fun x hx=>szCaller_le x (hf.2 x hx))
theorem toCallerS_ok (l:(List Caller)) (hs:SmallCallerS l):EE F 68 [L 8 (l.map Caller.u)] []=some ⟨[.sc (.down (.par 0) l.length)],[.deep 8 (l.map Caller.u)],[]⟩:=by
  have hl:=hs.1
  rw [R68,b68]
  simp only[↓xP,xQ,xR,xD,flatR,Nat.reduceBEq,reduceAdd,reduceSub,mkd_ok _ 7 l.length [.sl 3 [],.int .i64 0,.bool false,.int .i64 0,.str [],.int .i64 0,.int .i64 0,.int .i64 0] 88 (by omega) rfl]
  refine (loop_ind (fun (i:Nat) st=>i≤l.length∧st.s 0=DU (.sl 8 (l.map Caller.u))∧st.s 4=DI i∧st.s 3=.t (.sc (.down (.loc 7 0) l.length))∧st.o (.loc 7 0)=some (.deep 8 ((l.take i).map Caller.u++List.replicate (l.length - i) [.sl 3 [],.int .i64 0,.bool false,.int .i64 0,.str [],.int .i64 0,.int .i64 0,.int .i64 0]))) (fun i=>l.length - i) (fun i=>some ⟨[.sc (.down (.par 0) l.length)],[.deep 8 (l.map Caller.u)],[]⟩) ?_ 0 ⟨by omega,by simp only[↓xP,xQ,xR,xD,flatR,Nat.reduceBEq,reduceAdd,reduceSub],by simp only[↓xP,xQ,xR,xD,flatR,Nat.reduceBEq,reduceAdd,reduceSub]; rfl,by simp only[↓xP,xQ,xR,xD,flatR,Nat.reduceBEq,reduceAdd,reduceSub],by simp only[↓xP,xQ,xR,xD,flatR,Nat.reduceBEq,reduceAdd,reduceSub,Nat.sub_zero]⟩)
  rintro i st ⟨hle,h0,h4,h3,ho⟩ ih
  by_cases hi:i<l.length
  · obtain ⟨⟨c0,c1,c2,⟨c3,c4,c5,c6⟩,c7⟩,hx⟩:∃ x,l[i]?=some x:=⟨_,List.getElem?_eq_getElem hi⟩
    have hw:=w_succ (i:=i) (by omega)
    have hg:=fill_get (f:=Caller.u) (z:=[.sl 3 [],.int .i64 0,.bool false,.int .i64 0,.str [],.int .i64 0,.int .i64 0,.int .i64 0]) hi
    have hf:=fill_set (f:=Caller.u) (z:=[.sl 3 [],.int .i64 0,.bool false,.int .i64 0,.str [],.int .i64 0,.int .i64 0,.int .i64 0]) hx
    simp only[Caller.u] at hf
    have hsx:=hs.2 _ (List.mem_of_getElem? hx)
    simp only[↓xP,xQ,xR,xD,flatR,Nat.reduceBEq,reduceAdd,reduceSub,h0,h4,h3,ho,hi,hx,hw,hg,hf,Caller.u,toCaller_ok c0 c1 c2 c3 c4 c5 c6 c7 hsx]
    exact ih (i+1) _ (by omega) ⟨by omega,by simp only[↓xP,xQ,xR,xD,flatR,Nat.reduceBEq,reduceAdd,reduceSub,h0],by simp only[↓xP,xQ,xR,xD,flatR,Nat.reduceBEq,reduceAdd,reduceSub],by simp only[↓xP,xQ,xR,xD,flatR,Nat.reduceBEq,reduceAdd,reduceSub,h3],by simp only[↓xP,xQ,xR,xD,flatR,Nat.reduceBEq,reduceAdd,reduceSub,Caller.u]⟩
  · have:i=l.length:=by omega
    subst this
    rw [fill_all] at ho
    simp only[↓xP,xQ,xR,xD,flatR,Nat.reduceBEq,reduceAdd,reduceSub,h0,h4,h3,ho,hi]
theorem eqCallerS_ok (l:(List Caller)) (hs:SmallCallerS l):EE F 74 [L 8 (l.map Caller.u),L 8 (l.map Caller.u)] []=ok1 (B true):=by
  have hl:=hs.1
  rw [R74,b74]
  simp only[↓xP,xQ,xR,xD,flatR,Nat.reduceBEq,reduceAdd,reduceSub,ne_eq,not_true_eq_false]
  refine (loop_ind (fun (i:Nat) st=>st.s 0=DU (.sl 8 (l.map Caller.u))∧st.s 1=DU (.sl 8 (l.map Caller.u))∧st.s 5=DI i) (fun i=>l.length - i) (fun i=>ok1 (B true)) ?_ 0 ⟨by simp only[↓xP,xQ,xR,xD,flatR,Nat.reduceBEq,reduceAdd,reduceSub],by simp only[↓xP,xQ,xR,xD,flatR,Nat.reduceBEq,reduceAdd,reduceSub],by simp only[↓xP,xQ,xR,xD,flatR,Nat.reduceBEq,reduceAdd,reduceSub]; rfl⟩)
  rintro i st ⟨h0,h1,h5⟩ ih
  by_cases hi:i<l.length
  · obtain ⟨⟨c0,c1,c2,⟨c3,c4,c5,c6⟩,c7⟩,hx⟩:∃ x,l[i]?=some x:=⟨_,List.getElem?_eq_getElem hi⟩
    have hw:=w_succ (i:=i) (by omega)
    have hsx:=hs.2 _ (List.mem_of_getElem? hx)
    simp only[↓xP,xQ,xR,xD,flatR,Nat.reduceBEq,reduceAdd,reduceSub,h0,h1,h5,hi,hx,hw,Caller.u,eqCaller_ok c0 c1 c2 c3 c4 c5 c6 c7 hsx,ne_eq,not_true_eq_false]
    exact ih (i+1) _ (by omega) ⟨by simp only[↓xP,xQ,xR,xD,flatR,Nat.reduceBEq,reduceAdd,reduceSub,h0],by simp only[↓xP,xQ,xR,xD,flatR,Nat.reduceBEq,reduceAdd,reduceSub,h1],by simp only[↓xP,xQ,xR,xD,flatR,Nat.reduceBEq,reduceAdd,reduceSub]⟩
  · simp only[↓xP,xQ,xR,xD,flatR,Nat.reduceBEq,reduceAdd,reduceSub,h0,h1,h5,hi]
def Result.Small (x:Result):Prop:=Command.Small x.wish∧True
def szResultG (x:Result) (a:Int):Int:=chkZ (szCommandG x.wish a) fun a=>a
theorem szResult_ok (c0:Int) (c1:Int) (c2:Int) (c3:Str) (c4:Int) (c5:Int) (c6:Int) (c7:Int) (c8:Int) (left:Int):EE F 115 [.ag [.u (.int .i64 c0),.u (.int .i64 c1),.u (.int .i64 c2),.u (.str c3),.u (.int .i64 c4),.u (.int .i64 c5),.u (.int .i64 c6),.u (.int .i64 c7),.u (.int .i64 c8)],I left] []=ok1 (I (szResultG ⟨c0,c1,⟨c2,c3,c4,c5⟩,c6,c7,c8⟩ left)):=by
  rw [R115,b115]
  simp only[↓xP,xQ,xR,xD,flatR,Nat.reduceBEq,reduceAdd,reduceSub,szCommand_ok]
  repeat' (refine sel_split (fun h=>?_) (fun h=>?_))
  all_goals (simp only[decide_eq_true_eq,decide_eq_false_iff_not] at *; simp [szResultG,offZ,chkZ, *])
theorem szResult_le (x:Result) (hf:Result.Fit x):LeZ (szResultG x) (Result.Small x):=LeZ.chk (szCommand_le _ hf.2.2.1) LeZ.id
theorem toResult_ok (c0:Int) (c1:Int) (c2:Int) (c3:Str) (c4:Int) (c5:Int) (c6:Int) (c7:Int) (c8:Int):EE F 123 [.ag [.u (.int .i64 c0),.u (.int .i64 c1),.u (.int .i64 c2),.u (.str c3),.u (.int .i64 c4),.u (.int .i64 c5),.u (.int .i64 c6),.u (.int .i64 c7),.u (.int .i64 c8)]] []=ok1 (.ag [.u (.int .i64 c0),.u (.int .i64 c1),.u (.int .i64 c2),.u (.str c3),.u (.int .i64 c4),.u (.int .i64 c5),.u (.int .i64 c6),.u (.int .i64 c7),.u (.int .i64 c8)]):=by
  rw [R123,b123]
  simp only[↓xP,xQ,xR,xD,flatR,Nat.reduceBEq,reduceAdd,reduceSub,toCommand_ok]
theorem eqResult_ok (c0:Int) (c1:Int) (c2:Int) (c3:Str) (c4:Int) (c5:Int) (c6:Int) (c7:Int) (c8:Int):EE F 136 [.ag [.u (.int .i64 c0),.u (.int .i64 c1),.u (.int .i64 c2),.u (.str c3),.u (.int .i64 c4),.u (.int .i64 c5),.u (.int .i64 c6),.u (.int .i64 c7),.u (.int .i64 c8)],.ag [.u (.int .i64 c0),.u (.int .i64 c1),.u (.int .i64 c2),.u (.str c3),.u (.int .i64 c4),.u (.int .i64 c5),.u (.int .i64 c6),.u (.int .i64 c7),.u (.int .i64 c8)]] []=ok1 (B true):=by
  rw [R136,b136]
  simp only[↓xP,xQ,xR,xD,flatR,Nat.reduceBEq,reduceAdd,reduceSub,eqCommand_ok,ne_eq,not_true_eq_false]
def SmallResultS (l:(List Result)):Prop:=l.length≤1048576∧∀ y,y∈l→Result.Small y
def szResultSG (l:(List Result)) (left:Int):Int:=offZ left l.length fun a=>allZ szResultG l a
theorem szResultS_ok (l:(List Result)) (hf:(l.length≤9223372036854775807∧∀ y,y∈l→Result.Fit y)) (left:Int):EE F 63 [L 9 (l.map Result.u),I left] []=ok1 (I (szResultSG l left)):=by
  have hl:=hf.1
  rw [R63,b63]
  simp only[↓xP,xQ,xR,xD,flatR,Nat.reduceBEq,reduceAdd,reduceSub]
  refine sel_split (fun h=>?_) (fun h=>?_)
  · simp only[decide_eq_true_eq] at h
    simp [szResultSG,offZ,h]
  · refine (loop_ind (fun (a:Nat×Int) st=>st.s 0=DU (.sl 9 (l.map Result.u))∧st.s 5=DI a.1∧st.s 1=DI a.2) (fun a=>l.length - a.1) (fun a=>ok1 (I (allZ szResultG (l.drop a.1) a.2))) ?_ (0,IntKind.i64.wrap (left - l.length)) ⟨by simp only[↓xP,xQ,xR,xD,flatR,Nat.reduceBEq,reduceAdd,reduceSub],by simp only[↓xP,xQ,xR,xD,flatR,Nat.reduceBEq,reduceAdd,reduceSub]; rfl,by simp only[↓xP,xQ,xR,xD,flatR,Nat.reduceBEq,reduceAdd,reduceSub]⟩).trans ?_
    · rintro ⟨i,a⟩ st ⟨h0,h5,h1⟩ ih
      dsimp only at h0 h5 h1 ih ⊢
      by_cases hi:i<l.length
      · obtain ⟨⟨c0,c1,⟨c2,c3,c4,c5⟩,c6,c7,c8⟩,hx⟩:∃ x,l[i]?=some x:=⟨_,List.getElem?_eq_getElem hi⟩
        have hw:=w_succ (i:=i) (by omega)
        have hfx:=hf.2 _ (List.mem_of_getElem? hx)
        simp only[↓xP,xQ,xR,xD,flatR,Nat.reduceBEq,reduceAdd,reduceSub,h0,h5,h1,hi,hx,hw,Result.u,szResult_ok]
        rw [allZ_at hx,chkZ]
        refine sel_split (fun h=>?_) (fun h=>?_)
        · simp only[decide_eq_true_eq] at h
          simp [h]
        · rw [ih (i+1,szResultG ⟨c0,c1,⟨c2,c3,c4,c5⟩,c6,c7,c8⟩ a) _ (by dsimp only; omega) ⟨by simp only[↓xP,xQ,xR,xD,flatR,Nat.reduceBEq,reduceAdd,reduceSub,h0],by simp only[↓xP,xQ,xR,xD,flatR,Nat.reduceBEq,reduceAdd,reduceSub],by simp only[↓xP,xQ,xR,xD,flatR,Nat.reduceBEq,reduceAdd,reduceSub]⟩]
          simp only[decide_eq_false_iff_not] at h
          simp [h]
      · simp only[↓xP,xQ,xR,xD,flatR,Nat.reduceBEq,reduceAdd,reduceSub,h0,h5,h1,hi]
        rw [List.drop_of_length_le (by omega)]; rfl
    · simp only[decide_eq_false_iff_not] at h
      simp [szResultSG,offZ,h]
theorem szResultS_le (l:(List Result)) (hf:(l.length≤9223372036854775807∧∀ y,y∈l→Result.Fit y)):LeZ (szResultSG l) (SmallResultS l):=LeZ.off hf.1 (LeZ.all fun x hx=>szResult_le x (hf.2 x hx))
theorem toResultS_ok (l:(List Result)) (hs:SmallResultS l):EE F 69 [L 9 (l.map Result.u)] []=some ⟨[.sc (.own (.par 0) l.length)],[.row 9 (l.map Result.u)],[]⟩:=by
  have hl:=hs.1
  rw [R69,b69]
  simp only[↓xP,xQ,xR,xD,flatR,Nat.reduceBEq,reduceAdd,reduceSub,mk_ok _ 7 l.length [.int .i64 0,.int .i64 0,.int .i64 0,.str [],.int .i64 0,.int .i64 0,.int .i64 0,.int .i64 0,.int .i64 0] 80 (by omega)]
  refine (loop_ind (fun (i:Nat) st=>i≤l.length∧st.s 0=DU (.sl 9 (l.map Result.u))∧st.s 4=DI i∧st.s 3=.t (.sc (.own (.loc 7 0) l.length))∧st.o (.loc 7 0)=some (.row 9 ((l.take i).map Result.u++List.replicate (l.length - i) [.int .i64 0,.int .i64 0,.int .i64 0,.str [],.int .i64 0,.int .i64 0,.int .i64 0,.int .i64 0,.int .i64 0]))) (fun i=>l.length - i) (fun i=>some ⟨[.sc (.own (.par 0) l.length)],[.row 9 (l.map Result.u)],[]⟩) ?_ 0 ⟨by omega,by simp only[↓xP,xQ,xR,xD,flatR,Nat.reduceBEq,reduceAdd,reduceSub],by simp only[↓xP,xQ,xR,xD,flatR,Nat.reduceBEq,reduceAdd,reduceSub]; rfl,by simp only[↓xP,xQ,xR,xD,flatR,Nat.reduceBEq,reduceAdd,reduceSub],by simp only[↓xP,xQ,xR,xD,flatR,Nat.reduceBEq,reduceAdd,reduceSub,Nat.sub_zero]⟩)
  rintro i st ⟨hle,h0,h4,h3,ho⟩ ih
  by_cases hi:i<l.length
  · obtain ⟨⟨c0,c1,⟨c2,c3,c4,c5⟩,c6,c7,c8⟩,hx⟩:∃ x,l[i]?=some x:=⟨_,List.getElem?_eq_getElem hi⟩
    have hw:=w_succ (i:=i) (by omega)
    have hg:=fill_get (f:=Result.u) (z:=[.int .i64 0,.int .i64 0,.int .i64 0,.str [],.int .i64 0,.int .i64 0,.int .i64 0,.int .i64 0,.int .i64 0]) hi
    have hf:=fill_set (f:=Result.u) (z:=[.int .i64 0,.int .i64 0,.int .i64 0,.str [],.int .i64 0,.int .i64 0,.int .i64 0,.int .i64 0,.int .i64 0]) hx
    simp only[Result.u] at hf
    simp only[↓xP,xQ,xR,xD,flatR,Nat.reduceBEq,reduceAdd,reduceSub,h0,h4,h3,ho,hi,hx,hw,hg,hf,Result.u,toResult_ok]
    exact ih (i+1) _ (by omega) ⟨by omega,by simp only[↓xP,xQ,xR,xD,flatR,Nat.reduceBEq,reduceAdd,reduceSub,h0],by simp only[↓xP,xQ,xR,xD,flatR,Nat.reduceBEq,reduceAdd,reduceSub],by simp only[↓xP,xQ,xR,xD,flatR,Nat.reduceBEq,reduceAdd,reduceSub,h3],by simp only[↓xP,xQ,xR,xD,flatR,Nat.reduceBEq,reduceAdd,reduceSub,Result.u]⟩
  · have:i=l.length:=by omega
    subst this
    rw [fill_all] at ho
    simp only[↓xP,xQ,xR,xD,flatR,Nat.reduceBEq,reduceAdd,reduceSub,h0,h4,h3,ho,hi]
theorem eqResultS_ok (l:(List Result)) (hs:SmallResultS l):EE F 75 [L 9 (l.map Result.u),L 9 (l.map Result.u)] []=ok1 (B true):=by
  have hl:=hs.1
  rw [R75,b75]
  simp only[↓xP,xQ,xR,xD,flatR,Nat.reduceBEq,reduceAdd,reduceSub,ne_eq,not_true_eq_false]
  refine (loop_ind (fun (i:Nat) st=>st.s 0=DU (.sl 9 (l.map Result.u))∧st.s 1=DU (.sl 9 (l.map Result.u))∧st.s 5=DI i) (fun i=>l.length - i) (fun i=>ok1 (B true)) ?_ 0 ⟨by simp only[↓xP,xQ,xR,xD,flatR,Nat.reduceBEq,reduceAdd,reduceSub],by simp only[↓xP,xQ,xR,xD,flatR,Nat.reduceBEq,reduceAdd,reduceSub],by simp only[↓xP,xQ,xR,xD,flatR,Nat.reduceBEq,reduceAdd,reduceSub]; rfl⟩)
  rintro i st ⟨h0,h1,h5⟩ ih
  by_cases hi:i<l.length
  · obtain ⟨⟨c0,c1,⟨c2,c3,c4,c5⟩,c6,c7,c8⟩,hx⟩:∃ x,l[i]?=some x:=⟨_,List.getElem?_eq_getElem hi⟩
    have hw:=w_succ (i:=i) (by omega)
    simp only[↓xP,xQ,xR,xD,flatR,Nat.reduceBEq,reduceAdd,reduceSub,h0,h1,h5,hi,hx,hw,Result.u,eqResult_ok,ne_eq,not_true_eq_false]
    exact ih (i+1) _ (by omega) ⟨by simp only[↓xP,xQ,xR,xD,flatR,Nat.reduceBEq,reduceAdd,reduceSub,h0],by simp only[↓xP,xQ,xR,xD,flatR,Nat.reduceBEq,reduceAdd,reduceSub,h1],by simp only[↓xP,xQ,xR,xD,flatR,Nat.reduceBEq,reduceAdd,reduceSub]⟩
  · simp only[↓xP,xQ,xR,xD,flatR,Nat.reduceBEq,reduceAdd,reduceSub,h0,h1,h5,hi]
def Shard.Small (x:Shard):Prop:=Chain.Small x.group∧True
def szShardG (x:Shard) (a:Int):Int:=chkZ (szChainG x.group a) fun a=>a
theorem szShard_ok (c0:Bool) (c1:Str) (c2:Str) (c3:(List Pair)) (c4:(List Session)) (c5:Bool) (c6:Str) (c7:Int) (c8:(List Int)) (c9:Bool) (c10:(List Replica)) (c11:(List Bool)) (c12:(List Message)) (c13:(List Answer)) (hf:Shard.Fit ⟨c0,⟨⟨⟨c1,c2⟩,c3,c4,c5,c6⟩,⟨c7,c8,c9⟩,c10,c11,c12,c13⟩⟩) (left:Int):EE F 113 [.ag [.u (.bool c0),.u (.str c1),.u (.str c2),.u (.sl 2 (c3.map Pair.u)),.u (.sl 3 (c4.map Session.u)),.u (.bool c5),.u (.str c6),.u (.int .i64 c7),.u (.sl 1 (c8.map iU)),.u (.bool c9),.u (.sl 5 (c10.map Replica.u)),.u (.sl 1 (c11.map bU)),.u (.sl 7 (c12.map Message.u)),.u (.sl 7 (c13.map Answer.u))],I left] []=ok1 (I (szShardG ⟨c0,⟨⟨⟨c1,c2⟩,c3,c4,c5,c6⟩,⟨c7,c8,c9⟩,c10,c11,c12,c13⟩⟩ left)):=by
  rw [R113,b113]
  simp only[↓xP,xQ,xR,xD,flatR,Nat.reduceBEq,reduceAdd,reduceSub,szChain_ok c1 c2 c3 c4 c5 c6 c7 c8 c9 c10 c11 c12 c13 hf.2]
  repeat' (refine sel_split (fun h=>?_) (fun h=>?_))
  all_goals (simp only[decide_eq_true_eq,decide_eq_false_iff_not] at *; simp [szShardG,offZ,chkZ, *])
theorem szShard_le (x:Shard) (hf:Shard.Fit x):LeZ (szShardG x) (Shard.Small x):=LeZ.chk (szChain_le _ hf.2) LeZ.id
theorem toShard_ok (c0:Bool) (c1:Str) (c2:Str) (c3:(List Pair)) (c4:(List Session)) (c5:Bool) (c6:Str) (c7:Int) (c8:(List Int)) (c9:Bool) (c10:(List Replica)) (c11:(List Bool)) (c12:(List Message)) (c13:(List Answer)) (hs:Shard.Small ⟨c0,⟨⟨⟨c1,c2⟩,c3,c4,c5,c6⟩,⟨c7,c8,c9⟩,c10,c11,c12,c13⟩⟩):EE F 121 [.ag [.u (.bool c0),.u (.str c1),.u (.str c2),.u (.sl 2 (c3.map Pair.u)),.u (.sl 3 (c4.map Session.u)),.u (.bool c5),.u (.str c6),.u (.int .i64 c7),.u (.sl 1 (c8.map iU)),.u (.bool c9),.u (.sl 5 (c10.map Replica.u)),.u (.sl 1 (c11.map bU)),.u (.sl 7 (c12.map Message.u)),.u (.sl 7 (c13.map Answer.u))]] []=some ⟨[.ag [.u (.bool c0),.u (.str c1),.u (.str c2),.own (.par 0) c3.length,.own (.par 1) c4.length,.u (.bool c5),.u (.str c6),.u (.int .i64 c7),.own (.par 2) c8.length,.u (.bool c9),.down (.par 3) c10.length,.own (.par 4) c11.length,.down (.par 5) c12.length,.own (.par 6) c13.length]],[.row 2 (c3.map Pair.u),.row 3 (c4.map Session.u),.row 1 (c8.map iU),.deep 5 (c10.map Replica.u),.row 1 (c11.map bU),.deep 7 (c12.map Message.u),.row 7 (c13.map Answer.u)],[]⟩:=by
  rw [R121,b121]
  simp only[↓xP,xQ,xR,xD,flatR,Nat.reduceBEq,reduceAdd,reduceSub,toChain_ok c1 c2 c3 c4 c5 c6 c7 c8 c9 c10 c11 c12 c13 hs.1]
theorem eqShard_ok (c0:Bool) (c1:Str) (c2:Str) (c3:(List Pair)) (c4:(List Session)) (c5:Bool) (c6:Str) (c7:Int) (c8:(List Int)) (c9:Bool) (c10:(List Replica)) (c11:(List Bool)) (c12:(List Message)) (c13:(List Answer)) (hs:Shard.Small ⟨c0,⟨⟨⟨c1,c2⟩,c3,c4,c5,c6⟩,⟨c7,c8,c9⟩,c10,c11,c12,c13⟩⟩):EE F 134 [.ag [.u (.bool c0),.u (.str c1),.u (.str c2),.u (.sl 2 (c3.map Pair.u)),.u (.sl 3 (c4.map Session.u)),.u (.bool c5),.u (.str c6),.u (.int .i64 c7),.u (.sl 1 (c8.map iU)),.u (.bool c9),.u (.sl 5 (c10.map Replica.u)),.u (.sl 1 (c11.map bU)),.u (.sl 7 (c12.map Message.u)),.u (.sl 7 (c13.map Answer.u))],.ag [.u (.bool c0),.u (.str c1),.u (.str c2),.u (.sl 2 (c3.map Pair.u)),.u (.sl 3 (c4.map Session.u)),.u (.bool c5),.u (.str c6),.u (.int .i64 c7),.u (.sl 1 (c8.map iU)),.u (.bool c9),.u (.sl 5 (c10.map Replica.u)),.u (.sl 1 (c11.map bU)),.u (.sl 7 (c12.map Message.u)),.u (.sl 7 (c13.map Answer.u))]] []=ok1 (B true):=by
  rw [R134,b134]
  simp only[↓xP,xQ,xR,xD,flatR,Nat.reduceBEq,reduceAdd,reduceSub,eqChain_ok c1 c2 c3 c4 c5 c6 c7 c8 c9 c10 c11 c12 c13 hs.1,ne_eq,not_true_eq_false]
def SmallShardS (l:(List Shard)):Prop:=l.length≤1048576∧∀ y,y∈l→Shard.Small y
def szShardSG (l:(List Shard)) (left:Int):Int:=offZ left l.length fun a=>allZ szShardG l a
theorem szShardS_ok (l:(List Shard)) (hf:(l.length≤9223372036854775807∧∀ y,y∈l→Shard.Fit y)) (left:Int):EE F 61 [L 14 (l.map Shard.u),I left] []=ok1 (I (szShardSG l left)):=by
  have hl:=hf.1
  rw [R61,b61]
  simp only[↓xP,xQ,xR,xD,flatR,Nat.reduceBEq,reduceAdd,reduceSub]
  refine sel_split (fun h=>?_) (fun h=>?_)
  · simp only[decide_eq_true_eq] at h
    simp [szShardSG,offZ,h]
  · refine (loop_ind (fun (a:Nat×Int) st=>st.s 0=DU (.sl 14 (l.map Shard.u))∧st.s 5=DI a.1∧st.s 1=DI a.2) (fun a=>l.length - a.1) (fun a=>ok1 (I (allZ szShardG (l.drop a.1) a.2))) ?_ (0,IntKind.i64.wrap (left - l.length)) ⟨by simp only[↓xP,xQ,xR,xD,flatR,Nat.reduceBEq,reduceAdd,reduceSub],by simp only[↓xP,xQ,xR,xD,flatR,Nat.reduceBEq,reduceAdd,reduceSub]; rfl,by simp only[↓xP,xQ,xR,xD,flatR,Nat.reduceBEq,reduceAdd,reduceSub]⟩).trans ?_
    · rintro ⟨i,a⟩ st ⟨h0,h5,h1⟩ ih
      dsimp only at h0 h5 h1 ih ⊢
      by_cases hi:i<l.length
      · obtain ⟨⟨c0,⟨⟨⟨c1,c2⟩,c3,c4,c5,c6⟩,⟨c7,c8,c9⟩,c10,c11,c12,c13⟩⟩,hx⟩:∃ x,l[i]?=some x:=⟨_,List.getElem?_eq_getElem hi⟩
        have hw:=w_succ (i:=i) (by omega)
        have hfx:=hf.2 _ (List.mem_of_getElem? hx)
        simp only[↓xP,xQ,xR,xD,flatR,Nat.reduceBEq,reduceAdd,reduceSub,h0,h5,h1,hi,hx,hw,Shard.u,szShard_ok c0 c1 c2 c3 c4 c5 c6 c7 c8 c9 c10 c11 c12 c13 hfx]
        rw [allZ_at hx,chkZ]
        refine sel_split (fun h=>?_) (fun h=>?_)
        · simp only[decide_eq_true_eq] at h
          simp [h]
        · rw [ih (i+1,szShardG ⟨c0,⟨⟨⟨c1,c2⟩,c3,c4,c5,c6⟩,⟨c7,c8,c9⟩,c10,c11,c12,c13⟩⟩ a) _ (by dsimp only; omega) ⟨by simp only[↓xP,xQ,xR,xD,flatR,Nat.reduceBEq,reduceAdd,reduceSub,h0],by simp only[↓xP,xQ,xR,xD,flatR,Nat.reduceBEq,reduceAdd,reduceSub],by simp only[↓xP,xQ,xR,xD,flatR,Nat.reduceBEq,reduceAdd,reduceSub]⟩]
          simp only[decide_eq_false_iff_not] at h
          simp [h]
      · simp only[↓xP,xQ,xR,xD,flatR,Nat.reduceBEq,reduceAdd,reduceSub,h0,h5,h1,hi]
        rw [List.drop_of_length_le (by omega)]; rfl
    · simp only[decide_eq_false_iff_not] at h
      simp [szShardSG,offZ,h]
theorem szShardS_le (l:(List Shard)) (hf:(l.length≤9223372036854775807∧∀ y,y∈l→Shard.Fit y)):LeZ (szShardSG l) (SmallShardS l):=LeZ.off hf.1 (LeZ.all fun x hx=>szShard_le x (hf.2 x hx))
theorem toShardS_ok (l:(List Shard)) (hs:SmallShardS l):EE F 67 [L 14 (l.map Shard.u)] []=some ⟨[.sc (.down (.par 0) l.length)],[.deep 14 (l.map Shard.u)],[]⟩:=by
  have hl:=hs.1
  rw [R67,b67]
  simp only[↓xP,xQ,xR,xD,flatR,Nat.reduceBEq,reduceAdd,reduceSub,mkd_ok _ 7 l.length [.bool false,.str [],.str [],.sl 2 [],.sl 3 [],.bool false,.str [],.int .i64 0,.sl 1 [],.bool false,.sl 5 [],.sl 1 [],.sl 7 [],.sl 7 []] 248 (by omega) rfl]
  refine (loop_ind (fun (i:Nat) st=>i≤l.length∧st.s 0=DU (.sl 14 (l.map Shard.u))∧st.s 4=DI i∧st.s 3=.t (.sc (.down (.loc 7 0) l.length))∧st.o (.loc 7 0)=some (.deep 14 ((l.take i).map Shard.u++List.replicate (l.length - i) [.bool false,.str [],.str [],.sl 2 [],.sl 3 [],.bool false,.str [],.int .i64 0,.sl 1 [],.bool false,.sl 5 [],.sl 1 [],.sl 7 [],.sl 7 []]))) (fun i=>l.length - i) (fun i=>some ⟨[.sc (.down (.par 0) l.length)],[.deep 14 (l.map Shard.u)],[]⟩) ?_ 0 ⟨by omega,by simp only[↓xP,xQ,xR,xD,flatR,Nat.reduceBEq,reduceAdd,reduceSub],by simp only[↓xP,xQ,xR,xD,flatR,Nat.reduceBEq,reduceAdd,reduceSub]; rfl,by simp only[↓xP,xQ,xR,xD,flatR,Nat.reduceBEq,reduceAdd,reduceSub],by simp only[↓xP,xQ,xR,xD,flatR,Nat.reduceBEq,reduceAdd,reduceSub,Nat.sub_zero]⟩)
  rintro i st ⟨hle,h0,h4,h3,ho⟩ ih
  by_cases hi:i<l.length
  · obtain ⟨⟨c0,⟨⟨⟨c1,c2⟩,c3,c4,c5,c6⟩,⟨c7,c8,c9⟩,c10,c11,c12,c13⟩⟩,hx⟩:∃ x,l[i]?=some x:=⟨_,List.getElem?_eq_getElem hi⟩
    have hw:=w_succ (i:=i) (by omega)
    have hg:=fill_get (f:=Shard.u) (z:=[.bool false,.str [],.str [],.sl 2 [],.sl 3 [],.bool false,.str [],.int .i64 0,.sl 1 [],.bool false,.sl 5 [],.sl 1 [],.sl 7 [],.sl 7 []]) hi
    have hf:=fill_set (f:=Shard.u) (z:=[.bool false,.str [],.str [],.sl 2 [],.sl 3 [],.bool false,.str [],.int .i64 0,.sl 1 [],.bool false,.sl 5 [],.sl 1 [],.sl 7 [],.sl 7 []]) hx
    simp only[Shard.u] at hf
    have hsx:=hs.2 _ (List.mem_of_getElem? hx)
    simp only[↓xP,xQ,xR,xD,flatR,Nat.reduceBEq,reduceAdd,reduceSub,h0,h4,h3,ho,hi,hx,hw,hg,hf,Shard.u,toShard_ok c0 c1 c2 c3 c4 c5 c6 c7 c8 c9 c10 c11 c12 c13 hsx]
    exact ih (i+1) _ (by omega) ⟨by omega,by simp only[↓xP,xQ,xR,xD,flatR,Nat.reduceBEq,reduceAdd,reduceSub,h0],by simp only[↓xP,xQ,xR,xD,flatR,Nat.reduceBEq,reduceAdd,reduceSub],by simp only[↓xP,xQ,xR,xD,flatR,Nat.reduceBEq,reduceAdd,reduceSub,h3],by simp only[↓xP,xQ,xR,xD,flatR,Nat.reduceBEq,reduceAdd,reduceSub,Shard.u]⟩
  · have:i=l.length:=by omega
    subst this
    rw [fill_all] at ho
    simp only[↓xP,xQ,xR,xD,flatR,Nat.reduceBEq,reduceAdd,reduceSub,h0,h4,h3,ho,hi]
theorem eqShardS_ok (l:(List Shard)) (hs:SmallShardS l):EE F 73 [L 14 (l.map Shard.u),L 14 (l.map Shard.u)] []=ok1 (B true):=by
  have hl:=hs.1
  rw [R73,b73]
  simp only[↓xP,xQ,xR,xD,flatR,Nat.reduceBEq,reduceAdd,reduceSub,ne_eq,not_true_eq_false]
  refine (loop_ind (fun (i:Nat) st=>st.s 0=DU (.sl 14 (l.map Shard.u))∧st.s 1=DU (.sl 14 (l.map Shard.u))∧st.s 5=DI i) (fun i=>l.length - i) (fun i=>ok1 (B true)) ?_ 0 ⟨by simp only[↓xP,xQ,xR,xD,flatR,Nat.reduceBEq,reduceAdd,reduceSub],by simp only[↓xP,xQ,xR,xD,flatR,Nat.reduceBEq,reduceAdd,reduceSub],by simp only[↓xP,xQ,xR,xD,flatR,Nat.reduceBEq,reduceAdd,reduceSub]; rfl⟩)
  rintro i st ⟨h0,h1,h5⟩ ih
  by_cases hi:i<l.length
  · obtain ⟨⟨c0,⟨⟨⟨c1,c2⟩,c3,c4,c5,c6⟩,⟨c7,c8,c9⟩,c10,c11,c12,c13⟩⟩,hx⟩:∃ x,l[i]?=some x:=⟨_,List.getElem?_eq_getElem hi⟩
    have hw:=w_succ (i:=i) (by omega)
    have hsx:=hs.2 _ (List.mem_of_getElem? hx)
    simp only[↓xP,xQ,xR,xD,flatR,Nat.reduceBEq,reduceAdd,reduceSub,h0,h1,h5,hi,hx,hw,Shard.u,eqShard_ok c0 c1 c2 c3 c4 c5 c6 c7 c8 c9 c10 c11 c12 c13 hsx,ne_eq,not_true_eq_false]
    exact ih (i+1) _ (by omega) ⟨by simp only[↓xP,xQ,xR,xD,flatR,Nat.reduceBEq,reduceAdd,reduceSub,h0],by simp only[↓xP,xQ,xR,xD,flatR,Nat.reduceBEq,reduceAdd,reduceSub,h1],by simp only[↓xP,xQ,xR,xD,flatR,Nat.reduceBEq,reduceAdd,reduceSub]⟩
  · simp only[↓xP,xQ,xR,xD,flatR,Nat.reduceBEq,reduceAdd,reduceSub,h0,h1,h5,hi]
def Cluster.Small (x:Cluster):Prop:=SmallShardS x.shards∧SmallCallerS x.clients∧SmallResultS x.results∧Plan.Small x.work∧True
def szClusterG (x:Cluster) (a:Int):Int:=chkZ (szShardSG x.shards a) fun a=>chkZ (szCallerSG x.clients a) fun a=>chkZ (szResultSG x.results a) fun a=>chkZ (szPlanG x.work a) fun a=>a
theorem szCluster_ok (c0:(List Shard)) (c1:(List Caller)) (c2:(List Result)) (c3:Int) (c4:Int) (c5:Int) (c6:Str) (c7:Int) (c8:Int) (c9:Int) (c10:Int) (c11:Int) (hf:Cluster.Fit ⟨c0,c1,c2,⟨c3,c4,c5,c6,c7,c8,c9⟩,c10,c11⟩) (left:Int):EE F 14 [.ag [.u (.sl 14 (c0.map Shard.u)),.u (.sl 8 (c1.map Caller.u)),.u (.sl 9 (c2.map Result.u)),.u (.int .i64 c3),.u (.int .i64 c4),.u (.int .i64 c5),.u (.str c6),.u (.int .i64 c7),.u (.int .i64 c8),.u (.int .i64 c9),.u (.int .i64 c10),.u (.int .i64 c11)],I left] []=ok1 (I (szClusterG ⟨c0,c1,c2,⟨c3,c4,c5,c6,c7,c8,c9⟩,c10,c11⟩ left)):=by
  rw [R14,b14]
  simp only[↓xP,xQ,xR,xD,flatR,Nat.reduceBEq,reduceAdd,reduceSub,szShardS_ok c0 hf.1,szCallerS_ok c1 hf.2.1,szResultS_ok c2 hf.2.2.1,szPlan_ok]
  repeat' (refine sel_split (fun h=>?_) (fun h=>?_))
  all_goals (simp only[decide_eq_true_eq,decide_eq_false_iff_not] at *; simp [szClusterG,offZ,chkZ, *])
theorem szCluster_le (x:Cluster) (hf:Cluster.Fit x):LeZ (szClusterG x) (Cluster.Small x):=LeZ.chk (szShardS_le _ hf.1) (LeZ.chk (szCallerS_le _ hf.2.1) (LeZ.chk (szResultS_le _ hf.2.2.1) (LeZ.chk (szPlan_le _ hf.2.2.2.1) LeZ.id)))
theorem toCluster_ok (c0:(List Shard)) (c1:(List Caller)) (c2:(List Result)) (c3:Int) (c4:Int) (c5:Int) (c6:Str) (c7:Int) (c8:Int) (c9:Int) (c10:Int) (c11:Int) (hs:Cluster.Small ⟨c0,c1,c2,⟨c3,c4,c5,c6,c7,c8,c9⟩,c10,c11⟩):EE F 16 [.ag [.u (.sl 14 (c0.map Shard.u)),.u (.sl 8 (c1.map Caller.u)),.u (.sl 9 (c2.map Result.u)),.u (.int .i64 c3),.u (.int .i64 c4),.u (.int .i64 c5),.u (.str c6),.u (.int .i64 c7),.u (.int .i64 c8),.u (.int .i64 c9),.u (.int .i64 c10),.u (.int .i64 c11)]] []=some ⟨[.ag [.down (.par 0) c0.length,.down (.par 1) c1.length,.own (.par 2) c2.length,.u (.int .i64 c3),.u (.int .i64 c4),.u (.int .i64 c5),.u (.str c6),.u (.int .i64 c7),.u (.int .i64 c8),.u (.int .i64 c9),.u (.int .i64 c10),.u (.int .i64 c11)]],[.deep 14 (c0.map Shard.u),.deep 8 (c1.map Caller.u),.row 9 (c2.map Result.u)],[]⟩:=by
  rw [R16,b16]
  simp only[↓xP,xQ,xR,xD,flatR,Nat.reduceBEq,reduceAdd,reduceSub,toShardS_ok c0 hs.1,toCallerS_ok c1 hs.2.1,toResultS_ok c2 hs.2.2.1,toPlan_ok]
theorem eqCluster_ok (c0:(List Shard)) (c1:(List Caller)) (c2:(List Result)) (c3:Int) (c4:Int) (c5:Int) (c6:Str) (c7:Int) (c8:Int) (c9:Int) (c10:Int) (c11:Int) (hs:Cluster.Small ⟨c0,c1,c2,⟨c3,c4,c5,c6,c7,c8,c9⟩,c10,c11⟩):EE F 18 [.ag [.u (.sl 14 (c0.map Shard.u)),.u (.sl 8 (c1.map Caller.u)),.u (.sl 9 (c2.map Result.u)),.u (.int .i64 c3),.u (.int .i64 c4),.u (.int .i64 c5),.u (.str c6),.u (.int .i64 c7),.u (.int .i64 c8),.u (.int .i64 c9),.u (.int .i64 c10),.u (.int .i64 c11)],.ag [.u (.sl 14 (c0.map Shard.u)),.u (.sl 8 (c1.map Caller.u)),.u (.sl 9 (c2.map Result.u)),.u (.int .i64 c3),.u (.int .i64 c4),.u (.int .i64 c5),.u (.str c6),.u (.int .i64 c7),.u (.int .i64 c8),.u (.int .i64 c9),.u (.int .i64 c10),.u (.int .i64 c11)]] []=ok1 (B true):=by
  rw [R18,b18]
  simp only[↓xP,xQ,xR,xD,flatR,Nat.reduceBEq,reduceAdd,reduceSub,eqShardS_ok c0 hs.1,eqCallerS_ok c1 hs.2.1,eqResultS_ok c2 hs.2.2.1,eqPlan_ok,ne_eq,not_true_eq_false]
/-- All from a number on. -/
def allF (n:Nat) (p:Nat→Bool) (i:Nat):Bool:=if i<n then p i&&allF n p (i+1) else true
termination_by n - i
theorem allF_lt {n:Nat} {p:Nat→Bool} {i:Nat} (h:i<n):allF n p i=(p i&&allF n p (i+1)):=by rw [allF,if_pos h]
theorem allF_ge {n:Nat} {p:Nat→Bool} {i:Nat} (h:¬i<n):allF n p i=true:=by rw [allF,if_neg h]
theorem allF_iff {n:Nat} {p:Nat→Bool}:∀ (k i:Nat),n - i=k→(allF n p i=true↔∀ j,i≤j→j<n→p j=true)
  | 0,i,h=>by
    rw [allF_ge (by omega)]
    exact ⟨fun _ j h1 h2=>by omega,fun _=>rfl⟩
  | k+1,i,h=>by
    rw [allF_lt (by omega),Bool.and_eq_true,allF_iff k (i+1) (by omega)]
    refine ⟨fun ⟨h1,h2⟩ j hj hn=>?_,fun h1=>⟨h1 i (Nat.le_refl _) (by omega),fun j hj hn=>h1 j (by omega) hn⟩⟩
    by_cases e:j=i
    · subst e; exact h1
    · exact h2 j (by omega) hn
def inR (n a b:Int):Bool:=decide (a≤n)&&decide (n≤b)
theorem l1In_ok (n a b:Int):EE F 66 [I n,I a,I b] []=ok1 (B (inR n a b)):=by
  rw [R66,b66]
  simp only[↓xP,xQ,xR,xS,flatR,reduceLT,Nat.reduceBEq,reduceAdd,reduceSub]
  repeat' (refine sel_split (fun h=>?_) (fun h=>?_))
  all_goals (simp_all [inR]<;>(intros; omega))
theorem valueValid_ok (n:Int):EE F 269 [I n] []=ok1 (B (inR n 0 999)):=by
  rw [R269,b269]
  simp only[↓xP,xQ,xR,xS,flatR,reduceLT,Nat.reduceBEq,reduceAdd,reduceSub]
  repeat' (refine sel_split (fun h=>?_) (fun h=>?_))
  all_goals (simp_all [inR]<;>(intros; omega))
def letter (c:UInt8):Bool:=decide (97≤(c.toNat:Int))&&decide ((c.toNat:Int)≤122)
def keyValid (s:Str):Bool:=decide (1≤s.length)&&decide (s.length≤4)&&s.all letter
theorem cut1 (n:Nat):vcut (n+1) (some (DI 1)) none=some (1,n+1):=by
  have:(1:Int)≤(n:Int)+1:=by omega
  simp [vcut,D.int?,this]
theorem lettersOnly_ok:∀ s:Str,EE F 239 [S s] []=ok1 (B (s.all letter))
  | []=>by
    rw [R239,b239]
    simp only[↓xP,xQ,xR,xS,flatR,reduceLT,Nat.reduceBEq,reduceAdd,reduceSub]
  | c::s=>by
    have h2:(List.take (s.length+1) (c::s)).drop 1=s:=by simp
    rw [R239,b239]
    simp only[↓xP,xQ,xR,xS,flatR,reduceLT,Nat.reduceBEq,reduceAdd,reduceSub,cut1,lettersOnly_ok s,reduceCtorEq,letter,List.take_of_length_le]
    repeat' (refine sel_split (fun h=>?_) (fun h=>?_))
    all_goals (simp_all<;>(intros; omega))
theorem keyValid_impl (s:Str):EE F 179 [S s] []=ok1 (B (keyValid s)):=by
  rw [R179,b179]
  simp only[↓xP,xQ,xR,xS,flatR,reduceLT,Nat.reduceBEq,reduceAdd,reduceSub,lettersOnly_ok]
  repeat' (refine sel_split (fun h=>?_) (fun h=>?_))
  all_goals (simp_all [keyValid]<;>(intros; omega))
theorem keyValid_spec (s:Str):EE F 221 [S s] []=ok1 (B (keyValid s)):=by
  rw [R221,b221]
  simp only[↓xP,xQ,xR,xS,flatR,reduceLT,Nat.reduceBEq,reduceAdd,reduceSub,l1In_ok]
  refine sel_split (fun h=>?_) (fun h=>?_)
  · simp_all [keyValid,inR]
    omega
  · simp only[Bool.not_eq_false',inR,Bool.and_eq_true,decide_eq_true_eq] at h
    refine (loop_ind (fun (i:Nat) st=>i≤s.length∧st.s 0=DU (.str s)∧st.s 3=DI i) (fun i=>s.length - i) (fun i=>ok1 (B ((s.drop i).all letter))) ?_ 0 ⟨by omega,by simp only[↓xP,xQ,Nat.reduceBEq],by simp only[↓xP,xQ,Nat.reduceBEq]; rfl⟩).trans ?_
    · rintro i st ⟨hle,h0,h3⟩ ih
      by_cases hi:i<s.length
      · have hc:s[i]?=some s[i]:=List.getElem?_eq_getElem hi
        have hd:s.drop i=s[i]::s.drop (i+1):=List.drop_eq_getElem_cons hi
        have hw:=w_succ (i:=i) (by omega)
        simp only[↓xP,xQ,xR,xS,flatR,reduceLT,Nat.reduceBEq,reduceAdd,reduceSub,h0,h3,hi,hc,hw]
        rw [hd]
        generalize s[i]=c
        repeat' (refine sel_split (fun h=>?_) (fun h=>?_))
        · simp_all [letter]
          omega
        · simp_all [letter]
          omega
        · rw [ih (i+1) _ (by omega) ⟨by omega,by simp only[↓xP,xQ,Nat.reduceBEq,h0],by simp only[↓xP,xQ,Nat.reduceBEq]⟩]
          simp_all [letter]
      · simp only[↓xP,xQ,xR,xS,flatR,reduceLT,Nat.reduceBEq,reduceAdd,reduceSub,h0,h3,hi]
        rw [List.drop_of_length_le (by omega)]; rfl
    · simp [keyValid]
      omega
theorem lt_nil (s:Str):strLt [] s=decide (s≠[]):=by cases s<;>simp [strLt,Op.bytesLess]
theorem lt_nil' (s:Str):strLt s []=false:=by cases s<;>simp [strLt,Op.bytesLess]
theorem lt_cons (a b:UInt8) (s t:Str):strLt (a::s) (b::t)=(decide (a<b)||(a==b&&strLt s t)):=rfl
theorem lt_irrefl:∀ s:Str,strLt s s=false
  | []=>rfl
  | a::s=>by rw [lt_cons,lt_irrefl s]; simp
theorem lt_trans:∀ {s t u:Str},strLt s t=true→strLt t u=true→strLt s u=true
  | _,[],_,h,_=>by rw [lt_nil'] at h; cases h
  | _,b::t,[],_,h=>by rw [lt_nil'] at h; cases h
  | [],b::t,c::u,_,_=>by rw [lt_nil]; simp
  | a :: s,b::t,c::u,h1,h2=>by
    rw [lt_cons] at h1 h2 ⊢
    simp only[Bool.or_eq_true,Bool.and_eq_true,decide_eq_true_eq,beq_iff_eq] at h1 h2 ⊢
    rcases h1 with h1|⟨rfl,h1⟩
    · rcases h2 with h2|⟨rfl,h2⟩
      · exact .inl (UInt8.lt_trans h1 h2)
      · exact .inl h1
    · rcases h2 with h2|⟨rfl,h2⟩
      · exact .inl h2
      · exact .inr ⟨rfl,lt_trans h1 h2⟩
theorem lt_asymm {s t:Str} (h:strLt s t=true):strLt t s=false:=by
  cases hq:strLt t s with
  | false=>rfl
  | true=>have:=lt_trans h hq; rw [lt_irrefl] at this; cases this
theorem lt_total:∀ (s t:Str),strLt s t=true∨s=t∨strLt t s=true
  | [],[]=>.inr (.inl rfl)
  | [],b::t=>.inl (by rw [lt_nil]; simp)
  | a::s,[]=>.inr (.inr (by rw [lt_nil]; simp))
  | a :: s,b::t=>by
    rw [lt_cons,lt_cons]
    simp only[Bool.or_eq_true,Bool.and_eq_true,decide_eq_true_eq,beq_iff_eq,List.cons.injEq]
    rcases Nat.lt_trichotomy a.toNat b.toNat with h|h|h
    · exact .inl (.inl (UInt8.lt_iff_toNat_lt.2 h))
    rotate_left
    · exact .inr (.inr (.inl (UInt8.lt_iff_toNat_lt.2 h)))
    · have h:=UInt8.toNat_inj.1 h
      subst h
      rcases lt_total s t with h|h|h
      · exact .inl (.inr ⟨rfl,h⟩)
      · exact .inr (.inl ⟨rfl,h⟩)
      · exact .inr (.inr (.inr ⟨rfl,h⟩))
/-- For other strings 'at most' is 'not greater'. -/
theorem le_iff (s t:Str):(strLt s t||decide (s=t))=!strLt t s:=by
  rcases lt_total s t with h|h|h
  · simp [h,lt_asymm h]
  · subst h; simp [lt_irrefl]
  · have h1:=lt_asymm h
    have h2:¬s=t:=fun e=>by subst e; rw [lt_irrefl] at h; cases h
    simp [h,h1,h2]
def intervalValid (v:Interval):Bool:=(decide (v.low=[])||keyValid v.low)&&(decide (v.high=[])||keyValid v.high)&&(decide (v.high=[])||strLt (if v.low=[] then [97] else v.low) v.high)
theorem lowestKey_ok (lo hi:Str):EE F 180 [.ag [.u (.str lo),.u (.str hi)]] []=ok1 (S (if lo=[] then [97] else lo)):=by
  rw [R180,b180]
  simp only[↓xP,xQ,xR,xS,flatR,reduceLT,Nat.reduceBEq,reduceAdd,reduceSub]
  repeat' (refine sel_split (fun h=>?_) (fun h=>?_))
  all_goals simp_all
theorem intervalValid_impl (lo hi:Str):EE F 110 [.ag [.u (.str lo),.u (.str hi)]] []=ok1 (B (intervalValid ⟨lo,hi⟩)):=by
  rw [R110,b110]
  simp only[↓xP,xQ,xR,xS,flatR,reduceLT,Nat.reduceBEq,reduceAdd,reduceSub,keyValid_impl,lowestKey_ok]
  repeat' (refine sel_split (fun h=>?_) (fun h=>?_))
  all_goals simp_all [intervalValid]
/-- A valid key after "a". -/
theorem lt_a {s:Str} (h:keyValid s=true):strLt [97] s=decide (s≠[97]):=by
  match s,h with
  | [],h=>simp [keyValid] at h
  | c :: t,h=>
    simp only[keyValid,letter,List.all_cons,Bool.and_eq_true,decide_eq_true_eq] at h
    have hc:97≤c.toNat:=by omega
    rw [lt_cons,lt_nil]
    by_cases e:c=97
    · subst e; simp
    · have h1:(97:UInt8)<c:=by
        rw [UInt8.lt_iff_toNat_lt]
        have:c.toNat≠97:=fun q=>e (UInt8.toNat_inj.1 q)
        show 97<c.toNat
        omega
      simp [h1,e]
theorem intervalValid_spec (lo hi:Str):EE F 213 [.ag [.u (.str lo),.u (.str hi)]] []=ok1 (B (intervalValid ⟨lo,hi⟩)):=by
  rw [R213,b213]
  simp only[↓xP,xQ,xR,xS,flatR,reduceLT,Nat.reduceBEq,reduceAdd,reduceSub,keyValid_spec]
  repeat' (refine sel_split (fun h=>?_) (fun h=>?_))
  all_goals simp_all [intervalValid,lt_nil,lt_a]
/-- A key is between the bounds. -/
def inside (v:Interval) (key:Str):Bool:=!strLt key v.low&&(decide (v.high=[])||strLt key v.high)
theorem inside_ok (lo hi key:Str):EE F 219 [.ag [.u (.str lo),.u (.str hi)],S key] []=ok1 (B (inside ⟨lo,hi⟩ key)):=by
  rw [R219,b219]
  simp only[↓xP,xQ,xR,xS,flatR,reduceLT,Nat.reduceBEq,reduceAdd,reduceSub,le_iff]
  repeat' (refine sel_split (fun h=>?_) (fun h=>?_))
  all_goals simp_all [inside]
def intervalHas (v:Interval) (key:Str):Bool:=intervalValid v&&keyValid key&&inside v key
theorem intervalHas_spec (lo hi key:Str):EE F 215 [.ag [.u (.str lo),.u (.str hi)],S key] []=ok1 (B (intervalHas ⟨lo,hi⟩ key)):=by
  rw [R215,b215]
  simp only[↓xP,xQ,xR,xS,flatR,reduceLT,Nat.reduceBEq,reduceAdd,reduceSub,intervalValid_spec,keyValid_spec]
  repeat' (refine sel_split (fun h=>?_) (fun h=>?_))
  all_goals simp_all [intervalHas,inside]
def pairAt (l:List Pair) (i:Nat):Bool:=match l[i]? with
  | some p=>keyValid p.key&&inR p.value 0 999&&(decide (i=0)||(match l[i - 1]? with
    | some q=>strLt q.key p.key
    | none=>true))
  | none=>true
def pairsValid (l:List Pair):Bool:=decide (l.length≤48)&&allF l.length (pairAt l) 0
theorem pairsValid_impl (l:List Pair):EE F 217 [L 2 (l.map Pair.u)] []=ok1 (B (pairsValid l)):=by
  rw [R217,b217]
  simp only[↓xP,xQ,xR,xS,flatR,reduceLT,Nat.reduceBEq,reduceAdd,reduceSub]
  refine sel_split (fun h=>?_) (fun h=>?_)
  · simp only[decide_eq_true_eq] at h
    simp [pairsValid,show ¬l.length≤48 by omega]
  · simp only[decide_eq_false_iff_not] at h
    refine (loop_ind (fun (i:Nat) st=>st.s 0=DU (.sl 2 (l.map Pair.u))∧st.s 8=DU (.sl 2 (l.map Pair.u))∧st.s 9=DI l.length∧st.s 10=DI i) (fun i=>l.length - i) (fun i=>ok1 (B (allF l.length (pairAt l) i))) ?_ 0 ⟨by simp only[↓xP,xQ,xR,xS,flatR,reduceLT,Nat.reduceBEq,reduceAdd,reduceSub],by simp only[↓xP,xQ,xR,xS,flatR,reduceLT,Nat.reduceBEq,reduceAdd,reduceSub],by simp only[↓xP,xQ,xR,xS,flatR,reduceLT,Nat.reduceBEq,reduceAdd,reduceSub],by simp only[↓xP,xQ,xR,xS,flatR,reduceLT,Nat.reduceBEq,reduceAdd,reduceSub]; rfl⟩).trans ?_
    · rintro i st ⟨h0,h8,h9,h10⟩ ih
      by_cases hi:i<l.length
      · obtain ⟨⟨pk,pv⟩,hp⟩:∃ p,l[i]?=some p:=⟨_,List.getElem?_eq_getElem hi⟩
        have hw:=w_succ (i:=i) (by omega)
        rw [allF_lt hi]
        by_cases hz:i=0
        · have h01:¬(0:Int)<(i:Int):=by omega
          simp only[↓xP,xQ,xR,xS,flatR,reduceLT,Nat.reduceBEq,reduceAdd,reduceSub,h0,h8,h9,h10,hi,hp,hw,h01,Pair.u,keyValid_impl,valueValid_ok]
          repeat' (refine sel_split (fun h=>?_) (fun h=>?_))
          · simp_all [pairAt]
          · simp_all [pairAt]
          · rw [ih (i+1) _ (by omega) ⟨by simp only[↓xP,xQ,xR,xS,flatR,reduceLT,Nat.reduceBEq,reduceAdd,reduceSub,h0],by simp only[↓xP,xQ,xR,xS,flatR,reduceLT,Nat.reduceBEq,reduceAdd,reduceSub,h8],by simp only[↓xP,xQ,xR,xS,flatR,reduceLT,Nat.reduceBEq,reduceAdd,reduceSub,h9],by simp only[↓xP,xQ,xR,xS,flatR,reduceLT,Nat.reduceBEq,reduceAdd,reduceSub]⟩]
            simp_all [pairAt]
        · obtain ⟨⟨qk,qv⟩,hq⟩:∃ q,l[i - 1]?=some q:=⟨_,List.getElem?_eq_getElem (by omega)⟩
          have hw2:IntKind.i64.wrap ((i:Int) - 1)=((i - 1:Nat):Int):=by rw [w64 (by omega) (by omega)]; omega
          have h01:(0:Int)<(i:Int):=by omega
          simp only[↓xP,xQ,xR,xS,flatR,reduceLT,Nat.reduceBEq,reduceAdd,reduceSub,h0,h8,h9,h10,hi,hp,hw,hw2,hq,h01,Pair.u,keyValid_impl,valueValid_ok]
          repeat' (refine sel_split (fun h=>?_) (fun h=>?_))
          · simp_all [pairAt]
          · simp_all [pairAt]
          · simp_all [pairAt]
          · rw [ih (i+1) _ (by omega) ⟨by simp only[↓xP,xQ,xR,xS,flatR,reduceLT,Nat.reduceBEq,reduceAdd,reduceSub,h0],by simp only[↓xP,xQ,xR,xS,flatR,reduceLT,Nat.reduceBEq,reduceAdd,reduceSub,h8],by simp only[↓xP,xQ,xR,xS,flatR,reduceLT,Nat.reduceBEq,reduceAdd,reduceSub,h9],by simp only[↓xP,xQ,xR,xS,flatR,reduceLT,Nat.reduceBEq,reduceAdd,reduceSub]⟩]
            simp_all [pairAt]
      · simp only[↓xP,xQ,xR,xS,flatR,reduceLT,Nat.reduceBEq,reduceAdd,reduceSub,h0,h8,h9,h10,hi]
        rw [allF_ge hi]
    · simp [pairsValid,show l.length≤48 by omega]
theorem pairsValid_spec (l:List Pair):EE F 162 [L 2 (l.map Pair.u)] []=ok1 (B (pairsValid l)):=by
  rw [R162,b162]
  simp only[↓xP,xQ,xR,xS,flatR,reduceLT,Nat.reduceBEq,reduceAdd,reduceSub]
  refine sel_split (fun h=>?_) (fun h=>?_)
  · simp only[decide_eq_true_eq] at h
    simp [pairsValid,show ¬l.length≤48 by omega]
  · simp only[decide_eq_false_iff_not] at h
    refine (loop_ind (fun (i:Nat) st=>st.s 0=DU (.sl 2 (l.map Pair.u))∧st.s 3=DI i) (fun i=>l.length - i) (fun i=>ok1 (B (allF l.length (pairAt l) i))) ?_ 0 ⟨by simp only[↓xP,xQ,xR,xS,flatR,reduceLT,Nat.reduceBEq,reduceAdd,reduceSub],by simp only[↓xP,xQ,xR,xS,flatR,reduceLT,Nat.reduceBEq,reduceAdd,reduceSub]; rfl⟩).trans ?_
    · rintro i st ⟨h0,h3⟩ ih
      by_cases hi:i<l.length
      · obtain ⟨⟨pk,pv⟩,hp⟩:∃ p,l[i]?=some p:=⟨_,List.getElem?_eq_getElem hi⟩
        have hw:=w_succ (i:=i) (by omega)
        rw [allF_lt hi]
        by_cases hz:i=0
        · have h01:¬(0:Int)<(i:Int):=by omega
          simp only[↓xP,xQ,xR,xS,flatR,reduceLT,Nat.reduceBEq,reduceAdd,reduceSub,h0,h3,hi,hp,hw,h01,Pair.u,keyValid_spec,l1In_ok]
          repeat' (refine sel_split (fun h=>?_) (fun h=>?_))
          · simp_all [pairAt]
          · simp_all [pairAt]
          · rw [ih (i+1) _ (by omega) ⟨by simp only[↓xP,xQ,xR,xS,flatR,reduceLT,Nat.reduceBEq,reduceAdd,reduceSub,h0],by simp only[↓xP,xQ,xR,xS,flatR,reduceLT,Nat.reduceBEq,reduceAdd,reduceSub]⟩]
            simp_all [pairAt]
        · obtain ⟨⟨qk,qv⟩,hq⟩:∃ q,l[i - 1]?=some q:=⟨_,List.getElem?_eq_getElem (by omega)⟩
          have hw2:IntKind.i64.wrap ((i:Int) - 1)=((i - 1:Nat):Int):=by rw [w64 (by omega) (by omega)]; omega
          have h01:(0:Int)<(i:Int):=by omega
          simp only[↓xP,xQ,xR,xS,flatR,reduceLT,Nat.reduceBEq,reduceAdd,reduceSub,h0,h3,hi,hp,hw,hw2,hq,h01,Pair.u,keyValid_spec,l1In_ok,le_iff]
          repeat' (refine sel_split (fun h=>?_) (fun h=>?_))
          · simp_all [pairAt]
          · simp_all [pairAt]
          · simp_all [pairAt]
          · rw [ih (i+1) _ (by omega) ⟨by simp only[↓xP,xQ,xR,xS,flatR,reduceLT,Nat.reduceBEq,reduceAdd,reduceSub,h0],by simp only[↓xP,xQ,xR,xS,flatR,reduceLT,Nat.reduceBEq,reduceAdd,reduceSub]⟩]
            simp_all [pairAt]
      · simp only[↓xP,xQ,xR,xS,flatR,reduceLT,Nat.reduceBEq,reduceAdd,reduceSub,h0,h3,hi]
        rw [allF_ge hi]
    · simp [pairsValid,show l.length≤48 by omega]
theorem pairsValid_at {l:List Pair} (h:pairsValid l=true) {i:Nat} {p:Pair} (hp:l[i]?=some p):keyValid p.key=true∧inR p.value 0 999=true:=by
  simp only[pairsValid,Bool.and_eq_true,decide_eq_true_eq] at h
  have:=(allF_iff _ 0 rfl).1 h.2 i (by omega) (List.getElem?_eq_some_iff.1 hp).1
  simp only[pairAt,hp,Bool.and_eq_true] at this
  exact this.1
theorem clientNumber_ok (n:Int):EE F 199 [I n] []=ok1 (B (inR n 1 3)):=by
  rw [R199,b199]
  simp only[↓xP,xQ,xR,xS,flatR,reduceLT,Nat.reduceBEq,reduceAdd,reduceSub]
  repeat' (refine sel_split (fun h=>?_) (fun h=>?_))
  all_goals (simp_all [inR]<;>(intros; omega))
theorem nodeValid_ok (n:Int):EE F 203 [I n] []=ok1 (B (inR n 0 4)):=by
  rw [R203,b203]
  simp only[↓xP,xQ,xR,xS,flatR,reduceLT,Nat.reduceBEq,reduceAdd,reduceSub]
  repeat' (refine sel_split (fun h=>?_) (fun h=>?_))
  all_goals (simp_all [inR]<;>(intros; omega))
theorem shardNumber_ok (n:Int):EE F 202 [I n] []=ok1 (B (inR n 0 7)):=by
  rw [R202,b202]
  simp only[↓xP,xQ,xR,xS,flatR,reduceLT,Nat.reduceBEq,reduceAdd,reduceSub]
  repeat' (refine sel_split (fun h=>?_) (fun h=>?_))
  all_goals (simp_all [inR]<;>(intros; omega))
theorem seqValid_ok (n:Int):EE F 200 [I n] []=ok1 (B (inR n 1 999)):=by
  rw [R200,b200]
  simp only[↓xP,xQ,xR,xS,flatR,reduceLT,Nat.reduceBEq,reduceAdd,reduceSub]
  repeat' (refine sel_split (fun h=>?_) (fun h=>?_))
  all_goals (simp_all [inR]<;>(intros; omega))
def commandValid (c:Command):Bool:=(keyValid c.key||decide (c.kind=5)&&decide (c.key=[])) &&
  ((decide (c.kind=1)||decide (c.kind=3)||decide (c.kind=5))&&decide (c.value=0)&&decide (c.old=0)||decide (c.kind=2)&&inR c.value 0 999&&decide (c.old=0)||decide (c.kind=4)&&inR c.value 0 999&&inR c.old (-1) 999)
theorem cmdCases (k:Int):k=1∨k=2∨k=3∨k=4∨k=5∨(k<1∧¬5<k∧¬k=1∧¬k=2∧¬k=3∧¬k=4∧¬k=5)∨(¬k<1∧5<k∧¬k=1∧¬k=2∧¬k=3∧¬k=4∧¬k=5):=by omega
theorem commandValid_spec (k:Int) (key:Str) (v o:Int):EE F 229 [.ag [.u (.int .i64 k),.u (.str key),.u (.int .i64 v),.u (.int .i64 o)]] []=ok1 (B (commandValid ⟨k,key,v,o⟩)):=by
  rw [R229,b229]
  rcases cmdCases k with h|h|h|h|h|h|h<;>(try subst h)<;>(try obtain ⟨_,_,_,_,_,_,_⟩:=h)<;>simp only[↓xP,xQ,xR,xS,flatR,reduceLT,Nat.reduceBEq,reduceAdd,reduceSub,keyValid_spec,l1In_ok, *]<;>
    repeat' (refine sel_split (fun h=>?_) (fun h=>?_))
  all_goals (simp_all [commandValid]<;>(intros; omega))
theorem commandValid_impl (k:Int) (key:Str) (v o:Int):EE F 234 [.ag [.u (.int .i64 k),.u (.str key),.u (.int .i64 v),.u (.int .i64 o)]] []=ok1 (B (commandValid ⟨k,key,v,o⟩)):=by
  rw [R234,b234]
  rcases cmdCases k with h|h|h|h|h|h|h<;>(try subst h)<;>(try obtain ⟨_,_,_,_,_,_,_⟩:=h)<;>simp only[↓xP,xQ,xR,xS,flatR,reduceLT,Nat.reduceBEq,reduceAdd,reduceSub,keyValid_impl,valueValid_ok, *]<;>
    repeat' (refine sel_split (fun h=>?_) (fun h=>?_))
  all_goals first|(simp_all [commandValid,inR]; done)|(simp_all [commandValid,inR]<;>(intros; omega))|(simp_all [commandValid,inR]; rw [Bool.eq_iff_iff]; simp; omega)
def wishValid (c:Command):Bool:=commandValid c&&!decide (c.kind=5)
theorem l25Wish_ok (k:Int) (key:Str) (v o:Int):EE F 190 [.ag [.u (.int .i64 k),.u (.str key),.u (.int .i64 v),.u (.int .i64 o)]] []=ok1 (B (wishValid ⟨k,key,v,o⟩)):=by
  rw [R190,b190]
  simp only[↓xP,xQ,xR,xS,flatR,reduceLT,Nat.reduceBEq,reduceAdd,reduceSub,commandValid_spec]
  repeat' (refine sel_split (fun h=>?_) (fun h=>?_))
  all_goals (simp_all [wishValid])
theorem wishValid_ok (k:Int) (key:Str) (v o:Int):EE F 198 [.ag [.u (.int .i64 k),.u (.str key),.u (.int .i64 v),.u (.int .i64 o)]] []=ok1 (B (wishValid ⟨k,key,v,o⟩)):=by
  rw [R198,b198]
  simp only[↓xP,xQ,xR,xS,flatR,reduceLT,Nat.reduceBEq,reduceAdd,reduceSub,commandValid_impl]
  repeat' (refine sel_split (fun h=>?_) (fun h=>?_))
  all_goals (simp_all [wishValid])
def entryValid (e:Entry):Bool:=inR e.client 0 3&&inR e.seq 1 999&&commandValid e.cmd
theorem entryValid_spec (c s k:Int) (key:Str) (v o:Int):EE F 169 [.ag [.u (.int .i64 c),.u (.int .i64 s),.u (.int .i64 k),.u (.str key),.u (.int .i64 v),.u (.int .i64 o)]] []=ok1 (B (entryValid ⟨c,s,⟨k,key,v,o⟩⟩)):=by
  rw [R169,b169]
  simp only[↓xP,xQ,xR,xS,flatR,reduceLT,Nat.reduceBEq,reduceAdd,reduceSub,commandValid_spec,l1In_ok]
  repeat' (refine sel_split (fun h=>?_) (fun h=>?_))
  all_goals (simp_all [entryValid])
theorem entryValid_impl (c s k:Int) (key:Str) (v o:Int):EE F 175 [.ag [.u (.int .i64 c),.u (.int .i64 s),.u (.int .i64 k),.u (.str key),.u (.int .i64 v),.u (.int .i64 o)]] []=ok1 (B (entryValid ⟨c,s,⟨k,key,v,o⟩⟩)):=by
  rw [R175,b175]
  simp only[↓xP,xQ,xR,xS,flatR,reduceLT,Nat.reduceBEq,reduceAdd,reduceSub,commandValid_impl,seqValid_ok]
  repeat' (refine sel_split (fun h=>?_) (fun h=>?_))
  all_goals first|(simp_all [entryValid,inR]; done)|(simp_all [entryValid,inR]<;>(intros; omega))|(simp_all [entryValid,inR]; rw [Bool.eq_iff_iff]; simp; omega)
def planValid (p:Plan):Bool:=inR p.first 0 7&&(decide (p.kind=1)&&keyValid p.key&&decide (p.second=0)&&decide (p.from_=0)&&decide (p.to_=0)&&decide (p.step=0) ||
  decide (p.kind=2)&&inR p.second 0 7&&!decide (p.second=p.first)&&decide (p.key=[])&&decide (p.from_=0)&&decide (p.to_=0)&&decide (p.step=0) ||
  decide (p.kind=3)&&inR p.from_ 0 4&&inR p.to_ 0 4&&!decide (p.from_=p.to_)&&inR p.step 0 1&&decide (p.second=0)&&decide (p.key=[]))
theorem planCases (k:Int):k=1∨k=2∨k=3∨(¬k=1∧¬k=2∧¬k=3):=by omega
theorem planValid_spec (k f s:Int) (key:Str) (a b c:Int):EE F 186 [.ag [.u (.int .i64 k),.u (.int .i64 f),.u (.int .i64 s),.u (.str key),.u (.int .i64 a),.u (.int .i64 b),.u (.int .i64 c)]] []=ok1 (B (planValid ⟨k,f,s,key,a,b,c⟩)):=by
  rw [R186,b186]
  rcases planCases k with h|h|h|h<;>(try subst h)<;>(try obtain ⟨_,_,_⟩:=h)<;>simp only[↓xP,xQ,xR,xS,flatR,reduceLT,Nat.reduceBEq,reduceAdd,reduceSub,keyValid_spec,l1In_ok, *]<;>
    repeat' (refine sel_split (fun h=>?_) (fun h=>?_))
  all_goals first|(simp_all [planValid]; done)|(simp_all [planValid]<;>(intros; omega))|(simp_all [planValid]; rw [Bool.eq_iff_iff]; simp; omega)
theorem planValid_impl (k f s:Int) (key:Str) (a b c:Int):EE F 128 [.ag [.u (.int .i64 k),.u (.int .i64 f),.u (.int .i64 s),.u (.str key),.u (.int .i64 a),.u (.int .i64 b),.u (.int .i64 c)]] []=ok1 (B (planValid ⟨k,f,s,key,a,b,c⟩)):=by
  rw [R128,b128]
  rcases planCases k with h|h|h|h<;>(try subst h)<;>(try obtain ⟨_,_,_⟩:=h)<;>simp only[↓xP,xQ,xR,xS,flatR,reduceLT,Nat.reduceBEq,reduceAdd,reduceSub,keyValid_impl,shardNumber_ok,nodeValid_ok, *]<;>
    repeat' (refine sel_split (fun h=>?_) (fun h=>?_))
  all_goals first|(simp_all [planValid]; done)|(simp_all [planValid,inR]<;>(intros; omega))|(simp_all [planValid,Bool.and_assoc]; done)|(simp_all [planValid,inR]; rw [Bool.eq_iff_iff]; simp; omega)
def cutOk (v:Interval) (key:Str):Bool:=intervalValid v&&keyValid key&&intervalValid ⟨v.low,key⟩&&intervalValid ⟨key,v.high⟩
def cutRet (v:Interval) (key:Str):Option Ret:=sel (cutOk v key) (some ⟨[.ag [.u (.str v.low),.u (.str key)],.ag [.u (.str key),.u (.str v.high)],B true],[],[]⟩) (some ⟨[.ag [.u (.str []),.u (.str [])],.ag [.u (.str []),.u (.str [])],B false],[],[]⟩)
theorem intervalCut_spec (lo hi key:Str):EE F 216 [.ag [.u (.str lo),.u (.str hi)],S key] []=cutRet ⟨lo,hi⟩ key:=by
  rw [R216,b216]
  simp only[↓xP,xQ,xR,xS,flatR,reduceLT,Nat.reduceBEq,reduceAdd,reduceSub,intervalValid_spec,keyValid_spec]
  repeat' (refine sel_split (fun h=>?_) (fun h=>?_))
  all_goals simp_all [cutOk,cutRet,sel]
theorem intervalCut_impl (lo hi key:Str):EE F 220 [.ag [.u (.str lo),.u (.str hi)],S key] []=cutRet ⟨lo,hi⟩ key:=by
  rw [R220,b220]
  simp only[↓xP,xQ,xR,xS,flatR,reduceLT,Nat.reduceBEq,reduceAdd,reduceSub,intervalValid_impl,keyValid_impl]
  repeat' (refine sel_split (fun h=>?_) (fun h=>?_))
  all_goals simp_all [cutOk,cutRet,sel]
def joinOk (a b:Interval):Bool:=intervalValid a&&intervalValid b&&!decide (a.high=[])&&decide (a.high=b.low)
def joinRet (a b:Interval):Option Ret:=sel (joinOk a b) (some ⟨[.ag [.u (.str a.low),.u (.str b.high)],B true],[],[]⟩) (some ⟨[.ag [.u (.str []),.u (.str [])],B false],[],[]⟩)
theorem intervalJoin_spec (al ah bl bh:Str):EE F 157 [.ag [.u (.str al),.u (.str ah)],.ag [.u (.str bl),.u (.str bh)]] []=joinRet ⟨al,ah⟩ ⟨bl,bh⟩:=by
  rw [R157,b157]
  simp only[↓xP,xQ,xR,xS,flatR,reduceLT,Nat.reduceBEq,reduceAdd,reduceSub,intervalValid_spec]
  repeat' (refine sel_split (fun h=>?_) (fun h=>?_))
  all_goals simp_all [joinOk,joinRet,sel]
theorem intervalJoin_impl (al ah bl bh:Str):EE F 160 [.ag [.u (.str al),.u (.str ah)],.ag [.u (.str bl),.u (.str bh)]] []=joinRet ⟨al,ah⟩ ⟨bl,bh⟩:=by
  rw [R160,b160]
  simp only[↓xP,xQ,xR,xS,flatR,reduceLT,Nat.reduceBEq,reduceAdd,reduceSub,intervalValid_impl]
  repeat' (refine sel_split (fun h=>?_) (fun h=>?_))
  all_goals simp_all [joinOk,joinRet,sel]
def sessionAt (l:List Session) (i:Nat):Bool:=match l[i]? with
  | none=>true
  | some s=>inR s.client 0 3&&inR s.seq 1 999&&inR s.reply (-2) 999&&(decide (i=0)||(match l[i - 1]? with
    | some r=>decide (r.client<s.client)
    | none=>true))
def sessionsValid (l:List Session):Bool:=allF l.length (sessionAt l) 0
theorem sessionsValid_spec (l:List Session) (hn:l.length≤4611686018427387904):EE F 214 [L 3 (l.map Session.u)] []=ok1 (B (sessionsValid l)):=by
  rw [R214,b214]
  simp only[↓xP,xQ,xR,xS,flatR,reduceLT,Nat.reduceBEq,reduceAdd,reduceSub]
  refine (loop_ind (fun (i:Nat) st=>st.s 0=DU (.sl 3 (l.map Session.u))∧st.s 3=DI i) (fun i=>l.length - i) (fun i=>ok1 (B (allF l.length (sessionAt l) i))) ?_ 0 ⟨by simp only[↓xP,xQ,xR,xS,flatR,reduceLT,Nat.reduceBEq,reduceAdd,reduceSub],by simp only[↓xP,xQ,xR,xS,flatR,reduceLT,Nat.reduceBEq,reduceAdd,reduceSub]; rfl⟩).trans ?_
  · rintro i st ⟨h0,h3⟩ ih
    by_cases hi:i<l.length
    · obtain ⟨⟨c,s,r⟩,hp⟩:∃ p,l[i]?=some p:=⟨_,List.getElem?_eq_getElem hi⟩
      have hw:=w_succ (i:=i) (by omega)
      rw [allF_lt hi]
      by_cases hz:i=0
      · have h01:¬(0:Int)<(i:Int):=by omega
        simp only[↓xP,xQ,xR,xS,flatR,reduceLT,Nat.reduceBEq,reduceAdd,reduceSub,h0,h3,hi,hp,hw,h01,Session.u,l1In_ok]
        repeat' (refine sel_split (fun h=>?_) (fun h=>?_))
        all_goals first|(rw [ih (i+1) _ (by omega) ⟨by simp only[↓xP,xQ,xR,xS,flatR,reduceLT,Nat.reduceBEq,reduceAdd,reduceSub,h0],by simp only[↓xP,xQ,xR,xS,flatR,reduceLT,Nat.reduceBEq,reduceAdd,reduceSub]⟩]; simp_all [sessionAt]; done)|(simp_all [sessionAt]; done)
      · obtain ⟨⟨qc,qs,qr⟩,hq⟩:∃ q,l[i - 1]?=some q:=⟨_,List.getElem?_eq_getElem (by omega)⟩
        have hw2:IntKind.i64.wrap ((i:Int) - 1)=((i - 1:Nat):Int):=by rw [w64 (by omega) (by omega)]; omega
        have h01:(0:Int)<(i:Int):=by omega
        simp only[↓xP,xQ,xR,xS,flatR,reduceLT,Nat.reduceBEq,reduceAdd,reduceSub,h0,h3,hi,hp,hw,hw2,hq,h01,Session.u,l1In_ok]
        repeat' (refine sel_split (fun h=>?_) (fun h=>?_))
        all_goals first|(rw [ih (i+1) _ (by omega) ⟨by simp only[↓xP,xQ,xR,xS,flatR,reduceLT,Nat.reduceBEq,reduceAdd,reduceSub,h0],by simp only[↓xP,xQ,xR,xS,flatR,reduceLT,Nat.reduceBEq,reduceAdd,reduceSub]⟩]; simp_all [sessionAt]; done)|(simp_all [sessionAt]; done)|(simp_all [sessionAt]<;>(intros; omega))
    · simp only[↓xP,xQ,xR,xS,flatR,reduceLT,Nat.reduceBEq,reduceAdd,reduceSub,h0,h3,hi]
      rw [allF_ge hi]
  · rfl
theorem sessionsValid_impl (l:List Session) (hn:l.length≤4611686018427387904):EE F 218 [L 3 (l.map Session.u)] []=ok1 (B (sessionsValid l)):=by
  rw [R218,b218]
  simp only[↓xP,xQ,xR,xS,flatR,reduceLT,Nat.reduceBEq,reduceAdd,reduceSub]
  refine (loop_ind (fun (i:Nat) st=>st.s 0=DU (.sl 3 (l.map Session.u))∧st.s 5=DU (.sl 3 (l.map Session.u))∧st.s 6=DI l.length∧st.s 7=DI i) (fun i=>l.length - i) (fun i=>ok1 (B (allF l.length (sessionAt l) i))) ?_ 0 ⟨by simp only[↓xP,xQ,xR,xS,flatR,reduceLT,Nat.reduceBEq,reduceAdd,reduceSub],by simp only[↓xP,xQ,xR,xS,flatR,reduceLT,Nat.reduceBEq,reduceAdd,reduceSub],by simp only[↓xP,xQ,xR,xS,flatR,reduceLT,Nat.reduceBEq,reduceAdd,reduceSub],by simp only[↓xP,xQ,xR,xS,flatR,reduceLT,Nat.reduceBEq,reduceAdd,reduceSub]; rfl⟩).trans ?_
  · rintro i st ⟨h0,h5,h6,h7⟩ ih
    by_cases hi:i<l.length
    · obtain ⟨⟨c,s,r⟩,hp⟩:∃ p,l[i]?=some p:=⟨_,List.getElem?_eq_getElem hi⟩
      have hw:=w_succ (i:=i) (by omega)
      rw [allF_lt hi]
      by_cases hz:i=0
      · have h01:¬(0:Int)<(i:Int):=by omega
        simp only[↓xP,xQ,xR,xS,flatR,reduceLT,Nat.reduceBEq,reduceAdd,reduceSub,h0,h5,h6,h7,hi,hp,hw,h01,Session.u,seqValid_ok]
        repeat' (refine sel_split (fun h=>?_) (fun h=>?_))
        all_goals first|(rw [ih (i+1) _ (by omega) ⟨by simp only[↓xP,xQ,xR,xS,flatR,reduceLT,Nat.reduceBEq,reduceAdd,reduceSub,h0],by simp only[↓xP,xQ,xR,xS,flatR,reduceLT,Nat.reduceBEq,reduceAdd,reduceSub,h5],by simp only[↓xP,xQ,xR,xS,flatR,reduceLT,Nat.reduceBEq,reduceAdd,reduceSub,h6],by simp only[↓xP,xQ,xR,xS,flatR,reduceLT,Nat.reduceBEq,reduceAdd,reduceSub]⟩]; simp_all [sessionAt,inR]; done)|(rw [ih (i+1) _ (by omega) ⟨by simp only[↓xP,xQ,xR,xS,flatR,reduceLT,Nat.reduceBEq,reduceAdd,reduceSub,h0],by simp only[↓xP,xQ,xR,xS,flatR,reduceLT,Nat.reduceBEq,reduceAdd,reduceSub,h5],by simp only[↓xP,xQ,xR,xS,flatR,reduceLT,Nat.reduceBEq,reduceAdd,reduceSub,h6],by simp only[↓xP,xQ,xR,xS,flatR,reduceLT,Nat.reduceBEq,reduceAdd,reduceSub]⟩]; simp_all [sessionAt,inR]<;>(intros; omega))|(simp_all [sessionAt,inR]; done)|(simp_all [sessionAt,inR]<;>(intros; omega))
      · obtain ⟨⟨qc,qs,qr⟩,hq⟩:∃ q,l[i - 1]?=some q:=⟨_,List.getElem?_eq_getElem (by omega)⟩
        have hw2:IntKind.i64.wrap ((i:Int) - 1)=((i - 1:Nat):Int):=by rw [w64 (by omega) (by omega)]; omega
        have h01:(0:Int)<(i:Int):=by omega
        simp only[↓xP,xQ,xR,xS,flatR,reduceLT,Nat.reduceBEq,reduceAdd,reduceSub,h0,h5,h6,h7,hi,hp,hw,hw2,hq,h01,Session.u,seqValid_ok]
        repeat' (refine sel_split (fun h=>?_) (fun h=>?_))
        all_goals first|(rw [ih (i+1) _ (by omega) ⟨by simp only[↓xP,xQ,xR,xS,flatR,reduceLT,Nat.reduceBEq,reduceAdd,reduceSub,h0],by simp only[↓xP,xQ,xR,xS,flatR,reduceLT,Nat.reduceBEq,reduceAdd,reduceSub,h5],by simp only[↓xP,xQ,xR,xS,flatR,reduceLT,Nat.reduceBEq,reduceAdd,reduceSub,h6],by simp only[↓xP,xQ,xR,xS,flatR,reduceLT,Nat.reduceBEq,reduceAdd,reduceSub]⟩]; simp_all [sessionAt,inR]; done)|(rw [ih (i+1) _ (by omega) ⟨by simp only[↓xP,xQ,xR,xS,flatR,reduceLT,Nat.reduceBEq,reduceAdd,reduceSub,h0],by simp only[↓xP,xQ,xR,xS,flatR,reduceLT,Nat.reduceBEq,reduceAdd,reduceSub,h5],by simp only[↓xP,xQ,xR,xS,flatR,reduceLT,Nat.reduceBEq,reduceAdd,reduceSub,h6],by simp only[↓xP,xQ,xR,xS,flatR,reduceLT,Nat.reduceBEq,reduceAdd,reduceSub]⟩]; simp_all [sessionAt,inR]<;>(intros; omega))|(simp_all [sessionAt,inR]; done)|(simp_all [sessionAt,inR]<;>(intros; omega))
    · simp only[↓xP,xQ,xR,xS,flatR,reduceLT,Nat.reduceBEq,reduceAdd,reduceSub,h0,h5,h6,h7,hi]
      rw [allF_ge hi]
  · rfl
def stateValid (s:State):Bool:=intervalValid s.span&&pairsValid s.pairs&&sessionsValid s.known&&(s.pairs.all fun q=>inside s.span q.key)&&(decide (s.cut=[])||s.sealed&&cutOk s.span s.cut)
theorem pairsValid_len {l:List Pair} (h:pairsValid l=true):l.length≤48:=by
  simp only[pairsValid,Bool.and_eq_true,decide_eq_true_eq] at h; exact h.1
theorem stateValid_impl (lo hi:Str) (l:List Pair) (k:List Session) (se:Bool) (cut:Str) (hn:k.length≤4611686018427387904):EE F 158 [.ag [.u (.str lo),.u (.str hi),.u (.sl 2 (l.map Pair.u)),.u (.sl 3 (k.map Session.u)),.u (.bool se),.u (.str cut)]] []=ok1 (B (stateValid ⟨⟨lo,hi⟩,l,k,se,cut⟩)):=by
  rw [R158,b158]
  simp only[↓xP,xQ,xR,xS,flatR,reduceLT,Nat.reduceBEq,reduceAdd,reduceSub,intervalValid_impl,pairsValid_impl,sessionsValid_impl k hn]
  refine sel_split (fun h=>?_) (fun h=>?_)
  · simp_all [stateValid]
  refine sel_split (fun h2=>?_) (fun h2=>?_)
  · simp_all [stateValid]
  refine sel_split (fun h3=>?_) (fun h3=>?_)
  · simp_all [stateValid]
  simp only[Bool.not_eq_false'] at h h2 h3
  have hlen:=pairsValid_len h2
  refine (loop_ind (fun (i:Nat) st=>st.s 1=.t (.sc (.ptr (.loc 1 0) 0 0))∧st.o (.loc 1 0)=some (.box [.u (.str lo),.u (.str hi),.u (.sl 2 (l.map Pair.u)),.u (.sl 3 (k.map Session.u)),.u (.bool se),.u (.str cut)])∧st.s 25=DU (.sl 2 (l.map Pair.u))∧st.s 26=DI l.length∧st.s 27=DI i) (fun i=>l.length - i) (fun i=>ok1 (B (((l.drop i).all fun q=>inside ⟨lo,hi⟩ q.key)&&(decide (cut=[])||se&&cutOk ⟨lo,hi⟩ cut)))) ?_ 0 ⟨by simp only[↓xP,xQ,xR,xS,flatR,reduceLT,Nat.reduceBEq,reduceAdd,reduceSub],by simp only[↓xP,xQ,xR,xS,flatR,reduceLT,Nat.reduceBEq,reduceAdd,reduceSub],by simp only[↓xP,xQ,xR,xS,flatR,reduceLT,Nat.reduceBEq,reduceAdd,reduceSub],by simp only[↓xP,xQ,xR,xS,flatR,reduceLT,Nat.reduceBEq,reduceAdd,reduceSub],by simp only[↓xP,xQ,xR,xS,flatR,reduceLT,Nat.reduceBEq,reduceAdd,reduceSub]; rfl⟩).trans ?_
  · rintro i st ⟨h1,ho,h25,h26,h27⟩ ih
    by_cases hi':i<l.length
    · obtain ⟨⟨pk,pv⟩,hp⟩:∃ p,l[i]?=some p:=⟨_,List.getElem?_eq_getElem hi'⟩
      have hd:l.drop i=⟨pk,pv⟩::l.drop (i+1):=by rw [List.drop_eq_getElem_cons hi',(List.getElem?_eq_some_iff.1 hp).2]
      have hw:=w_succ (i:=i) (by omega)
      simp only[↓xP,xQ,xR,xS,flatR,reduceLT,Nat.reduceBEq,reduceAdd,reduceSub,h1,ho,h25,h26,h27,hi',hp,hw,Pair.u,inside_ok]
      rw [hd]
      refine sel_split (fun h=>?_) (fun h=>?_)
      · simp_all
      · rw [ih (i+1) _ (by omega) ⟨by simp only[↓xP,xQ,xR,xS,flatR,reduceLT,Nat.reduceBEq,reduceAdd,reduceSub,h1],by simp only[↓xP,xQ,xR,xS,flatR,reduceLT,Nat.reduceBEq,reduceAdd,reduceSub,ho],by simp only[↓xP,xQ,xR,xS,flatR,reduceLT,Nat.reduceBEq,reduceAdd,reduceSub,h25],by simp only[↓xP,xQ,xR,xS,flatR,reduceLT,Nat.reduceBEq,reduceAdd,reduceSub,h26],by simp only[↓xP,xQ,xR,xS,flatR,reduceLT,Nat.reduceBEq,reduceAdd,reduceSub]⟩]
        simp_all
    · simp only[↓xP,xQ,xR,xS,flatR,reduceLT,Nat.reduceBEq,reduceAdd,reduceSub,h1,ho,h25,h26,h27,hi',intervalCut_impl]
      rw [List.drop_of_length_le (by omega)]
      refine sel_split (fun h=>?_) (fun h=>?_)
      · simp_all
      cases hc:cutOk ⟨lo,hi⟩ cut<;>simp only[↓xP,xQ,xR,xS,flatR,reduceLT,Nat.reduceBEq,reduceAdd,reduceSub,cutRet,hc,h1,ho]
      all_goals repeat' (refine sel_split (fun h=>?_) (fun h=>?_))
      all_goals simp_all
  · simp [stateValid,h,h2,h3]
theorem stateValid_spec (lo hi:Str) (l:List Pair) (k:List Session) (se:Bool) (cut:Str) (hn:k.length≤4611686018427387904):EE F 155 [.ag [.u (.str lo),.u (.str hi),.u (.sl 2 (l.map Pair.u)),.u (.sl 3 (k.map Session.u)),.u (.bool se),.u (.str cut)]] []=ok1 (B (stateValid ⟨⟨lo,hi⟩,l,k,se,cut⟩)):=by
  rw [R155,b155]
  simp only[↓xP,xQ,xR,xS,flatR,reduceLT,Nat.reduceBEq,reduceAdd,reduceSub,intervalValid_spec,pairsValid_spec,sessionsValid_spec k hn]
  refine sel_split (fun h=>?_) (fun h=>?_)
  · simp_all [stateValid]
  refine sel_split (fun h2=>?_) (fun h2=>?_)
  · simp_all [stateValid]
  refine sel_split (fun h3=>?_) (fun h3=>?_)
  · simp_all [stateValid]
  simp only[Bool.not_eq_false'] at h h2 h3
  have hlen:=pairsValid_len h2
  refine (loop_ind (fun (i:Nat) st=>st.s 1=.t (.sc (.ptr (.loc 1 0) 0 0))∧st.o (.loc 1 0)=some (.box [.u (.str lo),.u (.str hi),.u (.sl 2 (l.map Pair.u)),.u (.sl 3 (k.map Session.u)),.u (.bool se),.u (.str cut)])∧st.s 3=DI i) (fun i=>l.length - i) (fun i=>ok1 (B (((l.drop i).all fun q=>inside ⟨lo,hi⟩ q.key)&&(decide (cut=[])||se&&cutOk ⟨lo,hi⟩ cut)))) ?_ 0 ⟨by simp only[↓xP,xQ,xR,xS,flatR,reduceLT,Nat.reduceBEq,reduceAdd,reduceSub],by simp only[↓xP,xQ,xR,xS,flatR,reduceLT,Nat.reduceBEq,reduceAdd,reduceSub],by simp only[↓xP,xQ,xR,xS,flatR,reduceLT,Nat.reduceBEq,reduceAdd,reduceSub]; rfl⟩).trans ?_
  · rintro i st ⟨h1,ho,h3'⟩ ih
    by_cases hi':i<l.length
    · obtain ⟨⟨pk,pv⟩,hp⟩:∃ p,l[i]?=some p:=⟨_,List.getElem?_eq_getElem hi'⟩
      have hd:l.drop i=⟨pk,pv⟩::l.drop (i+1):=by rw [List.drop_eq_getElem_cons hi',(List.getElem?_eq_some_iff.1 hp).2]
      have hw:=w_succ (i:=i) (by omega)
      have hk:=(pairsValid_at h2 hp).1
      simp only[↓xP,xQ,xR,xS,flatR,reduceLT,Nat.reduceBEq,reduceAdd,reduceSub,h1,ho,h3',hi',hp,hw,Pair.u,intervalHas_spec]
      rw [hd]
      refine sel_split (fun h=>?_) (fun h=>?_)
      · simp_all [intervalHas]
      · rw [ih (i+1) _ (by omega) ⟨by simp only[↓xP,xQ,xR,xS,flatR,reduceLT,Nat.reduceBEq,reduceAdd,reduceSub,h1],by simp only[↓xP,xQ,xR,xS,flatR,reduceLT,Nat.reduceBEq,reduceAdd,reduceSub,ho],by simp only[↓xP,xQ,xR,xS,flatR,reduceLT,Nat.reduceBEq,reduceAdd,reduceSub]⟩]
        simp_all [intervalHas]
    · simp only[↓xP,xQ,xR,xS,flatR,reduceLT,Nat.reduceBEq,reduceAdd,reduceSub,h1,ho,h3',hi',intervalCut_spec]
      rw [List.drop_of_length_le (by omega)]
      cases hc:cutOk ⟨lo,hi⟩ cut<;>simp only[↓xP,xQ,xR,xS,flatR,reduceLT,Nat.reduceBEq,reduceAdd,reduceSub,cutRet,hc,h1,ho]
      all_goals repeat' (refine sel_split (fun h=>?_) (fun h=>?_))
      all_goals simp_all
  · simp [stateValid,h,h2,h3]
def cmpS (a b:Str):Int:=if strLt a b=true then -1 else if strLt b a=true then 1 else 0
theorem isNaN_s (s:Str):EE F 210 [S s] []=ok1 (B false):=by
  rw [R210,b210]
  simp only[↓xP,xQ,xR,xS,flatR,reduceLT,Nat.reduceBEq,reduceAdd,reduceSub,ne_eq,not_true_eq_false,decide_false]
theorem compare_s (a b:Str):EE F 147 [S a,S b] []=ok1 (I (cmpS a b)):=by
  rw [R147,b147]
  simp only[↓xP,xQ,xR,xS,flatR,reduceLT,Nat.reduceBEq,reduceAdd,reduceSub,isNaN_s,le_iff]
  repeat' (refine sel_split (fun h=>?_) (fun h=>?_))
  all_goals simp_all [cmpS]
def place (key:Str):List Pair→Nat
  | []=>0
  | p::l=>if strLt p.key key=true then place key l+1 else 0
/-- The place of the first such number, or -1. -/
def idxI (l:List Int) (x:Int):Int:=if x∈l then (l.idxOf x:Int) else -1
theorem idxI_eq {x:Int} {l:List Int}:idxI (x::l) x=0:=by simp [idxI]
theorem idxI_ne {x y:Int} {l:List Int} (h:y≠x):idxI (y::l) x=if x∈l then idxI l x+1 else -1:=by
  have h':x≠y:=fun e=>h e.symm
  simp only[idxI,List.mem_cons,h',false_or]
  by_cases hm:x∈l
  · simp only[hm,if_true]
    have:(y==x)=false:=by simpa using h
    simp [List.idxOf_cons,this]
  · simp [hm]
theorem idxI_neg {l:List Int} {x:Int}:idxI l x<0↔x∉l:=by
  unfold idxI
  split<;>simp_all
theorem idxI_ge {l:List Int} {x:Int}:0≤idxI l x↔x∈l:=by
  have:=idxI_neg (l:=l) (x:=x)
  constructor
  · intro h; by_cases hm:x∈l
    · exact hm
    · have:=this.2 hm; omega
  · intro h
    by_cases hq:idxI l x<0
    · exact absurd h (this.1 hq)
    · omega
/-- From a place on. -/
def idxF (l:List Int) (x:Int) (i:Nat):Int:=if x∈l.drop i then (i:Int)+idxI (l.drop i) x else -1
theorem idxF_0 (l:List Int) (x:Int):idxF l x 0=idxI l x:=by
  simp only[idxF,List.drop_zero,idxI]
  split<;>simp
theorem idxF_end (l:List Int) (x:Int) {i:Nat} (h:¬i<l.length):idxF l x i = -1:=by
  simp [idxF,List.drop_of_length_le (show l.length≤i by omega)]
theorem idxF_hit {l:List Int} {x:Int} {i:Nat} (h:l[i]?=some x):idxF l x i=i:=by
  obtain ⟨hi,hx⟩:=List.getElem?_eq_some_iff.1 h
  simp [idxF,List.drop_eq_getElem_cons hi,hx,idxI_eq]
theorem idxF_miss {l:List Int} {x y:Int} {i:Nat} (h:l[i]?=some y) (hn:y≠x):idxF l x i=idxF l x (i+1):=by
  obtain ⟨hi,hx⟩:=List.getElem?_eq_some_iff.1 h
  have hn':x≠y:=fun e=>hn e.symm
  simp only[idxF,List.drop_eq_getElem_cons hi,hx,List.mem_cons,hn',false_or,idxI_ne hn]
  by_cases hm:x∈l.drop (i+1)
  · simp only[hm,if_true]; omega
  · simp [hm]
theorem index_int (l:List Int) (x:Int) (hn:l.length≤4611686018427387904):EE F 268 [L 1 (l.map iU),I x] []=ok1 (I (idxI l x)):=by
  rw [R268,b268]
  simp only[↓xP,xQ,xR,xS,flatR,reduceLT,Nat.reduceBEq,reduceAdd,reduceSub]
  refine (loop_ind (fun (i:Nat) st=>i≤l.length∧st.s 0=DU (.sl 1 (l.map iU))∧st.s 1=DI x∧st.s 7=DI l.length∧st.s 8=DI i) (fun i=>l.length - i) (fun i=>ok1 (I (idxF l x i))) ?_ 0 (by and_intros<;>first|omega|rfl|(simp only[↓xP,xQ,xR,xS,flatR,reduceLT,Nat.reduceBEq,reduceAdd,reduceSub]<;>first|done|rfl|omega))).trans (by rw [idxF_0])
  rintro i st ⟨hle,h0,h1,h7,h8⟩ ih
  by_cases hi:i<l.length
  · obtain ⟨y,hy⟩:∃ y,l[i]?=some y:=⟨_,List.getElem?_eq_getElem hi⟩
    have hw:=w_succ (i:=i) (by omega)
    simp only[↓xP,xQ,xR,xS,flatR,reduceLT,Nat.reduceBEq,reduceAdd,reduceSub,h0,h1,h7,h8,hi,hy,hw,iU]
    refine sel_split (fun h=>?_) (fun h=>?_)
    · simp only[decide_eq_true_eq] at h
      rw [idxF_hit (by rw [hy,h])]
    · simp only[decide_eq_false_iff_not] at h
      rw [idxF_miss hy (fun e=>h e.symm)]
      exact ih (i+1) _ (by omega) (by and_intros<;>first|omega|rfl|(simp only[↓xP,xQ,xR,xS,flatR,reduceLT,Nat.reduceBEq,reduceAdd,reduceSub,h0,h1,h7]<;>first|done|rfl|omega))
  · simp only[↓xP,xQ,xR,xS,flatR,reduceLT,Nat.reduceBEq,reduceAdd,reduceSub,h0,h1,h7,h8,hi]
    rw [idxF_end l x hi]
theorem contains_int (l:List Int) (x:Int) (hn:l.length≤4611686018427387904):EE F 211 [L 1 (l.map iU),I x] []=ok1 (B (decide (x∈l))):=by
  rw [R211,b211]
  simp only[↓xP,xQ,xR,xS,flatR,reduceLT,Nat.reduceBEq,reduceAdd,reduceSub,index_int l x hn,ge_iff_le,idxI_ge]
def okAt (l:List Int) (k:Nat):Bool:=match l[k]? with
  | some x=>inR x 0 4&&!decide (x∈l.take k)
  | none=>true
def configValid (c:Config):Bool:=decide (1≤c.epoch)&&decide (c.epoch≤60)&&decide (1≤c.members.length)&&decide (c.members.length≤4)&&!(c.fresh&&decide (c.members.length<2))&&allF c.members.length (okAt c.members) 0
theorem okAt_some {l:List Int} {k:Nat} {x:Int} (h:l[k]?=some x):okAt l k=(inR x 0 4&&!decide (x∈l.take k)):=by simp [okAt,h]
theorem cut_to {n:Nat} {i:Nat} (h:i≤n):vcut n none (some (DI (i:Int)))=some (0,i):=by
  simp [vcut,D.int?]
  omega
theorem configValid_impl (e:Int) (l:List Int) (f:Bool) (hn:l.length≤4611686018427387904):EE F 148 [.ag [.u (.int .i64 e),.u (.sl 1 (l.map iU)),.u (.bool f)]] []=ok1 (B (configValid ⟨e,l,f⟩)):=by
  rw [R148,b148]
  simp only[↓xP,xQ,xR,xS,flatR,reduceLT,Nat.reduceBEq,reduceAdd,reduceSub]
  by_cases hg:(decide (1≤e)&&decide (e≤60)&&decide (1≤l.length)&&decide (l.length≤4)&&!(f&&decide (l.length<2)))=true
  · have e1:configValid ⟨e,l,f⟩=allF l.length (okAt l) 0:=by simp only[configValid,hg,Bool.true_and]
    rw [e1]
    simp only[Bool.and_eq_true,decide_eq_true_eq,Bool.not_eq_true',Bool.and_eq_false_iff,decide_eq_false_iff_not] at hg
    obtain ⟨⟨⟨⟨h1,h2⟩,h3⟩,h4⟩,h5⟩:=hg
    have g1:¬e<1:=by omega
    have g2:¬60<e:=by omega
    have g3:¬(l.length:Int)<1:=by omega
    have g4:¬(4:Int)<(l.length:Int):=by omega
    simp only[g1,g2,g3,g4,gt_iff_lt,decide_false,↓xP,xQ,xR,xS,flatR,reduceLT,Nat.reduceBEq,reduceAdd,reduceSub]
    repeat' (refine sel_split (fun h=>?_) (fun h=>?_))
    all_goals (try (exfalso; simp only[decide_eq_true_eq] at *; simp_all; omega))
    all_goals
      refine (loop_ind (fun (i:Nat) st=>i≤l.length∧st.s 1=.t (.sc (.ptr (.loc 1 0) 0 0))∧st.o (.loc 1 0)=some (.box [.u (.int .i64 e),.u (.sl 1 (l.map iU)),.u (.bool f)])∧st.s 34=DU (.sl 1 (l.map iU))∧st.s 35=DI l.length∧st.s 36=DI i) (fun i=>l.length - i) (fun i=>ok1 (B (allF l.length (okAt l) i))) ?_ 0 (by and_intros<;>first|omega|rfl|(simp only[↓xP,xQ,xR,xS,flatR,reduceLT,Nat.reduceBEq,reduceAdd,reduceSub]<;>first|done|rfl|omega))).trans rfl
      rintro i st ⟨hle,hb,ho,h34,h35,h36⟩ ih
      by_cases hi:i<l.length
      · obtain ⟨y,hy⟩:∃ y,l[i]?=some y:=⟨_,List.getElem?_eq_getElem hi⟩
        have hw:=w_succ (i:=i) (by omega)
        have hct:=cut_to (n:=l.length) hle
        have hlt:(l.take i).length≤4611686018427387904:=by simp; omega
        have hct2:=contains_int (l.take i) y hlt
        simp only[↓xP,xQ,xR,xS,flatR,reduceLT,Nat.reduceBEq,reduceAdd,reduceSub,hb,ho,h34,h35,h36,hi,hy,hw,iU,nodeValid_ok,List.length_map,hct,List.drop_zero,←List.map_take,hct2]
        rw [allF_lt hi,okAt_some hy]
        repeat' (refine sel_split (fun h=>?_) (fun h=>?_))
        all_goals first
          | (simp_all; done)
          | (rw [ih (i+1) _ (by omega) (by and_intros<;>first|omega|rfl|(simp only[↓xP,xQ,xR,xS,flatR,reduceLT,Nat.reduceBEq,reduceAdd,reduceSub,hb,ho,h34,h35]<;>first|done|rfl|omega))]; simp_all)
      · simp only[↓xP,xQ,xR,xS,flatR,reduceLT,Nat.reduceBEq,reduceAdd,reduceSub,hb,ho,h34,h35,h36,hi]
        rw [allF_ge hi]
  · have hg2:=hg
    rw [Bool.not_eq_true] at hg2
    have e1:configValid ⟨e,l,f⟩=false:=by simp only[configValid,hg2,Bool.false_and]
    clear hg2
    rw [e1]
    repeat' (refine sel_split (fun h=>?_) (fun h=>?_))
    all_goals first
      | rfl
      | (exfalso; apply hg; simp only[decide_eq_true_eq,decide_eq_false_iff_not] at *; simp_all; omega)
theorem configValid_spec (e:Int) (l:List Int) (f:Bool) (hn:l.length≤4611686018427387904):EE F 144 [.ag [.u (.int .i64 e),.u (.sl 1 (l.map iU)),.u (.bool f)]] []=ok1 (B (configValid ⟨e,l,f⟩)):=by
  rw [R144,b144]
  simp only[↓xP,xQ,xR,xS,flatR,reduceLT,Nat.reduceBEq,reduceAdd,reduceSub,l1In_ok]
  by_cases hg:(decide (1≤e)&&decide (e≤60)&&decide (1≤l.length)&&decide (l.length≤4)&&!(f&&decide (l.length<2)))=true
  · have e1 : configValid ⟨e,l,f⟩=allF l.length (okAt l) 0:=by simp only[configValid,hg,Bool.true_and]
    rw [e1]
    simp only[Bool.and_eq_true,decide_eq_true_eq,Bool.not_eq_true',Bool.and_eq_false_iff,decide_eq_false_iff_not] at hg
    obtain ⟨⟨⟨⟨h1,h2⟩,h3⟩,h4⟩,h5⟩:=hg
    have g1:inR e 1 60=true:=by simp [inR,h1,h2]
    have g2:inR (l.length:Int) 1 4=true:=by simp [inR]; omega
    simp only[g1,g2,↓xP,xQ,xR,xS,flatR,reduceLT,Nat.reduceBEq,reduceAdd,reduceSub]
    repeat' (refine sel_split (fun h=>?_) (fun h=>?_))
    all_goals (try (exfalso; simp only[decide_eq_true_eq] at *; simp_all; omega))
    all_goals
      refine (loop_ind (fun (i:Nat) st=>i≤l.length∧st.s 1=.t (.sc (.ptr (.loc 1 0) 0 0))∧st.o (.loc 1 0)=some (.box [.u (.int .i64 e),.u (.sl 1 (l.map iU)),.u (.bool f)])∧st.s 3=DI i) (fun i=>l.length - i) (fun i=>ok1 (B (allF l.length (okAt l) i))) ?_ 0 (by and_intros<;>first|omega|rfl|(simp only[↓xP,xQ,xR,xS,flatR,reduceLT,Nat.reduceBEq,reduceAdd,reduceSub]<;>first|done|rfl|omega))).trans rfl
      rintro i st ⟨hle,hb,ho,h3⟩ ih
      by_cases hi:i<l.length
      · obtain ⟨y,hy⟩:∃ y,l[i]?=some y:=⟨_,List.getElem?_eq_getElem hi⟩
        have hw:=w_succ (i:=i) (by omega)
        simp only[↓xP,xQ,xR,xS,flatR,reduceLT,Nat.reduceBEq,reduceAdd,reduceSub,hb,ho,h3,hi,hy,iU,l1In_ok]
        rw [allF_lt hi,okAt_some hy]
        refine sel_split (fun h=>?_) (fun h=>?_)
        · simp_all
        refine (loop_ind (fun (j:Nat) st=>j≤i∧st.s 1=.t (.sc (.ptr (.loc 1 0) 0 0))∧st.o (.loc 1 0)=some (.box [.u (.int .i64 e),.u (.sl 1 (l.map iU)),.u (.bool f)])∧st.s 3=DI i∧st.s 4=DI j) (fun j=>i - j) (fun j=>ok1 (B (!decide (y∈(l.take i).drop j)&&allF l.length (okAt l) (i+1)))) ?_ 0 (by and_intros<;>first|omega|rfl|(simp only[↓xP,xQ,xR,xS,flatR,reduceLT,Nat.reduceBEq,reduceAdd,reduceSub,hb,ho,h3]<;>first|done|rfl|omega))).trans (by simp_all)
        rintro j st ⟨hlj,hb,ho,h3,h4⟩ ihj
        by_cases hj:j<i
        · obtain ⟨z,hz⟩:∃ z,l[j]?=some z:=⟨_,List.getElem?_eq_getElem (by omega)⟩
          have hwj:=w_succ (i:=j) (by omega)
          have hd:(l.take i).drop j=z::(l.take i).drop (j+1):=by
            rw [List.drop_eq_getElem_cons (by simp; omega)]
            simp [(List.getElem?_eq_some_iff.1 hz).2]
          simp only[↓xP,xQ,xR,xS,flatR,reduceLT,Nat.reduceBEq,reduceAdd,reduceSub,hb,ho,h3,h4,hj,hz,hy,iU,hwj]
          rw [hd]
          refine sel_split (fun h=>?_) (fun h=>?_)
          · simp_all
          · rw [ihj (j+1) _ (by omega) (by and_intros<;>first|omega|rfl|(simp only[↓xP,xQ,xR,xS,flatR,reduceLT,Nat.reduceBEq,reduceAdd,reduceSub,hb,ho,h3]<;>first|done|rfl|omega))]
            simp only[decide_eq_false_iff_not] at h
            have h':¬y=z:=fun e=>h e.symm
            simp [h']
        · simp only[↓xP,xQ,xR,xS,flatR,reduceLT,Nat.reduceBEq,reduceAdd,reduceSub,hb,ho,h3,h4,hj,hw]
          rw [List.drop_of_length_le (by simp; omega)]
          rw [ih (i+1) _ (by omega) (by and_intros<;>first|omega|rfl|(simp only[↓xP,xQ,xR,xS,flatR,reduceLT,Nat.reduceBEq,reduceAdd,reduceSub,hb,ho]<;>first|done|rfl|omega))]
          simp
      · simp only[↓xP,xQ,xR,xS,flatR,reduceLT,Nat.reduceBEq,reduceAdd,reduceSub,hb,ho,h3,hi]
        rw [allF_ge hi]
  · have hg2:=hg
    rw [Bool.not_eq_true] at hg2
    have e1:configValid ⟨e,l,f⟩=false:=by simp only[configValid,hg2,Bool.false_and]
    clear hg2
    rw [e1]
    repeat' (refine sel_split (fun h=>?_) (fun h=>?_))
    all_goals first
      | rfl
      | (exfalso; apply hg; simp only[decide_eq_true_eq,decide_eq_false_iff_not,inR] at *; simp_all; omega)
theorem small_max {n k:Nat} (h:n≤1048576) (hk:k≤100000000):n≤maxLen∧n*k≤140737488355328:=by
  refine ⟨by simp [maxLen]; omega,?_⟩
  have:=Nat.mul_le_mul h hk
  omega
theorem cut_from {n i:Nat} (h:i≤n):vcut n (some (DI (i:Int))) none=some (i,n):=by
  simp [vcut,D.int?]
  omega
theorem map_all {α β:Type} (f:α→β) (l:List α):List.take l.length (List.map f l)=List.map f l:=List.take_of_length_le (by simp)
def yU (n:Int):List U:=[.int .u8 n]
/-- A reader: its bytes, and how many numbers it drew. -/
def rd (bs:List Int) (p:Nat):Obj:=.box [.u (.sl 1 (bs.map yU)),.u (.int .i64 p)]
theorem rdx:(∀ bs p,(rd bs p).data=true)∧(∀ bs p q,sameKind (some (rd bs p)) (rd bs q)=true)∧(∀ id bs p,Obj.mapC (C.kill id) (rd bs p)=rd bs p)∧(∀ st id bs p,Obj.mapC (St.coolC st id) (rd bs p)=rd bs p):=by
  refine ⟨fun _ _=>rfl,fun _ _ _=>rfl,fun _ _ _=>rfl,fun st id bs p=>?_⟩
  have h:∀ u,st.coolC id (.u u)=.u u:=by
    intro u
    unfold St.coolC
    cases st.o id with
    | none=>rfl
    | some ob=>cases ob<;>rfl
  simp [rd,Obj.mapC,h]
theorem w_pred {i:Nat} (h:i≤1048576):IntKind.i64.wrap (((i+1:Nat):Int) - 1)=(i:Int):=by rw [w64 (by omega) (by omega)]; omega
theorem rdx2:(∀ bs p,Obj.flat (rd bs p)=(bs.map yU).isEmpty)∧(∀ bs p,Obj.data (rd bs p)=true)∧(∀ (x:Bool) (a:List Id),sel x a a=a):=by
  refine ⟨fun bs p=>?_,fun bs p=>rfl,fun x a=>by cases x<;>rfl⟩
  simp [rd,Obj.flat,C.isSl,U.flat]
def Code (code:List Int):Prop:=code.length≤9223372036854775807∧∀ b,b∈code→0≤b∧b≤255
theorem yU_of (us:List U) (hl:us.length=1) (ht:∀ (j:Nat) ty u,[Ty.i .u8][j]?=some ty→us[j]?=some u→UT ty u):∃ x,us=yU x∧(0≤x∧x≤255):=by
  match us,hl with
  | [a],_=>obtain ⟨n,rfl,h⟩:=(ht 0 _ a rfl rfl).u8_of; exact ⟨n,rfl,h⟩
theorem Code.of {u:U} (hu:UT (.sl [.i .u8]) u):∃ code:List Int,u=.sl 1 (code.map yU)∧Code code:=by
  obtain ⟨code,rfl,hl,hb⟩:=hu.sl_of yU_of
  exact ⟨code,rfl,hl,hb⟩
theorem ofR:(∀ (st:St) d res x y z,St.ofRet st d ⟨res,[x,y,z],[]⟩=(((st.obj (.loc d 0) (some x)).obj (.loc d 1) (some y)).obj (.loc d 2) (some z)).put d (retD (res.map (T.mapC (C.ren (newIds d))))))∧
  (∀ (st:St) d res x y z w,St.ofRet st d ⟨res,[x,y,z,w],[]⟩=((((st.obj (.loc d 0) (some x)).obj (.loc d 1) (some y)).obj (.loc d 2) (some z)).obj (.loc d 3) (some w)).put d (retD (res.map (T.mapC (C.ren (newIds d))))))∧List.range 3=[0,1,2]∧List.range 4=[0,1,2,3]:=
  ⟨fun st d res x y z=>rfl,fun st d res x y z w=>rfl,rfl,rfl⟩
theorem drop_at {α:Type} {l:List α} {i:Nat} {x:α} (h:l[i]?=some x):l.drop i=x::l.drop (i+1):=by
  have hi:=(List.getElem?_eq_some_iff.1 h).1
  rw [List.drop_eq_getElem_cons hi,(List.getElem?_eq_some_iff.1 h).2]
def noConf (c:Config):Bool:=decide (c.epoch=0)&&decide (c.members.length=0)&&!c.fresh
theorem noConf_impl (e:Int) (l:List Int) (f:Bool):EE F 260 [.ag [.u (.int .i64 e),.u (.sl 1 (l.map iU)),.u (.bool f)]] []=ok1 (B (noConf ⟨e,l,f⟩)):=by
  rw [R260,b260]
  simp only[↓xP,xQ,xR,xS,flatR,reduceLT,Nat.reduceBEq,reduceAdd,reduceSub]
  repeat' (refine sel_split (fun h=>?_) (fun h=>?_))
  all_goals simp_all [noConf]
theorem noConf_spec (e:Int) (l:List Int) (f:Bool):EE F 251 [.ag [.u (.int .i64 e),.u (.sl 1 (l.map iU)),.u (.bool f)]] []=ok1 (B (noConf ⟨e,l,f⟩)):=by
  rw [R251,b251]
  simp only[↓xP,xQ,xR,xS,flatR,reduceLT,Nat.reduceBEq,reduceAdd,reduceSub]
  repeat' (refine sel_split (fun h=>?_) (fun h=>?_))
  all_goals simp_all [noConf]
def entriesValid (l:List Entry):Bool:=decide (l.length≤24)&&l.all entryValid
theorem entriesValid_impl (l:List Entry) (hn:l.length≤4611686018427387904):EE F 225 [L 6 (l.map Entry.u)] []=ok1 (B (entriesValid l)):=by
  rw [R225,b225]
  simp only[↓xP,xQ,xR,xS,flatR,reduceLT,Nat.reduceBEq,reduceAdd,reduceSub]
  refine sel_split (fun h=>?_) (fun h=>?_)
  · have:¬l.length≤24:=by simp at h; omega
    simp [entriesValid,this]
  have hl:l.length≤24:=by simp at h; omega
  refine (loop_ind (fun (i:Nat) st=>st.s 8=DU (.sl 6 (l.map Entry.u))∧st.s 9=DI l.length∧st.s 10=DI i) (fun i=>l.length - i) (fun i=>ok1 (B ((l.drop i).all entryValid))) ?_ 0 (by and_intros<;>first|omega|rfl|(simp only[↓xP,xQ,xR,xS,flatR,reduceLT,Nat.reduceBEq,reduceAdd,reduceSub]<;>first|done|rfl|omega))).trans (by simp [entriesValid,hl])
  rintro i st ⟨h8,h9,h10⟩ ih
  by_cases hi:i<l.length
  · obtain ⟨⟨c,s,k,key,v,o⟩,hx⟩:∃ x,l[i]?=some x:=⟨_,List.getElem?_eq_getElem hi⟩
    have hw:=w_succ (i:=i) (by omega)
    simp only[↓xP,xQ,xR,xS,flatR,reduceLT,Nat.reduceBEq,reduceAdd,reduceSub,h8,h9,h10,hi,hx,hw,Entry.u,entryValid_impl]
    rw [drop_at hx]
    refine sel_split (fun h=>?_) (fun h=>?_)
    · simp_all
    · rw [ih (i+1) _ (by omega) (by and_intros<;>first|omega|rfl|(simp only[↓xP,xQ,xR,xS,flatR,reduceLT,Nat.reduceBEq,reduceAdd,reduceSub,h8,h9]<;>first|done|rfl|omega))]; simp_all
  · simp only[↓xP,xQ,xR,xS,flatR,reduceLT,Nat.reduceBEq,reduceAdd,reduceSub,h8,h9,h10,hi]
    rw [List.drop_of_length_le (by omega)]; rfl
theorem entriesValid_spec (l:List Entry) (hn:l.length≤4611686018427387904):EE F 222 [L 6 (l.map Entry.u)] []=ok1 (B (entriesValid l)):=by
  rw [R222,b222]
  simp only[↓xP,xQ,xR,xS,flatR,reduceLT,Nat.reduceBEq,reduceAdd,reduceSub]
  refine (loop_ind (fun (i:Nat) st=>i≤24∧i≤l.length∧st.s 0=DU (.sl 6 (l.map Entry.u))∧st.s 3=DI i) (fun i=>l.length - i) (fun i=>ok1 (B (decide (l.length≤24)&&(l.drop i).all entryValid))) ?_ 0 (by and_intros<;>first|omega|rfl|(simp only[↓xP,xQ,xR,xS,flatR,reduceLT,Nat.reduceBEq,reduceAdd,reduceSub]<;>first|done|rfl|omega))).trans (by simp [entriesValid])
  rintro i st ⟨h24,hle,h0,h3⟩ ih
  by_cases hi:i<l.length
  · obtain ⟨⟨c,s,k,key,v,o⟩,hx⟩:∃ x,l[i]?=some x:=⟨_,List.getElem?_eq_getElem hi⟩
    have hw:=w_succ (i:=i) (by omega)
    by_cases hc:i=24
    · have hc2:((24:Int)≤(i:Int))=True:=by simp; omega
      simp only[↓xP,xQ,xR,xS,flatR,reduceLT,Nat.reduceBEq,reduceAdd,reduceSub,h0,h3,hi,hx,hw,hc2,Entry.u,entryValid_spec]
      have:¬l.length≤24:=by omega
      simp [this]
    · have hc2:((24:Int)≤(i:Int))=False:=by simp; omega
      simp only[↓xP,xQ,xR,xS,flatR,reduceLT,Nat.reduceBEq,reduceAdd,reduceSub,h0,h3,hi,hx,hw,hc2,Entry.u,entryValid_spec]
      rw [drop_at hx]
      refine sel_split (fun h=>?_) (fun h=>?_)
      · simp_all
      · rw [ih (i+1) _ (by omega) (by and_intros<;>first|omega|rfl|(simp only[↓xP,xQ,xR,xS,flatR,reduceLT,Nat.reduceBEq,reduceAdd,reduceSub,h0]<;>first|done|rfl|omega))]; simp_all
  · simp only[↓xP,xQ,xR,xS,flatR,reduceLT,Nat.reduceBEq,reduceAdd,reduceSub,h0,h3,hi]
    rw [List.drop_of_length_le (by omega)]
    have:l.length≤24:=by omega
    simp [this]
def replicaValid (r:Replica):Bool:=if noConf r.conf=true then !r.ready&&decide (r.log.length=0) else configValid r.conf&&entriesValid r.log&&(r.ready||decide (r.log.length=0))
theorem replicaValid_impl (e:Int) (ms:List Int) (f rd:Bool) (lg:List Entry) (h1:ms.length≤4611686018427387904) (h2:lg.length≤4611686018427387904):EE F 195 [.ag [.u (.int .i64 e),.u (.sl 1 (ms.map iU)),.u (.bool f),.u (.bool rd),.u (.sl 6 (lg.map Entry.u))]] []=ok1 (B (replicaValid ⟨⟨e,ms,f⟩,rd,lg⟩)):=by
  rw [R195,b195]
  have a:=configValid_impl e ms f h1
  have b:=entriesValid_impl lg h2
  simp only[↓xP,xQ,xR,xS,flatR,reduceLT,Nat.reduceBEq,reduceAdd,reduceSub,noConf_impl,a,b]
  repeat' (refine sel_split (fun h=>?_) (fun h=>?_))
  all_goals simp_all [replicaValid]
theorem replicaValid_spec (e:Int) (ms:List Int) (f rd:Bool) (lg:List Entry) (h1:ms.length≤4611686018427387904) (h2:lg.length≤4611686018427387904):EE F 188 [.ag [.u (.int .i64 e),.u (.sl 1 (ms.map iU)),.u (.bool f),.u (.bool rd),.u (.sl 6 (lg.map Entry.u))]] []=ok1 (B (replicaValid ⟨⟨e,ms,f⟩,rd,lg⟩)):=by
  rw [R188,b188]
  have a:=configValid_spec e ms f h1
  have b:=entriesValid_spec lg h2
  simp only[↓xP,xQ,xR,xS,flatR,reduceLT,Nat.reduceBEq,reduceAdd,reduceSub,noConf_spec,a,b]
  repeat' (refine sel_split (fun h=>?_) (fun h=>?_))
  all_goals simp_all [replicaValid]
def messageValid (m:Message):Bool:=decide (1≤m.epoch)&&decide (m.epoch≤60)&&(if m.kind=1 then inR m.to_ 0 4&&configValid m.conf&&decide (m.conf.epoch=m.epoch)&&decide (m.log.length=0) else if m.kind=2 then inR m.to_ 0 4&&noConf m.conf&&entriesValid m.log else if m.kind=3 then decide (m.to_ = -1)&&noConf m.conf&&decide (m.log.length=0) else false)
theorem messageValid_impl (k t ep e:Int) (ms:List Int) (f:Bool) (lg:List Entry) (h1:ms.length≤4611686018427387904) (h2:lg.length≤4611686018427387904):EE F 259 [.ag [.u (.int .i64 k),.u (.int .i64 t),.u (.int .i64 ep),.u (.int .i64 e),.u (.sl 1 (ms.map iU)),.u (.bool f),.u (.sl 6 (lg.map Entry.u))]] []=ok1 (B (messageValid ⟨k,t,ep,⟨e,ms,f⟩,lg⟩)):=by
  rw [R259,b259]
  have a:=configValid_impl e ms f h1
  have b:=entriesValid_impl lg h2
  simp only[↓xP,xQ,xR,xS,flatR,reduceLT,Nat.reduceBEq,reduceAdd,reduceSub,noConf_impl,a,b,nodeValid_ok]
  repeat' (refine sel_split (fun h=>?_) (fun h=>?_))
  all_goals first|(simp_all [messageValid,inR]; done)|(simp_all [messageValid,inR]; grind)|(simp_all [messageValid,inR,configValid]; done)|(simp_all [messageValid,inR,configValid]; grind)|skip
theorem messageValid_spec (k t ep e:Int) (ms:List Int) (f:Bool) (lg:List Entry) (h1:ms.length≤4611686018427387904) (h2:lg.length≤4611686018427387904):EE F 250 [.ag [.u (.int .i64 k),.u (.int .i64 t),.u (.int .i64 ep),.u (.int .i64 e),.u (.sl 1 (ms.map iU)),.u (.bool f),.u (.sl 6 (lg.map Entry.u))]] []=ok1 (B (messageValid ⟨k,t,ep,⟨e,ms,f⟩,lg⟩)):=by
  rw [R250,b250]
  have a:=configValid_spec e ms f h1
  have b:=entriesValid_spec lg h2
  simp only[↓xP,xQ,xR,xS,flatR,reduceLT,Nat.reduceBEq,reduceAdd,reduceSub,noConf_spec,a,b,l1In_ok]
  repeat' (refine sel_split (fun h=>?_) (fun h=>?_))
  all_goals first|(simp_all [messageValid,inR]; done)|(simp_all [messageValid,inR]; grind)|(simp_all [messageValid,inR,configValid]; done)|(simp_all [messageValid,inR,configValid]; grind)|skip
def bagValid (l:List Message):Bool:=decide (l.length≤10)&&l.all messageValid
theorem bagValid_impl (l:List Message) (hs:SmallMessageS l):EE F 194 [L 7 (l.map Message.u)] []=ok1 (B (bagValid l)):=by
  have hn:=hs.1
  rw [R194,b194]
  simp only[↓xP,xQ,xR,xS,flatR,reduceLT,Nat.reduceBEq,reduceAdd,reduceSub]
  refine sel_split (fun h=>?_) (fun h=>?_)
  · have:¬l.length≤10:=by simp at h; omega
    simp [bagValid,this]
  have hl:l.length≤10:=by simp at h; omega
  refine (loop_ind (fun (i:Nat) st=>st.s 8=DU (.sl 7 (l.map Message.u))∧st.s 9=DI l.length∧st.s 10=DI i) (fun i=>l.length - i) (fun i=>ok1 (B ((l.drop i).all messageValid))) ?_ 0 (by and_intros<;>first|omega|rfl|(simp only[↓xP,xQ,xR,xS,flatR,reduceLT,Nat.reduceBEq,reduceAdd,reduceSub]<;>first|done|rfl|omega))).trans (by simp [bagValid,hl])
  rintro i st ⟨h8,h9,h10⟩ ih
  by_cases hi:i<l.length
  · obtain ⟨⟨k,t,ep,⟨e,ms,f⟩,lg⟩,hx⟩:∃ x,l[i]?=some x:=⟨_,List.getElem?_eq_getElem hi⟩
    have hw:=w_succ (i:=i) (by omega)
    have hsx:=hs.2 _ (List.mem_of_getElem? hx)
    have hm:=messageValid_impl k t ep e ms f lg (by have:=hsx.1.1.1; simp only at this; omega) (by have:=hsx.2.1.1; simp only at this; omega)
    simp only[↓xP,xQ,xR,xS,flatR,reduceLT,Nat.reduceBEq,reduceAdd,reduceSub,h8,h9,h10,hi,hx,hw,Message.u,hm]
    rw [drop_at hx]
    refine sel_split (fun h=>?_) (fun h=>?_)
    · simp_all
    · rw [ih (i+1) _ (by omega) (by and_intros<;>first|omega|rfl|(simp only[↓xP,xQ,xR,xS,flatR,reduceLT,Nat.reduceBEq,reduceAdd,reduceSub,h8,h9]<;>first|done|rfl|omega))]; simp_all
  · simp only[↓xP,xQ,xR,xS,flatR,reduceLT,Nat.reduceBEq,reduceAdd,reduceSub,h8,h9,h10,hi]
    rw [List.drop_of_length_le (by omega)]; rfl
theorem bagValid_spec (l:List Message) (hs:SmallMessageS l):EE F 187 [L 7 (l.map Message.u)] []=ok1 (B (bagValid l)):=by
  have hn:=hs.1
  rw [R187,b187]
  simp only[↓xP,xQ,xR,xS,flatR,reduceLT,Nat.reduceBEq,reduceAdd,reduceSub]
  refine (loop_ind (fun (i:Nat) st=>i≤10∧i≤l.length∧st.s 0=DU (.sl 7 (l.map Message.u))∧st.s 3=DI i) (fun i=>l.length - i) (fun i=>ok1 (B (decide (l.length≤10)&&(l.drop i).all messageValid))) ?_ 0 (by and_intros<;>first|omega|rfl|(simp only[↓xP,xQ,xR,xS,flatR,reduceLT,Nat.reduceBEq,reduceAdd,reduceSub]<;>first|done|rfl|omega))).trans (by simp [bagValid])
  rintro i st ⟨h24,hle,h0,h3⟩ ih
  by_cases hi:i<l.length
  · obtain ⟨⟨k,t,ep,⟨e,ms,f⟩,lg⟩,hx⟩:∃ x,l[i]?=some x:=⟨_,List.getElem?_eq_getElem hi⟩
    have hw:=w_succ (i:=i) (by omega)
    have hsx:=hs.2 _ (List.mem_of_getElem? hx)
    have hm:=messageValid_spec k t ep e ms f lg (by have:=hsx.1.1.1; simp only at this; omega) (by have:=hsx.2.1.1; simp only at this; omega)
    by_cases hc:i=10
    · have hc2:((10:Int)≤(i:Int))=True:=by simp; omega
      simp only[↓xP,xQ,xR,xS,flatR,reduceLT,Nat.reduceBEq,reduceAdd,reduceSub,h0,h3,hi,hx,hw,hc2,Message.u,hm]
      have:¬l.length≤10:=by omega
      simp [this]
    · have hc2:((10:Int)≤(i:Int))=False:=by simp; omega
      simp only[↓xP,xQ,xR,xS,flatR,reduceLT,Nat.reduceBEq,reduceAdd,reduceSub,h0,h3,hi,hx,hw,hc2,Message.u,hm]
      rw [drop_at hx]
      refine sel_split (fun h=>?_) (fun h=>?_)
      · simp_all
      · rw [ih (i+1) _ (by omega) (by and_intros<;>first|omega|rfl|(simp only[↓xP,xQ,xR,xS,flatR,reduceLT,Nat.reduceBEq,reduceAdd,reduceSub,h0]<;>first|done|rfl|omega))]; simp_all
  · simp only[↓xP,xQ,xR,xS,flatR,reduceLT,Nat.reduceBEq,reduceAdd,reduceSub,h0,h3,hi]
    rw [List.drop_of_length_le (by omega)]
    have:l.length≤10:=by omega
    simp [this]
def answerValid (a:Answer):Bool:=entryValid a.asked&&inR a.reply (-4) 999
def answersValid (l:List Answer):Bool:=decide (l.length≤24)&&l.all answerValid
theorem answersValid_ok (l:List Answer) (hn:l.length≤4611686018427387904):EE F 196 [L 7 (l.map Answer.u)] []=ok1 (B (answersValid l)):=by
  rw [R196,b196]
  simp only[↓xP,xQ,xR,xS,flatR,reduceLT,Nat.reduceBEq,reduceAdd,reduceSub]
  refine sel_split (fun h=>?_) (fun h=>?_)
  · have:¬l.length≤24:=by simp at h; omega
    simp [answersValid,this]
  have hl:l.length≤24:=by simp at h; omega
  refine (loop_ind (fun (i:Nat) st=>st.s 8=DU (.sl 7 (l.map Answer.u))∧st.s 9=DI l.length∧st.s 10=DI i) (fun i=>l.length - i) (fun i=>ok1 (B ((l.drop i).all answerValid))) ?_ 0 (by and_intros<;>first|omega|rfl|(simp only[↓xP,xQ,xR,xS,flatR,reduceLT,Nat.reduceBEq,reduceAdd,reduceSub]<;>first|done|rfl|omega))).trans (by simp [answersValid,hl])
  rintro i st ⟨h8,h9,h10⟩ ih
  by_cases hi:i<l.length
  · obtain ⟨⟨⟨c,s,k,key,v,o⟩,r⟩,hx⟩:∃ x,l[i]?=some x:=⟨_,List.getElem?_eq_getElem hi⟩
    have hw:=w_succ (i:=i) (by omega)
    simp only[↓xP,xQ,xR,xS,flatR,reduceLT,Nat.reduceBEq,reduceAdd,reduceSub,h8,h9,h10,hi,hx,hw,Answer.u,entryValid_impl]
    rw [drop_at hx]
    repeat' (refine sel_split (fun h=>?_) (fun h=>?_))
    all_goals first|(rw [ih (i+1) _ (by omega) (by and_intros<;>first|omega|rfl|(simp only[↓xP,xQ,xR,xS,flatR,reduceLT,Nat.reduceBEq,reduceAdd,reduceSub,h8,h9]<;>first|done|rfl|omega))]; simp_all [answerValid,inR]; done)|(simp_all [answerValid,inR]; done)|(simp_all [answerValid,inR]; grind)|skip
  · simp only[↓xP,xQ,xR,xS,flatR,reduceLT,Nat.reduceBEq,reduceAdd,reduceSub,h8,h9,h10,hi]
    rw [List.drop_of_length_le (by omega)]; rfl
def chainValid (c:Chain):Bool:=stateValid c.base&&configValid c.conf&&decide (c.nodes.length=5)&&decide (c.up.length=5)&&bagValid c.bag&&(c.nodes.all fun r=>replicaValid r&&decide (r.conf.epoch≤c.conf.epoch))&&(c.bag.all fun m=>decide (m.epoch≤c.conf.epoch))&&answersValid c.answers
theorem chainValid_impl (c0 c1:Str) (c2:List Pair) (c3:List Session) (c4:Bool) (c5:Str) (c6:Int) (c7:List Int) (c8:Bool) (c9:List Replica) (c10:List Bool) (c11:List Message) (c12:List Answer) (hs:Chain.Small ⟨⟨⟨c0,c1⟩,c2,c3,c4,c5⟩,⟨c6,c7,c8⟩,c9,c10,c11,c12⟩):EE F 124 [.ag [.u (.str c0),.u (.str c1),.u (.sl 2 (c2.map Pair.u)),.u (.sl 3 (c3.map Session.u)),.u (.bool c4),.u (.str c5),.u (.int .i64 c6),.u (.sl 1 (c7.map iU)),.u (.bool c8),.u (.sl 5 (c9.map Replica.u)),.u (.sl 1 (c10.map bU)),.u (.sl 7 (c11.map Message.u)),.u (.sl 7 (c12.map Answer.u))]] []=ok1 (B (chainValid ⟨⟨⟨c0,c1⟩,c2,c3,c4,c5⟩,⟨c6,c7,c8⟩,c9,c10,c11,c12⟩)):=by
  rw [R124,b124]
  obtain ⟨hb,hcf,hnd,hup,hbag,hans,_⟩:=hs
  have a1:=stateValid_impl c0 c1 c2 c3 c4 c5 (by have:=hb.2.2.1.1; simp only at this; omega)
  have a2:=configValid_impl c6 c7 c8 (by have:=hcf.1.1; simp only at this; omega)
  have a3:=bagValid_impl c11 hbag
  have a4:=answersValid_ok c12 (by have:=hans.1; simp only at this; omega)
  have hnl:c9.length≤1048576:=hnd.1
  have hbl:c11.length≤1048576:=hbag.1
  simp only[↓xP,xQ,xR,xS,flatR,reduceLT,Nat.reduceBEq,reduceAdd,reduceSub,a1,a2,a3,List.length_map,ne_eq]
  refine sel_split (fun h=>?_) (fun g1=>?_)
  · rw [Bool.not_eq_true'] at h; simp [chainValid,h]
  refine sel_split (fun h=>?_) (fun g2=>?_)
  · rw [Bool.not_eq_true'] at h; simp [chainValid,h]
  refine sel_split (fun h=>?_) (fun g3=>?_)
  · have:¬c9.length=5:=by simp at h; omega
    simp [chainValid,this]
  refine sel_split (fun h=>?_) (fun g4=>?_)
  · have:¬c10.length=5:=by simp at h; omega
    simp [chainValid,this]
  refine sel_split (fun h=>?_) (fun g5=>?_)
  · rw [Bool.not_eq_true'] at h; simp [chainValid,h]
  rw [Bool.not_eq_false'] at g1 g2 g5
  have g3':c9.length=5:=by simp at g3; omega
  have g4':c10.length=5:=by simp at g4; omega
  have hcv:chainValid ⟨⟨⟨c0,c1⟩,c2,c3,c4,c5⟩,⟨c6,c7,c8⟩,c9,c10,c11,c12⟩=((c9.all fun r=>replicaValid r&&decide (r.conf.epoch≤c6))&&((c11.all fun m=>decide (m.epoch≤c6))&&answersValid c12)):=by
    simp only[chainValid,g1,g2,g3',g4',g5,decide_true,Bool.and_true,Bool.true_and,Bool.and_assoc]
  rw [hcv]
  refine loop_ind (fun (i:Nat) st=>st.s 1=.t (.sc (.ptr (.loc 1 0) 0 0))∧st.o (.loc 1 0)=some (.box [.u (.str c0),.u (.str c1),.u (.sl 2 (c2.map Pair.u)),.u (.sl 3 (c3.map Session.u)),.u (.bool c4),.u (.str c5),.u (.int .i64 c6),.u (.sl 1 (c7.map iU)),.u (.bool c8),.u (.sl 5 (c9.map Replica.u)),.u (.sl 1 (c10.map bU)),.u (.sl 7 (c11.map Message.u)),.u (.sl 7 (c12.map Answer.u))])∧st.s 36=DU (.sl 5 (c9.map Replica.u))∧st.s 37=DI c9.length∧st.s 38=DI i) (fun i=>c9.length - i) (fun i=>ok1 (B (((c9.drop i).all fun r=>replicaValid r&&decide (r.conf.epoch≤c6))&&((c11.all fun m=>decide (m.epoch≤c6))&&answersValid c12)))) ?_ 0 (by and_intros<;>first|omega|rfl|(simp only[↓xP,xQ,xR,xS,flatR,reduceLT,Nat.reduceBEq,reduceAdd,reduceSub]<;>first|done|rfl|omega))
  rintro i st ⟨h1,ho,h36,h37,h38⟩ ih
  by_cases hi:i<c9.length
  · obtain ⟨⟨⟨e,ms,f⟩,rd,lg⟩,hx⟩:∃ x,c9[i]?=some x:=⟨_,List.getElem?_eq_getElem hi⟩
    have hw:=w_succ (i:=i) (by omega)
    have hsx:=hnd.2 _ (List.mem_of_getElem? hx)
    have hr:=replicaValid_impl e ms f rd lg (by have:=hsx.1.1.1; simp only at this; omega) (by have:=hsx.2.1.1; simp only at this; omega)
    simp only[↓xP,xQ,xR,xS,flatR,reduceLT,Nat.reduceBEq,reduceAdd,reduceSub,h1,ho,h36,h37,h38,hi,hx,hw,Replica.u,hr]
    rw [drop_at hx,List.all_cons]
    refine sel_split (fun h=>?_) (fun q1=>?_)
    · rw [Bool.not_eq_true'] at h; simp [h]
    refine sel_split (fun h=>?_) (fun q2=>?_)
    · have:¬e≤c6:=by simp at h; omega
      simp [this]
    rw [Bool.not_eq_false'] at q1
    have q2':e≤c6:=by simp at q2; omega
    rw [ih (i+1) _ (by omega) (by and_intros<;>first|omega|rfl|(simp only[↓xP,xQ,xR,xS,flatR,reduceLT,Nat.reduceBEq,reduceAdd,reduceSub,h1,ho,h36,h37]<;>first|done|rfl|omega))]
    simp [q1,q2']
  simp only[↓xP,xQ,xR,xS,flatR,reduceLT,Nat.reduceBEq,reduceAdd,reduceSub,h1,ho,h36,h37,h38,hi]
  rw [List.drop_of_length_le (by omega),List.all_nil,Bool.true_and]
  refine loop_ind (fun (i:Nat) st=>st.s 1=.t (.sc (.ptr (.loc 1 0) 0 0))∧st.o (.loc 1 0)=some (.box [.u (.str c0),.u (.str c1),.u (.sl 2 (c2.map Pair.u)),.u (.sl 3 (c3.map Session.u)),.u (.bool c4),.u (.str c5),.u (.int .i64 c6),.u (.sl 1 (c7.map iU)),.u (.bool c8),.u (.sl 5 (c9.map Replica.u)),.u (.sl 1 (c10.map bU)),.u (.sl 7 (c11.map Message.u)),.u (.sl 7 (c12.map Answer.u))])∧st.s 56=DU (.sl 7 (c11.map Message.u))∧st.s 57=DI c11.length∧st.s 58=DI i) (fun i=>c11.length - i) (fun i=>ok1 (B (((c11.drop i).all fun m=>decide (m.epoch≤c6))&&answersValid c12))) ?_ 0 (by and_intros<;>first|omega|rfl|(simp only[↓xP,xQ,xR,xS,flatR,reduceLT,Nat.reduceBEq,reduceAdd,reduceSub,h1,ho]<;>first|done|rfl|omega))
  clear h1 ho h36 h37 h38 hi ih
  rintro i st ⟨h1,ho,h36,h37,h38⟩ ih
  by_cases hi:i<c11.length
  · obtain ⟨⟨k,t,ep,⟨e,ms,f⟩,lg⟩,hx⟩:∃ x,c11[i]?=some x:=⟨_,List.getElem?_eq_getElem hi⟩
    have hw:=w_succ (i:=i) (by omega)
    simp only[↓xP,xQ,xR,xS,flatR,reduceLT,Nat.reduceBEq,reduceAdd,reduceSub,h1,ho,h36,h37,h38,hi,hx,hw,Message.u]
    rw [drop_at hx,List.all_cons]
    refine sel_split (fun h=>?_) (fun q2=>?_)
    · have:¬ep≤c6:=by simp at h; omega
      simp [this]
    have q2':ep≤c6:=by simp at q2; omega
    rw [ih (i+1) _ (by omega) (by and_intros<;>first|omega|rfl|(simp only[↓xP,xQ,xR,xS,flatR,reduceLT,Nat.reduceBEq,reduceAdd,reduceSub,h1,ho,h36,h37]<;>first|done|rfl|omega))]
    simp [q2']
  simp only[↓xP,xQ,xR,xS,flatR,reduceLT,Nat.reduceBEq,reduceAdd,reduceSub,h1,ho,h36,h37,h38,hi,a4]
  rw [List.drop_of_length_le (by omega),List.all_nil,Bool.true_and]
theorem chainValid_spec (c0 c1:Str) (c2:List Pair) (c3:List Session) (c4:Bool) (c5:Str) (c6:Int) (c7:List Int) (c8:Bool) (c9:List Replica) (c10:List Bool) (c11:List Message) (c12:List Answer) (hs:Chain.Small ⟨⟨⟨c0,c1⟩,c2,c3,c4,c5⟩,⟨c6,c7,c8⟩,c9,c10,c11,c12⟩):EE F 117 [.ag [.u (.str c0),.u (.str c1),.u (.sl 2 (c2.map Pair.u)),.u (.sl 3 (c3.map Session.u)),.u (.bool c4),.u (.str c5),.u (.int .i64 c6),.u (.sl 1 (c7.map iU)),.u (.bool c8),.u (.sl 5 (c9.map Replica.u)),.u (.sl 1 (c10.map bU)),.u (.sl 7 (c11.map Message.u)),.u (.sl 7 (c12.map Answer.u))]] []=ok1 (B (chainValid ⟨⟨⟨c0,c1⟩,c2,c3,c4,c5⟩,⟨c6,c7,c8⟩,c9,c10,c11,c12⟩)):=by
  rw [R117,b117]
  obtain ⟨hb,hcf,hnd,hup,hbag,hans,_⟩:=hs
  have a1:=stateValid_spec c0 c1 c2 c3 c4 c5 (by have:=hb.2.2.1.1; simp only at this; omega)
  have a2:=configValid_spec c6 c7 c8 (by have:=hcf.1.1; simp only at this; omega)
  have a3:=bagValid_spec c11 hbag
  have hnl:c9.length≤1048576:=hnd.1
  have hbl:c11.length≤1048576:=hbag.1
  have hal:c12.length≤1048576:=hans.1
  simp only[↓xP,xQ,xR,xS,flatR,reduceLT,Nat.reduceBEq,reduceAdd,reduceSub,a1,a2,a3,List.length_map,ne_eq]
  refine sel_split (fun h=>?_) (fun g1=>?_)
  · rw [Bool.not_eq_true'] at h; simp [chainValid,h]
  refine sel_split (fun h=>?_) (fun g2=>?_)
  · rw [Bool.not_eq_true'] at h; simp [chainValid,h]
  refine sel_split (fun h=>?_) (fun g3=>?_)
  · have:¬c9.length=5:=by simp at h; omega
    simp [chainValid,this]
  refine sel_split (fun h=>?_) (fun g4=>?_)
  · have:¬c10.length=5:=by simp at h; omega
    simp [chainValid,this]
  refine sel_split (fun h=>?_) (fun g5=>?_)
  · rw [Bool.not_eq_true'] at h; simp [chainValid,h]
  refine sel_split (fun h=>?_) (fun g6=>?_)
  · have:¬c12.length≤24:=by simp at h; omega
    simp [chainValid,answersValid,this]
  rw [Bool.not_eq_false'] at g1 g2 g5
  have g3':c9.length=5:=by simp at g3; omega
  have g4':c10.length=5:=by simp at g4; omega
  have g6':c12.length≤24:=by simp at g6; omega
  have hcv:chainValid ⟨⟨⟨c0,c1⟩,c2,c3,c4,c5⟩,⟨c6,c7,c8⟩,c9,c10,c11,c12⟩=((c9.all fun r=>replicaValid r&&decide (r.conf.epoch≤c6))&&((c11.all fun m=>decide (m.epoch≤c6))&&answersValid c12)):=by
    simp only[chainValid,g1,g2,g3',g4',g5,decide_true,Bool.and_true,Bool.true_and,Bool.and_assoc]
  rw [hcv]
  refine loop_ind (fun (i:Nat) st=>i≤5∧st.s 1=.t (.sc (.ptr (.loc 1 0) 0 0))∧st.o (.loc 1 0)=some (.box [.u (.str c0),.u (.str c1),.u (.sl 2 (c2.map Pair.u)),.u (.sl 3 (c3.map Session.u)),.u (.bool c4),.u (.str c5),.u (.int .i64 c6),.u (.sl 1 (c7.map iU)),.u (.bool c8),.u (.sl 5 (c9.map Replica.u)),.u (.sl 1 (c10.map bU)),.u (.sl 7 (c11.map Message.u)),.u (.sl 7 (c12.map Answer.u))])∧st.s 3=DI i) (fun i=>5 - i) (fun i=>ok1 (B (((c9.drop i).all fun r=>replicaValid r&&decide (r.conf.epoch≤c6))&&((c11.all fun m=>decide (m.epoch≤c6))&&answersValid c12)))) ?_ 0 (by and_intros<;>first|omega|rfl|(simp only[↓xP,xQ,xR,xS,flatR,reduceLT,Nat.reduceBEq,reduceAdd,reduceSub]<;>first|done|rfl|omega))
  rintro i st ⟨hi5,h1,ho,h3⟩ ih
  by_cases hi:i<5
  · obtain ⟨⟨⟨e,ms,f⟩,rd,lg⟩,hx⟩:∃ x,c9[i]?=some x:=⟨_,List.getElem?_eq_getElem (by omega)⟩
    have hw:=w_succ (i:=i) (by omega)
    have hlt:((i:Int)<5)=True:=by simp; omega
    have hsx:=hnd.2 _ (List.mem_of_getElem? hx)
    have hr:=replicaValid_spec e ms f rd lg (by have:=hsx.1.1.1; simp only at this; omega) (by have:=hsx.2.1.1; simp only at this; omega)
    rw [drop_at hx,List.all_cons]
    cases q1:replicaValid ⟨⟨e,ms,f⟩,rd,lg⟩
    · simp only[↓xP,xQ,xR,xS,flatR,reduceLT,Nat.reduceBEq,reduceAdd,reduceSub,rdx2,h1,ho,h3,hlt,hx,hw,Replica.u,hr,q1]
      try simp
    · by_cases q2:e≤c6
      · have q2':(c6<e)=False:=by simp; omega
        simp only[↓xP,xQ,xR,xS,flatR,reduceLT,Nat.reduceBEq,reduceAdd,reduceSub,rdx2,h1,ho,h3,hlt,hx,hw,Replica.u,hr,q1,q2']
        rw [ih (i+1) _ (by omega) ⟨by omega,(by and_intros<;>first|omega|rfl|(simp only[↓xP,xQ,xR,xS,flatR,reduceLT,Nat.reduceBEq,reduceAdd,reduceSub,h1,ho,hw]<;>first|done|rfl|omega))⟩]
        simp [q2]
      · have q2':(c6<e)=True:=by simp; omega
        simp only[↓xP,xQ,xR,xS,flatR,reduceLT,Nat.reduceBEq,reduceAdd,reduceSub,rdx2,h1,ho,h3,hlt,hx,hw,Replica.u,hr,q1,q2']
        try simp [q2]
  have hlt:((i:Int)<5)=False:=by simp; omega
  simp only[↓xP,xQ,xR,xS,flatR,reduceLT,Nat.reduceBEq,reduceAdd,reduceSub,h1,ho,h3,hlt]
  rw [List.drop_of_length_le (by omega),List.all_nil,Bool.true_and]
  refine loop_ind (fun (i:Nat) st=>st.s 1=.t (.sc (.ptr (.loc 1 0) 0 0))∧st.o (.loc 1 0)=some (.box [.u (.str c0),.u (.str c1),.u (.sl 2 (c2.map Pair.u)),.u (.sl 3 (c3.map Session.u)),.u (.bool c4),.u (.str c5),.u (.int .i64 c6),.u (.sl 1 (c7.map iU)),.u (.bool c8),.u (.sl 5 (c9.map Replica.u)),.u (.sl 1 (c10.map bU)),.u (.sl 7 (c11.map Message.u)),.u (.sl 7 (c12.map Answer.u))])∧st.s 4=DI i) (fun i=>c11.length - i) (fun i=>ok1 (B (((c11.drop i).all fun m=>decide (m.epoch≤c6))&&answersValid c12))) ?_ 0 (by and_intros<;>first|omega|rfl|(simp only[↓xP,xQ,xR,xS,flatR,reduceLT,Nat.reduceBEq,reduceAdd,reduceSub,h1,ho]<;>first|done|rfl|omega))
  clear h1 ho h3 hi ih hlt
  rintro i st ⟨h1,ho,h3⟩ ih
  by_cases hi:i<c11.length
  · obtain ⟨⟨k,t,ep,⟨e,ms,f⟩,lg⟩,hx⟩:∃ x,c11[i]?=some x:=⟨_,List.getElem?_eq_getElem hi⟩
    have hw:=w_succ (i:=i) (by omega)
    rw [drop_at hx,List.all_cons]
    by_cases q2:ep≤c6
    · have q2':(c6<ep)=False:=by simp; omega
      simp only[↓xP,xQ,xR,xS,flatR,reduceLT,Nat.reduceBEq,reduceAdd,reduceSub,rdx2,h1,ho,h3,hi,hx,hw,Message.u,q2']
      rw [ih (i+1) _ (by omega) (by and_intros<;>first|omega|rfl|(simp only[↓xP,xQ,xR,xS,flatR,reduceLT,Nat.reduceBEq,reduceAdd,reduceSub,h1,ho,hw]<;>first|done|rfl|omega))]
      try simp [q2]
    · have q2':(c6<ep)=True:=by simp; omega
      simp only[↓xP,xQ,xR,xS,flatR,reduceLT,Nat.reduceBEq,reduceAdd,reduceSub,rdx2,h1,ho,h3,hi,hx,hw,Message.u,q2']
      try simp [q2]
  simp only[↓xP,xQ,xR,xS,flatR,reduceLT,Nat.reduceBEq,reduceAdd,reduceSub,h1,ho,h3,hi]
  rw [List.drop_of_length_le (by omega),List.all_nil,Bool.true_and]
  have han:answersValid c12=(c12.drop 0).all answerValid:=by simp [answersValid,g6']
  rw [han]
  refine loop_ind (fun (i:Nat) st=>st.s 1=.t (.sc (.ptr (.loc 1 0) 0 0))∧st.o (.loc 1 0)=some (.box [.u (.str c0),.u (.str c1),.u (.sl 2 (c2.map Pair.u)),.u (.sl 3 (c3.map Session.u)),.u (.bool c4),.u (.str c5),.u (.int .i64 c6),.u (.sl 1 (c7.map iU)),.u (.bool c8),.u (.sl 5 (c9.map Replica.u)),.u (.sl 1 (c10.map bU)),.u (.sl 7 (c11.map Message.u)),.u (.sl 7 (c12.map Answer.u))])∧st.s 5=DI i) (fun i=>c12.length - i) (fun i=>ok1 (B ((c12.drop i).all answerValid))) ?_ 0 (by and_intros<;>first|omega|rfl|(simp only[↓xP,xQ,xR,xS,flatR,reduceLT,Nat.reduceBEq,reduceAdd,reduceSub,h1,ho]<;>first|done|rfl|omega))
  clear h1 ho h3 hi ih
  rintro i st ⟨h1,ho,h3⟩ ih
  by_cases hi:i<c12.length
  · obtain ⟨⟨⟨c,s,k,key,v,o⟩,r⟩,hx⟩:∃ x,c12[i]?=some x:=⟨_,List.getElem?_eq_getElem hi⟩
    have hw:=w_succ (i:=i) (by omega)
    simp only[↓xP,xQ,xR,xS,flatR,reduceLT,Nat.reduceBEq,reduceAdd,reduceSub,h1,ho,h3,hi,hx,hw,Answer.u,entryValid_spec,l1In_ok]
    rw [drop_at hx,List.all_cons]
    refine sel_split (fun h=>?_) (fun q1=>?_)
    · rw [Bool.not_eq_true'] at h; simp [answerValid,h]
    refine sel_split (fun h=>?_) (fun q2=>?_)
    · rw [Bool.not_eq_true'] at h; simp [answerValid,h]
    rw [Bool.not_eq_false'] at q1 q2
    rw [ih (i+1) _ (by omega) (by and_intros<;>first|omega|rfl|(simp only[↓xP,xQ,xR,xS,flatR,reduceLT,Nat.reduceBEq,reduceAdd,reduceSub,h1,ho]<;>first|done|rfl|omega))]
    simp [answerValid,q1,q2]
  simp only[↓xP,xQ,xR,xS,flatR,reduceLT,Nat.reduceBEq,reduceAdd,reduceSub,h1,ho,h3,hi]
  rw [List.drop_of_length_le (by omega),List.all_nil]
def joinAt (l:List Interval) (j:Nat):Bool:=match l[j - 1]?,l[j]? with
  | some a,some b=>joinOk a b
  | _,_=>true
def partAt (l:List Interval) (j:Nat):Bool:=(match l[j]? with
  | some a=>intervalValid a
  | none=>true)&&(decide (j=0)||joinAt l j)
def partitionValid (l:List Interval):Bool:=match l[0]?,l[l.length - 1]? with
  | some a,some b=>decide (l.length≤6)&&intervalValid a&&decide (a.low=[])&&decide (b.high=[])&&allF l.length (joinAt l) 1
  | _,_=>false
theorem partAt_all {l:List Interval} {a:Interval} (ha:l[0]?=some a):allF l.length (partAt l) 0=(intervalValid a&&allF l.length (joinAt l) 1):=by
  have h0:0<l.length:=(List.getElem?_eq_some_iff.1 ha).1
  rw [Bool.eq_iff_iff,Bool.and_eq_true,allF_iff _ 0 rfl,allF_iff _ 1 rfl]
  constructor
  · intro h
    refine ⟨?_,fun j h1 h2=>?_⟩
    · have:=h 0 (by omega) h0
      simpa [partAt,ha] using this
    · have:=h j (by omega) h2
      simp only[partAt,Bool.and_eq_true,Bool.or_eq_true,decide_eq_true_eq] at this
      rcases this.2 with e|e
      · omega
      · exact e
  · rintro ⟨h1,h2⟩ j _ hj
    by_cases e:j=0
    · subst e; simp [partAt,ha,h1]
    · have hjn:=h2 j (by omega) hj
      obtain ⟨x,hx⟩:∃ x,l[j - 1]?=some x:=⟨_,List.getElem?_eq_getElem (by omega)⟩
      obtain ⟨y,hy⟩:∃ x,l[j]?=some x:=⟨_,List.getElem?_eq_getElem hj⟩
      have hjn2:=hjn
      simp only[joinAt,hx,hy,joinOk,Bool.and_eq_true] at hjn2
      simp [partAt,hy,hjn,hjn2.1.1.2]
theorem partitionValid_impl (l:List Interval) (hn:l.length≤1048576):EE F 163 [L 2 (l.map Interval.u)] []=ok1 (B (partitionValid l)):=by
  rw [R163,b163]
  by_cases hl:l=[]
  · subst hl
    simp only[↓xP,xQ,xR,xS,flatR,reduceLT,Nat.reduceBEq,reduceAdd,reduceSub,List.map_nil]
    rfl
  have h1:1≤l.length:=List.length_pos_iff.2 hl
  obtain ⟨⟨alo,ahi⟩,ha⟩:∃ a,l[0]?=some a:=⟨_,List.getElem?_eq_getElem (by omega)⟩
  obtain ⟨⟨blo,bhi⟩,hb⟩:∃ a,l[l.length - 1]?=some a:=⟨_,List.getElem?_eq_getElem (by omega)⟩
  have hw1:IntKind.i64.wrap ((l.length:Int) - 1)=((l.length - 1:Nat):Int):=by rw [w64 (by omega) (by omega)]; omega
  have hpv:partitionValid l=(decide (l.length≤6)&&decide (alo=[])&&decide (bhi=[])&&allF l.length (partAt l) 0):=by
    rw [partAt_all ha]
    simp only[partitionValid,ha,hb]
    cases decide (l.length≤6)<;>cases decide (alo=[])<;>cases decide (bhi=[])<;>cases intervalValid ⟨alo,ahi⟩<;>simp
  simp only[↓xP,xQ,xR,xS,flatR,reduceLT,Nat.reduceBEq,reduceAdd,reduceSub,List.length_map,ha,hb,Interval.u,hw1,ne_eq]
  refine sel_split (fun h=>?_) (fun g1=>?_)
  · simp at h; omega
  refine sel_split (fun h=>?_) (fun g2=>?_)
  · have:¬l.length≤6:=by simp at h; omega
    rw [hpv]; simp [this]
  refine sel_split (fun h=>?_) (fun g3=>?_)
  · have:¬alo=[]:=by simpa using h
    rw [hpv]; simp [this]
  refine sel_split (fun h=>?_) (fun g4=>?_)
  · have:¬bhi=[]:=by simpa using h
    rw [hpv]; simp [this]
  have hg:(decide (l.length≤6)&&decide (alo=[])&&decide (bhi=[]))=true:=by
    have a1:l.length≤6:=by simp at g2; omega
    have a2:alo=[]:=by simpa using g3
    have a3:bhi=[]:=by simpa using g4
    simp [a1,a2,a3]
  rw [hpv,hg,Bool.true_and]
  refine loop_ind (fun (i:Nat) st=>i≤l.length∧st.s 0=DU (.sl 2 (l.map Interval.u))∧st.s 32=DU (.sl 2 (l.map Interval.u))∧st.s 33=DI l.length∧st.s 34=DI i) (fun i=>l.length - i) (fun i=>ok1 (B (allF l.length (partAt l) i))) ?_ 0 (by and_intros<;>first|omega|rfl|(simp only[↓xP,xQ,xR,xS,flatR,reduceLT,Nat.reduceBEq,reduceAdd,reduceSub]<;>first|done|rfl|omega))
  rintro i st ⟨hle,h0,h32,h33,h34⟩ ih
  by_cases hi:i<l.length
  · obtain ⟨⟨lo,hi'⟩,hx⟩:∃ x,l[i]?=some x:=⟨_,List.getElem?_eq_getElem hi⟩
    have hw:=w_succ (i:=i) (by omega)
    rw [allF_lt hi]
    by_cases e:i=0
    · subst e
      have hgt:decide (((0:Nat):Int) > 0)=false:=by decide
      simp only[↓xP,xQ,xR,xS,flatR,reduceLT,Nat.reduceBEq,reduceAdd,reduceSub,h0,h32,h33,h34,hi,hx,hw,Interval.u,intervalValid_impl,hgt]
      refine sel_split (fun h=>?_) (fun h=>?_)
      · simp_all [partAt]
      · rw [ih 1 _ (by omega) (by and_intros<;>first|omega|rfl|(simp only[↓xP,xQ,xR,xS,flatR,reduceLT,Nat.reduceBEq,reduceAdd,reduceSub,h0,h32,h33]<;>first|done|rfl|omega))]; simp_all [partAt]
    · obtain ⟨k,rfl⟩:∃ k,i=k+1:=⟨i - 1,by omega⟩
      obtain ⟨⟨clo,chi⟩,hc⟩:∃ a,l[k]?=some a:=⟨_,List.getElem?_eq_getElem (by omega)⟩
      have hp:=w_pred (i:=k) (by omega)
      have hgt:decide (((k+1:Nat):Int) > 0)=true:=by simp
      have hjo:=intervalJoin_impl clo chi lo hi'
      have hpa:partAt l (k+1)=(intervalValid ⟨lo,hi'⟩&&joinOk ⟨clo,chi⟩ ⟨lo,hi'⟩):=by simp [partAt,joinAt,hx,hc]
      rw [hpa]
      cases hj:joinOk ⟨clo,chi⟩ ⟨lo,hi'⟩<;>simp only[joinRet,hj,↓xP,xQ,xR,xS,flatR,reduceLT,Nat.reduceBEq,reduceAdd,reduceSub] at hjo
      all_goals simp only[↓xP,xQ,xR,xS,flatR,reduceLT,Nat.reduceBEq,reduceAdd,reduceSub,rdx2,h0,h32,h33,h34,hi,hx,hc,hw,hp,hgt,Interval.u,intervalValid_impl,hjo]
      all_goals refine sel_split (fun h=>?_) (fun h=>?_)
      · simp_all
      · simp_all
      · simp_all
      · rw [ih (k+1+1) _ (by omega) (by and_intros<;>first|omega|rfl|(simp only[↓xP,xQ,xR,xS,flatR,reduceLT,Nat.reduceBEq,reduceAdd,reduceSub,h0,h32,h33,hw]<;>first|done|rfl|omega))]; simp_all
  · simp only[↓xP,xQ,xR,xS,flatR,reduceLT,Nat.reduceBEq,reduceAdd,reduceSub,h0,h32,h33,h34,hi]
    rw [allF_ge hi]
theorem partitionValid_spec (l:List Interval) (hn:l.length≤1048576):EE F 161 [L 2 (l.map Interval.u)] []=ok1 (B (partitionValid l)):=by
  rw [R161,b161]
  by_cases hl:l=[]
  · subst hl
    have:inR (0:Int) 1 6=false:=by decide
    simp only[↓xP,xQ,xR,xS,flatR,reduceLT,Nat.reduceBEq,reduceAdd,reduceSub,List.map_nil,l1In_ok,List.length_nil,List.length_map]
    refine sel_split (fun h=>?_) (fun h=>?_)
    · rfl
    · exact absurd h (by decide)
  have h1:1≤l.length:=List.length_pos_iff.2 hl
  obtain ⟨⟨alo,ahi⟩,ha⟩:∃ a,l[0]?=some a:=⟨_,List.getElem?_eq_getElem (by omega)⟩
  obtain ⟨⟨blo,bhi⟩,hb⟩:∃ a,l[l.length - 1]?=some a:=⟨_,List.getElem?_eq_getElem (by omega)⟩
  have hw1:IntKind.i64.wrap ((l.length:Int) - 1)=((l.length - 1:Nat):Int):=by rw [w64 (by omega) (by omega)]; omega
  have hin:inR (l.length:Int) 1 6=decide (l.length≤6):=by
    rw [Bool.eq_iff_iff]; simp only[inR,Bool.and_eq_true,decide_eq_true_eq]; omega
  have hpv:partitionValid l=(decide (l.length≤6)&&intervalValid ⟨alo,ahi⟩&&decide (alo=[])&&decide (bhi=[])&&allF l.length (joinAt l) 1):=by simp only[partitionValid,ha,hb]
  rw [hpv]
  simp only[↓xP,xQ,xR,xS,flatR,reduceLT,Nat.reduceBEq,reduceAdd,reduceSub,List.length_map,l1In_ok,hin,ha,hb,intervalValid_spec,Interval.u,hw1,ne_eq]
  refine sel_split (fun h=>?_) (fun g1=>?_)
  · rw [Bool.not_eq_true'] at h; simp [h]
  refine sel_split (fun h=>?_) (fun g2=>?_)
  · rw [Bool.not_eq_true'] at h; simp [h]
  refine sel_split (fun h=>?_) (fun g3=>?_)
  · have:¬alo=[]:=by simpa using h
    simp [this]
  refine sel_split (fun h=>?_) (fun g4=>?_)
  · have:¬bhi=[]:=by simpa using h
    simp [this]
  have hg:(decide (l.length≤6)&&intervalValid ⟨alo,ahi⟩&&decide (alo=[])&&decide (bhi=[]))=true:=by
    have a2:alo=[]:=by simpa using g3
    have a3:bhi=[]:=by simpa using g4
    rw [Bool.not_eq_false'] at g1 g2
    rw [g1,g2]; simp [a2,a3]
  rw [hg,Bool.true_and]
  refine loop_ind (fun (i:Nat) st=>1≤i∧i≤l.length∧st.s 0=DU (.sl 2 (l.map Interval.u))∧st.s 3=DI i) (fun i=>l.length - i) (fun i=>ok1 (B (allF l.length (joinAt l) i))) ?_ 1 ⟨by omega,h1,(by and_intros<;>first|omega|rfl|(simp only[↓xP,xQ,xR,xS,flatR,reduceLT,Nat.reduceBEq,reduceAdd,reduceSub]<;>first|done|rfl|omega))⟩
  rintro i st ⟨hi1,hle,hs0,hs3⟩ ih
  by_cases hi:i<l.length
  · obtain ⟨i,rfl⟩:∃ k,i=k+1:=⟨i - 1,by omega⟩
    obtain ⟨⟨clo,chi⟩,hc⟩:∃ a,l[i]?=some a:=⟨_,List.getElem?_eq_getElem (by omega)⟩
    obtain ⟨⟨dlo,dhi⟩,hd⟩:∃ a,l[i+1]?=some a:=⟨_,List.getElem?_eq_getElem (by omega)⟩
    have hw:=w_succ (i:=i+1) (by omega)
    have hp:=w_pred (i:=i) (by omega)
    have hjo:=intervalJoin_spec clo chi dlo dhi
    have hja:joinAt l (i+1)=joinOk ⟨clo,chi⟩ ⟨dlo,dhi⟩:=by simp [joinAt,hc,hd]
    rw [allF_lt hi,hja]
    cases hj:joinOk ⟨clo,chi⟩ ⟨dlo,dhi⟩<;>simp only[joinRet,hj,↓xP,xQ,xR,xS,flatR,reduceLT,Nat.reduceBEq,reduceAdd,reduceSub] at hjo
    · simp only[↓xP,xQ,xR,xS,flatR,reduceLT,Nat.reduceBEq,reduceAdd,reduceSub,rdx2,hs0,hs3,List.length_map,hi,hp,hc,hd,Interval.u,hjo,hw]
      try simp
    · simp only[↓xP,xQ,xR,xS,flatR,reduceLT,Nat.reduceBEq,reduceAdd,reduceSub,rdx2,hs0,hs3,List.length_map,hi,hp,hc,hd,Interval.u,hjo,hw]
      rw [ih (i+1+1) _ (by omega) ⟨by omega,by omega,(by and_intros<;>first|omega|rfl|(simp only[↓xP,xQ,xR,xS,flatR,reduceLT,Nat.reduceBEq,reduceAdd,reduceSub,hs0,hs3,hw]<;>first|done|rfl|omega))⟩]
      try simp
  · simp only[↓xP,xQ,xR,xS,flatR,reduceLT,Nat.reduceBEq,reduceAdd,reduceSub,hs0,hs3,List.length_map,hi]
    rw [allF_ge hi]
def placeR (n:Int):List Route→Nat→Int
  | [],_=>-1
  | r::l,i=>if r.number=n then (i:Int) else placeR n l (i+1)
def hasNum (l:List Route) (n:Int):Bool:=l.any (fun q=>decide (q.number=n))
theorem placeR_ge (n:Int):∀ (l:List Route) (i:Nat),decide (0≤placeR n l i)=hasNum l n
  | [],i=>by simp [placeR,hasNum]
  | r :: l,i=>by
    have h:=placeR_ge n l (i+1)
    simp only[hasNum,List.any_cons] at h ⊢
    by_cases e:r.number=n
    · have hp:placeR n (r::l) i=(i:Int):=by simp only[placeR,if_pos e]
      rw [hp]; simp [e]
    · have hp:placeR n (r::l) i=placeR n l (i+1):=by simp only[placeR,if_neg e]
      rw [hp,h]; simp [e]
theorem routePlace_ok (l:List Route) (n:Int) (hn:l.length≤1048576):EE F 261 [L 3 (l.map Route.u),I n] []=ok1 (I (placeR n l 0)):=by
  rw [R261,b261]
  simp only[↓xP,xQ,xR,xS,flatR,reduceLT,Nat.reduceBEq,reduceAdd,reduceSub]
  refine (loop_ind (fun (i:Nat) st=>st.s 7=DU (.sl 3 (l.map Route.u))∧st.s 8=DI l.length∧st.s 9=DI i∧st.s 1=DI n) (fun i=>l.length - i) (fun i=>ok1 (I (placeR n (l.drop i) i))) ?_ 0 (by and_intros<;>first|omega|rfl|(simp only[↓xP,xQ,xR,xS,flatR,reduceLT,Nat.reduceBEq,reduceAdd,reduceSub]<;>first|done|rfl|omega))).trans (by simp)
  rintro i st ⟨h7,h8,h9,h1⟩ ih
  by_cases hi:i<l.length
  · obtain ⟨⟨m,⟨lo,up⟩⟩,hx⟩:∃ x,l[i]?=some x:=⟨_,List.getElem?_eq_getElem hi⟩
    have hw:=w_succ (i:=i) (by omega)
    simp only[↓xP,xQ,xR,xS,flatR,reduceLT,Nat.reduceBEq,reduceAdd,reduceSub,h7,h8,h9,h1,hi,hx,hw,Route.u]
    rw [drop_at hx,placeR]
    refine sel_split (fun h=>?_) (fun h=>?_)
    · have:m=n:=by simpa using h
      simp [this]
    · have:¬m=n:=by simpa using h
      rw [ih (i+1) _ (by omega) (by and_intros<;>first|omega|rfl|(simp only[↓xP,xQ,xR,xS,flatR,reduceLT,Nat.reduceBEq,reduceAdd,reduceSub,h7,h8,h1]<;>first|done|rfl|omega)),if_neg this]
  · simp only[↓xP,xQ,xR,xS,flatR,reduceLT,Nat.reduceBEq,reduceAdd,reduceSub,h7,h8,h9,hi]
    rw [List.drop_of_length_le (by omega)]; rfl
def numAt (l:List Route) (i:Nat):Bool:=match l[i]? with
  | some r=>inR r.number 0 7&&!hasNum (l.take i) r.number
  | none=>true
def numbersDiffer (l:List Route):Bool:=allF l.length (numAt l) 0
theorem numbersDiffer_ok (l:List Route) (hn:l.length≤1048576):EE F 205 [L 3 (l.map Route.u)] []=ok1 (B (numbersDiffer l)):=by
  rw [R205,b205]
  simp only[↓xP,xQ,xR,xS,flatR,reduceLT,Nat.reduceBEq,reduceAdd,reduceSub]
  refine loop_ind (fun (i:Nat) st=>st.s 0=DU (.sl 3 (l.map Route.u))∧st.s 5=DU (.sl 3 (l.map Route.u))∧st.s 6=DI l.length∧st.s 7=DI i) (fun i=>l.length - i) (fun i=>ok1 (B (allF l.length (numAt l) i))) ?_ 0 (by and_intros<;>first|omega|rfl|(simp only[↓xP,xQ,xR,xS,flatR,reduceLT,Nat.reduceBEq,reduceAdd,reduceSub]<;>first|done|rfl|omega))
  rintro i st ⟨h0,h5,h6,h7⟩ ih
  by_cases hi:i<l.length
  · obtain ⟨⟨m,⟨lo,up⟩⟩,hx⟩:∃ x,l[i]?=some x:=⟨_,List.getElem?_eq_getElem hi⟩
    have hw:=w_succ (i:=i) (by omega)
    have hrp:=routePlace_ok (l.take i) m (by rw [List.length_take]; omega)
    have hge:=placeR_ge m (l.take i) 0
    rw [allF_lt hi]
    have hct:vcut l.length none (some (DI (i:Int)))=some (0,i):=cut_to (by omega)
    have hna:numAt l i=(inR m 0 7&&!hasNum (l.take i) m):=by simp [numAt,hx]
    rw [hna]
    cases q1:inR m 0 7
    · simp only[↓xP,xQ,xR,xS,flatR,reduceLT,Nat.reduceBEq,reduceAdd,reduceSub,rdx2,h0,h5,h6,h7,hi,hx,hw,Route.u,shardNumber_ok,q1]
      try simp
    · cases q2:hasNum (l.take i) m<;>rw [q2] at hge
      · have hge2:(0≤placeR m (l.take i) 0)=False:=by simpa using hge
        simp only[↓xP,xQ,xR,xS,flatR,reduceLT,Nat.reduceBEq,reduceAdd,reduceSub,rdx2,h0,h5,h6,h7,hi,hx,hw,Route.u,shardNumber_ok,q1,hrp,ge_iff_le,hge2,hct,List.length_map,List.drop_zero,←List.map_take]
        rw [ih (i+1) _ (by omega) (by and_intros<;>first|omega|rfl|(simp only[↓xP,xQ,xR,xS,flatR,reduceLT,Nat.reduceBEq,reduceAdd,reduceSub,h0,h5,h6,hw]<;>first|done|rfl|omega))]
        try simp
      · have hge2:(0≤placeR m (l.take i) 0)=True:=by simpa using hge
        simp only[↓xP,xQ,xR,xS,flatR,reduceLT,Nat.reduceBEq,reduceAdd,reduceSub,rdx2,h0,h5,h6,h7,hi,hx,hw,Route.u,shardNumber_ok,q1,hrp,ge_iff_le,hge2,hct,List.length_map,List.drop_zero,←List.map_take]
        try simp
  · simp only[↓xP,xQ,xR,xS,flatR,reduceLT,Nat.reduceBEq,reduceAdd,reduceSub,h0,h5,h6,h7,hi]
    rw [allF_ge hi]
def spans (l:List Route):List Interval:=l.map Route.span
def spansRet (l:List Route):Option Ret:=some ⟨[.sc (.own (.par 0) l.length)],[.row 2 ((spans l).map Interval.u)],[]⟩
theorem spans_take {l:List Route} {i:Nat} {m:Int} {lo up:Str} (hx:l[i]?=some ⟨m,⟨lo,up⟩⟩):(spans (l.take (i+1))).map Interval.u=(spans (l.take i)).map Interval.u++[[.str lo,.str up]]:=by
  rw [List.take_add_one,hx]; simp [Interval.u,spans]
theorem spans_len (l:List Route):(spans l).length=l.length:=by simp [spans]
theorem spansOf_ok (l:List Route) (hn:l.length≤1048576):EE F 204 [L 3 (l.map Route.u)] []=spansRet l:=by
  rw [R204,b204]
  simp only[↓xP,xQ,xR,xS,flatR,reduceLT,Nat.reduceBEq,reduceAdd,reduceSub]
  refine loop_ind (fun (i:Nat) st=>i≤l.length∧st.s 3=.t (.sc (.own (.loc 3 0) i))∧st.o (.loc 3 0)=some (.row 2 ((spans (l.take i)).map Interval.u))∧st.s 6=DU (.sl 3 (l.map Route.u))∧st.s 7=DI l.length∧st.s 8=DI i) (fun a=>l.length - a) (fun _=>spansRet l) ?_ 0 (by and_intros<;>first|omega|rfl|(simp only[↓xP,xQ,xR,xS,flatR,reduceLT,Nat.reduceBEq,reduceAdd,reduceSub]<;>first|done|rfl|omega))
  rintro i st ⟨hle,h3,ho,h6,h7,h8⟩ ih
  by_cases hi:i<l.length
  · obtain ⟨⟨m,⟨lo,up⟩⟩,hx⟩:∃ x,l[i]?=some x:=⟨_,List.getElem?_eq_getElem hi⟩
    have hw:=w_succ (i:=i) (by omega)
    obtain ⟨q1,q2⟩:=small_max (n:=i+1) (k:=32) (by omega) (by omega)
    have hst:=spans_take hx
    have hlt:(List.map Interval.u (spans (List.take i l))).length=i:=by rw [List.length_map,spans_len,List.length_take]; omega
    have hta:List.take i (List.map Interval.u (spans (List.take i l)))=List.map Interval.u (spans (List.take i l)):=List.take_of_length_le (by omega)
    simp only[↓xP,xQ,xR,xS,flatR,reduceLT,Nat.reduceBEq,reduceAdd,reduceSub,h3,ho,h6,h7,h8,hi,hx,hw,Route.u,q1,q2,hlt,hta]
    rw [ih (i+1) _ (by omega) (by and_intros<;>first|omega|rfl|(simp only[↓xP,xQ,xR,xS,flatR,reduceLT,Nat.reduceBEq,reduceAdd,reduceSub,h3,ho,h6,h7,hst]<;>first|done|rfl|omega))]
  · simp only[↓xP,xQ,xR,xS,flatR,reduceLT,Nat.reduceBEq,reduceAdd,reduceSub,h3,ho,h6,h7,h8,hi]
    obtain rfl:i=l.length:=by omega
    rw [List.take_length,spans_len]; simp [spansRet,sel]
theorem routesValid_impl (l:List Route) (hn:l.length≤1048576):EE F 129 [L 3 (l.map Route.u)] []=ok1 (B (decide (l.length≤6)&&partitionValid (spans l)&&numbersDiffer l)):=by
  rw [R129,b129]
  have hs:=spansOf_ok l hn
  have hp:=partitionValid_impl (spans l) (by rw [spans_len]; omega)
  simp only[spansRet] at hs
  have hta:List.take l.length (List.map Interval.u (spans l))=List.map Interval.u (spans l):=List.take_of_length_le (by rw [List.length_map,spans_len]; omega)
  simp only[↓xP,xQ,xR,xS,flatR,reduceLT,Nat.reduceBEq,reduceAdd,reduceSub,hs,hp,numbersDiffer_ok l hn,spans_len,hta,Nat.le_refl]
  refine sel_split (fun g1=>?_) (fun h=>?_)
  · have g1':l.length≤6:=by simp at g1; omega
    refine sel_split (fun g2=>?_) (fun h=>?_)
    · simp [g1',g2]
    · simp [h]
  · have:¬l.length≤6:=by simp at h; omega
    simp [this]
def strGt (a b:Str):Bool:=!strLt a b&&!decide (a=b)
def spanAt (l:List Route) (i:Nat):Bool:=match l[i]? with
  | some r=>intervalValid r.span&&!(match l[i - 1]? with
    | some q=>decide (0<i)&&(decide (q.span.high=[])||strGt q.span.high r.span.low)
    | none=>false)
  | none=>true
def cacheValid (l:List Route):Bool:=numbersDiffer l&&allF l.length (spanAt l) 0
/-- Numbers that differ and lie in 0..7 are at most eight. -/
theorem few_nums:∀ (n:Nat) (l:List Int),l.Pairwise (·≠·)→(∀ x,x∈l→0≤x∧x<(n:Int))→l.length≤n
  | 0,l,_,h=>by
    cases l with
    | nil=>simp
    | cons a l=>have:=h a (by simp); omega
  | n + 1,l,hd,h=>by
    have hk:∀ (m:List Int),m.Pairwise (·≠·)→m.length≤(m.filter (fun x=>decide (x≠(n:Int)))).length+1:=by
      intro m
      induction m with
      | nil=>intro _; simp
      | cons a m ih=>
        intro hp
        rw [List.pairwise_cons] at hp
        by_cases e:a=(n:Int)
        · have:m.filter (fun x=>decide (x≠(n:Int)))=m:=List.filter_eq_self.2 (fun x hx=>by have:=hp.1 x hx; simp; omega)
          rw [List.filter_cons_of_neg (by simp [e]),this]; simp
        · rw [List.filter_cons_of_pos (by simp [e])]
          have:=ih hp.2
          simp only[List.length_cons]; omega
    have h1:=hk l hd
    have h2:=few_nums n (l.filter (fun x=>decide (x≠(n:Int)))) (hd.filter _) (by
      intro x hx
      rw [List.mem_filter] at hx
      have:=h x hx.1
      have h3:x≠(n:Int):=by simpa using hx.2
      omega)
    omega
theorem differ_pair {l:List Route} (h:numbersDiffer l=true):(l.map Route.number).Pairwise (·≠·)∧∀ x,x∈l.map Route.number→0≤x∧x<8:=by
  have ha:=(allF_iff _ 0 rfl).1 h
  refine ⟨?_,?_⟩
  · rw [List.pairwise_iff_getElem]
    intro i j hi hj hij
    simp only[List.length_map] at hi hj
    have:=ha j (by omega) hj
    simp only[numAt,List.getElem?_eq_getElem hj,Bool.and_eq_true,Bool.not_eq_true',hasNum] at this
    have h2:=List.any_eq_false.1 this.2 l[i] (by rw [List.mem_take_iff_getElem]; exact ⟨i,by omega,rfl⟩)
    simpa using h2
  · intro x hx
    obtain ⟨r,hr,rfl⟩:=List.mem_map.1 hx
    obtain ⟨i,hi,rfl⟩:=List.mem_iff_getElem.1 hr
    have:=ha i (by omega) hi
    simp only[numAt,List.getElem?_eq_getElem hi,Bool.and_eq_true,inR,decide_eq_true_eq] at this
    omega
theorem differ_few {l:List Route} (h:numbersDiffer l=true):l.length≤8:=by
  have:=few_nums 8 (l.map Route.number) (differ_pair h).1 (fun x hx=>by have:=(differ_pair h).2 x hx; omega)
  simpa using this
theorem cacheValid_impl (l:List Route) (hn:l.length≤1048576):EE F 197 [L 3 (l.map Route.u)] []=ok1 (B (cacheValid l)):=by
  rw [R197,b197]
  simp only[↓xP,xQ,xR,xS,flatR,reduceLT,Nat.reduceBEq,reduceAdd,reduceSub,numbersDiffer_ok l hn,List.length_map]
  refine sel_split (fun h=>?_) (fun g1=>?_)
  · have h8:¬l.length≤8:=by simp at h; omega
    have:numbersDiffer l=false:=by
      cases hd:numbersDiffer l
      · rfl
      · exact absurd (differ_few hd) h8
    simp [cacheValid,this]
  refine sel_split (fun h=>?_) (fun g2=>?_)
  · rw [Bool.not_eq_true'] at h; simp [cacheValid,h]
  rw [Bool.not_eq_false'] at g2
  simp only[cacheValid,g2,Bool.true_and]
  refine loop_ind (fun (i:Nat) st=>i≤l.length∧st.s 0=DU (.sl 3 (l.map Route.u))∧st.s 13=DU (.sl 3 (l.map Route.u))∧st.s 14=DI l.length∧st.s 15=DI i) (fun i=>l.length - i) (fun i=>ok1 (B (allF l.length (spanAt l) i))) ?_ 0 (by and_intros<;>first|omega|rfl|(simp only[↓xP,xQ,xR,xS,flatR,reduceLT,Nat.reduceBEq,reduceAdd,reduceSub]<;>first|done|rfl|omega))
  rintro i st ⟨hle,h0,h13,h14,h15⟩ ih
  by_cases hi:i<l.length
  · obtain ⟨⟨m,⟨lo,up⟩⟩,hx⟩:∃ x,l[i]?=some x:=⟨_,List.getElem?_eq_getElem hi⟩
    have hw:=w_succ (i:=i) (by omega)
    rw [allF_lt hi]
    cases q1:intervalValid ⟨lo,up⟩
    · have:spanAt l i=false:=by simp [spanAt,hx,q1]
      simp only[↓xP,xQ,xR,xS,flatR,reduceLT,Nat.reduceBEq,reduceAdd,reduceSub,rdx2,h0,h13,h14,h15,hi,hx,hw,Route.u,intervalValid_impl,q1]
      simp [this]
    cases i with
    | zero=>
      have hgt:(((0:Nat):Int) > 0)=False:=by simp
      have:spanAt l 0=true:=by simp only[spanAt,hx,q1]; cases l[0 - 1]?<;>simp
      simp only[↓xP,xQ,xR,xS,flatR,reduceLT,Nat.reduceBEq,reduceAdd,reduceSub,rdx2,h0,h13,h14,h15,hi,hx,hw,Route.u,intervalValid_impl,q1,hgt]
      rw [ih 1 _ (by omega) (by and_intros<;>first|omega|rfl|(simp only[↓xP,xQ,xR,xS,flatR,reduceLT,Nat.reduceBEq,reduceAdd,reduceSub,h0,h13,h14,hw]<;>first|done|rfl|omega))]
      simp [this]
    | succ k=>
      have hgt:(((k+1:Nat):Int) > 0)=True:=by simp
      have hp:=w_pred (i:=k) (by omega)
      obtain ⟨⟨cm,⟨clo,chi⟩⟩,hc⟩:∃ a,l[k]?=some a:=⟨_,List.getElem?_eq_getElem (by omega)⟩
      have hsp:spanAt l (k+1)=!(decide (chi=[])||strGt chi lo):=by simp [spanAt,hx,hc,q1]
      rw [hsp]
      by_cases q2:chi=[]
      · subst q2
        simp only[↓xP,xQ,xR,xS,flatR,reduceLT,Nat.reduceBEq,reduceAdd,reduceSub,rdx2,h0,h13,h14,h15,hi,hx,hc,hw,hp,Route.u,intervalValid_impl,q1,hgt]
        try simp
      · simp only[↓xP,xQ,xR,xS,flatR,reduceLT,Nat.reduceBEq,reduceAdd,reduceSub,rdx2,h0,h13,h14,h15,hi,hx,hc,hw,hp,Route.u,intervalValid_impl,q1,hgt,q2]
        refine sel_split (fun h=>?_) (fun h=>?_)
        · have:strGt chi lo=true:=by simpa [strGt] using h
          simp [this]
        · have:strGt chi lo=false:=by simpa [strGt] using h
          rw [ih (k+1+1) _ (by omega) (by and_intros<;>first|omega|rfl|(simp only[↓xP,xQ,xR,xS,flatR,reduceLT,Nat.reduceBEq,reduceAdd,reduceSub,h0,h13,h14,hw]<;>first|done|rfl|omega))]
          simp [this,q2]
  · simp only[↓xP,xQ,xR,xS,flatR,reduceLT,Nat.reduceBEq,reduceAdd,reduceSub,h0,h13,h14,h15,hi]
    rw [allF_ge hi]
theorem cacheValid_spec (l:List Route) (hn:l.length≤1048576):EE F 189 [L 3 (l.map Route.u)] []=ok1 (B (cacheValid l)):=by
  rw [R189,b189]
  simp only[↓xP,xQ,xR,xS,flatR,reduceLT,Nat.reduceBEq,reduceAdd,reduceSub]
  have hc:cacheValid l=allF l.length (fun i=>numAt l i&&spanAt l i) 0:=by
    rw [Bool.eq_iff_iff,cacheValid,Bool.and_eq_true,numbersDiffer,allF_iff _ 0 rfl,allF_iff _ 0 rfl,allF_iff _ 0 rfl]
    simp only[Bool.and_eq_true]
    exact ⟨fun h j h1 h2=>⟨h.1 j h1 h2,h.2 j h1 h2⟩,fun h=>⟨fun j h1 h2=>(h j h1 h2).1,fun j h1 h2=>(h j h1 h2).2⟩⟩
  rw [hc]
  refine loop_ind (fun (i:Nat) st=>i≤l.length∧st.s 0=DU (.sl 3 (l.map Route.u))∧st.s 3=DI i) (fun i=>l.length - i) (fun i=>ok1 (B (allF l.length (fun i=>numAt l i&&spanAt l i) i))) ?_ 0 (by and_intros<;>first|omega|rfl|(simp only[↓xP,xQ,xR,xS,flatR,reduceLT,Nat.reduceBEq,reduceAdd,reduceSub]<;>first|done|rfl|omega))
  rintro i st ⟨hle,h0,h3⟩ ih
  by_cases hi:i<l.length
  · obtain ⟨⟨m,⟨lo,up⟩⟩,hx⟩:∃ x,l[i]?=some x:=⟨_,List.getElem?_eq_getElem hi⟩
    have hw:=w_succ (i:=i) (by omega)
    rw [allF_lt hi]
    simp only[↓xP,xQ,xR,xS,flatR,reduceLT,Nat.reduceBEq,reduceAdd,reduceSub,h0,h3,hi,hx,hw,Route.u,intervalValid_spec,l1In_ok]
    refine sel_split (fun h=>?_) (fun q1=>?_)
    · rw [Bool.not_eq_true'] at h
      have:spanAt l i=false:=by simp [spanAt,hx,h]
      simp [this]
    rw [Bool.not_eq_false'] at q1
    refine sel_split (fun h=>?_) (fun q2=>?_)
    · rw [Bool.not_eq_true'] at h
      have:numAt l i=false:=by simp [numAt,hx,h]
      simp [this]
    rw [Bool.not_eq_false'] at q2
    have hna:numAt l i=!hasNum ((l.take i).drop 0) m:=by simp [numAt,hx,q2]
    rw [hna]
    refine loop_ind (fun (j:Nat) st=>j≤i∧st.s 0=DU (.sl 3 (l.map Route.u))∧st.s 3=DI i∧st.s 4=DI j) (fun j=>i - j) (fun j=>ok1 (B (!hasNum ((l.take i).drop j) m&&spanAt l i&&allF l.length (fun i=>numAt l i&&spanAt l i) (i+1)))) ?_ 0 (by and_intros<;>first|omega|rfl|(simp only[↓xP,xQ,xR,xS,flatR,reduceLT,Nat.reduceBEq,reduceAdd,reduceSub,h0,h3]<;>first|done|rfl|omega))
    clear h0 h3
    rintro j st ⟨hle2,h0,h3,h4⟩ ih2
    by_cases hj:j<i
    · obtain ⟨⟨k,⟨lo2,up2⟩⟩,hy⟩:∃ x,l[j]?=some x:=⟨_,List.getElem?_eq_getElem (by omega)⟩
      have hyt:(l.take i)[j]?=some ⟨k,⟨lo2,up2⟩⟩:=by rw [List.getElem?_take,if_pos hj]; exact hy
      have hw2:=w_succ (i:=j) (by omega)
      have hh:hasNum ((l.take i).drop j) m=(decide (k=m)||hasNum ((l.take i).drop (j+1)) m):=by rw [drop_at hyt]; rfl
      rw [hh]
      by_cases e:k=m
      · simp only[↓xP,xQ,xR,xS,flatR,reduceLT,Nat.reduceBEq,reduceAdd,reduceSub,rdx2,h0,h3,h4,hj,hx,hy,hw2,Route.u,e]
        try simp
      · simp only[↓xP,xQ,xR,xS,flatR,reduceLT,Nat.reduceBEq,reduceAdd,reduceSub,rdx2,h0,h3,h4,hj,hx,hy,hw2,Route.u,e]
        rw [ih2 (j+1) _ (by omega) (by and_intros<;>first|omega|rfl|(simp only[↓xP,xQ,xR,xS,flatR,reduceLT,Nat.reduceBEq,reduceAdd,reduceSub,h0,h3,hw2]<;>first|done|rfl|omega))]
        try simp
    have hdr:(l.take i).drop j=[]:=List.drop_of_length_le (by rw [List.length_take]; omega)
    have hnn:hasNum ([]:List Route) m=false:=rfl
    rw [hdr,hnn]
    cases i with
    | zero=>
      have hgt:(((0:Nat):Int) > 0)=False:=by simp
      have:spanAt l 0=true:=by simp only[spanAt,hx,q1]; cases l[0 - 1]?<;>simp
      simp only[↓xP,xQ,xR,xS,flatR,reduceLT,Nat.reduceBEq,reduceAdd,reduceSub,rdx2,h0,h3,h4,hj,hx,hw,Route.u,hgt]
      rw [ih 1 _ (by omega) (by and_intros<;>first|omega|rfl|(simp only[↓xP,xQ,xR,xS,flatR,reduceLT,Nat.reduceBEq,reduceAdd,reduceSub,h0,hw]<;>first|done|rfl|omega))]
      simp [this]
    | succ k=>
      have hgt:(((k+1:Nat):Int) > 0)=True:=by simp
      have hp:=w_pred (i:=k) (by omega)
      obtain ⟨⟨cm,⟨clo,chi⟩⟩,hc⟩:∃ a,l[k]?=some a:=⟨_,List.getElem?_eq_getElem (by omega)⟩
      have hsp:spanAt l (k+1)=!(decide (chi=[])||strGt chi lo):=by simp [spanAt,hx,hc,q1]
      rw [hsp]
      by_cases q2:chi=[]
      · subst q2
        simp only[↓xP,xQ,xR,xS,flatR,reduceLT,Nat.reduceBEq,reduceAdd,reduceSub,rdx2,h0,h3,h4,hj,hx,hc,hw,hp,Route.u,hgt]
        try simp
      · simp only[↓xP,xQ,xR,xS,flatR,reduceLT,Nat.reduceBEq,reduceAdd,reduceSub,rdx2,h0,h3,h4,hj,hx,hc,hw,hp,Route.u,hgt,q2]
        refine sel_split (fun h=>?_) (fun h=>?_)
        · have:strGt chi lo=true:=by simpa [strGt] using h
          simp [this]
        · have:strGt chi lo=false:=by simpa [strGt] using h
          rw [ih (k+1+1) _ (by omega) (by and_intros<;>first|omega|rfl|(simp only[↓xP,xQ,xR,xS,flatR,reduceLT,Nat.reduceBEq,reduceAdd,reduceSub,h0,hw]<;>first|done|rfl|omega))]
          simp [this,q2]
  · simp only[↓xP,xQ,xR,xS,flatR,reduceLT,Nat.reduceBEq,reduceAdd,reduceSub,h0,h3,hi]
    rw [allF_ge hi]
def routesValid (l:List Route):Bool:=decide (l.length≤6)&&partitionValid (spans l)&&numbersDiffer l
theorem routesValid_spec (l:List Route) (hn:l.length≤1048576):EE F 120 [L 3 (l.map Route.u)] []=ok1 (B (routesValid l)):=by
  rw [R120,b120]
  simp only[↓xP,xQ,xR,xS,flatR,reduceLT,Nat.reduceBEq,reduceAdd,reduceSub]
  have hdef:routesValid l=(decide (l.length≤6)&&allF l.length (numAt l) 0&&partitionValid (spans l)):=by
    simp only[routesValid,numbersDiffer]; cases decide (l.length≤6)<;>cases partitionValid (spans l)<;>simp
  rw [hdef]
  refine loop_ind (fun (i:Nat) st=>i≤6∧i≤l.length∧st.s 0=DU (.sl 3 (l.map Route.u))∧st.s 3=.t (.sc (.own (.loc 6 0) i))∧st.o (.loc 6 0)=some (.row 2 ((spans (l.take i)).map Interval.u))∧st.s 4=DI i) (fun i=>l.length - i) (fun i=>ok1 (B (decide (l.length≤6)&&allF l.length (numAt l) i&&partitionValid (spans l)))) ?_ 0 (by and_intros<;>first|omega|rfl|(simp only[↓xP,xQ,xR,xS,flatR,reduceLT,Nat.reduceBEq,reduceAdd,reduceSub]<;>first|done|rfl|omega))
  rintro i st ⟨hi6,hle,h0,h3,ho,h4⟩ ih
  by_cases hi:i<l.length
  · obtain ⟨⟨m,⟨lo,up⟩⟩,hx⟩:∃ x,l[i]?=some x:=⟨_,List.getElem?_eq_getElem hi⟩
    have hw:=w_succ (i:=i) (by omega)
    rw [allF_lt hi]
    by_cases h6:i=6
    · have hge:((6:Int)≤(i:Int))=True:=by simp; omega
      have hl:¬l.length≤6:=by omega
      simp only[↓xP,xQ,xR,xS,flatR,reduceLT,Nat.reduceBEq,reduceAdd,reduceSub,h0,h3,ho,h4,hi,hx,hw,Route.u,ge_iff_le,hge]
      simp [hl]
    have hge:((6:Int)≤(i:Int))=False:=by simp; omega
    cases q2:inR m 0 7
    · have:numAt l i=false:=by simp [numAt,hx,q2]
      simp only[↓xP,xQ,xR,xS,flatR,reduceLT,Nat.reduceBEq,reduceAdd,reduceSub,h0,h3,ho,h4,hi,hx,hw,Route.u,ge_iff_le,hge,l1In_ok,q2]
      simp [this]
    simp only[↓xP,xQ,xR,xS,flatR,reduceLT,Nat.reduceBEq,reduceAdd,reduceSub,h0,h3,ho,h4,hi,hx,hw,Route.u,ge_iff_le,hge,l1In_ok,q2]
    have hna:numAt l i=!hasNum ((l.take i).drop 0) m:=by simp [numAt,hx,q2]
    rw [hna]
    refine loop_ind (fun (j:Nat) st=>j≤i∧st.s 0=DU (.sl 3 (l.map Route.u))∧st.s 3=.t (.sc (.own (.loc 6 0) i))∧st.o (.loc 6 0)=some (.row 2 ((spans (l.take i)).map Interval.u))∧st.s 4=DI i∧st.s 5=DI j) (fun j=>i - j) (fun j=>ok1 (B (decide (l.length≤6)&&(!hasNum ((l.take i).drop j) m&&allF l.length (numAt l) (i+1))&&partitionValid (spans l)))) ?_ 0 (by and_intros<;>first|omega|rfl|(simp only[↓xP,xQ,xR,xS,flatR,reduceLT,Nat.reduceBEq,reduceAdd,reduceSub,h0,h3,ho,h4]<;>first|done|rfl|omega))
    clear h0 h3 h4 ho
    rintro j st ⟨hle2,h0,h3,ho,h4,h5⟩ ih2
    by_cases hj:j<i
    · obtain ⟨⟨k,⟨lo2,up2⟩⟩,hy⟩:∃ x,l[j]?=some x:=⟨_,List.getElem?_eq_getElem (by omega)⟩
      have hyt:(l.take i)[j]?=some ⟨k,⟨lo2,up2⟩⟩:=by rw [List.getElem?_take,if_pos hj]; exact hy
      have hw2:=w_succ (i:=j) (by omega)
      have hh:hasNum ((l.take i).drop j) m=(decide (k=m)||hasNum ((l.take i).drop (j+1)) m):=by rw [drop_at hyt]; rfl
      rw [hh]
      by_cases e:k=m
      · simp only[↓xP,xQ,xR,xS,flatR,reduceLT,Nat.reduceBEq,reduceAdd,reduceSub,rdx2,h0,h3,ho,h4,h5,hj,hx,hy,hw2,Route.u,e]
        try simp
      · simp only[↓xP,xQ,xR,xS,flatR,reduceLT,Nat.reduceBEq,reduceAdd,reduceSub,rdx2,h0,h3,ho,h4,h5,hj,hx,hy,hw2,Route.u,e]
        rw [ih2 (j+1) _ (by omega) (by and_intros<;>first|omega|rfl|(simp only[↓xP,xQ,xR,xS,flatR,reduceLT,Nat.reduceBEq,reduceAdd,reduceSub,h0,h3,ho,h4,hw2]<;>first|done|rfl|omega))]
        try simp
    have hdr:(l.take i).drop j=[]:=List.drop_of_length_le (by rw [List.length_take]; omega)
    have hnn:hasNum ([]:List Route) m=false:=rfl
    rw [hdr,hnn]
    obtain ⟨q1,q2⟩:=small_max (n:=i+1) (k:=32) (by omega) (by omega)
    have hst:=spans_take hx
    have hlt:(List.map Interval.u (spans (List.take i l))).length=i:=by rw [List.length_map,spans_len,List.length_take]; omega
    have hta:List.take i (List.map Interval.u (spans (List.take i l)))=List.map Interval.u (spans (List.take i l)):=List.take_of_length_le (by omega)
    simp only[↓xP,xQ,xR,xS,flatR,reduceLT,Nat.reduceBEq,reduceAdd,reduceSub,rdx2,h0,h3,ho,h4,h5,hj,hx,hw,Route.u,q1,q2,hlt,hta]
    rw [ih (i+1) _ (by omega) ⟨by omega,by omega,(by and_intros<;>first|omega|rfl|(simp only[↓xP,xQ,xR,xS,flatR,reduceLT,Nat.reduceBEq,reduceAdd,reduceSub,h0,h3,ho,hw,hst]<;>first|done|rfl|omega))⟩]
    try simp
  · have hp:=partitionValid_spec (spans l) (by rw [spans_len]; omega)
    obtain rfl:i=l.length:=by omega
    have hta:List.take l.length (List.map Interval.u (spans l))=List.map Interval.u (spans l):=List.take_of_length_le (by rw [List.length_map,spans_len]; omega)
    rw [List.take_length] at ho
    simp only[↓xP,xQ,xR,xS,flatR,reduceLT,Nat.reduceBEq,reduceAdd,reduceSub,h0,h3,ho,h4,hi,hp,spans_len,hta,Nat.le_refl]
    rw [allF_ge (by omega)]
    simp [hi6]
theorem timeValid_ok (n:Int):EE F 131 [I n] []=ok1 (B (inR n 0 200)):=by
  rw [R131,b131]
  simp only[↓xP,xQ,xR,xS,flatR,reduceLT,Nat.reduceBEq,reduceAdd,reduceSub]
  repeat' (refine sel_split (fun h=>?_) (fun h=>?_))
  all_goals first|(simp_all [inR]; done)|(simp_all [inR]; omega)
theorem replyValid_ok (n:Int):EE F 201 [I n] []=ok1 (B (inR n (-4) 999)):=by
  rw [R201,b201]
  simp only[↓xP,xQ,xR,xS,flatR,reduceLT,Nat.reduceBEq,reduceAdd,reduceSub]
  repeat' (refine sel_split (fun h=>?_) (fun h=>?_))
  all_goals first|(simp_all [inR]; done)|(simp_all [inR]; omega)
def noCommand (c:Command):Bool:=decide (c.kind=0)&&decide (c.key=[])&&decide (c.value=0)&&decide (c.old=0)
def callerValid (c:Caller):Bool:=cacheValid c.cache&&inR c.seq 0 999&&(if c.busy=true then decide (1≤c.seq)&&wishValid c.wish&&inR c.called 0 200 else noCommand c.wish&&decide (c.called=0))
theorem callerValid_impl (l:List Route) (s:Int) (bz:Bool) (k:Int) (key:Str) (v o cd:Int) (hn:l.length≤1048576):EE F 126 [.ag [.u (.sl 3 (l.map Route.u)),.u (.int .i64 s),.u (.bool bz),.u (.int .i64 k),.u (.str key),.u (.int .i64 v),.u (.int .i64 o),.u (.int .i64 cd)]] []=ok1 (B (callerValid ⟨l,s,bz,⟨k,key,v,o⟩,cd⟩)):=by
  rw [R126,b126]
  have a:=cacheValid_impl l hn
  cases bz<;>simp only[↓xP,xQ,xR,xS,flatR,reduceLT,Nat.reduceBEq,reduceAdd,reduceSub,a,wishValid_ok,timeValid_ok,l1In_ok]
  all_goals repeat' (refine sel_split (fun h=>?_) (fun h=>?_))
  all_goals first|(simp_all [callerValid,noCommand,inR]; done)|(simp_all [callerValid,noCommand,inR]; grind)|skip
theorem callerValid_spec (l:List Route) (s:Int) (bz:Bool) (k:Int) (key:Str) (v o cd:Int) (hn:l.length≤1048576):EE F 118 [.ag [.u (.sl 3 (l.map Route.u)),.u (.int .i64 s),.u (.bool bz),.u (.int .i64 k),.u (.str key),.u (.int .i64 v),.u (.int .i64 o),.u (.int .i64 cd)]] []=ok1 (B (callerValid ⟨l,s,bz,⟨k,key,v,o⟩,cd⟩)):=by
  rw [R118,b118]
  have a:=cacheValid_spec l hn
  cases bz<;>simp only[↓xP,xQ,xR,xS,flatR,reduceLT,Nat.reduceBEq,reduceAdd,reduceSub,a,l25Wish_ok,l1In_ok,l1In_ok]
  all_goals repeat' (refine sel_split (fun h=>?_) (fun h=>?_))
  all_goals first|(simp_all [callerValid,noCommand,inR]; done)|(simp_all [callerValid,noCommand,inR]; grind)|skip
def resultValid (r:Result):Bool:=inR r.client 1 3&&inR r.seq 1 999&&wishValid r.wish&&inR r.reply (-4) 999&&inR r.returned 0 200&&decide (0≤r.called)&&decide (r.called≤r.returned)
theorem resultValid_impl (c s k:Int) (key:Str) (v o r cd rt:Int):EE F 127 [.ag [.u (.int .i64 c),.u (.int .i64 s),.u (.int .i64 k),.u (.str key),.u (.int .i64 v),.u (.int .i64 o),.u (.int .i64 r),.u (.int .i64 cd),.u (.int .i64 rt)]] []=ok1 (B (resultValid ⟨c,s,⟨k,key,v,o⟩,r,cd,rt⟩)):=by
  rw [R127,b127]
  simp only[↓xP,xQ,xR,xS,flatR,reduceLT,Nat.reduceBEq,reduceAdd,reduceSub,clientNumber_ok,seqValid_ok,wishValid_ok,replyValid_ok,timeValid_ok]
  repeat' (refine sel_split (fun h=>?_) (fun h=>?_))
  all_goals first|(simp_all [resultValid]; done)|(simp_all [resultValid]; omega)
theorem resultValid_spec (c s k:Int) (key:Str) (v o r cd rt:Int):EE F 119 [.ag [.u (.int .i64 c),.u (.int .i64 s),.u (.int .i64 k),.u (.str key),.u (.int .i64 v),.u (.int .i64 o),.u (.int .i64 r),.u (.int .i64 cd),.u (.int .i64 rt)]] []=ok1 (B (resultValid ⟨c,s,⟨k,key,v,o⟩,r,cd,rt⟩)):=by
  rw [R119,b119]
  simp only[↓xP,xQ,xR,xS,flatR,reduceLT,Nat.reduceBEq,reduceAdd,reduceSub,l1In_ok,l25Wish_ok]
  repeat' (refine sel_split (fun h=>?_) (fun h=>?_))
  all_goals first|(simp_all [resultValid]; done)|(simp_all [resultValid,inR]; done)|(simp_all [resultValid,inR]; grind)|skip
theorem noCaller_ok (l:List Route) (s:Int) (bz:Bool) (k:Int) (key:Str) (v o cd:Int):EE F 130 [.ag [.u (.sl 3 (l.map Route.u)),.u (.int .i64 s),.u (.bool bz),.u (.int .i64 k),.u (.str key),.u (.int .i64 v),.u (.int .i64 o),.u (.int .i64 cd)]] []=ok1 (B (decide (l.length=0)&&decide (s=0)&&!bz&&noCommand ⟨k,key,v,o⟩&&decide (cd=0))):=by
  rw [R130,b130]
  simp only[↓xP,xQ,xR,xS,flatR,reduceLT,Nat.reduceBEq,reduceAdd,reduceSub]
  repeat' (refine sel_split (fun h=>?_) (fun h=>?_))
  all_goals simp_all [noCommand]
def rle (a b:Route):Bool:=!strLt b.span.low a.span.low
def insL (l:List Route) (x:Route):List Route:=l.takeWhile (fun q=>rle q x)++x::l.dropWhile (fun q=>rle q x)
def SortedR (l:List Route):Prop:=l.Pairwise (fun a b=>rle a b=true)
def sortR (l:List Route):List Route:=l.foldl insL []
theorem lt_eq {s t:Str} (h1:strLt s t=false) (h2:strLt t s=false):s=t:=by
  have:=le_iff s t
  rw [h1,h2] at this
  simpa using this
theorem rle_trans {a b c:Route} (h1:rle a b=true) (h2:rle b c=true):rle a c=true:=by
  simp only[rle,Bool.not_eq_true'] at h1 h2 ⊢
  cases h:strLt c.span.low a.span.low
  · rfl
  · cases hb:strLt b.span.low c.span.low
    · have e:=lt_eq hb h2
      rw [e] at h1
      rw [h1] at h; cases h
    · have:=lt_trans hb h
      rw [h1] at this; cases this
theorem rle_of_not {a b:Route} (h:rle a b=false):rle b a=true:=by
  simp only[rle,Bool.not_eq_true',Bool.not_eq_false'] at h ⊢
  exact lt_asymm h
theorem insL_at {a b:List Route} {x:Route} (ha:∀ q,q∈a→rle q x=true) (hb:∀ q,b.head?=some q→rle q x=false):insL (a++b) x=a++x::b:=by
  have h1:(a++b).takeWhile (fun q=>rle q x)=a:=by
    rw [List.takeWhile_append_of_pos ha]
    cases b with
    | nil=>simp
    | cons q b=>rw [List.takeWhile_cons_of_neg (by rw [hb q rfl]; simp)]; simp
  have h2:(a++b).dropWhile (fun q=>rle q x)=b:=by
    rw [List.dropWhile_append_of_pos ha]
    cases b with
    | nil=>simp
    | cons q b=>rw [List.dropWhile_cons_of_neg (by rw [hb q rfl]; simp)]
  rw [insL,h1,h2]
theorem insL_len (l:List Route) (x:Route):(insL l x).length=l.length+1:=by
  have:=congrArg List.length (List.takeWhile_append_dropWhile (p:=fun q=>rle q x) (l:=l))
  simp only[List.length_append] at this
  simp only[insL,List.length_append,List.length_cons]
  omega
theorem head_false (p:Route→Bool):∀ (l:List Route) (q:Route),(l.dropWhile p).head?=some q→p q=false
  | [],q,h=>by simp at h
  | a :: l,q,h=>by
    by_cases e:p a=true
    · rw [List.dropWhile_cons_of_pos e] at h; exact head_false p l q h
    · rw [List.dropWhile_cons_of_neg e] at h
      simp at h; subst h; simpa using e
theorem insL_sorted {l:List Route} (h:SortedR l) (x:Route):SortedR (insL l x):=by
  have hs:SortedR (l.takeWhile (fun q=>rle q x)++l.dropWhile (fun q=>rle q x)):=by rw [List.takeWhile_append_dropWhile]; exact h
  simp only[SortedR,insL] at hs ⊢
  rw [List.pairwise_append] at hs ⊢
  have ht:∀ q,q∈l.takeWhile (fun q=>rle q x)→rle q x=true:=fun q hq=>by simpa using List.all_takeWhile (l:=l) (p:=fun q=>rle q x) |> List.all_eq_true.1 |> fun f=>f q hq
  have hd:∀ q,q∈l.dropWhile (fun q=>rle q x)→rle x q=true:=by
    have hh:=head_false (fun q=>rle q x) l
    have hp:=hs.2.1
    revert hh hp
    cases l.dropWhile (fun q=>rle q x) with
    | nil=>intro _ _ q hq; cases hq
    | cons c m=>
      intro hh hp q hq
      have hc:=rle_of_not (hh c rfl)
      rcases List.mem_cons.1 hq with rfl|hq
      · exact hc
      · exact rle_trans hc ((List.pairwise_cons.1 hp).1 q hq)
  refine ⟨hs.1,List.pairwise_cons.2 ⟨hd,hs.2.1⟩,?_⟩
  intro a ha b hb
  rcases List.mem_cons.1 hb with rfl|hb
  · exact ht a ha
  · exact hs.2.2 a ha b hb
theorem foldl_sorted:∀ (m l:List Route),SortedR l→SortedR (m.foldl insL l)
  | [],l,h=>h
  | a::m,l,h=>foldl_sorted m _ (insL_sorted h a)
theorem sortR_sorted (l:List Route):SortedR (sortR l):=foldl_sorted l [] List.Pairwise.nil
theorem foldl_len:∀ (m l:List Route),(m.foldl insL l).length=l.length+m.length
  | [],l=>by simp
  | a::m,l=>by rw [List.foldl_cons,foldl_len m,insL_len]; simp only[List.length_cons]; omega
theorem sortR_len (l:List Route):(sortR l).length=l.length:=by rw [sortR,foldl_len]; simp
theorem sortR_step {l:List Route} {i:Nat} {x:Route} (hx:l[i]?=some x):sortR (l.take (i+1))=insL (sortR (l.take i)) x:=by
  rw [sortR,List.take_add_one,hx]; simp [sortR]
/-- What stands in the row when the element at i has moved down to j. -/
def midR (p r:List Route) (x:Route) (j:Nat):List Route:=p.take j++x::(p.drop j++r)
theorem midR_len {p r:List Route} {x:Route} {j:Nat} (h:j≤p.length):(midR p r x j).length=p.length+r.length+1:=by
  simp only[midR,List.length_append,List.length_cons,List.length_take,List.length_drop]; omega
theorem midR_x {p r:List Route} {x:Route} {j:Nat} (h:j≤p.length):(midR p r x j)[j]?=some x:=by
  have hl:(p.take j).length=j:=by rw [List.length_take]; omega
  rw [midR,List.getElem?_append_right (by omega),hl]; simp
theorem midR_y {p r:List Route} {x:Route} {k:Nat} (h:k+1≤p.length):(midR p r x (k+1))[k]?=p[k]?:=by
  have hl:(p.take (k+1)).length=k+1:=by rw [List.length_take]; omega
  rw [midR,List.getElem?_append_left (by omega),List.getElem?_take,if_pos (by omega)]
theorem midR_swap {p r:List Route} {x y:Route} {k:Nat} (hy:p[k]?=some y):((midR p r x (k+1)).set (k+1) y).set k x=midR p r x k:=by
  have hk:k<p.length:=(List.getElem?_eq_some_iff.1 hy).1
  have hl:(p.take k).length=k:=by rw [List.length_take]; omega
  have h1:midR p r x (k+1)=p.take k++(y::x::(p.drop (k+1)++r)):=by
    rw [midR,List.take_add_one,hy]; simp
  have h2:midR p r x k=p.take k++(x::y::(p.drop (k+1)++r)):=by
    rw [midR,drop_at hy]; simp
  rw [h1,h2,List.set_append_right _ _ (by omega),List.set_append_right _ _ (by omega),hl]
  have e1:k+1 - k=1:=by omega
  have e2:k - k=0:=by omega
  rw [e1,e2]; rfl
theorem midR_end {p r:List Route} {x:Route} {j:Nat} (hs:SortedR p) (hj:j≤p.length) (hd:∀ q,q∈p.drop j→rle q x=false) (hy:j=0∨∃ y,p[j - 1]?=some y∧rle y x=true):midR p r x j=insL p x++r:=by
  have ha:∀ q,q∈p.take j→rle q x=true:=by
    intro q hq
    rcases hy with rfl|⟨y,hy,hyx⟩
    · simp at hq
    · obtain ⟨t,ht,rfl⟩:=List.mem_take_iff_getElem.1 hq
      by_cases e:t=j - 1
      · subst e
        rw [List.getElem?_eq_getElem (by omega)] at hy
        cases hy; exact hyx
      · have h1:j - 1<p.length:=by omega
        have:=List.pairwise_iff_getElem.1 hs t (j - 1) (by omega) h1 (by omega)
        rw [List.getElem?_eq_getElem h1] at hy
        cases hy
        exact rle_trans this hyx
  have:=insL_at (a:=p.take j) (b:=p.drop j) ha (fun q hq=>hd q (List.mem_of_mem_head? hq))
  rw [List.take_append_drop] at this
  rw [this,midR]; simp
theorem cmp_neg (a b:Str):(cmpS a b<0)=(strLt a b=true):=by
  unfold cmpS
  cases h:strLt a b
  · cases h2:strLt b a<;>simp
  · simp
theorem ky_sol (F:Nat→Option IFn) (fin:St→Option Ret) (is:List IItem) (gs:List (GOp×List Nat)) (o:IOp) (t:Nat) (b:Bool) (free:List Nat) (done:List Fx) (st:St):KY F fin is gs o t b free done st true=RR F (KW F fin is gs done) [] [⟨o,some (t,b)⟩] st:=by
  simp only[KY,if_true,RR,runOps,KW,KD]
  cases gstep (EE F) st ⟨o,some (t,b)⟩ with
  | none=>rfl
  | some s=>simp only[Option.bind_some,KK,CC_nil,KW,KD]
theorem routeCmp (n:Int) (a b:Str) (m:Int) (c d:Str):EE F 146 [.ag [.u (.int .i64 n),.u (.str a),.u (.str b)],.ag [.u (.int .i64 m),.u (.str c),.u (.str d)]] []=ok1 (I (cmpS a c)):=by
  rw [R146,b146]
  simp only[↓xP,xQ,xR,xS,flatR,reduceLT,Nat.reduceBEq,reduceAdd,reduceSub,compare_s]
theorem sort_go (l:List Route) (n:Nat) (hn:n=l.length) (h8:l.length≤8):EE F 266 [.sc (.own (.par 0) n),I 0,I n,.sc (.u (.fn 146 []))] [.row 3 (l.map Route.u)]=some ⟨[],[],[.row 3 ((sortR l).map Route.u)]⟩:=by
  refine (EE_run (fn:=i266) (by kernel_rfl) rfl).trans ?_
  simp only[i266,b266,argSt,insSt,List.length_cons,List.length_nil]
  have hw0:IntKind.i64.wrap ((0:Int)+1)=((1:Nat):Int):=by decide
  simp only[↓xP,xQ,xR,xS,flatR,reduceLT,Nat.reduceBEq,reduceAdd,reduceSub,hw0]
  have hF:∀ i,i<n→∃ x,l[i]?=some x:=fun i hi=>⟨_,List.getElem?_eq_getElem (by omega)⟩
  have hst1:sortR (l.take 1)++l.drop 1=l:=by
    cases l with
    | nil=>rfl
    | cons a l=>rfl
  refine loop_ind (fun (i:Nat) st=>i≤n+1∧(1≤i)∧st.s 0=.t (.sc (.own (.par 0) n))∧st.o (.par 0)=some (.row 3 ((sortR (l.take i)++l.drop i).map Route.u))∧st.s 1=DI 0∧st.s 2=DI n∧st.s 3=DU (.fn 146 [])∧st.s 8=DI i) (fun i=>n - i) (fun _=>some ⟨[],[],[.row 3 ((sortR l).map Route.u)]⟩) ?_ 1 (by and_intros<;>first|omega|rfl|(simp only[↓xP,xQ,xR,xS,flatR,reduceLT,Nat.reduceBEq,reduceAdd,reduceSub,hst1]<;>first|done|rfl|omega))
  rintro i st ⟨hin,h1,hs0,ho,hs1,hs2,hs3,hs8⟩ ih
  by_cases hi:i<n
  · have hw:=w_succ (i:=i) (by omega)
    obtain ⟨⟨xn,⟨xlo,xhi⟩⟩,hx⟩:=hF i hi
    have hpl:(sortR (l.take i)).length=i:=by rw [sortR_len,List.length_take]; omega
    have hsp:=sortR_sorted (l.take i)
    have hst:=sortR_step hx
    have hmid:sortR (l.take i)++l.drop i=midR (sortR (l.take i)) (l.drop (i+1)) ⟨xn,⟨xlo,xhi⟩⟩ i:=by
      have t1:(sortR (l.take i)).take i=sortR (l.take i):=List.take_of_length_le (by omega)
      have t2:(sortR (l.take i)).drop i=[]:=List.drop_of_length_le (by omega)
      rw [drop_at hx,midR,t1,t2]; rfl
    rw [hmid] at ho
    clear hmid
    obtain ⟨p,hP⟩:∃ p,p=sortR (l.take i):=⟨_,rfl⟩
    obtain ⟨r,hRs⟩:∃ r,r=l.drop (i+1):=⟨_,rfl⟩
    rw [←hP] at hpl hsp hst
    rw [←hP,←hRs] at ho
    simp only[↓xP,xQ,xR,xS,flatR,reduceLT,Nat.reduceBEq,reduceAdd,reduceSub,hs0,ho,hs1,hs2,hs3,hs8,hi]
    refine loop_ind (fun (j:Nat) st=>j≤i∧(∀ q,q∈p.drop j→rle q ⟨xn,⟨xlo,xhi⟩⟩=false)∧st.s 0=.t (.sc (.own (.par 0) n))∧st.o (.par 0)=some (.row 3 ((midR p r ⟨xn,⟨xlo,xhi⟩⟩ j).map Route.u))∧st.s 1=DI 0∧st.s 2=DI n∧st.s 3=DU (.fn 146 [])∧st.s 8=DI i∧st.s 9=DI j) (fun j=>j) (fun _=>some ⟨[],[],[.row 3 ((sortR l).map Route.u)]⟩) ?_ i ⟨by omega,(by rw [List.drop_of_length_le (by omega)]; intro q hq; cases hq),(by and_intros<;>first|omega|rfl|(simp only[↓xP,xQ,xR,xS,flatR,reduceLT,Nat.reduceBEq,reduceAdd,reduceSub,hs0,ho,hs1,hs2,hs3,hs8]<;>first|done|rfl|omega))⟩
    clear hs0 ho hs1 hs2 hs3 hs8
    rintro j st ⟨hji,hdr,hs0,ho,hs1,hs2,hs3,hs8,hs9⟩ ih2
    have hml:=midR_len (p:=p) (r:=r) (x:=⟨xn,⟨xlo,xhi⟩⟩) (j:=j) (by omega)
    have hrl:p.length+r.length+1=n:=by rw [hpl,hRs,List.length_drop]; omega
    have hxm:=midR_x (p:=p) (r:=r) (x:=⟨xn,⟨xlo,xhi⟩⟩) (j:=j) (by omega)
    have hfin:(j=0∨∃ y,p[j - 1]?=some y∧rle y ⟨xn,⟨xlo,xhi⟩⟩=true)→(midR p r ⟨xn,⟨xlo,xhi⟩⟩ j)=sortR (l.take (i+1))++l.drop (i+1):=by
      intro hy
      rw [hst,←hRs]
      exact midR_end hsp (by omega) hdr hy
    cases j with
    | zero=>
      have hgt:(((0:Nat):Int) > 0)=False:=by simp
      have hfin2:=hfin (.inl rfl)
      simp only[↓xP,xQ,xR,xS,flatR,reduceLT,Nat.reduceBEq,reduceAdd,reduceSub,rdx2,ky_sol,hs0,ho,hs1,hs2,hs3,hs8,hs9,hgt]
      exact ih (i+1) _ (by omega) (by and_intros<;>first|omega|rfl|(simp only[↓xP,xQ,xR,xS,flatR,reduceLT,Nat.reduceBEq,reduceAdd,reduceSub,hs0,ho,hs1,hs2,hs3,hs8,hw,hfin2]<;>first|done|rfl|omega))
    | succ k=>
      have hgt:(((k+1:Nat):Int) > 0)=True:=by simp
      have hp:=w_pred (i:=k) (by omega)
      have hkn:k+1<n:=by omega
      have hkn':k<n:=by omega
      obtain ⟨⟨yn,⟨ylo,yhi⟩⟩,hyp⟩:∃ a,p[k]?=some a:=⟨_,List.getElem?_eq_getElem (by omega)⟩
      have hy:(midR p r ⟨xn,⟨xlo,xhi⟩⟩ (k+1))[k]?=some ⟨yn,⟨ylo,yhi⟩⟩:=by rw [midR_y (by omega)]; exact hyp
      have hsw:((midR p r ⟨xn,⟨xlo,xhi⟩⟩ (k+1)).map Route.u).set (k+1) [.int .i64 yn,.str ylo,.str yhi]=((midR p r ⟨xn,⟨xlo,xhi⟩⟩ (k+1)).set (k+1) ⟨yn,⟨ylo,yhi⟩⟩).map Route.u:=by rw [List.map_set]; rfl
      have hsw2:(((midR p r ⟨xn,⟨xlo,xhi⟩⟩ (k+1)).set (k+1) ⟨yn,⟨ylo,yhi⟩⟩).map Route.u).set k [.int .i64 xn,.str xlo,.str xhi]=(midR p r ⟨xn,⟨xlo,xhi⟩⟩ k).map Route.u:=by
        have h3:=congrArg (List.map Route.u) (midR_swap (r:=r) (x:=⟨xn,⟨xlo,xhi⟩⟩) hyp)
        rw [List.map_set] at h3; exact h3
      have hgk:(((midR p r ⟨xn,⟨xlo,xhi⟩⟩ (k+1)).map Route.u).set (k+1) [.int .i64 yn,.str ylo,.str yhi])[k]?=some [.int .i64 yn,.str ylo,.str yhi]:=by
        rw [List.getElem?_set_ne (by omega),List.getElem?_map,hy]; rfl
      rw [←hsw] at hsw2
      have hlen1:(midR p r ⟨xn,⟨xlo,xhi⟩⟩ (k+1)).length=n:=by omega
      have hlen2:((midR p r ⟨xn,⟨xlo,xhi⟩⟩ (k+1)).set (k+1) ⟨yn,⟨ylo,yhi⟩⟩).length=n:=by rw [List.length_set]; exact hlen1
      simp only[↓xP,xQ,xR,xS,flatR,reduceLT,Nat.reduceBEq,reduceAdd,reduceSub,rdx2,ky_sol,hs0,ho,hs1,hs2,hs3,hs8,hs9,hgt,hp,hxm,hy,Route.u,routeCmp,hkn,hkn',hgk,List.length_map,cmp_neg]
      refine sel_split (fun h=>?_) (fun h=>?_)
      · have hlt:strLt xlo ylo=true:=by simpa using h
        have hdk:∀ q,q∈p.drop k→rle q ⟨xn,⟨xlo,xhi⟩⟩=false:=by
          intro q hq
          rw [drop_at hyp] at hq
          rcases List.mem_cons.1 hq with rfl|hq
          · simp [rle,hlt]
          · exact hdr q hq
        exact ih2 k _ (by omega) ⟨by omega,hdk,(by and_intros<;>first|omega|rfl|(simp only[↓xP,xQ,xR,xS,flatR,reduceLT,Nat.reduceBEq,reduceAdd,reduceSub,hs0,ho,hs1,hs2,hs3,hs8,hp,hsw2]<;>first|done|rfl|omega))⟩
      · have hlt:strLt xlo ylo=false:=by simpa using h
        have hfin2:=hfin (.inr ⟨_,hyp,by simp [rle,hlt]⟩)
        exact ih (i+1) _ (by omega) (by and_intros<;>first|omega|rfl|(simp only[↓xP,xQ,xR,xS,flatR,reduceLT,Nat.reduceBEq,reduceAdd,reduceSub,hs0,ho,hs1,hs2,hs3,hs8,hw,hfin2]<;>first|done|rfl|omega))
  · have e1:l.take i=l:=List.take_of_length_le (by omega)
    have e2:l.drop i=[]:=List.drop_of_length_le (by omega)
    rw [e1,e2,List.append_nil] at ho
    simp only[↓xP,xQ,xR,xS,flatR,reduceLT,Nat.reduceBEq,reduceAdd,reduceSub,hs0,ho,hs1,hs2,hs3,hs8,hi]
def liveR:List Shard→Nat→List Route
  | [],_=>[]
  | s::l,i=>if s.live=true then ⟨(i:Int),s.group.base.span⟩::liveR l (i+1) else liveR l (i+1)
theorem liveR_app:∀ (a b:List Shard) (i:Nat),liveR (a++b) i=liveR a i++liveR b (i+a.length)
  | [],b,i=>by simp [liveR]
  | s::a,b,i=>by
    have h:=liveR_app a b (i+1)
    have e:i+1+a.length=i + (s::a).length:=by simp only[List.length_cons]; omega
    rw [e] at h
    simp only[List.cons_append,liveR,h]
    split<;>rfl
theorem liveR_len:∀ (a:List Shard) (i:Nat),(liveR a i).length≤a.length
  | [],i=>by simp [liveR]
  | s::a,i=>by
    have h:=liveR_len a (i+1)
    simp only[liveR]; split<;>simp only[List.length_cons]<;>omega
theorem liveR_step {l:List Shard} {i:Nat} {s:Shard} (h:l[i]?=some s):liveR (l.take (i+1)) 0=liveR (l.take i) 0++(if s.live=true then [⟨(i:Int),s.group.base.span⟩] else []):=by
  have hi:=(List.getElem?_eq_some_iff.1 h).1
  have hl:(l.take i).length=i:=by rw [List.length_take]; omega
  rw [List.take_add_one,h,Option.toList_some,liveR_app,hl]
  simp [liveR]
def routesOf (l:List Shard):List Route:=sortR (liveR l 0)
theorem stable_go (l:List Route) (n:Nat) (hn:n=l.length) (h8:l.length≤8):EE F 209 [.sc (.own (.par 0) n),I n,.sc (.u (.fn 146 []))] [.row 3 (l.map Route.u)]=some ⟨[],[],[.row 3 ((sortR l).map Route.u)]⟩:=by
  refine (EE_run (fn:=i209) (by kernel_rfl) rfl).trans ?_
  simp only[i209,b209,argSt,insSt,List.length_cons,List.length_nil]
  have hs:=sort_go l n hn h8
  have h20:((20:Int)≤(n:Int))=False:=by simp; omega
  have h20':((20:Int)<(n:Int))=False:=by simp; omega
  simp only[↓xP,xQ,xR,xS,flatR,reduceLT,Nat.reduceBEq,reduceAdd,reduceSub]
  refine loop_ind (fun (_:Unit) st=>st.s 0=.t (.sc (.own (.par 0) n))∧st.o (.par 0)=some (.row 3 (l.map Route.u))∧st.s 1=DI n∧st.s 2=DU (.fn 146 [])∧st.s 6=DI 20∧st.s 7=DI 0∧st.s 8=DI 20) (fun _=>0) (fun _=>some ⟨[],[],[.row 3 ((sortR l).map Route.u)]⟩) ?_ () (by and_intros<;>first|omega|rfl|(simp only[↓xP,xQ,xR,xS,flatR,reduceLT,Nat.reduceBEq,reduceAdd,reduceSub]<;>first|done|rfl|omega))
  rintro _ st ⟨h0,ho,h1,h2,h6,h7,h8'⟩ _
  simp only[↓xP,xQ,xR,xS,flatR,reduceLT,Nat.reduceBEq,reduceAdd,reduceSub,h0,ho,h1,h2,h6,h7,h8',h20,hs,sortR_len,Nat.le_refl,List.length_map]
  refine loop_ind (fun (_:Unit) st=>st.o (.par 0)=some (.row 3 ((sortR l).map Route.u))∧st.s 1=DI n∧st.s 6=DI 20) (fun _=>0) (fun _=>some ⟨[],[],[.row 3 ((sortR l).map Route.u)]⟩) ?_ () (by and_intros<;>first|omega|rfl|(simp only[↓xP,xQ,xR,xS,flatR,reduceLT,Nat.reduceBEq,reduceAdd,reduceSub,h1,h6]<;>first|done|rfl|omega))
  rintro _ st ⟨ho,h1,h6⟩ _
  simp only[↓xP,xQ,xR,xS,flatR,reduceLT,Nat.reduceBEq,reduceAdd,reduceSub,ho,h1,h6,h20']
theorem stableSort_go (l:List Route) (n:Nat) (hn:n=l.length) (h8:l.length≤8):EE F 145 [.sc (.own (.par 0) n),.sc (.u (.fn 146 []))] [.row 3 (l.map Route.u)]=some ⟨[],[],[.row 3 ((sortR l).map Route.u)]⟩:=by
  refine (EE_run (fn:=i145) (by kernel_rfl) rfl).trans ?_
  simp only[i145,b145,argSt,insSt,List.length_cons,List.length_nil]
  have hs:=stable_go l n hn h8
  simp only[↓xP,xQ,xR,xS,flatR,reduceLT,Nat.reduceBEq,reduceAdd,reduceSub,hs,sortR_len,Nat.le_refl,List.length_map]
def routesRet (l:List Shard):Option Ret:=some ⟨[.sc (.own (.par 0) (routesOf l).length)],[.row 3 ((routesOf l).map Route.u)],[]⟩
theorem liveRoutes_ok (c0:List Shard) (c1:List Caller) (c2:List Result) (c3 c4 c5:Int) (c6:Str) (c7 c8 c9 c10 c11:Int) (h8:c0.length≤8):EE F 79 [.ag [.u (.sl 14 (c0.map Shard.u)),.u (.sl 8 (c1.map Caller.u)),.u (.sl 9 (c2.map Result.u)),.u (.int .i64 c3),.u (.int .i64 c4),.u (.int .i64 c5),.u (.str c6),.u (.int .i64 c7),.u (.int .i64 c8),.u (.int .i64 c9),.u (.int .i64 c10),.u (.int .i64 c11)]] []=routesRet c0:=by
  rw [R79,b79]
  simp only[↓xP,xQ,xR,xS,flatR,reduceLT,Nat.reduceBEq,reduceAdd,reduceSub]
  refine loop_ind (fun (i:Nat) st=>i≤c0.length∧st.s 3=.t (.sc (.own (.loc 3 0) (liveR (c0.take i) 0).length))∧st.o (.loc 3 0)=some (.row 3 ((liveR (c0.take i) 0).map Route.u))∧st.s 7=DU (.sl 14 (c0.map Shard.u))∧st.s 8=DI c0.length∧st.s 9=DI i) (fun i=>c0.length - i) (fun _=>routesRet c0) ?_ 0 (by and_intros<;>first|omega|rfl|(simp only[↓xP,xQ,xR,xS,flatR,reduceLT,Nat.reduceBEq,reduceAdd,reduceSub]<;>first|done|rfl|omega))
  rintro i st ⟨hle,h3,ho,h7,h8',h9⟩ ih
  by_cases hi:i<c0.length
  · obtain ⟨⟨live,⟨⟨⟨lo,up⟩,prs,kn,sld,cut⟩,⟨ep,ms,fr⟩,nds,ups,bag,ans⟩⟩,hx⟩:∃ x,c0[i]?=some x:=⟨_,List.getElem?_eq_getElem hi⟩
    have hw:=w_succ (i:=i) (by omega)
    have hst:=liveR_step hx
    have hll:=liveR_len (c0.take i) 0
    have hlt:(c0.take i).length=i:=by rw [List.length_take]; omega
    obtain ⟨q1,q2⟩:=small_max (n:=(liveR (c0.take i) 0).length+1) (k:=40) (by omega) (by omega)
    cases live
    · simp only[Bool.false_eq_true,if_false,List.append_nil] at hst
      simp only[↓xP,xQ,xR,xS,flatR,reduceLT,Nat.reduceBEq,reduceAdd,reduceSub,h3,ho,h7,h8',h9,hi,hx,hw,Shard.u]
      rw [ih (i+1) _ (by omega) (by and_intros<;>first|omega|rfl|(simp only[↓xP,xQ,xR,xS,flatR,reduceLT,Nat.reduceBEq,reduceAdd,reduceSub,h3,ho,h7,h8',hst]<;>first|done|rfl|omega))]
    · simp only[if_true] at hst
      simp only[↓xP,xQ,xR,xS,flatR,reduceLT,Nat.reduceBEq,reduceAdd,reduceSub,h3,ho,h7,h8',h9,hi,hx,hw,Shard.u,List.length_map,q1,q2]
      have hm:(liveR (c0.take i) 0).map Route.u++[[.int .i64 (i:Int),.str lo,.str up]]=(liveR (c0.take (i+1)) 0).map Route.u:=by rw [hst]; simp [Route.u]
      have hln:(liveR (c0.take i) 0).length+1=(liveR (c0.take (i+1)) 0).length:=by rw [hst]; simp
      rw [ih (i+1) _ (by omega) (by and_intros<;>first|omega|rfl|(simp only[↓xP,xQ,xR,xS,flatR,reduceLT,Nat.reduceBEq,reduceAdd,reduceSub,h3,ho,h7,h8',hm,hln]<;>first|done|rfl|omega))]
  · obtain rfl:i=c0.length:=by omega
    rw [List.take_length] at h3 ho
    have hll:=liveR_len c0 0
    have hs:=stableSort_go (liveR c0 0) _ rfl (by omega)
    have hsl:=sortR_len (liveR c0 0)
    simp only[↓xP,xQ,xR,xS,flatR,reduceLT,Nat.reduceBEq,reduceAdd,reduceSub,h3,ho,h7,h8',h9,hi,hs,List.length_map,hsl,Nat.le_refl,routesRet,routesOf]
theorem sortR_snoc (l:List Route) (x:Route):sortR (l++[x])=insL (sortR l) x:=by simp [sortR]
def swid:Bool→Id
  | false=>.loc 8 0
  | true=>.loc 33 0
theorem takes_ok {l:List Route} {j:Nat} {x:Route} (hj:j≤l.length) (ha:∀ q,q∈l.take j→rle q x=true) (hb:∀ q,l[j]?=some q→rle q x=false):l.take j++x::l.drop j=insL l x:=by
  have:=insL_at (a:=l.take j) (b:=l.drop j) (x:=x) ha (fun q hq=>hb q (by rw [List.head?_drop] at hq; exact hq))
  rw [List.take_append_drop] at this
  exact this.symm
theorem l27Routes_ok (c0:List Shard) (c1:List Caller) (c2:List Result) (c3 c4 c5:Int) (c6:Str) (c7 c8 c9 c10 c11:Int) (h8:c0.length≤8):EE F 82 [.ag [.u (.sl 14 (c0.map Shard.u)),.u (.sl 8 (c1.map Caller.u)),.u (.sl 9 (c2.map Result.u)),.u (.int .i64 c3),.u (.int .i64 c4),.u (.int .i64 c5),.u (.str c6),.u (.int .i64 c7),.u (.int .i64 c8),.u (.int .i64 c9),.u (.int .i64 c10),.u (.int .i64 c11)]] []=routesRet c0:=by
  rw [R82,b82]
  simp only[↓xP,xQ,xR,xS,flatR,reduceLT,Nat.reduceBEq,reduceAdd,reduceSub]
  refine loop_ind (fun (a:Nat×Bool) st=>a.1≤c0.length∧(a.2=false→sortR (liveR (c0.take a.1) 0)=[])∧st.s 1=.t (.sc (.ptr (.loc 1 0) 0 0))∧st.o (.loc 1 0)=some (.box [.u (.sl 14 (c0.map Shard.u)),.u (.sl 8 (c1.map Caller.u)),.u (.sl 9 (c2.map Result.u)),.u (.int .i64 c3),.u (.int .i64 c4),.u (.int .i64 c5),.u (.str c6),.u (.int .i64 c7),.u (.int .i64 c8),.u (.int .i64 c9),.u (.int .i64 c10),.u (.int .i64 c11)])∧st.s 3=.t (.sc (.own (swid a.2) (sortR (liveR (c0.take a.1) 0)).length))∧st.o (swid a.2)=some (.row 3 ((sortR (liveR (c0.take a.1) 0)).map Route.u))∧st.s 4=DI a.1) (fun a=>c0.length - a.1) (fun _=>routesRet c0) ?_ (0,false) ⟨by omega,fun _=>rfl,(by and_intros<;>first|omega|rfl|(simp only[↓xP,xQ,xR,xS,flatR,reduceLT,Nat.reduceBEq,reduceAdd,reduceSub]<;>first|done|rfl|omega))⟩
  rintro ⟨i,b⟩ st ⟨hle,hb,h1,hbx,h3,ho,h4⟩ ih
  dsimp only at *
  by_cases hi:i<c0.length
  · obtain ⟨⟨live,⟨⟨⟨lo,up⟩,prs,kn,sld,cut⟩,⟨ep,ms,fr⟩,nds,ups,bag,ans⟩⟩,hx⟩:∃ x,c0[i]?=some x:=⟨_,List.getElem?_eq_getElem hi⟩
    have hw:=w_succ (i:=i) (by omega)
    have hst:=liveR_step hx
    have hll:=liveR_len (c0.take i) 0
    have hlt:(c0.take i).length=i:=by rw [List.length_take]; omega
    have hsl:=sortR_len (liveR (c0.take i) 0)
    cases live
    · simp only[Bool.false_eq_true,if_false,List.append_nil] at hst
      rw [←hst] at hb h3 ho
      cases b<;>simp only[swid] at h3 ho<;>simp only[↓xP,xQ,xR,xS,flatR,reduceLT,Nat.reduceBEq,reduceAdd,reduceSub,h1,hbx,h3,ho,h4,hi,hx,hw,Shard.u]
      · exact ih (i+1,false) _ (by dsimp only; omega) ⟨by dsimp only; omega,hb,(by and_intros<;>first|omega|rfl|(simp only[↓xP,xQ,xR,xS,flatR,reduceLT,Nat.reduceBEq,reduceAdd,reduceSub,h1,hbx,h3,ho,swid]<;>first|done|rfl|omega))⟩
      · exact ih (i+1,true) _ (by dsimp only; omega) ⟨by dsimp only; omega,hb,(by and_intros<;>first|omega|rfl|(simp only[↓xP,xQ,xR,xS,flatR,reduceLT,Nat.reduceBEq,reduceAdd,reduceSub,h1,hbx,h3,ho,swid]<;>first|done|rfl|omega))⟩
    · simp only[if_true] at hst
      have hso:sortR (liveR (c0.take (i+1)) 0)=insL (sortR (liveR (c0.take i) 0)) ⟨(i:Int),⟨lo,up⟩⟩:=by rw [hst,sortR_snoc]
      obtain ⟨o,hoo⟩:∃ o,o=sortR (liveR (c0.take i) 0):=⟨_,rfl⟩
      rw [←hoo] at hb h3 ho hso hsl
      obtain ⟨q1,q2⟩:=small_max (n:=o.length+1) (k:=40) (by omega) (by omega)
      cases b
      · have ho0:o=[]:=hb rfl
        subst ho0
        simp only[swid,List.length_nil,List.map_nil] at h3 ho
        simp only[↓xP,xQ,xR,xS,flatR,reduceLT,Nat.reduceBEq,reduceAdd,reduceSub,h1,hbx,h3,ho,h4,hi,hx,hw,Shard.u]
        refine loop_ind (fun (_:Unit) st=>st.s 1=.t (.sc (.ptr (.loc 1 0) 0 0))∧st.o (.loc 1 0)=some (.box [.u (.sl 14 (c0.map Shard.u)),.u (.sl 8 (c1.map Caller.u)),.u (.sl 9 (c2.map Result.u)),.u (.int .i64 c3),.u (.int .i64 c4),.u (.int .i64 c5),.u (.str c6),.u (.int .i64 c7),.u (.int .i64 c8),.u (.int .i64 c9),.u (.int .i64 c10),.u (.int .i64 c11)])∧st.s 4=DI i∧st.s 5=.t (.sc (.ptr (.loc 5 0) 0 0))∧st.o (.loc 5 0)=some (.box [.u (.int .i64 (i:Int)),.u (.str lo),.u (.str up)])∧st.s 6=.t (.sc (.own (.loc 33 0) 0))∧st.o (.loc 33 0)=some (.row 3 [])∧st.s 7=DI 0∧st.s 3=.t (.sc (.own (.loc 8 0) 0))∧st.o (.loc 8 0)=some (.row 3 [])) (fun _=>0) (fun _=>routesRet c0) ?_ () (by and_intros<;>first|omega|rfl|(simp only[↓xP,xQ,xR,xS,flatR,reduceLT,Nat.reduceBEq,reduceAdd,reduceSub,h1,hbx,h3,ho,h4]<;>first|done|rfl|omega))
        clear h1 hbx h3 ho h4
        rintro _ st ⟨h1,hbx,h4,h5,hb5,h6,hb6,h7,h3,ho⟩ _
        have hc1:vcut 0 none (some (DI 0))=some (0,0):=by decide
        have hc2:vcut 0 (some (DI 0)) none=some (0,0):=by decide
        have z1:0≤maxLen:=Nat.zero_le _
        have z2:0*40≤140737488355328:=by omega
        have z3:1≤maxLen:=by simp [maxLen]
        have z4:1*40≤140737488355328:=by omega
        have hz:((0:Int)<((0:Nat):Int))=False:=by simp
        simp only[↓xP,xQ,xR,xS,flatR,reduceLT,Nat.reduceBEq,reduceAdd,reduceSub,rdx2,h1,hbx,h4,h5,hb5,h6,hb6,h7,h3,ho,hz,hc1,hc2,z1,z2,z3,z4,List.length_nil,List.length_cons,Nat.zero_add,Nat.add_zero,List.nil_append,List.append_nil]
        have hrow : [[U.int .i64 (i:Int),.str lo,.str up]]=(sortR (liveR (c0.take (i+1)) 0)).map Route.u:=by rw [hso]; rfl
        have hlen2:1=(sortR (liveR (c0.take (i+1)) 0)).length:=by rw [hso]; rfl
        exact ih (i+1,true) _ (by dsimp only; omega) ⟨by dsimp only; omega,(fun h=>by cases h),(by and_intros<;>first|omega|rfl|(simp only[↓xP,xQ,xR,xS,flatR,reduceLT,Nat.reduceBEq,reduceAdd,reduceSub,h1,hbx,hw,swid,hrow,←hlen2]<;>first|done|rfl|omega))⟩
      · simp only[swid] at h3 ho
        simp only[↓xP,xQ,xR,xS,flatR,reduceLT,Nat.reduceBEq,reduceAdd,reduceSub,h1,hbx,h3,ho,h4,hi,hx,hw,Shard.u]
        refine loop_ind (fun (j:Nat) st=>j≤o.length∧(∀ q,q∈o.take j→rle q ⟨(i:Int),⟨lo,up⟩⟩=true)∧st.s 1=.t (.sc (.ptr (.loc 1 0) 0 0))∧st.o (.loc 1 0)=some (.box [.u (.sl 14 (c0.map Shard.u)),.u (.sl 8 (c1.map Caller.u)),.u (.sl 9 (c2.map Result.u)),.u (.int .i64 c3),.u (.int .i64 c4),.u (.int .i64 c5),.u (.str c6),.u (.int .i64 c7),.u (.int .i64 c8),.u (.int .i64 c9),.u (.int .i64 c10),.u (.int .i64 c11)])∧st.s 4=DI i∧st.s 5=.t (.sc (.ptr (.loc 5 0) 0 0))∧st.o (.loc 5 0)=some (.box [.u (.int .i64 (i:Int)),.u (.str lo),.u (.str up)])∧st.s 6=.t (.sc (.own (.loc 33 0) 0))∧st.o (.loc 33 0)=some (.row 3 [])∧st.s 7=DI j∧st.s 3=DU (.sl 3 (o.map Route.u))) (fun j=>o.length - j) (fun _=>routesRet c0) ?_ 0 ⟨by omega,(by intro q hq; simp at hq),(by and_intros<;>first|omega|rfl|(simp only[↓xP,xQ,xR,xS,flatR,reduceLT,Nat.reduceBEq,reduceAdd,reduceSub,h1,hbx,h3,ho,h4]<;>first|done|rfl|omega))⟩
        clear h1 hbx h3 ho h4
        rintro j st ⟨hj,hta,h1,hbx,h4,h5,hb5,h6,hb6,h7,h3⟩ ih2
        have hdone:(∀ q,o[j]?=some q→rle q ⟨(i:Int),⟨lo,up⟩⟩=false)→o.take j++⟨(i:Int),⟨lo,up⟩⟩::o.drop j=insL o ⟨(i:Int),⟨lo,up⟩⟩:=fun h=>takes_ok hj hta h
        have hc1:vcut o.length none (some (DI (j:Int)))=some (0,j):=cut_to (by omega)
        have hc2:vcut o.length (some (DI (j:Int))) none=some (j,o.length):=cut_from (by omega)
        obtain ⟨m1,m2⟩:=small_max (n:=j) (k:=40) (by omega) (by omega)
        obtain ⟨m3,m4⟩:=small_max (n:=j+1) (k:=40) (by omega) (by omega)
        obtain ⟨m5,m6⟩:=small_max (n:=j+1 + (o.length - j)) (k:=40) (by omega) (by omega)
        have ht1:(List.take j (o.map Route.u)).length=j:=by rw [List.length_take,List.length_map]; omega
        have ht2:(List.drop j (o.map Route.u)).length=o.length - j:=by rw [List.length_drop,List.length_map]
        by_cases hjo:j<o.length
        · obtain ⟨⟨qn,⟨qlo,qup⟩⟩,hq⟩:∃ x,o[j]?=some x:=⟨_,List.getElem?_eq_getElem hjo⟩
          have hw2:=w_succ (i:=j) (by omega)
          cases hr:strLt lo qlo
          · simp only[↓xP,xQ,xR,xS,flatR,reduceLT,Nat.reduceBEq,reduceAdd,reduceSub,rdx2,h1,hbx,h4,h5,hb5,h6,hb6,h7,h3,hjo,hq,hw2,Route.u,le_iff,hr]
            have hta':∀ q,q∈o.take (j+1)→rle q ⟨(i:Int),⟨lo,up⟩⟩=true:=by
              intro q hq2
              rw [List.take_add_one,hq] at hq2
              rcases List.mem_append.1 hq2 with hq2|hq2
              · exact hta q hq2
              · simp at hq2; subst hq2; simp [rle,hr]
            exact ih2 (j+1) _ (by omega) ⟨by omega,hta',(by and_intros<;>first|omega|rfl|(simp only[↓xP,xQ,xR,xS,flatR,reduceLT,Nat.reduceBEq,reduceAdd,reduceSub,h1,hbx,h4,h5,hb5,h6,hb6,h3,hw2]<;>first|done|rfl|omega))⟩
          · simp only[↓xP,xQ,xR,xS,flatR,reduceLT,Nat.reduceBEq,reduceAdd,reduceSub,rdx2,h1,hbx,h4,h5,hb5,h6,hb6,h7,h3,hjo,hq,hw2,Route.u,le_iff,hr,hc1,hc2,List.length_map,m1,m2,m3,m4,m5,m6,ht1,ht2,Nat.zero_add,List.nil_append,List.length_append,List.length_cons,List.length_nil,List.drop_zero]
            have hrow:List.take j (o.map Route.u)++[[U.int .i64 (i:Int),.str lo,.str up]]++List.drop j (o.map Route.u)=(sortR (liveR (c0.take (i+1)) 0)).map Route.u:=by
              rw [hso,←hdone (fun q hq2=>by rw [hq] at hq2; cases hq2; simp [rle,hr])]; simp [Route.u]
            have hlen2:j+1 + (o.length - j)=(sortR (liveR (c0.take (i+1)) 0)).length:=by rw [hso,insL_len]; omega
            exact ih (i+1,true) _ (by dsimp only; omega) ⟨by dsimp only; omega,(fun h=>by cases h),(by and_intros<;>first|omega|rfl|(simp only[↓xP,xQ,xR,xS,flatR,reduceLT,Nat.reduceBEq,reduceAdd,reduceSub,h1,hbx,hw,swid,hrow,hlen2]<;>first|done|rfl|omega))⟩
        · simp only[↓xP,xQ,xR,xS,flatR,reduceLT,Nat.reduceBEq,reduceAdd,reduceSub,rdx2,h1,hbx,h4,h5,hb5,h6,hb6,h7,h3,hjo,hc1,hc2,List.length_map,m1,m2,m3,m4,m5,m6,ht1,ht2,Nat.zero_add,List.nil_append,List.length_append,List.length_cons,List.length_nil,List.drop_zero]
          have hrow:List.take j (o.map Route.u)++[[U.int .i64 (i:Int),.str lo,.str up]]++List.drop j (o.map Route.u)=(sortR (liveR (c0.take (i+1)) 0)).map Route.u:=by
            rw [hso,←hdone (fun q hq2=>by rw [List.getElem?_eq_none (by omega)] at hq2; cases hq2)]; simp [Route.u]
          have hlen2:j+1 + (o.length - j)=(sortR (liveR (c0.take (i+1)) 0)).length:=by rw [hso,insL_len]; omega
          exact ih (i+1,true) _ (by dsimp only; omega) ⟨by dsimp only; omega,(fun h=>by cases h),(by and_intros<;>first|omega|rfl|(simp only[↓xP,xQ,xR,xS,flatR,reduceLT,Nat.reduceBEq,reduceAdd,reduceSub,h1,hbx,hw,swid,hrow,hlen2]<;>first|done|rfl|omega))⟩
  · obtain rfl:i=c0.length:=by omega
    rw [List.take_length] at h3 ho
    cases b<;>simp only[swid] at h3 ho<;>simp only[↓xP,xQ,xR,xS,flatR,reduceLT,Nat.reduceBEq,reduceAdd,reduceSub,h1,hbx,h3,ho,h4,hi,routesRet,routesOf,List.length_map]
def noPlan (p:Plan):Bool:=decide (p.kind=0)&&decide (p.first=0)&&decide (p.second=0)&&decide (p.key=[])&&decide (p.from_=0)&&decide (p.to_=0)&&decide (p.step=0)
def workOk (p:Plan) (n:Nat):Bool:=noPlan p||(planValid p&&decide (p.first<n)&&decide (p.second<n))
theorem l27Work_ok (k f s:Int) (key:Str) (a b c:Int) (n:Nat):EE F 116 [.ag [.u (.int .i64 k),.u (.int .i64 f),.u (.int .i64 s),.u (.str key),.u (.int .i64 a),.u (.int .i64 b),.u (.int .i64 c)],I n] []=ok1 (B (workOk ⟨k,f,s,key,a,b,c⟩ n)):=by
  rw [R116,b116]
  simp only[↓xP,xQ,xR,xS,flatR,reduceLT,Nat.reduceBEq,reduceAdd,reduceSub,planValid_spec]
  repeat' (refine sel_split (fun h=>?_) (fun h=>?_))
  all_goals first|(simp_all [workOk,noPlan]; done)|(simp_all [workOk,noPlan]; grind)|skip
theorem equalB_ok (l m:List Bool) (hn:l.length≤1048576):EE F 125 [L 1 (l.map bU),L 1 (m.map bU)] []=ok1 (B (decide (l=m))):=by
  rw [R125,b125]
  by_cases hl:l.length=m.length
  · have hl':((l.length:Int)=(m.length:Int))=True:=by simp; omega
    simp only[↓xP,xQ,xR,xS,flatR,reduceLT,Nat.reduceBEq,reduceAdd,reduceSub,List.length_map,ne_eq,hl',not_true_eq_false]
    refine (loop_ind (fun (i:Nat) st=>st.s 0=DU (.sl 1 (l.map bU))∧st.s 1=DU (.sl 1 (m.map bU))∧st.s 11=DU (.sl 1 (l.map bU))∧st.s 12=DI l.length∧st.s 13=DI i) (fun i=>l.length - i) (fun i=>ok1 (B (decide (l.drop i=m.drop i)))) ?_ 0 (by and_intros<;>first|omega|rfl|(simp only[↓xP,xQ,xR,xS,flatR,reduceLT,Nat.reduceBEq,reduceAdd,reduceSub]<;>first|done|rfl|omega))).trans (by simp)
    rintro i st ⟨h0,h1,h11,h12,h13⟩ ih
    by_cases hi:i<l.length
    · obtain ⟨x,hx⟩:∃ x,l[i]?=some x:=⟨_,List.getElem?_eq_getElem hi⟩
      obtain ⟨y,hy⟩:∃ x,m[i]?=some x:=⟨_,List.getElem?_eq_getElem (by omega)⟩
      have hi2:i<m.length:=by omega
      have hw:=w_succ (i:=i) (by omega)
      rw [drop_at hx,drop_at hy]
      by_cases e:x=y
      · subst e
        simp only[↓xP,xQ,xR,xS,flatR,reduceLT,Nat.reduceBEq,reduceAdd,reduceSub,rdx2,h0,h1,h11,h12,h13,hi,hi2,hx,hy,hw,bU]
        rw [ih (i+1) _ (by omega) (by and_intros<;>first|omega|rfl|(simp only[↓xP,xQ,xR,xS,flatR,reduceLT,Nat.reduceBEq,reduceAdd,reduceSub,h0,h1,h11,h12]<;>first|done|rfl|omega))]
        simp
      · have hb:(x==y)=false:=by simpa using e
        simp only[↓xP,xQ,xR,xS,flatR,reduceLT,Nat.reduceBEq,reduceAdd,reduceSub,rdx2,h0,h1,h11,h12,h13,hi,hi2,hx,hy,hw,bU,hb]
        simp [e]
    · simp only[↓xP,xQ,xR,xS,flatR,reduceLT,Nat.reduceBEq,reduceAdd,reduceSub,h0,h1,h11,h12,h13,hi]
      rw [List.drop_of_length_le (by omega),List.drop_of_length_le (by omega)]; rfl
  · have hl':((l.length:Int)=(m.length:Int))=False:=by simp; omega
    have:¬l=m:=fun e=>hl (by rw [e])
    simp only[↓xP,xQ,xR,xS,flatR,reduceLT,Nat.reduceBEq,reduceAdd,reduceSub,List.length_map,ne_eq,hl',not_false_eq_true]
    simp [this]
def freeCaller (c:Caller):Bool:=decide (c.cache.length=0)&&decide (c.seq=0)
def upOf (l:List Shard):List Bool:=match l with
  | []=>[]
  | s::_=>s.group.up
def firstFree (l:List Caller):Bool:=match l with
  | []=>false
  | c::_=>freeCaller c
def shardOk (u:List Bool) (s:Shard):Bool:=chainValid s.group&&decide (s.group.up=u)
def sizesOk (x:Cluster):Bool:=decide (1≤x.shards.length)&&decide (x.shards.length≤8)&&decide (x.clients.length=4)&&decide (x.results.length≤40)
def endsOk (x:Cluster):Bool:=routesValid (routesOf x.shards)&&firstFree x.clients&&inR x.turn 0 999&&inR x.clock 0 200
def clusterValid (x:Cluster):Bool:=sizesOk x&&x.shards.all (shardOk (upOf x.shards))&&x.clients.all callerValid&&x.results.all resultValid&&workOk x.work x.shards.length&&endsOk x
theorem noCaller_free {c:Caller} (h:callerValid c=true):(decide (c.cache.length=0)&&decide (c.seq=0)&&!c.busy&&noCommand c.wish&&decide (c.called=0))=freeCaller c:=by
  obtain ⟨l,s,bz,w,cd⟩:=c
  simp only[callerValid,Bool.and_eq_true] at h
  obtain ⟨_,h⟩:=h
  cases bz
  · simp only[Bool.false_eq_true,if_false,Bool.and_eq_true] at h
    simp [freeCaller,h.1,h.2]
  · simp only[if_true,Bool.and_eq_true,decide_eq_true_eq] at h
    have:¬s=0:=by have:=h.1.1; omega
    simp [freeCaller,this]
end Go.Proofs.YtmfjkbbmhaofbaaGreatV
