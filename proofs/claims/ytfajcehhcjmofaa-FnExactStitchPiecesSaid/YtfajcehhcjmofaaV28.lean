/- What came in, as data of the evaluator: an argument that can be read is data of its type's kinds. Conditions: the types' own facts, as each lemma states them. -/
import Derived.Test.YtfajcehhcjmofaaV27
import Derived.Deep.Slices
import Derived.OpenShut
import Derived.ProofKit
namespace Go.Proofs.YtfajcehhcjmofaaV
open Go Go.Deep Go.ChangeShapes Go.WideShapes Go.ChangeAt Go.RowKit
set_option linter.unusedVariables false
set_option linter.unusedSimpArgs false
/-- The kinds of a type's cells. -/
inductive Ty where
 | i (k:IntKind)
 | b
 | s
 | sl (fs:List Ty)
/-- Data of a kind. -/
inductive UT:Ty→U→Prop
 | i (k:IntKind) (n:Int) (h:(Lit.int k n).wf=true):UT (.i k) (.int k n)
 | b (x:Bool):UT .b (.bool x)
 | s (x:List UInt8) (h:x.length≤maxLen):UT .s (.str x)
 | sl (fs:List Ty) (rows:List (List U)) (hl:rows.length≤maxLen) (hr:∀ row,row∈rows→row.length=fs.length) (hc:∀ (i j:Nat) row f x,rows[i]?=some row→fs[j]?=some f→row[j]?=some x→UT f x):UT (.sl fs) (.sl fs.length rows)
def tysF (P:Program) (g:TypeId→Option (List Ty)):Nat→List Field→Option (List Ty)
 | _,[]=>some []
 | j,f::fs=>if f.offset=j then (g f.type).bind fun ts=>if P.cellsOf f.type=ts.length then (tysF P g (j+ts.length) fs).map (ts++·) else none else none
def ZdJ (P:Program):Nat→TypeId→Option (List Ty)
 | 0,_=>none
 | d+1,t=>match P.underlying t with
  | some (.int k)=>some [.i k]
  | some .bool=>some [.b]
  | some .string=>some [.s]
  | some (.slice e)=>(ZdJ P d e).bind fun fs=>if P.cellsOf e=fs.length then some [.sl fs] else none
  | some (.struct fs)=>(tysF P (ZdJ P d) 0 fs.toList).bind fun ts=>if P.cellsOf t=ts.length then some ts else none
  | _=>none
/-- Cells that read as data of these kinds. -/
def CR (W:World) (ts:List Ty) (cs:List Value):Prop:=cs.length=ts.length∧∃ us:List U,us.length=ts.length∧∀ (j:Nat) ty v,ts[j]?=some ty→cs[j]?=some v→∃ u,us[j]?=some u∧RepU W (fun _=>False) u v∧UT ty u
theorem CR.one {W:World} {ty:Ty} {u:U} {v:Value} (h1:RepU W (fun _=>False) u v) (h2:UT ty u):CR W [ty] [v]:=by
 refine ⟨rfl,[u],rfl,fun j ty' v' hj hv=>?_⟩
 cases j with
 | zero=>simp at hj hv; subst hj; subst hv; exact ⟨u,rfl,h1,h2⟩
 | succ j=>simp at hj
theorem CR.append {W:World} {t1 t2:List Ty} {c1 c2:List Value} (h1:CR W t1 c1) (h2:CR W t2 c2):CR W (t1++t2) (c1++c2):=by
 obtain ⟨l1,u1,k1,g1⟩:=h1
 obtain ⟨l2,u2,k2,g2⟩:=h2
 refine ⟨by simp [l1,l2],u1++u2,by simp [k1,k2],fun j ty v hj hv=>?_⟩
 by_cases hlt:j<t1.length
 ·rw [List.getElem?_append_left hlt] at hj
  rw [List.getElem?_append_left (by omega)] at hv
  rw [List.getElem?_append_left (by omega)]
  exact g1 j ty v hj hv
 ·rw [List.getElem?_append_right (by omega)] at hj
  rw [List.getElem?_append_right (by omega),l1] at hv
  rw [List.getElem?_append_right (by omega),k1]
  exact g2 _ ty v hj hv
theorem Zc6 {P:Program} {H:Type} {enc:TypeId×Value→H} {W:World} {n:Nat} {cs:List Value} {g:TypeId→Option (List Ty)} (hg:∀ t ts,g t=some ts→∀ fuel cs x,DataW.trod enc P W 0 (fun _=>true) true fuel t cs=some x→CR W ts cs) :
  ∀ (fs:List Field) (j:Nat) (ts:List Ty),tysF P g j fs=some ts→(∀ f,f∈fs→∃ x,DataW.trod enc P W 0 (fun _=>true) true n f.type ((cs.drop f.offset).take (P.cellsOf f.type))=some x)→CR W ts ((cs.drop j).take ts.length)
 | [],j,ts,h,_=>by
  simp only[tysF,Option.some.injEq] at h
  subst h
  exact ⟨by simp,[],rfl,fun k ty v hk=>by simp at hk⟩
 | f :: fs,j,ts,h,hx=>by
  simp only[tysF] at h
  split at h
  ·rename_i hoff
   simp only[Option.bind_eq_some_iff] at h
   obtain ⟨t1,ht1,h⟩:=h
   split at h
   ·rename_i hc
    simp only[Option.map_eq_some_iff] at h
    obtain ⟨t2,ht2,rfl⟩:=h
    obtain ⟨x,hx1⟩:=hx f (List.mem_cons_self ..)
    have h1:=hg _ _ ht1 _ _ _ hx1
    rw [hoff,hc] at h1
    have h2:=Zc6 hg fs _ t2 ht2 (fun f' hf'=>hx f' (List.mem_cons_of_mem _ hf'))
    have:(cs.drop j).take (t1++t2).length=(cs.drop j).take t1.length++(cs.drop (j+t1.length)).take t2.length:=by
     rw [List.length_append,List.take_add,List.drop_drop]
    rw [this]
    exact h1.append h2
   ·cases h
  ·cases h
theorem Zb0 {P:Program} {H:Type} {enc:TypeId×Value→H} {W:World}:∀ (d:Nat) (t:TypeId) (ts:List Ty),ZdJ P d t=some ts→∀ fuel cs x,DataW.trod enc P W 0 (fun _=>true) true fuel t cs=some x→CR W ts cs
  | 0,_,_,h,_,_,_,_=>by simp [ZdJ] at h
  | d + 1, t, ts, h,fuel,cs,x,hx=>by
    simp only[ZdJ] at h
    split at h
    · rename_i k hu
      cases h
      obtain ⟨n,rfl,_,hw⟩:=DataW.trod_int hu hx
      exact CR.one (.int ..) (.i k n hw)
    · rename_i hu
      cases h
      obtain ⟨b,rfl,_⟩:=DataW.trod_bool hu hx
      exact CR.one (.bool ..) (.b b)
    · rename_i hu
      cases h
      obtain ⟨s,rfl,_,hs⟩:=DataW.trod_string hu hx
      have:(⟨s.data.toList.toArray⟩:ByteArray)=s:=by cases s; simp
      have h1:RepU W (fun _=>False) (.str s.data.toList) (.string s):=by
        have:=RepU.str (w:=W) (M:=fun _=>False) s.data.toList
        rwa [‹(⟨s.data.toList.toArray⟩:ByteArray)=s›] at this
      exact CR.one h1 (.s _ (by show s.data.toList.length≤maxLen; rw [Array.length_toList]; exact hs))
    · rename_i e hu
      simp only[Option.bind_eq_some_iff] at h
      obtain ⟨fs,hfs,h⟩:=h
      split at h
      · rename_i hc
        cases h
        rcases open_slice hu hx with ⟨rfl,_⟩|⟨a,len,cap,m,n,D,Pl,rfl,_,hl,hm,hmm,_,hel⟩
        · exact CR.one (.sl0 _) (.sl fs [] (Nat.zero_le _) (fun row h=>by cases h) (fun i j row f x h=>by simp at h))
        · have hlm:len≤m:=by rw [hmm]; split<;>omega
          have key:∀ k,k≤len→∃ rows:List (List U),rows.length=k∧(∀ row,row∈rows→row.length=fs.length)∧∀ (i j:Nat) row x f,rows[i]?=some row→row[j]?=some x→fs[j]?=some f→(∃ v,W.cell? (a.add (i*fs.length+j))=some v∧RepU W (fun _=>False) x v)∧UT f x:=by
            intro k
            induction k with
            | zero=>exact fun _=>⟨[],rfl,fun row h=>(by cases h),fun i j row x f h=>(by simp at h)⟩
            | succ k ih=>
              intro hk
              obtain ⟨rows,hrl,hrr,hall⟩:=ih (by omega)
              obtain ⟨cs',hcs,htr⟩:=hel k (by omega)
              obtain ⟨hcl,us,hul,hus⟩:=Zb0 d e fs hfs _ _ _ htr
              refine ⟨rows++[us],by simp [hrl],fun row hrow=>?_,fun i j row x f hi hj hf=>?_⟩
              · rcases List.mem_append.1 hrow with h|h
                · exact hrr row h
                · simp at h; subst h; exact hul
              · by_cases hlt:i<rows.length
                · rw [List.getElem?_append_left hlt] at hi
                  exact hall i j row x f hi hj hf
                · have hik:i=k:=by
                    have:=(List.getElem?_eq_some_iff.1 hi).1
                    simp at this; omega
                  subst hik
                  rw [List.getElem?_append_right (by omega),hrl] at hi
                  simp at hi
                  subst hi
                  have hjl:j<cs'.length:=by rw [hcl]; exact (List.getElem?_eq_some_iff.1 hf).1
                  obtain ⟨u,hu1,hu2,hu3⟩:=hus j f cs'[j] hf (List.getElem?_eq_getElem hjl)
                  rw [hj] at hu1; cases hu1
                  refine ⟨⟨cs'[j],?_,hu2⟩,hu3⟩
                  unfold World.cells? at hcs
                  rw [if_pos (Nat.zero_le _)] at hcs
                  have:=mapM_some_get hcs j j (by rw [List.getElem?_range (by rw [hc]; rw [←hcl]; exact hjl)])
                  rw [List.getElem?_eq_getElem hjl,Go.Deep.add_add,hc] at this
                  exact this
          obtain ⟨rows,hrl,hrr,hall⟩:=key len (Nat.le_refl _)
          have hblk:∀ i j,i<rows.length→j<fs.length→∃ v,W.cell? (a.add (i*fs.length+j))=some v:=by
            intro i j hi hj
            have h1:rows[i]?=some rows[i]:=List.getElem?_eq_getElem hi
            have hjl:j<rows[i].length:=by rw [hrr _ (List.getElem_mem hi)]; exact hj
            obtain ⟨⟨v,hv,_⟩,_⟩:=hall i j rows[i] rows[i][j] fs[j] h1 (List.getElem?_eq_getElem hjl) (List.getElem?_eq_getElem hj)
            exact ⟨v,hv⟩
          have hrep:RepU W (fun _=>False) (.sl fs.length rows) (.slice (some a) rows.length cap):=by
            refine .sl fs.length rows a cap (fun i j=>(W.cell? (a.add (i*fs.length+j))).getD undef) (by omega) (fun h0 h1=>⟨fun h=>h,?_⟩) hrr (fun i j hi hj=>?_) (fun i j row x hi hj=>?_)
            · obtain ⟨v,hv⟩:=hblk 0 0 (List.length_pos_iff.2 h0) h1
              have hb:(a.add (0*fs.length+0)).block=a.block:=Za6 _ _
              unfold World.cell? at hv
              rw [hb] at hv
              cases hq:W.heap[a.block]? with
              | none=>rw [hq] at hv; simp at hv
              | some q=>exact (Array.getElem?_eq_some_iff.1 hq).1
            · obtain ⟨v,hv⟩:=hblk i j hi hj
              rw [hv]; rfl
            · have hjl:j<fs.length:=by rw [←hrr row (List.mem_of_getElem? hi)]; exact (List.getElem?_eq_some_iff.1 hj).1
              obtain ⟨⟨v,hv,hr⟩,_⟩:=hall i j row x fs[j] hi hj (List.getElem?_eq_getElem hjl)
              show RepU W _ x ((W.cell? (a.add (i*fs.length+j))).getD undef)
              rw [hv]
              exact hr
          rw [hrl] at hrep
          exact CR.one hrep (.sl fs rows (by omega) hrr (fun i j row f x hi hf hj=>(hall i j row x f hi hj hf).2))
      · cases h
    · rename_i fs hu
      simp only[Option.bind_eq_some_iff] at h
      obtain ⟨ts',hts,h⟩:=h
      split at h
      · rename_i hc
        cases h
        obtain ⟨xs,n,rfl,rfl,hl,hxs,hf⟩:=DataW.trod_struct hu hx
        have:=Zc6 (cs:=cs) (n:=n) (fun t ts ht fuel cs x hx=>Zb0 d t ts ht fuel cs x hx) fs.toList 0 ts hts (fun f hf'=>by
          obtain ⟨i,hi⟩:=List.mem_iff_getElem?.1 hf'
          have hi2:fs[i]?=some f:=by simpa using hi
          have:=hf i f hi2
          have hlt:i<xs.length:=by rw [hxs]; exact (Array.getElem?_eq_some_iff.1 hi2).1
          rw [List.getElem?_eq_getElem hlt] at this
          exact ⟨_,this⟩)
        rwa [List.drop_zero,←hc,←hl,List.take_length] at this
      · cases h
    · cases h
/-- An argument that is one cell. -/
theorem arg_sc {P:Program} {H:Type} {enc:TypeId×Value→H} {W:World} {d:Nat} {t:TypeId} {ty:Ty} (ht:ZdJ P d t=some [ty]) {v:Value} {D:DataW H} {ps:List MemPlace} (hv:DataW.Trod enc P W 0 (fun _=>true) true t v D ps) (h1:v.cells=#[v]) :
  ∃ u,RepT W (fun _=>False) (fun _=>none) (fun _=>none) (.sc (.u u)) v∧UT ty u:=by
 obtain ⟨fuel,hf⟩:=hv
 obtain ⟨_,us,_,hus⟩:=Zb0 d t [ty] ht _ _ _ hf
 rw [h1] at hus
 obtain ⟨u,_,hu2,hu3⟩:=hus 0 ty v rfl rfl
 exact ⟨u,hu2,hu3⟩
/-- An argument that is a struct. -/
theorem arg_ag {P:Program} {H:Type} {enc:TypeId×Value→H} {W:World} {d:Nat} {t:TypeId} {ts:List Ty} (ht:ZdJ P d t=some ts) {cs:Array Value} {D:DataW H} {ps:List MemPlace} (hv:DataW.Trod enc P W 0 (fun _=>true) true t (.agg cs) D ps) :
  ∃ us:List U,RepT W (fun _=>False) (fun _=>none) (fun _=>none) (.ag (us.map .u)) (.agg cs)∧us.length=ts.length∧∀ (j:Nat) ty u,ts[j]?=some ty→us[j]?=some u→UT ty u:=by
 obtain ⟨fuel,hf⟩:=hv
 obtain ⟨hl,us,hul,hus⟩:=Zb0 d t ts ht _ _ _ hf
 have hcs:(Value.agg cs).cells.toList=cs.toList:=rfl
 rw [hcs] at hl hus
 refine ⟨us,⟨cs,rfl,by simp [hul,←hl],fun j c hj=>?_⟩,hul,fun j ty u hj hu=>?_⟩
 ·rw [List.getElem?_map] at hj
  obtain ⟨u,hu,rfl⟩:=Option.map_eq_some_iff.1 hj
  have hjl:j<ts.length:=by rw [←hul]; exact (List.getElem?_eq_some_iff.1 hu).1
  have hjc:j<cs.toList.length:=by omega
  obtain ⟨u',h1,h2,_⟩:=hus j ts[j] cs.toList[j] (List.getElem?_eq_getElem hjl) (List.getElem?_eq_getElem hjc)
  rw [hu] at h1; cases h1
  exact ⟨cs.toList[j],by rw [←Array.getElem?_toList]; exact List.getElem?_eq_getElem hjc,h2⟩
 ·have hjl:j<cs.toList.length:=by rw [hl]; exact (List.getElem?_eq_some_iff.1 hj).1
  obtain ⟨u',h1,_,h3⟩:=hus j ty cs.toList[j] hj (List.getElem?_eq_getElem hjl)
  rw [hu] at h1; cases h1
  exact h3
theorem Zh2 {P:Program} {t:TypeId} {fs:Array Field} {W:World} {r:Reach} {base:Nat} {v:Value} (h:P.underlying t=some (.struct fs)) (hv:Value.okWide P W r base t v):∃ cs,v=.agg cs:=by
 simp only[Value.okWide,h] at hv
 obtain ⟨cs,rfl,_⟩:=hv
 exact ⟨cs,rfl⟩
/-- A call from outside, with data alone. -/
theorem Zi8 {P:Program} {E:Zb} (hE:Zad P E) {f:Nat} {args:List T} {b:Bool} (hr:E f args []=some ⟨[.sc (.u (.bool b))],[],[]⟩) {W:World} {vs:Array Value} (hs:vs.size=args.length) (ha:∀ (j:Nat) x,args[j]?=some x→∃ v,vs[j]?=some v∧RepT W (fun _=>False) (fun _=>none) (fun _=>none) x v) (hp:pf f=f:=by rfl) :
  Calls P f vs W fun e W'=>e=.returned (.bool b)∧Below W.heap.size W W':=by
 have hIn:In W (fun _=>False) (fun _=>none) (fun _=>False) args [] vs:=by
  refine ⟨hs,fun j x hj=>?_,fun id x hx=>?_,fun id id' L L' b _ _ hL=>(by cases hL),fun b hb=>hb.elim,fun id L b _ hL=>(by cases hL),fun b hb=>hb.elim,fun id x L _ _ hL=>(by cases hL),fun j _=>rfl⟩
  ·have h0:Zj []=fun _=>none:=by
    funext i; cases i<;>rfl
   rw [h0]
   exact ha j x hj
  ·cases id with
   | par k=>simp [Zj] at hx
   | loc t k=>cases hx
 have hcall:=hE f args [] _ hr W (fun _=>False) (fun _=>none) (fun _=>False) vs hIn
 rw [hp] at hcall
 refine Calls.mono hcall ?_
 rintro e W' ⟨σn,N,M1,ys,rfl,hOut⟩
 refine ⟨?_,hOut.os,hOut.tape,hOut.output,hOut.size,fun k hk=>hOut.same k hk (fun j L hL=>by cases hL)⟩
 have hl:=hOut.len
 obtain ⟨y,hy,hrep⟩:=hOut.res 0 _ rfl
 match ys,hl with
 | [z],_=>
  simp at hy
  subst hy
  have:z=.bool b:=RepU.bool_inv hrep
  rw [this]; rfl
end Go.Proofs.YtfajcehhcjmofaaV
