/- Appends. No conditions but those that the lemmas state. -/
import Derived.Test.YtfajcehhcjmofaaV13
namespace Go.Proofs.YtfajcehhcjmofaaV
open Go Go.RowKit
set_option linter.unusedVariables false
set_option linter.unusedSimpArgs false
variable {base:Nat} {σ0:Sig} {X:Nat→Prop} {w0 w w':World} {σ:Sig} {M:Nat→Prop} {a:Act} {st st':St} {P:Program} {n:Nat} {o:Oper} {E:Zb}
variable {ob:Id→Option Obj}
/-- A slice's elements, or a string's bytes, one by one, as append reads them. -/
structure Feed (P:Program) (w:World) (M:Nat→Prop) (sz:Nat) (rows:List (List U)) (x:Value) (news:List Value):Prop where
 len:∀ w2,(Builtin.lenOf x).run P w2=.ok rows.length w2
 cells:∀ w2:World,w2.heap=w.heap→(Builtin.firstCells sz rows.length x).run P w2=.ok news.toArray w2
 size:news.length=rows.length*sz
 row:∀ row,row∈rows→row.length=sz
 rep:RowsRep w M sz rows news.toArray
theorem RowsRep.keep {M':Nat→Prop} (k:Zaa w w' M M') {sz:Nat} {rows:List (List U)} {cur:Array Value} (h:RowsRep w M sz rows cur):RowsRep w' M' sz rows cur:=fun i j row x hi hj=>by
 obtain ⟨y,hy,hr⟩:=h i j row x hi hj
 exact ⟨y,hy,hr.keep k⟩
theorem Feed.one {sz:Nat} {rows:List (List U)} {x:Value} {news:List Value} (h:Feed P w M sz rows x news) (hz:0<sz):∀ v,v∈news→v.oneCell'=true:=by
 intro v hv
 obtain ⟨k,hk⟩:=List.mem_iff_getElem?.1 hv
 have hlt:k<rows.length*sz:=by rw [←h.size]; exact (List.getElem?_eq_some_iff.1 hk).1
 have hi:k / sz<rows.length:=Nat.div_lt_of_lt_mul (by rw [Nat.mul_comm]; exact hlt)
 have hj:k % sz<sz:=Nat.mod_lt _ hz
 have hrow:rows[k / sz]?=some rows[k / sz]:=by simp [hi]
 have hl:=h.row _ (List.mem_of_getElem? hrow)
 obtain ⟨y,hy,hr⟩:=h.rep (k / sz) (k % sz) rows[k / sz] (rows[k / sz][k % sz]'(by rw [hl]; exact hj)) hrow (by simp)
 rw [Nat.div_add_mod'] at hy
 rw [List.getElem?_toArray,hk] at hy
 cases hy
 exact hr.one
/-- From cells in memory. -/
theorem Zdm {sz:Nat} {rows:List (List U)} {A:Addr} {cap:Nat} (hrow:∀ row,row∈rows→row.length=sz) (hc:∀ i j,i<rows.length→j<sz→∃ y,w.cell? (A.add (i*sz+j))=some y∧∀ row x,rows[i]?=some row→row[j]?=some x→RepU w M x y) (hz:0<sz) :
  ∃ news,Feed P w M sz rows (.slice (some A) rows.length cap) news:=by
 let news:List Value:=(List.range (rows.length*sz)).map fun k=>(w.cell? (A.add k)).getD undef
 have hl:news.length=rows.length*sz:=by simp [news]
 have hget:∀ k,k<rows.length*sz→∃ y,w.cell? (A.add k)=some y∧news[k]?=some y:=by
  intro k hk
  have hi:k / sz<rows.length:=Nat.div_lt_of_lt_mul (by rw [Nat.mul_comm]; exact hk)
  obtain ⟨y,hy,_⟩:=hc (k / sz) (k % sz) hi (Nat.mod_lt _ hz)
  rw [Nat.div_add_mod'] at hy
  refine ⟨y,hy,?_⟩
  simp only[news,List.getElem?_map,List.getElem?_range hk,Option.map_some,hy,Option.getD_some]
 refine ⟨news,fun w2=>rfl,fun w2 h2=>?_,hl,hrow,fun i j row x hi hj=>?_⟩
 ·refine run_firstCells_some (P:=P) w2 sz rows.length A rows.length cap news hl (fun j v hj=>?_)
  have hlt:j<rows.length*sz:=by rw [←hl]; exact (List.getElem?_eq_some_iff.1 hj).1
  obtain ⟨y,hy,hn⟩:=hget j hlt
  rw [hn] at hj; cases hj
  unfold World.cell? at hy ⊢
  rw [h2]; exact hy
 ·have him:i<rows.length:=(List.getElem?_eq_some_iff.1 hi).1
  have hjl:j<sz:=by rw [←hrow row (List.mem_of_getElem? hi)]; exact (List.getElem?_eq_some_iff.1 hj).1
  obtain ⟨y,hy,hr⟩:=hc i j him hjl
  have hlt:i*sz+j<rows.length*sz:=by
   have:(i+1)*sz≤rows.length*sz:=Nat.mul_le_mul_right _ him
   rw [Nat.add_mul] at this
   omega
  obtain ⟨y',hy',hn⟩:=hget _ hlt
  rw [hy] at hy'; cases hy'
  exact ⟨y,by rw [List.getElem?_toArray]; exact hn,hr row x hi hj⟩
theorem Zez {sz cap:Nat} {A:Option Addr}:Feed P w M sz [] (.slice A 0 cap) []:=by
 refine ⟨fun w2=>rfl,fun w2 h2=>?_,by simp,fun row hr=>(by cases hr),fun i j row x hi=>(by simp at hi)⟩
 cases A with
 | none=>rfl
 | some A=>simp [Builtin.firstCells,loadCells,loadCellsFrom]
theorem Zgi (s:List UInt8):∃ news,Feed P w M 1 (Zao s) (.string ⟨s.toArray⟩) news:=by
 have hl:(Zao s).length=(⟨s.toArray⟩:ByteArray).size:=by simp [Zao,ByteArray.size]
 refine ⟨s.map fun b=>.int .u8 b.toNat,fun w2=>?_,fun w2 h2=>?_,?_,?_,?_⟩
 ·rw [hl]; rfl
 ·rw [hl]
  have he:(⟨s.toArray⟩:ByteArray).extract 0 (⟨s.toArray⟩:ByteArray).size=⟨s.toArray⟩:=by
   apply Zdj
   simp [ByteArray.data_extract]
  simp only[Builtin.firstCells,he,Sem.run_pure]
  congr 1
  apply Array.ext'
  simp
 ·simp [Zao]
 ·intro row hr
  simp only[Zao,List.mem_map] at hr
  obtain ⟨b,_,rfl⟩:=hr
  rfl
 ·intro i j row x hi hj
  simp only[Zao,List.getElem?_map,Option.map_eq_some_iff] at hi
  obtain ⟨b,hb,rfl⟩:=hi
  cases j with
  | zero=>
   simp only[List.getElem?_cons_zero,Option.some.injEq] at hj
   subst hj
   exact ⟨.int .u8 b.toNat,by simp [hb],.int ..⟩
  | succ j=>simp at hj
theorem ZgU (h:Rel base σ0 X w0 σ M w a st) {c:C} {sz:Nat} {rows:List (List U)} {v:Value} (hc:RepC w M σ st.o c v) (hr:st.rowsOf c=some (sz,rows)) (hz:0<sz):∃ news,Feed P w M sz rows v news:=by
 unfold St.rowsOf at hr
 split at hr
 ·cases hr
  rcases Ze1 hc with ⟨rfl,A,cp,rfl⟩|⟨A,cp,rfl,hrow,hcell⟩
  ·exact ⟨_,Zez⟩
  ·exact Zdm hrow hcell hz
 ·rename_i id0 m
  split at hr
  ·rename_i z r ho
   split at hr
   ·rename_i hle
    cases hr
    obtain ⟨sz',rows',ho',_,hv⟩:=hc
    rw [ho] at ho'; cases ho'
    have hml:(r.take m).length=m:=by rw [List.length_take]; omega
    rcases hv with ⟨rfl,_,rfl⟩|⟨L,hL,rfl⟩
    ·rw [List.take_zero]; exact ⟨_,Zez⟩
    ·rcases h.obj id0 _ ho with ⟨_,h4⟩|⟨L',cur,hL',hzz,hm,hh,hs,hcap,hcm,h0,hall,hcc⟩
     ·rw [hL] at h4; cases h4
     ·rw [hL] at hL'; cases hL'
      subst hzz
      have:=Zdm (P:=P) (w:=w) (M:=M) (sz:=L.sz) (rows:=r.take m) (A:=⟨L.g,0,none⟩) (cap:=L.cap) (fun row hr=>hall row (List.mem_of_mem_take hr)) (fun i j hi hj=>?_) hz
      ·rw [hml] at this; exact this
      ·have hi':i<r.length:=by omega
       have hrl:=hall r[i] (List.getElem_mem hi')
       obtain ⟨y,hy,_⟩:=hcc i j r[i] (r[i][j]'(by rw [hrl]; exact hj)) (by simp [hi']) (by simp)
       refine ⟨y,?_,fun row x h1 h2=>?_⟩
       ·rw [Zbg,Nat.zero_add,cell_of_row w L.g _ cur L.e (0,0) hh]; exact hy
       ·rw [List.getElem?_take] at h1
        split at h1
        ·obtain ⟨y',hy',hr⟩:=hcc i j row x h1 h2
         rw [hy] at hy'; cases hy'
         exact hr
        ·cases h1
   ·cases hr
  ·cases hr
 ·cases hr
section
variable {t t' ty e:TypeId} {i:TypeInfo} {z:Value} {sz:Nat} {ys:List (List U)} {x:Value} {news:List Value}
theorem ZcR (ht:P.underlying t=some (.slice e)) (ht':(∃ e',P.underlying t'=some (.slice e'))∨P.underlying t'=some .string) (hi:P.info? e=some i) (hsz:i.size=sz) (hf:Feed P w M sz ys x news) (hz:0<sz)
  {g sLen sCap:Nat} {cur:Array Value} {e0:TypeId} (hg:w.heap[g]?=some (.cells cur e0 (0,0))) (hroom:sLen+ys.length≤sCap) (hfit:sCap*sz≤cur.size) :
  ∃ cur2:Array Value,(Builtin.append_ #[t,t'] ty #[.slice (some ⟨g,0,none⟩) sLen sCap,x]).run P w=.ok (.slice (some ⟨g,0,none⟩) (sLen+ys.length) sCap) (w.setRow g cur2)∧cur2.size=cur.size∧
   ∀ (j:Nat),cur2[j]?=if sLen*sz≤j∧j<sLen*sz+news.length then news[j - sLen*sz]? else cur[j]?:=by
 have hsp:sLen*sz+news.toArray.size≤cur.size:=by
  have:(sLen+ys.length)*sz≤sCap*sz:=Nat.mul_le_mul_right _ hroom
  rw [Nat.add_mul] at this
  simp only[List.size_toArray,hf.size]
  omega
 obtain ⟨cur2,hst,c1,c2⟩:=ZbR (P:=P) (vs:=news.toArray) hg hsp (fun v hv=>hf.one hz v (by simpa using hv))
 refine ⟨cur2,?_,c1,fun j=>by rw [c2]; simp⟩
 have hzeros:∀ w2,(match (some t':Option TypeId) with
  | some xType=>do pure ((←underlying xType) matches .int _)
  | none=>pure false:Sem Bool).run P w2=.ok false w2:=by
  intro w2
  rcases ht' with ⟨e',h⟩|h<;>simp only[Sem.run_bind,run_underlying h,Result.andThen_ok,Sem.run_pure]
 rcases ht' with ⟨e',h⟩|h<;>
  simp [Builtin.append_,run_underlying ht,run_underlying h,sizeOf,typeInfo,hi,hsz,hf.len,hroom,hf.cells w rfl,Addr.add_lit,hst]
theorem Zcj (ht:P.underlying t=some (.slice e)) (ht':(∃ e',P.underlying t'=some (.slice e'))∨P.underlying t'=some .string) (hi:P.info? e=some i) (hsz:i.size=sz) (hf:Feed P w M sz [] x news) {b0:Option Addr} :
  (Builtin.append_ #[t,t'] ty #[.slice b0 0 0,x]).run P w=.ok (.slice b0 0 0) w:=by
 have h1:=hf.len w
 have h2:=hf.cells w rfl
 have hn:news=[]:=by have:=hf.size; simpa using this
 subst hn
 simp only[List.length_nil] at h1 h2
 rcases ht' with ⟨e',h⟩|h<;>cases b0<;>
  simp [Builtin.append_,run_underlying ht,run_underlying h,sizeOf,typeInfo,hi,hsz,h1,h2,storeCells]
theorem ZcQ (ht:P.underlying t=some (.slice e)) (ht':(∃ e',P.underlying t'=some (.slice e'))∨P.underlying t'=some .string) (hi:P.info? e=some i) (hz0:i.zero=some z) (hsz:i.size=sz) (hf:Feed P w M sz ys x news)
    {b:Option Addr} {sLen sCap:Nat} {olds:List Value} (hold:∀ w2:World,w2.heap=w.heap→(Builtin.firstCells sz sLen (.slice b sLen sCap)).run P w2=.ok olds.toArray w2)
    (hg:sCap<sLen+ys.length) (hmax:sLen+ys.length≤maxLen) (hbytes:(sLen+ys.length)*i.bytes≤140737488355328) :
    (Builtin.append_ #[t,t'] ty #[.slice b sLen sCap,x]).run P w =
      .ok (.slice (some ⟨w.heap.size,0,none⟩) (sLen+ys.length) (grownCap w (sLen+ys.length) sCap e))
        (w.drew.alloc (.cells (olds.toArray++news.toArray++Builtin.zeroCells z.cells (grownCap w (sLen+ys.length) sCap e - (sLen+ys.length))) e)):=by
  have hn:¬(sLen+ys.length≤sCap):=by omega
  have h63':¬(9223372036854775807<((sLen:Int) + (ys.length:Int))):=by simp only[maxLen] at hmax; omega
  have hfit:=growslice_fits (need:=sLen+ys.length) (old:=sCap) (bytes:=i.bytes) hg hbytes
  have h48':¬(281474976710656<Builtin.nextslicecap (sLen+ys.length) sCap*i.bytes):=by omega
  have h1:=hf.cells w.drew rfl
  have h2:=hold w.drew rfl
  rcases ht' with ⟨e',h⟩|h<;>
    (simp [Builtin.append_,run_underlying ht,run_underlying h,sizeOf,typeInfo,zeroValue,hi,hz0,hsz,hf.len,hn,h63',h48',Question.forced,h1,h2,newRow,grownCap]
     try (congr 2; apply Array.ext'; simp [List.append_assoc]))
end
end Go.Proofs.YtfajcehhcjmofaaV
