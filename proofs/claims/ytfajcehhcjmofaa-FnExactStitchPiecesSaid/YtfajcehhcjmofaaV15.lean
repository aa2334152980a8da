/- Append. No conditions but those that the lemmas state. -/
import Derived.Test.YtfajcehhcjmofaaV14
namespace Go.Proofs.YtfajcehhcjmofaaV
open Go Go.RowKit
set_option linter.unusedVariables false
set_option linter.unusedSimpArgs false
variable {base:Nat} {σ0:Sig} {X:Nat→Prop} {w0 w w':World} {σ:Sig} {M:Nat→Prop} {a:Act} {st st':St} {P:Program} {n:Nat} {o:Oper} {E:Zb}
variable {ob:Id→Option Obj}
theorem Zbw (b:Option Addr) (sz:Nat) (w:World):(Builtin.firstCells sz ([]:List (List U)).length (.slice b ([]:List (List U)).length 0)).run P w=.ok ([]:List Value).toArray w:=by
 cases b with
 | none=>rfl
 | some A=>simp [Builtin.firstCells,loadCells,loadCellsFrom]
theorem ZcW {st1:St} {id:Id} {z:Nat} {r:List (List U)} (h:st1.o id=some (.row z r)):st1.mapC (C.kill id)=(st1.kill id).obj id (some (.row z r)):=by
 simp only[St.kill,St.obj,St.mapC]
 congr 1
 funext i
 by_cases e:i=id
 ·subst e; simp [h,Obj.mapC]
 ·simp [e]
theorem ZeK (id:Id) (q:Option Obj):(st.obj id q).kill id=st.kill id:=by
 simp only[St.kill,St.obj,St.mapC]
 congr 1
 funext i
 by_cases e:i=id<;>simp [e]
theorem Zc5 {sz:Nat} {r ys:List (List U)} {cur news cur2:Array Value} (hr:RowsRep w M sz r cur) (hy:RowsRep w M sz ys news) (hra:∀ row,row∈r→row.length=sz)
  (h1:∀ j,j<r.length*sz→cur2[j]?=cur[j]?) (h2:∀ (j:Nat) y,news[j]?=some y→cur2[r.length*sz+j]?=some y):RowsRep w M sz (r++ys) cur2:=by
 intro i j row x hi hj
 by_cases hlt:i<r.length
 ·rw [List.getElem?_append_left hlt] at hi
  obtain ⟨y,hy',hrep⟩:=hr i j row x hi hj
  have hjl:j<sz:=by rw [←hra row (List.mem_of_getElem? hi)]; exact (List.getElem?_eq_some_iff.1 hj).1
  have:i*sz+j<r.length*sz:=by
   have:(i+1)*sz≤r.length*sz:=Nat.mul_le_mul_right _ hlt
   rw [Nat.add_mul] at this
   omega
  exact ⟨y,by rw [h1 _ this]; exact hy',hrep⟩
 ·rw [List.getElem?_append_right (by omega)] at hi
  obtain ⟨y,hy',hrep⟩:=hy _ j row x hi hj
  refine ⟨y,?_,hrep⟩
  have:=h2 _ y hy'
  rw [←this]
  congr 1
  have e:i*sz=r.length*sz + (i - r.length)*sz:=by rw [←Nat.add_mul]; congr 1; omega
  omega
theorem Zdh {sz:Nat} {r ys:List (List U)} (h1:∀ row,row∈r→row.length=sz) (h2:∀ row,row∈ys→row.length=sz):∀ row,row∈r++ys→row.length=sz:=fun row h=>(List.mem_append.1 h).elim (h1 row) (h2 row)
section
variable {t t' ty e:TypeId} {i:TypeInfo} {z:Value} {sz:Nat} {ys:List (List U)} {x:Value} {news:List Value}
/-- Append that takes a new block. -/
theorem Zdf (h:Rel base σ0 X w0 σ M w a st) {id:Id} (hloc:∀ j,id≠.par j) (hid:st.o id=none)
  (ht:P.underlying t=some (.slice e)) (ht':(∃ e',P.underlying t'=some (.slice e'))∨P.underlying t'=some .string) (hi:P.info? e=some i) (hz0:i.zero=some z) (hsz:i.size=sz) (hzs:z.cells.size=sz) (hpos:0<sz) (hf:Feed P w M sz ys x news)
  {b:Option Addr} {r:List (List U)} {cur:Array Value} {sCap:Nat} {olds:List Value} (hold:∀ w2:World,w2.heap=w.heap→(Builtin.firstCells sz r.length (.slice b r.length sCap)).run P w2=.ok olds.toArray w2) (hol:olds.length=r.length*sz)
  (hoc:∀ j,j<r.length*sz→olds[j]?=cur[j]?) (hr:RowsRep w M sz r cur) (hra:∀ row,row∈r→row.length=sz)
  (hg:sCap<r.length+ys.length) (hmax:r.length+ys.length≤maxLen) (hbytes:(r.length+ys.length)*i.bytes≤140737488355328) :
  ∃ w' v σ' M',(Builtin.append_ #[t,t'] ty #[.slice b r.length sCap,x]).run P w=.ok v w'∧Rel base σ0 X w0 σ' M' w' a (st.obj id (some (.row sz (r++ys))))∧RepC w' M' σ' (st.obj id (some (.row sz (r++ys)))).o (.own id (r.length+ys.length)) v:=by
 have hrun:=ZcQ (ty:=ty) ht ht' hi hz0 hsz hf hold hg hmax hbytes
 have hge:=grownCap_ge w (r.length+ys.length) sCap e
 have hle:=grownCap_le_maxLen w (r.length+ys.length) sCap e hmax
 have hl:(r++ys).length=r.length+ys.length:=List.length_append
 have hcs:(olds.toArray++news.toArray++Builtin.zeroCells z.cells (grownCap w (r.length+ys.length) sCap e - (r.length+ys.length))).size=grownCap w (r.length+ys.length) sCap e*sz:=by
  simp only[Array.size_append,List.size_toArray,size_zeroCells,hzs,hol,hf.size,←Nat.add_mul]
  congr 1
  omega
 have hrows:RowsRep w M sz (r++ys) (olds.toArray++news.toArray++Builtin.zeroCells z.cells (grownCap w (r.length+ys.length) sCap e - (r.length+ys.length))):=by
  refine Zc5 hr hf.rep hra (fun j hj=>?_) (fun j y hy=>?_)
  ·rw [←hoc j hj,Array.append_assoc,Array.getElem?_append_left (by simp; omega)]
   simp
  ·have hjl:j<news.length:=by have:=(Array.getElem?_eq_some_iff.1 hy).1; simpa using this
   rw [Array.append_assoc,Array.getElem?_append_right (by simp; omega),Array.getElem?_append_left (by simp; omega)]
   simp only[List.size_toArray,hol]
   rw [Nat.add_sub_cancel_left]
   exact hy
 obtain ⟨σ',M',h1,h2⟩:=h.newRow (w':=w.drew.alloc (.cells (olds.toArray++news.toArray++Builtin.zeroCells z.cells (grownCap w (r.length+ys.length) sCap e - (r.length+ys.length))) e)) hloc hid hpos hle hcs (by rw [hl]; exact hge) (Zdh hra hf.row) hrows rfl rfl rfl rfl
 rw [hl] at h2
 exact ⟨_,_,σ',M',hrun,h1,h2⟩
theorem Feed.keep {M':Nat→Prop} (k:Zaa w w M M') (hf:Feed P w M sz ys x news):Feed P w M' sz ys x news:=⟨hf.len,hf.cells,hf.size,hf.row,hf.rep.keep k⟩
/-- Append to a row of the call's own. -/
theorem ZgS (h:Rel base σ0 X w0 σ M w a st) {id:Id} (hloc:∀ j,id≠.par j) {r:List (List U)} (hid:st.o id=some (.row sz r)) {v:Value} (hv:RepC w M σ st.o (.own id r.length) v)
  (ht:P.underlying t=some (.slice e)) (ht':(∃ e',P.underlying t'=some (.slice e'))∨P.underlying t'=some .string) (hi:P.info? e=some i) (hz0:i.zero=some z) (hsz:i.size=sz) (hzs:z.cells.size=sz) (hpos:0<sz) (hf:Feed P w M sz ys x news)
  (hmax:r.length+ys.length≤maxLen) (hbytes:(r.length+ys.length)*i.bytes≤140737488355328) :
  ∃ w' v' σ' M',(Builtin.append_ #[t,t'] ty #[v,x]).run P w=.ok v' w'∧Rel base σ0 X w0 σ' M' w' a ((st.kill id).obj id (some (.row sz (r++ys))))∧RepC w' M' σ' ((st.kill id).obj id (some (.row sz (r++ys)))).o (.own id (r.length+ys.length)) v':=by
 obtain ⟨z1,r1,ho1,_,hv⟩:=hv
 rw [hid] at ho1; cases ho1
 have hlen:(r++ys).length=r.length+ys.length:=List.length_append
 have hk:=h.kill id
 have hfk:=hf.keep (Zby (st:=st) (σ:=σ) (M:=M) id)
 rcases hv with ⟨hr0,b0,rfl⟩|⟨L,hL,rfl⟩
 ·have hr:r=[]:=List.eq_nil_of_length_eq_zero hr0
  subst hr
  by_cases hm:ys=[]
  ·subst hm
   refine ⟨w,_,σ,M,Zcj ht ht' hi hsz hf,?_,?_⟩
   ·have:=h.weak (C.kill id) (fun c v hc=>Zd5 id c v hc)
    rw [ZcW hid] at this
    exact this
   ·exact ⟨sz,[],by simp [St.obj],Nat.le_refl _,.inl ⟨rfl,b0,rfl⟩⟩
  ·have hpos':0<ys.length:=List.length_pos_iff.2 hm
   exact Zdf (ty:=ty) (r:=[]) (cur:=#[]) (olds:=[]) (b:=b0) (sCap:=0) hk hloc (ZaE id) ht ht' hi hz0 hsz hzs hpos hfk (fun w2 _=>Zbw b0 sz w2) (by simp) (fun j hj=>by simp at hj) (fun i j row x hi=>by simp at hi) (fun row hr=>by cases hr) (by simpa using hpos') hmax hbytes
 ·rcases h.obj id _ hid with ⟨_,h4⟩|⟨L',cur,hL',hzz,hmm,hh,hs,hcap,hcm,h0,hall,hcc⟩
  ·rw [hL] at h4; cases h4
  ·rw [hL] at hL'; cases hL'
   by_cases hroom:r.length+ys.length≤L.cap
   ·obtain ⟨cur2,hrun,c1,c2⟩:=ZcR (ty:=ty) ht ht' hi hsz hf hpos hh hroom (by rw [hs,hzz]; exact Nat.le_refl _)
    obtain ⟨f1,f2,f3,f4,f5,f6⟩:=Zap L.g cur2 hh
    have hkp:=Zbl (w:=w) hmm f2 f3
    have hrw:=h.rewrite (x:=.row sz (r++ys)) hid hL (fun z rows e=>by cases e; exact ⟨_,_,rfl,by simp⟩) (fun z rows e=>by cases e) rfl f2 (fun b hb=>f3 b (fun e=>hb (.inl e.symm))) f4 f5 f6 (.inr ⟨L,cur2,hL,hzz,hmm,f1,by rw [c1,hs],by rw [hlen]; exact hroom,hcm,h0,by rw [hzz]; exact Zdh (fun row hr=>(hall row hr).trans hzz) hf.row,by
     have hsame:RowsRep w M sz r cur:=by rw [←hzz]; exact hcc
     have:=Zc5 (cur2:=cur2) hsame hf.rep (fun row hr=>(hall row hr).trans hzz) (fun j hj=>by rw [c2,if_neg (by omega)]) (fun j y hy=>by
      have hjl:j<news.length:=by have:=(Array.getElem?_eq_some_iff.1 hy).1; simpa using this
      rw [c2,if_pos (by omega),Nat.add_sub_cancel_left]
      simpa using hy)
     rw [hzz]
     exact this.keep hkp⟩)
    have hoid:(st.obj id (some (.row sz (r++ys)))).o id=some (.row sz (r++ys)):=by simp [St.obj]
    have:=hrw.weak (C.kill id) (fun c v hc=>Zd5 id c v hc)
    rw [ZcW hoid,ZeK] at this
    exact ⟨_,_,σ,M,hrun,this,sz,r++ys,by simp [St.obj],by rw [hlen]; exact Nat.le_refl _,.inr ⟨L,hL,rfl⟩⟩
   ·have holds:∀ w2:World,w2.heap=w.heap→(Builtin.firstCells sz r.length (.slice (some ⟨L.g,0,none⟩) r.length L.cap)).run P w2=.ok (cur.toList.take (r.length*sz)).toArray w2:=by
     intro w2 h2
     refine run_firstCells_some (P:=P) w2 sz r.length ⟨L.g,0,none⟩ r.length L.cap _ ?_ (fun j v hj=>?_)
     ·rw [List.length_take,Array.length_toList (xs:=cur),hs,hzz]
      exact Nat.min_eq_left (Nat.mul_le_mul_right _ hcap)
     ·rw [Zbg,Nat.zero_add]
      rw [List.getElem?_take] at hj
      split at hj
      ·rw [cell_of_row w2 L.g _ cur L.e (0,0) (by rw [h2]; exact hh)]
       simpa using hj
      ·cases hj
    have hol:(cur.toList.take (r.length*sz)).length=r.length*sz:=by
     rw [List.length_take,Array.length_toList (xs:=cur),hs,hzz]
     exact Nat.min_eq_left (Nat.mul_le_mul_right _ hcap)
    exact Zdf (ty:=ty) (cur:=cur) hk hloc (ZaE id) ht ht' hi hz0 hsz hzs hpos hfk holds hol (fun j hj=>by rw [List.getElem?_take,if_pos hj]; simp) (by rw [←hzz]; exact RowsRep.keep (Zby id) hcc) (fun row hr=>(hall row hr).trans hzz) (by omega) hmax hbytes
/-- Append to nil. -/
theorem ZgR (h:Rel base σ0 X w0 σ M w a st) {b0:Option Addr} {id:Id} (hloc:∀ j,id≠.par j)
  (ht:P.underlying t=some (.slice e)) (ht':(∃ e',P.underlying t'=some (.slice e'))∨P.underlying t'=some .string) (hi:P.info? e=some i) (hz0:i.zero=some z) (hsz:i.size=sz) (hzs:z.cells.size=sz) (hpos:0<sz) (hf:Feed P w M sz ys x news)
  (hmax:ys.length≤maxLen) (hbytes:ys.length*i.bytes≤140737488355328) :
  ∃ w' v' σ' M',(Builtin.append_ #[t,t'] ty #[.slice b0 0 0,x]).run P w=.ok v' w'∧Rel base σ0 X w0 σ' M' w' a ((st.cool id).obj id (some (.row sz ys)))∧RepC w' M' σ' ((st.cool id).obj id (some (.row sz ys))).o (.own id ys.length) v':=by
 have hk:=h.cool id
 have hfk:=hf.keep (Zby (st:=st) (σ:=σ) (M:=M) id)
 by_cases hm:ys=[]
 ·subst hm
  obtain ⟨σ',M',h1,h2⟩:=hk.newNil hloc (Zaj id) sz
  exact ⟨w,_,σ',M',Zcj ht ht' hi hsz hf,h1,h2⟩
 ·have hpos':0<ys.length:=List.length_pos_iff.2 hm
  have:=Zdf (ty:=ty) (r:=[]) (cur:=#[]) (olds:=[]) (b:=b0) (sCap:=0) hk hloc (Zaj id) ht ht' hi hz0 hsz hzs hpos hfk (fun w2 _=>Zbw b0 sz w2) (by simp) (fun j hj=>by simp at hj) (fun i j row x hi=>by simp at hi) (fun row hr=>by cases hr) (by simpa using hpos') (by simpa using hmax) (by simpa using hbytes)
  simpa using this
end
theorem ZhE (h : Rel base σ0 X w0 σ M w a st) (hn:a.tmps.size=n) {d sz bytes:Nat} {x y:Arg} (hok:okOp P n o (.app d sz x y bytes)=true) (hs:step E st (.app d sz x y bytes)=some st'):Goes base σ0 X w0 P o a w st':=by
 simp only[okOp,Bool.and_eq_true] at hok
 obtain ⟨hd,hok⟩:=hok
 simp only[step,Option.bind_eq_some_iff] at hs
 obtain ⟨cx,hcx,ys,hys,hs⟩:=hs
 unfold Zbe at hys
 split at hs
 ·rename_i hz
  split at hok
  ·rename_i c ho
   split at hok
   ·rename_i x' y' t t' hcal hargs hty
    simp only[Bool.and_eq_true,Bool.or_eq_true] at hok
    obtain ⟨⟨⟨hx,hy⟩,ht⟩,ht'⟩:=hok
    have ha:c.args=#[x',y']:=by rw [←Array.toArray_toList (xs:=c.args),hargs]
    have hta:c.argTypes=#[t,t']:=by rw [←Array.toArray_toList (xs:=c.argTypes),hty]
    obtain ⟨e,he,hp⟩:=Zo ht
    simp only[Bool.and_eq_true] at hp
    obtain ⟨hp1,hp2⟩:=hp
    have ht2:(∃ e',P.underlying t'=some (.slice e'))∨P.underlying t'=some .string:=ht'.elim (fun h=>let ⟨e',h1,_⟩:=Zo h; .inl ⟨e',h1⟩) (fun h=>.inr (Zab h))
    unfold ZbD at hp1
    split at hp1
    ·rename_i i hi
     split at hp1
     ·rename_i z hz0
      simp only[Bool.and_eq_true,beq_iff_eq,decide_eq_true_eq] at hp1
      obtain ⟨⟨hsz,hzs⟩,hpos⟩:=hp1
      have hib:i.bytes=bytes:=by unfold Zbd at hp2; rw [hi] at hp2; simpa using hp2
      obtain ⟨z1,rows⟩:=ys
      simp only at hz hs
      subst hz
      have hfeed:∃ news,Feed P w M z1 rows (a.eval y') news:=by
       have hr:=Zf h hn hy
       split at hys
       ·rename_i s hm
        split at hys
        ·cases hys
         rw [hm] at hr
         rw [RepU.str_inv hr]
         exact Zgi s
        ·cases hys
       ·rename_i c' _ hm
        rw [hm] at hr
        exact ZgU h hr hys hpos
       ·cases hys
      obtain ⟨news,hf⟩:=hfeed
      have hrx:RepC w M σ st.o cx (a.eval x')∨(cx=.u .nil∧∃ b,a.eval x'=.slice b 0 0):=by
       unfold D.base? at hcx
       split at hcx
       ·rename_i c hm
        cases hcx
        exact .inl (Zeb h hn hx (by rw [hm]; rfl))
       ·rename_i hm
        cases hcx
        have hr:=Zf h hn hx
        rw [hm] at hr
        exact .inr ⟨rfl,hr⟩
       ·cases hcx
      have hexec:∀ v w',(Builtin.append_ #[t,t'] o.type #[a.eval x',a.eval y']).run P w=.ok v w'→(execOp a.eval o).run P w=.ok (.value v) w':=by
       intro v w' hr
       simp only[execOp,ho,resolve,hcal,ha,hta,List.map_toArray,List.map_cons,List.map_nil,invoke,builtin,Sem.run_bind,Sem.run_pure,Result.andThen_ok,hr]
      split at hs
      ·rename_i id0 m
       split at hs
       ·rename_i z2 r ho2
        split at hs
        ·rename_i hc
         obtain ⟨rfl,rfl,hl,hmax,hby⟩:=hc
         cases hs
         have hloc:∀ j,id0≠.par j:=fun j e=>by subst e; cases hl
         have hrx:=hrx.resolve_right (fun e=>by cases e.1)
         obtain ⟨w',v',σ',M',hrun,h1,h2⟩:=ZgS (ty:=o.type) h hloc ho2 hrx he ht2 hi hz0 hsz hzs hpos hf hmax (by rw [hib]; exact hby)
         exact Goes.val (x:=.t (.sc _)) h1 hn hd (hexec _ _ hrun) h2
        ·cases hs
       ·cases hs
      ·split at hs
       ·rename_i hc
        obtain ⟨hmax,hby⟩:=hc
        cases hs
        obtain ⟨b0,hv⟩:∃ b,a.eval x'=.slice b 0 0:=hrx.elim (fun h=>⟨none,RepU.nil_inv h⟩) (fun h=>h.2)
        obtain ⟨w',v',σ',M',hrun,h1,h2⟩:=ZgR (ty:=o.type) h (ZaZ d 0) he ht2 hi hz0 hsz hzs hpos hf hmax (by rw [hib]; exact hby)
        exact Goes.make h1 hn hd (hexec _ _ (by rw [hv]; exact hrun)) h2
       ·cases hs
      ·cases hs
     ·cases hp1
    ·cases hp1
   ·cases hok
  ·cases hok
 ·cases hs
end Go.Proofs.YtfajcehhcjmofaaV
