/- New objects. No conditions but those that the lemmas state. -/
import Derived.Test.YtfajcehhcjmofaaV11
namespace Go.Proofs.YtfajcehhcjmofaaV
open Go Go.RowKit
set_option linter.unusedVariables false
set_option linter.unusedSimpArgs false
variable {base:Nat} {σ0:Sig} {X:Nat→Prop} {w0 w w':World} {σ:Sig} {M:Nat→Prop} {a:Act} {st st':St} {P:Program} {n:Nat} {o:Oper} {E:Zb}
variable {ob:Id→Option Obj}
def upd (σ:Sig) (id:Id) (L:Option Loc):Sig:=fun i=>if i=id then L else σ i
def addM (M:Nat→Prop) (b:Nat):Nat→Prop:=fun x=>M x∨x=b
theorem Zd (σ:Sig) (id:Id) (L:Option Loc):upd σ id L id=L:=by simp [upd]
theorem Zn (σ:Sig) {id i:Id} (L:Option Loc) (h:i≠id):upd σ id L i=σ i:=by simp [upd,h]
theorem Zcc {id:Id} (hid:st.o id=none) (L:Option Loc) (x:Obj):Refs σ (upd σ id L) st.o (st.obj id (some x)).o:=by
 have hne:∀ i,(st.o i).isSome=true→i≠id:=fun i hi e=>by subst e; rw [hid] at hi; cases hi
 have ho':∀ i,i≠id→(st.obj id (some x)).o i=st.o i:=fun i e=>by simp [St.obj,e]
 exact ⟨fun i hi L' hl=>by rw [Zn σ L (hne i hi)]; exact hl,fun i z rows hi=>⟨z,rows,by rw [ho' i (hne i (by rw [hi]; rfl))]; exact hi,Nat.le_refl _⟩,fun i z rows hi=>⟨z,rows,by rw [ho' i (hne i (by rw [hi]; rfl))]; exact hi,Nat.le_refl _⟩,fun i hi=>by rw [ho' i (hne i hi)]; exact hi⟩
theorem ZbY {q:Go.Obj} (hh:w'.heap=w.heap.push q):w.heap.size≤w'.heap.size∧(∀ b,b<w.heap.size→w'.heap[b]?=w.heap[b]?)∧w'.heap[w.heap.size]?=some q:=by
 rw [hh]
 refine ⟨by simp,fun b hb=>?_,by simp⟩
 rw [Array.getElem?_push,if_neg (by omega)]
theorem ZcU {q:Go.Obj} (hh:w'.heap=w.heap.push q):Zaa w w' M (addM M w.heap.size):=by
 obtain ⟨h1,h2,_⟩:=ZbY hh
 exact ⟨h1,fun b hb _=>h2 b hb,fun b hb hm=>hm.resolve_right (by omega)⟩
theorem Rel.newBox (h:Rel base σ0 X w0 σ M w a st) {id:Id} (hloc:∀ j,id≠.par j) (hid:st.o id=none) {cs:List C} {cur:Array Value} {e:TypeId} (hc:Zal w M σ st.o cs cur)
  (hh:w'.heap=w.heap.push (.cells cur e (0,0))) (hos:w'.os=w.os) (ht:w'.tape=w.tape) (hout:w'.output=w.output) :
  ∃ σ' M',Rel base σ0 X w0 σ' M' w' a (st.obj id (some (.box cs)))∧RepC w' M' σ' (st.obj id (some (.box cs))).o (.ptr id 0 0) (.pointer (some ⟨w.heap.size,0,none⟩)):=by
 obtain ⟨h1,h2,h3⟩:=ZbY hh
 have hs:(st.obj id (some (.box cs))).o id=some (.box cs):=by simp [St.obj]
 refine ⟨upd σ id (some (Loc.one w.heap.size 0 0 e)),addM M w.heap.size,h.fresh hloc hid (fun i hi=>Zn σ _ hi) (fun L hL=>?_) (fun L hL=>by rw [Zd] at hL; cases hL<;>exact fun _=>rfl) (fun b=>?_) h1 h2 hos ht hout ?_,?_⟩
 ·rw [Zd] at hL; cases hL; exact Nat.le_refl _
 ·rw [Zd]
  exact ⟨fun hb=>hb.elim .inl (fun e=>.inr ⟨_,rfl,e.symm⟩),fun hb=>hb.elim .inl (fun ⟨L,hL,e⟩=>by cases hL; exact .inr e.symm)⟩
 ·refine ⟨_,cur,Zd ..,.inr rfl,h3,hc.1,fun j c hj=>?_⟩
  obtain ⟨v,hv,hr⟩:=hc.2 j c hj
  exact ⟨v,hv,hr.keep (ZcU hh) (Zcc hid _ _)⟩
 ·exact ⟨_,by rw [hs]; rfl,Zd ..,by simp⟩
theorem Rel.newRow (h:Rel base σ0 X w0 σ M w a st) {id:Id} (hloc:∀ j,id≠.par j) (hid:st.o id=none) {sz cap:Nat} {rows:List (List U)} {cur:Array Value} {e:TypeId}
  (hsz:0<sz) (hcap:cap≤maxLen) (hcur:cur.size=cap*sz) (hle:rows.length≤cap) (hrow:∀ row,row∈rows→row.length=sz)
  (hc:∀ (i j:Nat) row x,rows[i]?=some row→row[j]?=some x→∃ y,cur[i*sz+j]?=some y∧RepU w M x y)
  (hh:w'.heap=w.heap.push (.cells cur e (0,0))) (hos:w'.os=w.os) (ht:w'.tape=w.tape) (hout:w'.output=w.output) :
  ∃ σ' M',Rel base σ0 X w0 σ' M' w' a (st.obj id (some (.row sz rows)))∧RepC w' M' σ' (st.obj id (some (.row sz rows))).o (.own id rows.length) (.slice (some ⟨w.heap.size,0,none⟩) rows.length cap):=by
 obtain ⟨h1,h2,h3⟩:=ZbY hh
 have hs:(st.obj id (some (.row sz rows))).o id=some (.row sz rows):=by simp [St.obj]
 refine ⟨upd σ id (some (Loc.one w.heap.size sz cap e)),addM M w.heap.size,h.fresh hloc hid (fun i hi=>Zn σ _ hi) (fun L hL=>?_) (fun L hL=>by rw [Zd] at hL; cases hL<;>exact fun _=>rfl) (fun b=>?_) h1 h2 hos ht hout ?_,?_⟩
 ·rw [Zd] at hL; cases hL; exact Nat.le_refl _
 ·rw [Zd]
  exact ⟨fun hb=>hb.elim .inl (fun e=>.inr ⟨_,rfl,e.symm⟩),fun hb=>hb.elim .inl (fun ⟨L,hL,e⟩=>by cases hL; exact .inr e.symm)⟩
 ·refine .inr ⟨_,cur,Zd ..,rfl,.inr rfl,h3,hcur,hle,hcap,hsz,hrow,fun i j row x hi hj=>?_⟩
  obtain ⟨y,hy,hr⟩:=hc i j row x hi hj
  exact ⟨y,hy,hr.keep (ZcU hh)⟩
 ·exact ⟨sz,rows,hs,Nat.le_refl _,.inr ⟨_,Zd ..,rfl⟩⟩
/-- A row of no elements that has no block yet. -/
theorem Rel.newNil (h:Rel base σ0 X w0 σ M w a st) {b0:Option Addr} {id:Id} (hloc:∀ j,id≠.par j) (hid:st.o id=none) (sz:Nat) :
  ∃ σ' M',Rel base σ0 X w0 σ' M' w a (st.obj id (some (.row sz [])))∧RepC w M' σ' (st.obj id (some (.row sz []))).o (.own id 0) (.slice b0 0 0):=by
 have hs:(st.obj id (some (.row sz []))).o id=some (.row sz []):=by simp [St.obj]
 refine ⟨upd σ id none,M,h.fresh hloc hid (fun i hi=>Zn σ _ hi) (fun L hL=>?_) (fun L hL=>by rw [Zd] at hL; cases hL<;>exact fun _=>rfl) (fun b=>?_) (Nat.le_refl _) (fun _ _=>rfl) rfl rfl rfl ?_,?_⟩
 ·rw [Zd] at hL; cases hL
 ·rw [Zd]
  exact ⟨fun hb=>.inl hb,fun hb=>hb.elim (fun h=>h) (fun ⟨L,hL,e⟩=>by cases hL)⟩
 ·exact .inl ⟨rfl,Zd ..⟩
 ·exact ⟨sz,[],hs,Nat.le_refl _,.inl ⟨rfl,b0,rfl⟩⟩
theorem ZaZ (d j k:Nat):Id.loc d j≠.par k:=fun e=>by cases e
theorem Goes.make {w':World} {σ':Sig} {M':Nat→Prop} {st1:St} {x:Obj} {c:C} {d:Nat} (h:Rel base σ0 X w0 σ' M' w' a (st1.obj (.loc d 0) (some x))) (hn:a.tmps.size=n) (hd:Zp n o.dst d=true) {v:Value}
  (hrun:(execOp a.eval o).run P w=.ok (.value v) w') (hx:RepC w' M' σ' (st1.obj (.loc d 0) (some x)).o c v):Goes base σ0 X w0 P o a w (st1.make d x c):=Goes.val (x:=.t (.sc c)) h hn hd hrun hx
theorem Zgp (h:Rel base σ0 X w0 σ M w a st) (hn:a.tmps.size=n) {d:Nat} {zero:List U} (hok:okOp P n o (.alloc d zero)=true) (hs:step E st (.alloc d zero)=some st'):Goes base σ0 X w0 P o a w st':=by
 simp only[okOp,Bool.and_eq_true] at hok
 obtain ⟨hd,hok⟩:=hok
 simp only[step,Option.some.injEq] at hs
 subst hs
 split at hok
 ·rename_i e ho
  obtain ⟨i,z,hi,hiz,_,hzero⟩:=Zau hok
  obtain ⟨σ',M',h1,h2⟩:=(h.cool (.loc d 0)).newBox (w':=w.alloc (.cells z.cells e)) (ZaZ d 0) (Zaj _) (ZdO hzero) rfl rfl rfl rfl
  refine Goes.make h1 hn hd ?_ h2
  simp only[execOp,ho,Instr.alloc,zeroValue,typeInfo,newVar,newRow,hi,hiz,Sem.run_bind,run_program,Sem.run_pure,Result.andThen_ok,run_newObj]
  rfl
 ·cases hok
theorem ZhH (h:Rel base σ0 X w0 σ M w a st) (hn:a.tmps.size=n) {d:Nat} {x:Arg} (hok:okOp P n o (.box d x)=true) (hs:step E st (.box d x)=some st'):Goes base σ0 X w0 P o a w st':=by
 simp only[okOp,Bool.and_eq_true] at hok
 obtain ⟨hd,hok⟩:=hok
 simp only[step,Option.map_eq_some_iff] at hs
 obtain ⟨q,hq,rfl⟩:=hs
 split at hok
 ·rename_i e y ho
  have hr:=RepT.cells (ZdE (h.cool (.loc d 0)) hn hok hq)
  obtain ⟨σ',M',h1,h2⟩:=(h.cool (.loc d 0)).newBox (w':=w.alloc (.cells (a.eval y).cells e)) (ZaZ d 0) (Zaj _) hr rfl rfl rfl rfl
  refine Goes.make h1 hn hd ?_ h2
  simp only[execOp,ho,Instr.box,newVar,newRow,Sem.run_bind,Sem.run_pure,Result.andThen_ok,run_newObj]
  rfl
 ·cases hok
theorem Zg5 (h:Rel base σ0 X w0 σ M w a st) (hn:a.tmps.size=n) {d sz:Nat} (hok:okOp P n o (.nilr d sz)=true) (hs:step E st (.nilr d sz)=some st'):Goes base σ0 X w0 P o a w st':=by
 simp only[okOp,Bool.and_eq_true] at hok
 obtain ⟨hd,hok⟩:=hok
 simp only[step,Option.some.injEq] at hs
 subst hs
 obtain ⟨σ',M',h1,h2⟩:=(h.cool (.loc d 0)).newNil (ZaZ d 0) (Zaj _) sz
 refine Goes.make h1 hn hd ?_ h2
 split at hok
 ·rename_i ho
  simp only[execOp,ho]
  rfl
 ·rename_i ho
  simp only[execOp,ho]
  rfl
 ·cases hok
/-! ### Rows -/
/-- The rows in the cells of a block. -/
def RowsRep (w:World) (M:Nat→Prop) (sz:Nat) (rows:List (List U)) (cur:Array Value):Prop:=∀ (i j:Nat) row x,rows[i]?=some row→row[j]?=some x→∃ y,cur[i*sz+j]?=some y∧RepU w M x y
theorem ZeP (zero:Array Value) (k j:Nat) (hk:j<k) (hz:0<zero.size):(madeCells zero k)[j]?=zero[j % zero.size]?:=by
 have hm:j % zero.size<zero.size:=Nat.mod_lt _ hz
 simp [madeCells,hk,hm,getElem!_pos]
theorem Zay (zero:Array Value) (k:Nat):(madeCells zero k).size=k:=by simp [madeCells]
theorem Zd7 {zero:List U} {z:Value} (hz:ZaB zero z.cells.toList=true) (h0:0<zero.length) {m c:Nat} (hmc:m≤c):RowsRep w M zero.length (List.replicate m zero) (madeCells z.cells (c*zero.length)):=by
 obtain ⟨h1,h2⟩:=Zch (w:=w) (M:=M) hz
 have hzs:z.cells.size=zero.length:=by rw [h1]; simp
 intro i j row x hi hj
 have him:i<m:=by have:=(List.getElem?_eq_some_iff.1 hi).1; simpa using this
 have:row=zero:=by rw [List.getElem?_replicate,if_pos him] at hi; cases hi; rfl
 subst this
 have hjl:j<row.length:=(List.getElem?_eq_some_iff.1 hj).1
 obtain ⟨y,hy,hr⟩:=h2 j x hj
 refine ⟨y,?_,hr⟩
 have hlt:i*row.length+j<c*row.length:=by
  have:(i+1)*row.length≤c*row.length:=Nat.mul_le_mul_right _ (by omega)
  rw [Nat.add_mul] at this
  omega
 rw [ZeP _ _ _ hlt (by omega),hzs,Nat.mul_add_mod_self_right,Nat.mod_eq_of_lt hjl]
 simpa using hy
theorem Zjh (h:Rel base σ0 X w0 σ M w a st) (hn:a.tmps.size=n) {d bytes:Nat} {x c:Arg} {zero:List U} (hok:okOp P n o (.mk d x c zero bytes)=true) (hs:step E st (.mk d x c zero bytes)=some st'):Goes base σ0 X w0 P o a w st':=by
 simp only[okOp,Bool.and_eq_true] at hok
 obtain ⟨hd,hok⟩:=hok
 simp only[step,Option.bind_eq_some_iff] at hs
 obtain ⟨m,hm,k,hk,hs⟩:=hs
 split at hs
 ·rename_i hc
  obtain ⟨h0,hmk,hby⟩:=hc
  cases hs
  split at hok
  ·rename_i t m' c' ho
   simp only[Bool.and_eq_true,decide_eq_true_eq] at hok
   obtain ⟨⟨⟨hx,hc'⟩,hb0⟩,ht⟩:=hok
   obtain ⟨e,he,hp⟩:=Zo ht
   simp only[Bool.and_eq_true,decide_eq_true_eq] at hp
   obtain ⟨⟨hz,hbs⟩,hz0⟩:=hp
   obtain ⟨i,z,hi,hiz,hisz,hzero⟩:=Zau hz
   have hib:i.bytes=bytes:=by unfold Zbd at hbs; rw [hi] at hbs; simpa using hbs
   have v1:=ZaT h hn hx hm
   have v2:=ZaT h hn hc' hk
   have hkb:k.toNat≤140737488355328:=Nat.le_trans (Nat.le_mul_of_pos_right _ hb0) hby
   have hb2:(i.bytes:Int)*k≤281474976710656:=by
    have h5:((k.toNat*bytes:Nat):Int)≤((140737488355328:Nat):Int):=Int.ofNat_le.2 hby
    rw [Int.natCast_mul,Int.toNat_of_nonneg (by omega)] at h5
    rw [hib,Int.mul_comm]
    omega
   have hrun:=run_make (P:=P) w t e i z he hi hiz .i64 .i64 m k h0 hmk hb2 (by omega)
   have hlen:(List.replicate m.toNat zero).length=m.toNat:=by simp
   obtain ⟨σ',M',h1,h2⟩:=(h.cool (.loc d 0)).newRow (w':=w.alloc (.cells (madeCells z.cells (k.toNat*i.size)) e)) (ZaZ d 0) (Zaj _) (sz:=zero.length) (cap:=k.toNat) (rows:=List.replicate m.toNat zero) (e:=e) hz0 (by simp only[maxLen]; omega)
    (by rw [Zay,hisz]) (by simp; omega) (fun row hr=>by rw [(List.mem_replicate.1 hr).2]) (by rw [hisz]; exact Zd7 hzero hz0 (by omega)) rfl rfl rfl rfl
   rw [hlen] at h2
   refine Goes.make h1 hn hd ?_ h2
   simp only[execOp,ho,v1,v2,Sem.run_bind,hrun,Result.andThen_ok,Sem.run_pure]
  ·cases hok
 ·cases hs
theorem Zeq {cs:List C} {us:List U} (h:cs.mapM C.u?=some us):us.length=cs.length∧∀ (j:Nat) u,us[j]?=some u→cs[j]?=some (.u u):=by
 obtain ⟨h1,h2⟩:=Zr h
 refine ⟨h1,fun j u hj=>?_⟩
 have hlt:j<cs.length:=by rw [←h1]; exact (List.getElem?_eq_some_iff.1 hj).1
 obtain ⟨y,hy,hf⟩:=h2 j cs[j] (by simp [hlt])
 rw [hj] at hy; cases hy
 have:cs[j]?=some cs[j]:=by simp [hlt]
 rw [this]
 unfold C.u? at hf
 split at hf
 ·rename_i x hx; cases hf; rw [hx]
 ·cases hf
theorem ZgF {sz N i:Nat} {rows:List (List U)} {us:List U} {cur vx:Array Value} (hrep:RowsRep w M sz rows cur) (hN:rows.length=N) (hall:∀ row,row∈rows→row.length=sz) (hcur:cur.size=N*sz) (hi:i<rows.length) (hus:us.length=sz) (hx:vx.size=sz) (hr:∀ (j:Nat) u,us[j]?=some u→∃ y,vx[j]?=some y∧RepU w M u y) :
  i*sz+vx.size≤cur.size∧(vx.zipIdx.foldl (fun (cs:Array Value) (p:Value×Nat)=>cs.setIfInBounds (i*sz+p.2) p.1) cur).size=cur.size∧RowsRep w M sz (rows.set i us) (vx.zipIdx.foldl (fun (cs:Array Value) (p:Value×Nat)=>cs.setIfInBounds (i*sz+p.2) p.1) cur):=by
 have hle:i*sz+vx.size≤cur.size:=by
  have:(i+1)*sz≤N*sz:=Nat.mul_le_mul_right _ (by omega)
  rw [Nat.add_mul] at this
  omega
 obtain ⟨h1,h2⟩:=Zca (i*sz) vx cur hle
 refine ⟨hle,h1,fun i' j row x hi' hj=>?_⟩
 rw [h2]
 by_cases e:i'=i
 ·subst e
  rw [List.getElem?_set_self hi] at hi'
  cases hi'
  have hjl:j<sz:=by rw [←hus]; exact (List.getElem?_eq_some_iff.1 hj).1
  rw [if_pos (by omega),Nat.add_sub_cancel_left]
  exact hr j x hj
 ·rw [List.getElem?_set_ne (fun h=>e h.symm)] at hi'
  obtain ⟨y,hy,hr⟩:=hrep i' j row x hi' hj
  refine ⟨y,?_,hr⟩
  have hjl:j<sz:=by rw [←hall row (List.mem_of_getElem? hi')]; exact (List.getElem?_eq_some_iff.1 hj).1
  rw [if_neg ?_]
  ·exact hy
  ·intro hb
   rcases Nat.lt_or_gt_of_ne e with hlt|hlt
   ·have:(i'+1)*sz≤i*sz:=Nat.mul_le_mul_right _ hlt
    rw [Nat.add_mul] at this
    omega
   ·have:(i+1)*sz≤i'*sz:=Nat.mul_le_mul_right _ hlt
    rw [Nat.add_mul] at this
    omega
theorem Zba {sz i:Nat} {rows:List (List U)} {us:List U} (hall:∀ row,row∈rows→row.length=sz) (hus:us.length=sz):∀ row,row∈rows.set i us→row.length=sz:=by
 intro row hr
 rcases List.mem_or_eq_of_mem_set hr with h|h
 ·exact hall row h
 ·rw [h]; exact hus
theorem Zct (h:Rel base σ0 X w0 σ M w a st) (hn:a.tmps.size=n) {sz N:Nat}:∀ (parts:List (Nat×Arg)) (ps:List (Nat×Operand)) (rows rows':List (List U)) (cur:Array Value),Zar n parts ps=true→RowsRep w M sz rows cur→rows.length=N→(∀ row,row∈rows→row.length=sz)→cur.size=N*sz→st.fillRows sz rows parts=some rows'→
  ∃ vs,Instr.fill (fun i=>some (i*sz,sz)) cur (ps.map fun p=>(p.1,a.eval p.2))=some vs∧RowsRep w M sz rows' vs∧rows'.length=N∧(∀ row,row∈rows'→row.length=sz)∧vs.size=N*sz
 | [],[],rows,rows',cur,_,hr,hN,hall,hcur,hf=>by
  simp only[St.fillRows,Option.some.injEq] at hf
  subst hf
  exact ⟨cur,rfl,hr,hN,hall,hcur⟩
 | (j, x)::parts,(i,y)::ps,rows,rows',cur,hok,hr,hN,hall,hcur,hf=>by
  simp only[Zar,Bool.and_eq_true,beq_iff_eq] at hok
  obtain ⟨⟨rfl,hx⟩,hrest⟩:=hok
  simp only[St.fillRows,Option.bind_eq_some_iff] at hf
  obtain ⟨t,ht,us,hus,hf⟩:=hf
  split at hf
  ·rename_i hc
   obtain ⟨hi,hul⟩:=hc
   have hrx:=RepT.cells (ZdE h hn hx ht)
   obtain ⟨h1,h2⟩:=Zeq hus
   have hsz:(a.eval y).cells.size=sz:=by rw [hrx.1,←h1,hul]
   obtain ⟨h3,h4,h5⟩:=ZgF hr hN hall hcur hi hul hsz (fun k u hk=>hrx.2 k _ (h2 k u hk))
   obtain ⟨vs,h6,h7⟩:=Zct (N:=N) h hn parts ps _ rows' _ hrest h5 (by rw [List.length_set]; exact hN) (Zba hall hul) (by rw [h4]; exact hcur) hf
   refine ⟨vs,?_,h7⟩
   have hc1:¬(decide ((a.eval y).cells.size≠sz)||decide (j*sz + (a.eval y).cells.size > cur.size))=true:=by
    simp only[Bool.or_eq_true,decide_eq_true_eq,not_or]
    omega
   simp only[List.map_cons,Instr.fill]
   rw [if_neg hc1]
   exact h6
  ·cases hf
 | [],_::_,_,_,_,hok,_,_,_,_,_=>by simp [Zar] at hok
 | _::_,[],_,_,_,hok,_,_,_,_,_=>by simp [Zar] at hok
theorem Zbt:∀ (ids:List Id) (st:St) (id:Id),st.o id=none→(st.coolAll ids).o id=none
 | [],st,id,h=>h
 | i::ids,st,id,h=>by
  refine Zbt ids (st.cool i) id ?_
  simp only[St.cool,St.mapC,St.obj]
  by_cases e:id=i
  ·rw [if_pos e]; rfl
  ·rw [if_neg e,h]; rfl
theorem ZhO (h:Rel base σ0 X w0 σ M w a st) (hn:a.tmps.size=n) {d len:Nat} {zero:List U} {parts:List (Nat×Arg)} (hok:okOp P n o (.lit d len zero parts)=true) (hs:step E st (.lit d len zero parts)=some st'):Goes base σ0 X w0 P o a w st':=by
 simp only[okOp,Bool.and_eq_true] at hok
 obtain ⟨hd,hok⟩:=hok
 simp only[step,Option.map_eq_some_iff] at hs
 obtain ⟨rows,hrows,rfl⟩:=hs
 split at hok
 ·rename_i t len' ps ho
  simp only[Bool.and_eq_true,beq_iff_eq,decide_eq_true_eq] at hok
  obtain ⟨⟨⟨⟨⟨rfl,hz0⟩,hbig⟩,hmax⟩,ht⟩,hps⟩:=hok
  obtain ⟨e,he,hz⟩:=Zo ht
  obtain ⟨i,z,hi,hiz,hisz,hzero⟩:=Zau hz
  obtain ⟨M1,hR,_,_⟩:=(h.cool (.loc d 0)).coolAll ((st.cool (.loc d 0)).partIds parts)
  have hnone:=Zbt ((st.cool (.loc d 0)).partIds parts) _ _ (Zaj (st:=st) (.loc d 0))
  obtain ⟨vs,hfill,hrep,hrl,hrall,hvs⟩:=Zct hR hn (N:=len) parts ps.toList _ rows (madeCells z.cells (len*zero.length)) hps (Zd7 hzero hz0 (Nat.le_refl _)) (by simp) (fun row hr=>by rw [(List.mem_replicate.1 hr).2]) (by rw [Zay]) hrows
  obtain ⟨σ',M',h1,h2⟩:=hR.newRow (w':=w.alloc (.cells vs e)) (ZaZ d 0) hnone (sz:=zero.length) (cap:=len) (rows:=rows) (e:=e) hz0 hmax hvs (by rw [hrl]; exact Nat.le_refl _) hrall hrep rfl rfl rfl rfl
  rw [hrl] at h2
  refine Goes.make h1 hn hd ?_ h2
  have hmap:(ps.map fun p=>(p.1,a.eval p.2)).toList=ps.toList.map fun p=>(p.1,a.eval p.2):=by simp
  have hn1:¬len*i.size > 2 ^ 24:=by rw [hisz]; simp only[Nat.reducePow]; omega
  simp only[execOp,ho,Instr.buildSlice,Sem.run_bind,run_underlying he,Result.andThen_ok,sizeOf,typeInfo,run_program,hi,Sem.run_pure,hn1,if_false,Sem.run_ite]
  have hzv:(zeroValue e).run P w=.ok z w:=by simp only[zeroValue,typeInfo,hi,hiz,Sem.run_bind,run_program,Sem.run_pure,Result.andThen_ok]
  rw [hisz,hmap]
  by_cases h0:len*zero.length=0
  ·have hm:Array.map (fun x=>(#[]:Array Value)[x % (#[]:Array Value).size]!) (Array.range (len*zero.length))=madeCells z.cells (len*zero.length):=by rw [h0]; simp [madeCells]
   rw [if_pos h0,hm,hfill]
   rfl
  ·have hm:Array.map (fun x=>z.cells[x % z.cells.size]!) (Array.range (len*zero.length))=madeCells z.cells (len*zero.length):=rfl
   rw [if_neg h0,hzv]
   simp only[Result.andThen_ok]
   rw [hm,hfill]
   rfl
 ·cases hok
end Go.Proofs.YtfajcehhcjmofaaV
