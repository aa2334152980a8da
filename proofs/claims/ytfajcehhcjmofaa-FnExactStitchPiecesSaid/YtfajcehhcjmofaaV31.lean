/- Operations on deep rows: literals, appends, calls that write into a slice of a deep row. No conditions but those that the lemmas state. -/
import Derived.Test.YtfajcehhcjmofaaV30
namespace Go.Proofs.YtfajcehhcjmofaaV
open Go Go.RowKit
set_option linter.unusedVariables false
set_option linter.unusedSimpArgs false
variable {base:Nat} {σ0:Sig} {X X1:Nat→Prop} {w0 w w':World} {σ σ':Sig} {M M':Nat→Prop} {a:Act} {st st':St} {P:Program} {n:Nat} {o:Oper} {E:Zb}
variable {ob:Id→Option Obj}
theorem Zem {ids:List Id} {st:St} {i:Id} (h:st.o i=none∨i∈ids):(st.killAll ids).o i=none:=by
 cases hq:(st.killAll ids).o i with
 | none=>rfl
 | some x=>
  obtain ⟨h1,h2⟩:=ZcN ids st i (by rw [hq]; rfl)
  rcases h with h|h
  ·rw [h] at h2; cases h2
  ·exact absurd h h1
/-- What is known of blocks that are moved. -/
theorem Zbb (h:Rel base σ0 X w0 σ M w a st) {id:Id} {b:Nat} (hl:Zk id=true) (hb:Zae st σ id b):¬X b∧From base σ0 b:=by
 obtain ⟨hs,L,hL,hb⟩:=hb
 have:=h.mine id L b hs hL hb
 exact this
theorem Zg2 (h:Rel base σ0 X w0 σ M w a st) (hn:a.tmps.size=n) {d k:Nat} {zero:List U} {x:Arg} (hok:okOp P n o (.litd d k zero x)=true) (hs:step E st (.litd d k zero x)=some st'):Goes base σ0 X w0 P o a w st':=by
 simp only[okOp,Bool.and_eq_true] at hok
 obtain ⟨hd,hok⟩:=hok
 simp only[step,Option.bind_eq_some_iff] at hs
 obtain ⟨v,hv,us,hus,hs⟩:=hs
 split at hs
 ·rename_i hc
  obtain ⟨hul,rfl,hnd⟩:=hc
  cases hs
  split at hok
  ·rename_i t len' ps ho
   simp only[Bool.and_eq_true,beq_iff_eq,decide_eq_true_eq] at hok
   obtain ⟨⟨⟨⟨⟨_,rfl⟩,hz0⟩,hbig⟩,ht⟩,hps⟩:=hok
   obtain ⟨e,he,hz⟩:=Zo ht
   obtain ⟨i,z,hi,hiz,hisz,hzero⟩:=Zau hz
   obtain ⟨y,hpl,hx⟩:∃ y,ps.toList=[(0,y)]∧Ze n x y=true:=by
    match hq:ps.toList,hps with
    | [(j,y)],hps=>
     simp only[Zar,Bool.and_eq_true,beq_iff_eq] at hps
     obtain ⟨⟨rfl,h2⟩,_⟩:=hps
     exact ⟨y,rfl,h2⟩
    | [],hps=>simp [Zar] at hps
    | _::_::_,hps=>simp [Zar] at hps
   have h1:=h.cool (.loc d 0)
   have hrep:=RepT.cells (ZdE h1 hn hx hv)
   obtain ⟨hcl,_⟩:=Zr hus
   obtain ⟨kids,g1,g2,g3⟩:=ZeE h1 hrep hus hnd
   obtain ⟨X1,hR1,hX1,hB1⟩:=h1.reserveAll v.ids
   have hvs:(a.eval y).cells.size=zero.length:=by rw [hrep.1,←hcl,hul]
   have hzs:z.cells.size=zero.length:=by rw [(Zcg hzero).1]; simp
   have hmsz:(madeCells z.cells (1*zero.length)).size=1*zero.length:=Zay ..
   obtain ⟨q1,q2⟩:=Zca (0*zero.length) (a.eval y).cells (madeCells z.cells (1*zero.length)) (by rw [hmsz,hvs]; omega)
   generalize hcur:((a.eval y).cells.zipIdx.foldl (fun (cs:Array Value) (p:Value×Nat)=>cs.setIfInBounds (0*zero.length+p.2) p.1) (madeCells z.cells (1*zero.length)))=cur at q1 q2
   let kid:Kid:=fun p=>match p with
    | (0,j)::q=>kids j q
    | _=>none
   have hkid0:∀ j,(fun q=>kid ((0,j)::q))=kids j:=fun j=>rfl
   have hkcase:∀ p K,kid p=some K→∃ j q,p=(0,j)::q∧kids j q=some K:=by
    intro p K hp
    match p with
    | []=>cases hp
    | (0,j)::q=>exact ⟨j,q,rfl,hp⟩
    | (i+1,j)::q=>cases hp
   obtain ⟨σ',M',hR,hv2⟩:=hR1.newDeep (X:=X) (w':=w.alloc (.cells cur e)) (id:=.loc d 0) (ZaZ d 0) (Zem (.inl (Zaj _))) hX1 (sz:=zero.length) (cap:=1) (rows:=[us]) (cur:=cur) (e:=e) (kid:=kid) hz0 (by simp only[maxLen]; omega)
    (by rw [q1,hmsz]) (by simp) (fun row hr=>by simp at hr; rw [hr,hul])
    (fun i' j row x' hi' hj=>by
     cases i' with
     | succ i'=>simp at hi'
     | zero=>
      simp at hi'; subst hi'
      have hjl:j<us.length:=(List.getElem?_eq_some_iff.1 hj).1
      obtain ⟨y',hy',hO⟩:=g1 j x' hj
      refine ⟨y',?_,hO⟩
      rw [q2,if_pos (by omega)]
      simpa using hy')
    rfl
    (fun i' j q hq=>by
     obtain ⟨K,hK⟩:=Option.ne_none_iff_exists'.1 hq
     obtain ⟨j',q',e',hk⟩:=hkcase ((i',j)::q) K hK
     cases e'
     have:=(g2 _ _ K hk).1
     exact ⟨by simp,by omega⟩)
    (fun p K hp=>by
     obtain ⟨j,q,rfl,hk⟩:=hkcase p K hp
     obtain ⟨_,id',hid',hl',hb'⟩:=g2 j q K hk
     obtain ⟨m1,m2⟩:=Zbb h1 hl' hb'
     exact ⟨hB1 id' K.g hid' hb',m1,m2⟩)
    (fun p p' K K' hp hp' e=>by
     obtain ⟨j,q,rfl,hk⟩:=hkcase p K hp
     obtain ⟨j',q',rfl,hk'⟩:=hkcase p' K' hp'
     obtain ⟨rfl,rfl⟩:=g3 _ _ _ _ K K' hk hk' e
     rfl)
    rfl rfl rfl rfl
   refine Goes.make hR hn hd ?_ hv2
   have hmap:(ps.map fun p=>(p.1,a.eval p.2)).toList=[(0,a.eval y)]:=by simp [hpl]
   have hn1:¬1*i.size > 2 ^ 24:=by rw [hisz]; simp only[Nat.reducePow]; omega
   have hzv:(zeroValue e).run P w=.ok z w:=by simp only[zeroValue,typeInfo,hi,hiz,Sem.run_bind,run_program,Sem.run_pure,Result.andThen_ok]
   have hfill:Instr.fill (fun i=>some (i*zero.length,zero.length)) (madeCells z.cells (1*zero.length)) [(0,a.eval y)]=some cur:=by
    have hc1:¬(decide ((a.eval y).cells.size≠zero.length)||decide (0*zero.length + (a.eval y).cells.size > (madeCells z.cells (1*zero.length)).size))=true:=by
     simp only[Bool.or_eq_true,decide_eq_true_eq,not_or]
     omega
    simp only[Instr.fill]
    rw [if_neg hc1,hcur]
   simp only[execOp,ho,Instr.buildSlice,Sem.run_bind,run_underlying he,Result.andThen_ok,sizeOf,typeInfo,run_program,hi,Sem.run_pure,hn1,if_false,Sem.run_ite]
   rw [hisz,hmap]
   have hm:Array.map (fun x=>z.cells[x % z.cells.size]!) (Array.range (1*zero.length))=madeCells z.cells (1*zero.length):=rfl
   rw [if_neg (by omega),hzv]
   simp only[Result.andThen_ok]
   rw [hm,hfill]
   rfl
  ·cases hok
 ·cases hs
/-- A row's cells, just as they lie there, as append reads them. -/
theorem Zfc {sz cap g:Nat} {rows:List (List U)} {cur:Array Value} {e:TypeId} (hh:w.heap[g]?=some (.cells cur e (0,0))) (hcs:rows.length*sz≤cur.size) (hrow:∀ row,row∈rows→row.length=sz)
  (hc:∀ (i j:Nat) row x,rows[i]?=some row→row[j]?=some x→∃ y,cur[i*sz+j]?=some y∧RepU w (fun _=>False) x y) :
  Feed P w (fun _=>False) sz rows (.slice (some ⟨g,0,none⟩) rows.length cap) (cur.toList.take (rows.length*sz)):=by
 have hl:(cur.toList.take (rows.length*sz)).length=rows.length*sz:=by rw [List.length_take,Array.length_toList (xs:=cur)]; omega
 refine ⟨fun w2=>rfl,fun w2 h2=>?_,hl,hrow,fun i j row x hi hj=>?_⟩
 ·refine run_firstCells_some (P:=P) w2 sz rows.length ⟨g,0,none⟩ rows.length cap _ hl (fun j v hj=>?_)
  rw [Zbg,Nat.zero_add,cell_of_row w2 g _ cur e (0,0) (by rw [h2]; exact hh)]
  rw [List.getElem?_take] at hj
  split at hj
  ·simpa using hj
  ·cases hj
 ·obtain ⟨y,hy,hr⟩:=hc i j row x hi hj
  refine ⟨y,?_,hr⟩
  have him:i<rows.length:=(List.getElem?_eq_some_iff.1 hi).1
  have hjl:j<sz:=by rw [←hrow row (List.mem_of_getElem? hi)]; exact (List.getElem?_eq_some_iff.1 hj).1
  have hlt:i*sz+j<rows.length*sz:=by
   have:(i+1)*sz≤rows.length*sz:=Nat.mul_le_mul_right _ him
   rw [Nat.add_mul] at this
   omega
  rw [List.getElem?_toArray,List.getElem?_take,if_pos hlt]
  simpa using hy
/-- Rows of a deep row, and where they lie. -/
structure Part (w:World) (X1 X:Nat→Prop) (base:Nat) (σ0:Sig) (sz:Nat) (rows:List (List U)) (kid:Kid) (cur:Array Value):Prop where
 row:∀ row,row∈rows→row.length=sz
 cells:∀ (i j:Nat) row x,rows[i]?=some row→row[j]?=some x→∃ y,cur[i*sz+j]?=some y∧Own w (fun p=>kid ((i,j)::p)) x y
 nil:kid []=none
 at_:∀ i j p,kid ((i,j)::p)≠none→i<rows.length∧j<sz
 in_:∀ p K,kid p=some K→X1 K.g∧¬X K.g∧From base σ0 K.g
 inj:∀ p p' K K',kid p=some K→kid p'=some K'→K.g=K'.g→p=p'
theorem Part.none {sz:Nat}:Part w X1 X base σ0 sz [] (fun _=>none) #[]:=⟨fun row h=>(by cases h),fun i j row x h=>(by simp at h),rfl,fun i j p h=>absurd rfl h,fun p K h=>(by cases h),fun p p' K K' h=>(by cases h)⟩
def ZaK (r:Nat) (kx ky:Kid):Kid:=fun p=>match p with
 | (i,j)::q=>if i<r then kx ((i,j)::q) else ky ((i - r,j)::q)
 | []=>none
theorem Zax {r:Nat} {kx ky:Kid} {p:List (Nat×Nat)} {K:Loc0} (h:ZaK r kx ky p=some K):∃ i j q,p=(i,j)::q∧((i<r∧kx ((i,j)::q)=some K)∨(r≤i∧ky ((i - r,j)::q)=some K)):=by
 match p with
 | []=>cases h
 | (i,j)::q=>
  refine ⟨i,j,q,rfl,?_⟩
  simp only[ZaK] at h
  split at h
  ·rename_i hi; exact .inl ⟨hi,h⟩
  ·rename_i hi; exact .inr ⟨by omega,h⟩
theorem Part.join {sz:Nat} {r ry:List (List U)} {kx ky:Kid} {cx cy c3:Array Value} (px:Part w X1 X base σ0 sz r kx cx) (py:Part w X1 X base σ0 sz ry ky cy) (hdis:∀ p p' K K',kx p=some K→ky p'=some K'→K.g≠K'.g)
  (h1:∀ (k:Nat),k<r.length*sz→c3[k]?=cx[k]?) (h2:∀ (k:Nat) v,k<ry.length*sz→cy[k]?=some v→c3[r.length*sz+k]?=some v):Part w X1 X base σ0 sz (r++ry) (ZaK r.length kx ky) c3:=by
 have hlt:∀ {l:List (List U)} {i j:Nat} {row:List U},l[i]?=some row→row.length=sz→j<row.length→i*sz+j<l.length*sz:=by
  intro l i j row hi hl hj
  have h3:=(List.getElem?_eq_some_iff.1 hi).1
  have:(i+1)*sz≤l.length*sz:=Nat.mul_le_mul_right _ h3
  rw [Nat.add_mul] at this
  omega
 refine ⟨fun row h=>(List.mem_append.1 h).elim (px.row row) (py.row row),fun i j row x hi hj=>?_,rfl,fun i j p hne=>?_,fun p K hp=>?_,fun p p' K K' hp hp' e=>?_⟩
 ·have hjl:=(List.getElem?_eq_some_iff.1 hj).1
  by_cases hir:i<r.length
  ·rw [List.getElem?_append_left hir] at hi
   obtain ⟨y,hy,hO⟩:=px.cells i j row x hi hj
   have e:(fun p=>ZaK r.length kx ky ((i,j)::p))=fun p=>kx ((i,j)::p):=by funext p; simp only[ZaK,hir,if_true]
   exact ⟨y,by rw [h1 _ (hlt hi (px.row row (List.mem_of_getElem? hi)) hjl)]; exact hy,by rw [e]; exact hO⟩
  ·rw [List.getElem?_append_right (by omega)] at hi
   obtain ⟨y,hy,hO⟩:=py.cells (i - r.length) j row x hi hj
   have e:(fun p=>ZaK r.length kx ky ((i,j)::p))=fun p=>ky ((i - r.length,j)::p):=by funext p; simp only[ZaK,hir,if_false]
   refine ⟨y,?_,by rw [e]; exact hO⟩
   have:=h2 _ y (hlt hi (py.row row (List.mem_of_getElem? hi)) hjl) hy
   rw [←this]
   congr 1
   have e:i*sz=r.length*sz + (i - r.length)*sz:=by rw [←Nat.add_mul]; congr 1; omega
   omega
 ·obtain ⟨K,hK⟩:=Option.ne_none_iff_exists'.1 hne
  obtain ⟨i',j',q,e,hc⟩:=Zax hK
  cases e
  rw [List.length_append]
  rcases hc with ⟨hi,hk⟩|⟨hi,hk⟩
  ·have:=px.at_ i j p (by rw [hk]; simp); omega
  ·have:=py.at_ (i - r.length) j p (by rw [hk]; simp); omega
 ·obtain ⟨i,j,q,rfl,hc⟩:=Zax hp
  rcases hc with ⟨hi,hk⟩|⟨hi,hk⟩
  ·exact px.in_ _ K hk
  ·exact py.in_ _ K hk
 ·obtain ⟨i,j,q,rfl,hc⟩:=Zax hp
  obtain ⟨i',j',q',rfl,hc'⟩:=Zax hp'
  rcases hc with ⟨hi,hk⟩|⟨hi,hk⟩
  ·rcases hc' with ⟨hi',hk'⟩|⟨hi',hk'⟩
   ·exact px.inj _ _ K K' hk hk' e
   ·exact absurd e (hdis _ _ K K' hk hk')
  ·rcases hc' with ⟨hi',hk'⟩|⟨hi',hk'⟩
   ·exact absurd e.symm (hdis _ _ K' K hk' hk)
   ·have:=py.inj _ _ K K' hk hk' e
    simp only[List.cons.injEq,Prod.mk.injEq] at this
    obtain ⟨⟨h3,h4⟩,h5⟩:=this
    rw [h4,h5,show i=i' by omega]
/-- A deep row of the call's own, as a part. -/
theorem ZfJ (h:Rel base σ0 X w0 σ M w a st) {id:Id} {z m:Nat} {r:List (List U)} (hid:st.o id=some (.deep z r)) (hloc:Zk id=true) (hB:∀ b,Zae st σ id b→X1 b) {L:Loc} (hL:σ id=some L) :
  ∃ cur,L.sz=z∧w.heap[L.g]?=some (.cells cur L.e (0,0))∧cur.size=L.cap*L.sz∧r.length≤L.cap∧L.cap≤maxLen∧0<L.sz∧Part w X1 X base σ0 z r L.kid cur∧∀ p K,L.kid p=some K→K.g≠L.g:=by
 rcases h.obj id _ hid with ⟨_,h2⟩|⟨L',cur,hL',hz,hm,hh,hs,hcap,hcm,h0,hall,hc,hk⟩
 ·rw [hL] at h2; cases h2
 ·rw [hL] at hL'; cases hL'
  subst hz
  refine ⟨cur,rfl,hh,hs,hcap,hcm,h0,⟨hall,hc,hk.nil,hk.at_,fun p K hp=>?_,hk.inj⟩,hk.ne⟩
  have hb:Zae st σ id K.g:=⟨by rw [hid]; rfl,L,hL,.inr ⟨p,K,hp,rfl⟩⟩
  exact ⟨hB _ hb,(Zbb h hloc hb).1,(Zbb h hloc hb).2⟩
section
variable {t t' ty e:TypeId} {i:TypeInfo} {z:Value} {sz:Nat} {ry:List (List U)} {x:Value} {news:List Value}
/-- Append that takes a new block, of deep rows. -/
theorem ZcI (h:Rel base σ0 X1 w0 σ M w a st) (hX:∀ b,X b→X1 b) {id:Id} (hloc:∀ j,id≠.par j) (hid:st.o id=none)
  (ht:P.underlying t=some (.slice e)) (ht':(∃ e',P.underlying t'=some (.slice e'))∨P.underlying t'=some .string) (hi:P.info? e=some i) (hz0:i.zero=some z) (hsz:i.size=sz) (hzs:z.cells.size=sz) (hpos:0<sz) (hf:Feed P w (fun _=>False) sz ry x news)
  {kx ky:Kid} {cx cy:Array Value} {r:List (List U)} (px:Part w X1 X base σ0 sz r kx cx) (py:Part w X1 X base σ0 sz ry ky cy) (hdis:∀ p p' K K',kx p=some K→ky p'=some K'→K.g≠K'.g) (hnews:∀ (k:Nat),k<ry.length*sz→news[k]?=cy[k]?)
  {b:Option Addr} {sCap:Nat} {olds:List Value} (hold:∀ w2:World,w2.heap=w.heap→(Builtin.firstCells sz r.length (.slice b r.length sCap)).run P w2=.ok olds.toArray w2) (hol:olds.length=r.length*sz) (hoc:∀ (j:Nat),j<r.length*sz→olds[j]?=cx[j]?)
  (hg:sCap<r.length+ry.length) (hmax:r.length+ry.length≤maxLen) (hbytes:(r.length+ry.length)*i.bytes≤140737488355328) :
  ∃ w' v σ' M',(Builtin.append_ #[t,t'] ty #[.slice b r.length sCap,x]).run P w=.ok v w'∧Rel base σ0 X w0 σ' M' w' a (st.obj id (some (.deep sz (r++ry))))∧RepC w' M' σ' (st.obj id (some (.deep sz (r++ry)))).o (.down id (r.length+ry.length)) v:=by
 have hrun:=ZcQ (ty:=ty) ht ht' hi hz0 hsz hf hold hg hmax hbytes
 have hge:=grownCap_ge w (r.length+ry.length) sCap e
 have hle:=grownCap_le_maxLen w (r.length+ry.length) sCap e hmax
 have hl:(r++ry).length=r.length+ry.length:=List.length_append
 have hcs:(olds.toArray++news.toArray++Builtin.zeroCells z.cells (grownCap w (r.length+ry.length) sCap e - (r.length+ry.length))).size=grownCap w (r.length+ry.length) sCap e*sz:=by
  simp only[Array.size_append,List.size_toArray,size_zeroCells,hzs,hol,hf.size,←Nat.add_mul]
  congr 1
  omega
 have pj:=px.join (c3:=olds.toArray++news.toArray++Builtin.zeroCells z.cells (grownCap w (r.length+ry.length) sCap e - (r.length+ry.length))) py hdis (fun k hk=>by
   rw [←hoc k hk,Array.append_assoc,Array.getElem?_append_left (by simp; omega)]
   simp) (fun k v hk hv=>by
   rw [←hnews k hk] at hv
   have hjl:k<news.length:=(List.getElem?_eq_some_iff.1 hv).1
   rw [Array.append_assoc,Array.getElem?_append_right (by simp; omega),Array.getElem?_append_left (by simp; omega)]
   simp only[List.size_toArray,hol]
   rw [Nat.add_sub_cancel_left]
   simpa using hv)
 obtain ⟨σ',M',h1,h2⟩:=h.newDeep (X:=X) (w':=w.drew.alloc (.cells (olds.toArray++news.toArray++Builtin.zeroCells z.cells (grownCap w (r.length+ry.length) sCap e - (r.length+ry.length))) e)) hloc hid hX hpos hle hcs (by rw [hl]; exact hge) pj.row pj.cells pj.nil pj.at_ pj.in_ pj.inj rfl rfl rfl rfl
 rw [hl] at h2
 exact ⟨_,_,σ',M',hrun,h1,h2⟩
end
theorem ZgW (h : Rel base σ0 X w0 σ M w a st) (hn:a.tmps.size=n) {d sz bytes:Nat} {x y:Arg} (hok:okOp P n o (.appd d sz x y bytes)=true) (hs:step E st (.appd d sz x y bytes)=some st'):Goes base σ0 X w0 P o a w st':=by
 simp only[okOp,Bool.and_eq_true] at hok
 obtain ⟨hd,hok⟩:=hok
 simp only[step] at hs
 split at hs
 ·rename_i idy m hy0
  split at hs
  ·rename_i zy ry hidy
   split at hs
   ·rename_i hcy
    obtain ⟨hzz,rfl,hlocy,hm0⟩:=hcy
    have hzz:=hzz.symm
    subst hzz
    split at hok
    ·rename_i c ho
     split at hok
     ·rename_i x' y' t t' hcal hargs hty
      simp only[Bool.and_eq_true] at hok
      obtain ⟨⟨⟨hx,hy⟩,ht⟩,ht'⟩:=hok
      have ha:c.args=#[x',y']:=by rw [←Array.toArray_toList (xs:=c.args),hargs]
      have hta:c.argTypes=#[t,t']:=by rw [←Array.toArray_toList (xs:=c.argTypes),hty]
      obtain ⟨e,he,hp⟩:=Zo ht
      simp only[Bool.and_eq_true] at hp
      obtain ⟨hp1,hp2⟩:=hp
      have ht2:(∃ e',P.underlying t'=some (.slice e'))∨P.underlying t'=some .string:=by obtain ⟨e',h1,_⟩:=Zo ht'; exact .inl ⟨e',h1⟩
      unfold ZbD at hp1
      split at hp1
      ·rename_i i hi
       split at hp1
       ·rename_i z hz0
        simp only[Bool.and_eq_true,beq_iff_eq,decide_eq_true_eq] at hp1
        obtain ⟨⟨hsz,hzs⟩,hpos⟩:=hp1
        have hib:i.bytes=bytes:=by unfold Zbd at hp2; rw [hi] at hp2; simpa using hp2
        have hry:=Zf h hn hy
        rw [hy0] at hry
        obtain ⟨zz,rr,hoy,_,hvy⟩:=hry
        rw [hidy] at hoy; cases hoy
        obtain ⟨Ly,hLy,hvy⟩:∃ Ly,σ idy=some Ly∧a.eval y'=.slice (some ⟨Ly.g,0,none⟩) ry.length Ly.cap:=by
         rcases hvy with ⟨h0,_⟩|hvy
         ·omega
         ·exact hvy
        have hexec:∀ v w',(Builtin.append_ #[t,t'] o.type #[a.eval x',a.eval y']).run P w=.ok v w'→(execOp a.eval o).run P w=.ok (.value v) w':=by
         intro v w' hr
         simp only[execOp,ho,resolve,hcal,ha,hta,List.map_toArray,List.map_cons,List.map_nil,invoke,builtin,Sem.run_bind,Sem.run_pure,Result.andThen_ok,hr]
        have h1:=h.reserve idy
        obtain ⟨cy,hzy,hhy,hsy,hcapy,hcmy,h0y,py0,hney⟩:=ZfJ (X1:=fun b=>X b∨Zae st σ idy b) (m:=0) h hidy hlocy (fun b hb=>.inr hb) hLy
        have hfy:Feed P w (fun _=>False) sz ry (a.eval y') (cy.toList.take (ry.length*sz)):=by
         rw [hvy]
         exact Zfc hhy (by rw [hsy,hzy]; exact Nat.mul_le_mul_right _ hcapy) py0.row (fun i j row x hi hj=>by
          obtain ⟨q,hq,hO⟩:=py0.cells i j row x hi hj
          exact ⟨q,hq,ZbM hO (fun _ _ _ h=>h)⟩)
        have hnews:∀ (k:Nat),k<ry.length*sz→(cy.toList.take (ry.length*sz))[k]?=cy[k]?:=fun k hk=>by rw [List.getElem?_take,if_pos hk]; simp
        split at hs
        ·-- nil
         rename_i hbx
         split at hs
         ·rename_i hb
          obtain ⟨hmax,hby⟩:=hb
          cases hs
          obtain ⟨b0,hvx⟩:∃ b,a.eval x'=.slice b 0 0:=by
           unfold D.base? at hbx
           have hr:=Zf h hn hx
           split at hbx
           ·rename_i cc hm
            cases hbx
            rw [hm] at hr
            exact ⟨none,RepU.nil_inv hr⟩
           ·rename_i hm
            rw [hm] at hr
            exact hr
           ·cases hbx
          have h2:=h1.cool (.loc d 0)
          obtain ⟨w',v,σ',M',hrun,hR,hv⟩:=ZcI (P:=P) (ty:=o.type) (X:=X) (id:=.loc d 0) (r:=[]) (kx:=fun _=>none) (cx:=#[]) (b:=b0) (sCap:=0) (olds:=[]) h2 (fun b hb=>.inl hb) (ZaZ d 0) (Zaj _) he ht2 hi hz0 hsz hzs hpos hfy Part.none py0 (fun p p' K K' h=>by cases h) hnews (fun w2 _=>Zbw b0 sz w2) (by simp) (fun j hj=>by simp at hj) (by simpa using hm0) (by simpa using hmax) (by simpa [hib] using hby)
          simp only[List.nil_append,List.length_nil,Nat.zero_add] at hR hv hrun
          exact Goes.make hR hn hd (hexec _ _ (by rw [hvx]; exact hrun)) hv
         ·cases hs
        ·-- own
         rename_i id m hbx
         split at hs
         ·rename_i z2 r hid
          split at hs
          ·rename_i hcx
           obtain ⟨rfl,rfl,hlocx,hne,hmax,hby⟩:=hcx
           cases hs
           have hrx:RepC w M σ st.o (.down id r.length) (a.eval x'):=by
            unfold D.base? at hbx
            split at hbx
            ·rename_i cc hm
             cases hbx
             exact Zeb h hn hx (by rw [hm]; rfl)
            ·cases hbx
            ·cases hbx
           have hlocp:∀ j,id≠.par j:=fun j e=>by subst e; cases hlocx
           have h2:=h1.reserve id
           have hid1:(st.kill idy).o id=some (.deep z2 r):=by simp [St.kill,St.mapC,St.obj,hne,hid,Obj.mapC]
           obtain ⟨_,_,ho',_,hvx⟩:=hrx
           rw [hid] at ho'; cases ho'
           let X2:Nat→Prop:=fun b=>(X b∨Zae st σ idy b)∨Zae (st.kill idy) σ id b
           have hX2:∀ b,X b→X2 b:=fun b hb=>.inl (.inl hb)
           have py:Part w X2 X base σ0 z2 ry Ly.kid cy:=⟨py0.row,py0.cells,py0.nil,py0.at_,fun p K hp=>⟨.inl (py0.in_ p K hp).1,(py0.in_ p K hp).2⟩,py0.inj⟩
           have fin:∀ {w':World} {v:Value} {σ':Sig} {M':Nat→Prop},(Builtin.append_ #[t,t'] o.type #[a.eval x',a.eval y']).run P w=.ok v w'→Rel base σ0 X w0 σ' M' w' a (((st.kill idy).kill id).obj id (some (.deep z2 (r++ry))))→RepC w' M' σ' (((st.kill idy).kill id).obj id (some (.deep z2 (r++ry)))).o (.down id (r.length+ry.length)) v→Goes base σ0 X w0 P o a w ((((st.kill idy).kill id).obj id (some (.deep z2 (r++ry)))).put d (.t (.sc (.down id (r.length+ry.length))))):=
            fun hrun hR hv=>Goes.val (x:=.t (.sc (.down id (r.length+ry.length)))) hR hn hd (hexec _ _ hrun) hv
           rcases hvx with ⟨hr0,b0,hvx⟩|⟨L,hL,hvx⟩
           ·have hr:r=[]:=List.eq_nil_of_length_eq_zero hr0
            subst hr
            obtain ⟨w',v,σ',M',hrun,hR,hv⟩:=ZcI (P:=P) (ty:=o.type) (X:=X) (id:=id) (r:=[]) (kx:=fun _=>none) (cx:=#[]) (b:=b0) (sCap:=0) (olds:=[]) h2 hX2 hlocp (ZaE id) he ht2 hi hz0 hsz hzs hpos hfy Part.none py (fun p p' K K' h=>by cases h) hnews (fun w2 _=>Zbw b0 z2 w2) (by simp) (fun j hj=>by simp at hj) (by simpa using hm0) (by simpa using hmax) (by rw [hib]; exact hby)
            exact fin (by rw [hvx]; exact hrun) hR hv
           ·have hBx:∀ b,Zae st σ id b→X2 b:=fun b hb=>.inr ⟨by rw [hid1]; rfl,hb.2⟩
            obtain ⟨cx,hzx,hhx,hsx,hcapx,hcmx,h0x,px,hnex⟩:=ZfJ (X1:=X2) (m:=0) h hid hlocx hBx hL
            have hLyne:∀ b,L.has b→¬Ly.has b:=fun b hb hb2=>hne (h.inj id idy L Ly b (by rw [hid]; rfl) (by rw [hidy]; rfl) hL hLy hb hb2)
            have hdis:∀ p p' K K',L.kid p=some K→Ly.kid p'=some K'→K.g≠K'.g:=fun p p' K K' hp hp' e=>hLyne K.g (.inr ⟨p,K,hp,rfl⟩) (.inr ⟨p',K',hp',e.symm⟩)
            have hcxsz:cx.size=L.cap*z2:=by rw [hsx,hzx]
            have hle:r.length*z2≤L.cap*z2:=Nat.mul_le_mul_right _ hcapx
            by_cases hroom:r.length+ry.length≤L.cap
            ·obtain ⟨cur2,hrun,c1,c2⟩:=ZcR (ty:=o.type) he ht2 hi hsz hfy hpos hhx hroom (by rw [hcxsz]; exact Nat.le_refl _)
             obtain ⟨f1,f2,f3,f4,f5,f6⟩:=Zap L.g cur2 hhx
             have hnl:(cy.toList.take (ry.length*z2)).length=ry.length*z2:=hfy.size
             have pj:=px.join (c3:=cur2) py hdis (fun k hk=>by rw [c2,if_neg (by omega)]) (fun k v hk hv=>by
              rw [c2,if_pos (by omega),Nat.add_sub_cancel_left,hnews k hk]; exact hv)
             have hblk:∀ b,(⟨L.toLoc0,ZaK r.length L.kid Ly.kid⟩:Loc).has b→X2 b∧¬X b∧From base σ0 b:=by
              intro b hb
              rcases hb with rfl|⟨p,K,hp,rfl⟩
              ·have hb:Zae st σ id L.g:=⟨by rw [hid]; rfl,L,hL,L.has_g⟩
               exact ⟨hBx _ hb,Zbb h hlocx hb⟩
              ·exact pj.in_ p K hp
             have hkne:∀ p K,ZaK r.length L.kid Ly.kid p=some K→K.g≠L.g:=by
              intro p K hp
              obtain ⟨i',j',q,rfl,hc⟩:=Zax hp
              rcases hc with ⟨_,hk⟩|⟨_,hk⟩
              ·exact hnex _ K hk
              ·exact fun e=>hLyne L.g L.has_g (.inr ⟨_,K,hk,e⟩)
             have main:=fun A B=>h2.gather (X:=X) (id:=id) (x:=.deep z2 (r++ry)) (L:=⟨L.toLoc0,ZaK r.length L.kid Ly.kid⟩) (w':=w.setRow L.g cur2) hlocp (ZaE id) hX2 (fun hd=>by cases hd) A (Nat.le_of_eq f2) (fun b _ hb=>f3 b hb) f4 f5 f6 B
             obtain ⟨M',hR,_,hM'⟩:=main (by
              intro b hb
              obtain ⟨q1,q2,q3⟩:=hblk b hb
              exact ⟨.inl q1,by rw [←f2]; exact (h2.sup b q1).2,q2,q3⟩) (by
              intro M' _ hM'
              refine .inr ⟨_,cur2,Zd ..,hzx,hM' _ (.inl rfl),f1,by rw [c1]; exact hsx,by rw [List.length_append]; exact hroom,hcmx,h0x,by rw [hzx]; exact pj.row,fun i' j' row x hi' hj=>?_,⟨pj.nil,fun i' j' p hp=>by rw [hzx]; exact pj.at_ i' j' p hp,fun p K hp=>hM' _ (.inr ⟨p,K,hp,rfl⟩),hkne,pj.inj⟩⟩
              obtain ⟨q,hq,hO⟩:=pj.cells i' j' row x hi' hj
              refine ⟨q,?_,hO.keep (fun p K hp=>f3 _ (hkne _ K hp))⟩
              show cur2[i'*L.sz+j']?=some q
              rw [hzx]; exact hq)
             exact fin (by rw [hvx]; exact hrun) hR ⟨z2,r++ry,by simp [St.obj],by rw [List.length_append]; exact Nat.le_refl _,.inr ⟨_,Zd ..,rfl⟩⟩
            ·have holds:∀ w2:World,w2.heap=w.heap→(Builtin.firstCells z2 r.length (.slice (some ⟨L.g,0,none⟩) r.length L.cap)).run P w2=.ok (cx.toList.take (r.length*z2)).toArray w2:=by
              intro w2 h2
              refine run_firstCells_some (P:=P) w2 z2 r.length ⟨L.g,0,none⟩ r.length L.cap _ ?_ (fun j v hj=>?_)
              ·rw [List.length_take,Array.length_toList (xs:=cx),hcxsz]
               exact Nat.min_eq_left hle
              ·rw [Zbg,Nat.zero_add]
               rw [List.getElem?_take] at hj
               split at hj
               ·rw [cell_of_row w2 L.g _ cx L.e (0,0) (by rw [h2]; exact hhx)]
                simpa using hj
               ·cases hj
             have hol:(cx.toList.take (r.length*z2)).length=r.length*z2:=by
              rw [List.length_take,Array.length_toList (xs:=cx),hcxsz]
              exact Nat.min_eq_left hle
             obtain ⟨w',v,σ',M',hrun,hR,hv⟩:=ZcI (P:=P) (ty:=o.type) (X:=X) (id:=id) (kx:=L.kid) (cx:=cx) (b:=some ⟨L.g,0,none⟩) (sCap:=L.cap) h2 hX2 hlocp (ZaE id) he ht2 hi hz0 hsz hzs hpos hfy px py hdis hnews holds hol (fun j hj=>by rw [List.getElem?_take,if_pos hj]; simp) (by omega) hmax (by rw [hib]; exact hby)
             exact fin (by rw [hvx]; exact hrun) hR hv
          ·cases hs
         ·cases hs
        ·cases hs
       ·cases hp1
      ·cases hp1
     ·cases hok
    ·cases hok
   ·cases hs
  ·cases hs
 ·cases hs
end Go.Proofs.YtfajcehhcjmofaaV
