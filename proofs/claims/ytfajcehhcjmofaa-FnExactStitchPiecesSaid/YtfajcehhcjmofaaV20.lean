/- The two kinds of calls. No conditions but those that the lemmas state. -/
import Derived.Test.YtfajcehhcjmofaaV19
namespace Go.Proofs.YtfajcehhcjmofaaV
open Go Go.RowKit
set_option linter.unusedVariables false
set_option linter.unusedSimpArgs false
variable {base:Nat} {σ0:Sig} {X:Nat→Prop} {w0 w w':World} {σ σ':Sig} {M M':Nat→Prop} {a:Act} {st st':St} {P:Program} {n:Nat} {o:Oper} {E:Zb}
variable {ob:Id→Option Obj}
theorem ZgY (hE:Zad P E) (h:Rel base σ0 X w0 σ M w a st) (hn:a.tmps.size=n) {d f:Nat} {xs:List Arg} (hok:okOp P n o (.call d f xs)=true) (hs:step E st (.call d f xs)=some st'):Does base σ0 X w0 P o a w st':=by
 simp only[okOp,Bool.and_eq_true] at hok
 obtain ⟨hd,hok⟩:=hok
 simp only[step,Option.bind_eq_some_iff] at hs
 obtain ⟨ts,hts,args,hargs,r,hr,hs⟩:=hs
 split at hs
 ·rename_i hout
  cases hs
  split at hok
  ·rename_i c ho
   obtain ⟨hxs,hexec⟩:=ZbU (P:=P) (a:=a) (w:=w) ho hok
   obtain ⟨hl1,hr1⟩:=Zbo h hn xs c.args.toList ts hxs hts
   obtain ⟨hl2,hr2⟩:=Zr hargs
   obtain ⟨M1,hR,hM1,hid⟩:=h.coolAll (ts.flatMap T.ids)
   have hrout:r.out=[]:=by simpa using hout
   have hIn:In w M1 (fun _=>none) M1 args [] (c.args.map a.eval):=by
    refine ⟨by simp [hl2,←hl1],fun j x hj=>?_,fun id x hx=>?_,fun id id' L L' b _ _ hL=>(by cases hL),fun b hb=>.inl hb,fun id L b _ hL=>(by cases hL),fun b hb=>⟨hb,h.ltM (hM1 b hb)⟩,fun id x L _ _ hL=>(by cases hL),fun j _=>rfl⟩
    ·have hlt:j<ts.length:=by rw [←hl2]; exact (List.getElem?_eq_some_iff.1 hj).1
     have htj:ts[j]?=some ts[j]:=by simp [hlt]
     obtain ⟨y,hy,hf⟩:=hr2 j ts[j] htj
     rw [hj] at hy; cases hy
     obtain ⟨v,hv,hrep⟩:=hr1 j ts[j] htj
     refine ⟨v,?_,ZcO h hM1 (fun id hi hs L b hL hb=>hid id (List.mem_flatMap.2 ⟨_,List.mem_of_getElem? htj,hi⟩) hs L b hL hb) hf hrep⟩
     rw [←hv,←Array.getElem?_toList]
     simp
    ·cases id with
     | par k=>simp [Zj] at hx
     | loc t k=>cases hx
   intro next Q hnext
   unfold Oper.wp
   rw [hexec]
   refine Calls.mono (hE f args [] r hr w M1 (fun _=>none) M1 _ hIn) ?_
   rintro e w' ⟨σn,N,Mo,ys,rfl,hOut⟩
   have hall:∀ b,Mo b↔M1 b∨N b:=fun b=>by
    rw [hOut.all_]
    exact ⟨fun h=>h.elim .inl (fun h=>h.elim .inr (fun ⟨j,L,hj,_⟩=>by rw [hrout] at hj; simp at hj)),fun h=>h.elim .inl (fun h=>.inr (.inl h))⟩
   have hsame:∀ b,b<w.heap.size→(∀ id,id∈([]:List Id)→∀ L,σ id=some L→¬L.has b)→w'.heap[b]?=w.heap[b]?:=fun b hb _=>hOut.same b hb (fun j L hL=>by cases hL)
   have hfr:=hOut.fresh (by rw [hrout])
   have hlow:∀ b,N b→¬X b∧From base σ0 b:=fun b hb=>⟨fun hx=>by have:=(h.sup b hx).2; have:=(hfr b hb).1; omega,.inl (Nat.le_trans h.size (hfr b hb).1)⟩
   by_cases hq:r.quiet=true
   ·have hC:=h.called (N:=N) hfr hOut.size hOut.os hOut.tape hOut.output (ids:=[]) hsame (fun id hi=>by cases hi) (st2:=st) rfl (fun i _=>rfl) (fun id hi=>by cases hi)
    obtain ⟨σ',M',hF⟩:=ZbZ hC hn hd hOut hlow (.inr hq)
    rw [if_pos hq] at hnext
    exact hnext σ' M' w' _ hF
   ·have hC:=hR.called (N:=N) hfr hOut.size hOut.os hOut.tape hOut.output (ids:=[]) hsame (fun id hi=>by cases hi) (st2:=st.coolAll (ts.flatMap T.ids)) rfl (fun i _=>rfl) (fun id hi=>by cases hi)
    obtain ⟨σ',M',hF⟩:=ZbZ hC hn hd hOut hlow (.inl (fun b hb=>(hall b).2 hb))
    rw [if_neg hq] at hnext
    exact hnext σ' M' w' _ hF
  ·cases hok
 ·cases hs
theorem Ze8 {c:Call} {f:Nat} {fs:List Nat} {y:Operand} {vs:Array Value} (ho:o.op=.call c) (hc:c.callee=.value y) (hv:a.eval y=.func (.func f) #[] vs) (hf:fs.all (fun f=>pf f==f&&Zdo P f)=true) (hm:fs.contains f=true):(execOp a.eval o).run P w=.ok (.enter (pf f) (c.args.map a.eval++vs)) w:=by
 have hf:=List.all_eq_true.1 hf f (by simpa [List.contains_eq_mem] using hm)
 simp only[Bool.and_eq_true,beq_iff_eq] at hf
 obtain ⟨hp,hf⟩:=hf
 rw [hp]
 unfold Zdo at hf
 split at hf
 ·rename_i fn hfn
  simp only[Bool.and_eq_true,Bool.not_eq_true'] at hf
  obtain ⟨hname,hbody⟩:=hf
  have hb:fn.body.isNone=false:=by cases hq:fn.body with
   | none=>rw [hq] at hbody; cases hbody
   | some _=>rfl
  simp only[execOp,ho,resolve,hc,hv,Deferred.ofValue,Sem.run_bind,Sem.run_pure,Result.andThen_ok,invoke,callFunc,run_program,hfn,hname,hb,Bool.false_eq_true,if_false,Sem.run_ite]
  simp only[Array.empty_append]
 ·cases hf
theorem Zgk {x:Option U} {p:Nat×List U} (h:fnOf x=some p):x=some (.fn p.1 p.2):=by
 unfold fnOf at h
 split at h
 ·cases h; rfl
 ·cases h
theorem Zgu (hE:Zad P E) (h:Rel base σ0 X w0 σ M w a st) (hn:a.tmps.size=n) {d:Nat} {fs:List Nat} {x:Arg} {xs:List Arg} (hok:okOp P n o (.callv d fs x xs)=true) (hs:step E st (.callv d fs x xs)=some st'):Does base σ0 X w0 P o a w st':=by
  simp only[okOp,Bool.and_eq_true] at hok
  obtain ⟨hd,hok⟩:=hok
  simp only[step,Option.bind_eq_some_iff] at hs
  obtain ⟨p,hp,hs⟩:=hs
  obtain ⟨f,caps⟩:=p
  split at hs
  · rename_i hm
    simp only[Option.bind_eq_some_iff] at hs
    obtain ⟨ts,hts,args,hargs,r,hr,hs⟩:=hs
    split at hs
    · rename_i hout
      cases hs
      split at hok
      · rename_i c ho
        simp only[Bool.and_eq_true] at hok
        obtain ⟨⟨hcal,hxs⟩,hfs⟩:=hok
        split at hcal
        · rename_i y hc
          obtain ⟨vs,hvs,hsz,hcr⟩:∃ vs:Array Value,a.eval y=.func (.func f) #[] vs∧vs.size=caps.length∧∀ (j:Nat) x v,caps[j]?=some x→vs[j]?=some v→RepU w M x v:=by
            have hr1:=Zf h hn hcal
            rw [Zer (Zgk hp)] at hr1
            have hr2:RepU w M (.fn f caps) (a.eval y):=hr1
            generalize a.eval y=z at hr2 ⊢
            cases hr2 with
            | fn _ _ vs hs hrep=>exact ⟨vs,rfl,hs,hrep⟩
          have hexec:=Ze8 (P:=P) (a:=a) (w:=w) ho hc hvs hfs hm
          obtain ⟨hl1,hr1⟩:=Zbo h hn xs c.args.toList ts hxs hts
          obtain ⟨hl2,hr2⟩:=Zr hargs
          obtain ⟨M1,hR,hM1,hid⟩:=h.coolAll (ts.flatMap T.ids)
          have hrout:r.out=[]:=by simpa using hout
          have hIn:In w M1 (fun _=>none) M1 (args++caps.map fun c=>.sc (.u c)) [] (c.args.map a.eval++vs):=by
            refine ⟨by simp [hl2,←hl1,hsz],fun j x hj=>?_,fun id x hx=>?_,fun id id' L L' b _ _ hL=>(by cases hL),fun b hb=>.inl hb,fun id L b _ hL=>(by cases hL),fun b hb=>⟨hb,h.ltM (hM1 b hb)⟩,fun id x L _ _ hL=>(by cases hL),fun j _=>rfl⟩
            · by_cases hlt:j<args.length
              · rw [List.getElem?_append_left hlt] at hj
                have hlt':j<ts.length:=by omega
                have htj:ts[j]?=some ts[j]:=by simp [hlt']
                obtain ⟨y,hy,hf⟩:=hr2 j ts[j] htj
                rw [hj] at hy; cases hy
                obtain ⟨v,hv,hrep⟩:=hr1 j ts[j] htj
                refine ⟨v,?_,ZcO h hM1 (fun id hi hs L b hL hb=>hid id (List.mem_flatMap.2 ⟨_,List.mem_of_getElem? htj,hi⟩) hs L b hL hb) hf hrep⟩
                rw [Array.getElem?_append_left (by simp; rw [←Array.length_toList]; omega),←hv,←Array.getElem?_toList]
                simp
              · have hge:args.length≤j:=by omega
                rw [List.getElem?_append_right hge,List.getElem?_map] at hj
                obtain ⟨u,hu,rfl⟩:=Option.map_eq_some_iff.1 hj
                have hlt2:j - args.length<vs.size:=by rw [hsz]; exact (List.getElem?_eq_some_iff.1 hu).1
                have hvj:vs[j - args.length]?=some vs[j - args.length]:=Array.getElem?_eq_getElem hlt2
                have hrep:=hcr _ _ _ hu hvj
                have hsa:c.args.size=args.length:=by rw [←Array.length_toList]; omega
                refine ⟨vs[j - args.length],?_,?_⟩
                · rw [Array.getElem?_append_right (by simp; omega)]
                  simp only[Array.size_map,hsa]
                  exact hvj
                · exact RepU.keep (M:=M) ⟨Nat.le_refl _,fun _ _ _=>rfl,fun b _ h=>hM1 b h⟩ hrep
            · cases id with
              | par k=>simp [Zj] at hx
              | loc t k=>cases hx
          intro next Q hnext
          unfold Oper.wp
          rw [hexec]
          refine Calls.mono (hE f _ [] r hr w M1 (fun _=>none) M1 _ hIn) ?_
          rintro e w' ⟨σn,N,Mo,ys,rfl,hOut⟩
          have hall:∀ b,Mo b↔M1 b∨N b:=fun b=>by
            rw [hOut.all_]
            exact ⟨fun h=>h.elim .inl (fun h=>h.elim .inr (fun ⟨j,L,hj,_⟩=>by rw [hrout] at hj; simp at hj)),fun h=>h.elim .inl (fun h=>.inr (.inl h))⟩
          have hsame:∀ b,b<w.heap.size→(∀ id,id∈([]:List Id)→∀ L,σ id=some L→¬L.has b)→w'.heap[b]?=w.heap[b]?:=fun b hb _=>hOut.same b hb (fun j L hL=>by cases hL)
          have hfr:=hOut.fresh (by rw [hrout])
          have hlow:∀ b,N b→¬X b∧From base σ0 b:=fun b hb=>⟨fun hx=>by have:=(h.sup b hx).2; have:=(hfr b hb).1; omega,.inl (Nat.le_trans h.size (hfr b hb).1)⟩
          by_cases hq:r.quiet=true
          · have hC:=h.called (N:=N) hfr hOut.size hOut.os hOut.tape hOut.output (ids:=[]) hsame (fun id hi=>by cases hi) (st2:=st) rfl (fun i _=>rfl) (fun id hi=>by cases hi)
            obtain ⟨σ',M',hF⟩:=ZbZ hC hn hd hOut hlow (.inr hq)
            rw [if_pos hq] at hnext
            exact hnext σ' M' w' _ hF
          · have hC:=hR.called (N:=N) hfr hOut.size hOut.os hOut.tape hOut.output (ids:=[]) hsame (fun id hi=>by cases hi) (st2:=st.coolAll (ts.flatMap T.ids)) rfl (fun i _=>rfl) (fun id hi=>by cases hi)
            obtain ⟨σ',M',hF⟩:=ZbZ hC hn hd hOut hlow (.inl (fun b hb=>(hall b).2 hb))
            rw [if_neg hq] at hnext
            exact hnext σ' M' w' _ hF
        · cases hcal
      · cases hok
    · cases hs
  · cases hs
theorem Rel.pushed (h:Rel base σ0 X w0 σ M w a st) {w':World} {blk:Go.Obj} (hh:w'.heap=w.heap.push blk) (hos:w'.os=w.os) (ht:w'.tape=w.tape) (hout:w'.output=w.output):Rel base σ0 X w0 σ M w' a st:=by
 have hs:w.heap.size≤w'.heap.size:=by rw [hh,Array.size_push]; omega
 have hsame:∀ b,b<w.heap.size→w'.heap[b]?=w.heap[b]?:=fun b hb=>by rw [hh,Array.getElem?_push_lt hb,Array.getElem?_eq_getElem hb]
 have k:Zaa w w' M M:=⟨hs,fun b hb _=>hsame b hb,fun _ _ h=>h⟩
 refine ⟨fun t ht=>(h.slot t ht).keep k (Refs.refl ..),fun id x hx=>(h.obj id x hx).keep k (Refs.refl ..) hx (fun h=>h) (fun L b hL hb=>?_),h.inj,h.live,h.mine,h.par,fun b hb=>⟨(h.sup b hb).1,Nat.lt_of_lt_of_le (h.sup b hb).2 hs⟩,hos.trans h.os,ht.trans h.tape,hout.trans h.output,Nat.le_trans h.size hs,fun b hb hn=>(hsame b (Nat.lt_of_lt_of_le hb h.size)).trans (h.same b hb hn),h.lone⟩
 have hM:=h.inMb (by rw [hx]; rfl) hL hb
 exact ⟨hsame _ (h.ltM hM),hM⟩
theorem Zjc (h:Rel base σ0 X w0 σ M w a st) (hn:a.tmps.size=n) {d:Nat} {x:Arg} (hok:okOp P n o (.cl d x)=true) (hs:step E st (.cl d x)=some st'):Goes base σ0 X w0 P o a w st':=by
 simp only[step,Option.bind_eq_some_iff,Option.some.injEq] at hs
 obtain ⟨v,hv,rfl⟩:=hs
 obtain ⟨M1,hR,_,_⟩:=h.coolAll v.ids
 exact Zhg (E:=E) (d:=d) (x:=x) hR hn hok rfl
theorem ZhW (h:Rel base σ0 X w0 σ M w a st) (hn:a.tmps.size=n) {m:Nat} {x v:Arg} (hok:okOp P n o (.stc m x v)=true) (hs:step E st (.stc m x v)=some st'):Goes base σ0 X w0 P o a w st':=by
 simp only[step,Option.bind_eq_some_iff] at hs
 obtain ⟨y,hy,hs⟩:=hs
 obtain ⟨M1,hR,_,_⟩:=h.coolAll y.ids
 exact Zhh (E:=E) (m:=m) (x:=x) (v:=v) hR hn hok hs
theorem ZhI (h:Rel base σ0 X w0 σ M w a st) (hn:a.tmps.size=n) {d:Nat} (hok:okOp P n o (.emp d)=true) (hs:step E st (.emp d)=some st'):Goes base σ0 X w0 P o a w st':=by
 simp only[okOp,Bool.and_eq_true] at hok
 obtain ⟨hd,hok⟩:=hok
 simp only[step,Option.some.injEq] at hs
 subst hs
 split at hok
 ·rename_i t ps ho
  simp only[Bool.and_eq_true] at hok
  obtain ⟨hps,ht⟩:=hok
  obtain ⟨e,he,hz⟩:=Zo ht
  obtain ⟨i,hi⟩:=Option.isSome_iff_exists.1 hz
  have hp:ps=#[]:=by simpa [Array.isEmpty_iff] using hps
  subst hp
  have hR:=h.pushed (w':=w.alloc (.cells #[] e)) (blk:=.cells #[] e (0,0)) rfl rfl rfl rfl
  refine Goes.val (x:=.emp) (v:=.slice (some ⟨w.heap.size,0,none⟩) 0 0) hR hn hd ?_ ⟨_,rfl⟩
  simp [execOp,ho,Instr.buildSlice,run_underlying he,sizeOf,typeInfo,hi,Instr.fill]
  have hm:∀ f:Nat→Value,Array.map f (Array.range 0)=#[]:=fun f=>by apply Array.eq_empty_of_size_eq_zero; simp
  rw [hm]
  rfl
 ·cases hok
theorem Zg1 (h:Rel base σ0 X w0 σ M w a st) (hn:a.tmps.size=n) {d:Nat} (hok:okOp P n o (.junk d)=true) (hs:step E st (.junk d)=some st'):Goes base σ0 X w0 P o a w st':=by
 simp only[okOp,Bool.and_eq_true] at hok
 obtain ⟨hd,hok⟩:=hok
 simp only[step,Option.some.injEq] at hs
 subst hs
 split at hok
 ·rename_i v ho
  exact Goes.val (v:=v) h hn hd (by simp only[execOp,ho]; rfl) trivial
 ·rename_i v ho
  exact Goes.val (v:=v) h hn hd (by simp only[execOp,ho]; rfl) trivial
 ·cases hok
theorem ZaO:∀ (k:Nat) (l:List Id),l.length≤k→l.eraseDups.Nodup
 | _,[],_=>by simp [List.eraseDups_nil]
 | 0,_::_,h=>by simp at h
 | k+1,x::l,h=>by
  rw [List.eraseDups_cons,List.nodup_cons]
  refine ⟨fun hm=>?_,ZaO k _ (Nat.le_trans (List.length_filter_le ..) (by simp at h; omega))⟩
  rw [List.mem_eraseDups,List.mem_filter] at hm
  simp at hm
theorem Zc4:∀ (ids:List Id) (xs:List Obj) (st st2:St),ids.Nodup→Zz ids xs st=some st2→xs.length=ids.length∧st2.s=st.s∧(∀ i,i∉ids→st2.o i=st.o i)∧∀ (j:Nat) id,ids[j]?=some id→∃ x,xs[j]?=some x∧st2.o id=some x∧ZaL (st.o id) x=true
 | [],[],st,st2,_,h=>by
  simp only[Zz,Option.some.injEq] at h
  subst h
  exact ⟨rfl,rfl,fun i _=>rfl,fun j id hj=>by simp at hj⟩
 | id :: ids,x::xs,st,st2,hnd,h=>by
  simp only[Zz] at h
  split at h
  ·rename_i hk
   rw [List.nodup_cons] at hnd
   obtain ⟨h1,h2,h3,h4⟩:=Zc4 ids xs _ st2 hnd.2 h
   refine ⟨by simp [h1],h2,fun i hi=>?_,fun j i hj=>?_⟩
   ·rw [h3 i (fun hm=>hi (List.mem_cons_of_mem _ hm))]
    simp [St.obj,show i≠id from fun e=>hi (by rw [e]; exact List.mem_cons_self ..)]
   ·cases j with
    | zero=>
     simp at hj; subst hj
     refine ⟨x,rfl,?_,hk⟩
     rw [h3 id hnd.1]; simp [St.obj]
    | succ j=>
     simp at hj
     obtain ⟨y,h5,h6,h7⟩:=h4 j i hj
     have hne:i≠id:=fun e=>hnd.1 (e▸List.mem_of_getElem? hj)
     refine ⟨y,by simpa using h5,h6,?_⟩
     simpa [St.obj,hne] using h7
  ·cases h
 | [],_::_,_,_,_,h=>by simp [Zz] at h
 | _::_,[],_,_,_,h=>by simp [Zz] at h
/-- What is out of a callee's reach, and where the objects lie that it is handed. -/
def outX (M:Nat→Prop) (σ:Sig) (ids:List Id):Nat→Prop:=fun b=>M b∧∀ id,id∈ids→∀ L,σ id=some L→¬L.has b
def posS (σ:Sig) (ids:List Id):Sig:=fun i=>match i with
 | .par j=>(ids[j]?).bind σ
 | .loc ..=>none
theorem ZaS {ids:List Id} {j:Nat} {id:Id} (h:ids[j]?=some id):posS σ ids (.par j)=σ id:=by show (ids[j]?).bind σ=_; rw [h]; rfl
theorem ZeV {ids:List Id} {j:Nat} {L:Loc} (h:posS σ ids (.par j)=some L):∃ id,id∈ids∧σ id=some L:=by
 cases hj:ids[j]? with
 | none=>rw [show posS σ ids (.par j)=(ids[j]?).bind σ from rfl,hj] at h; cases h
 | some id=>rw [ZaS hj] at h; exact ⟨id,List.mem_of_getElem? hj,h⟩
theorem Zft (h:Rel base σ0 X w0 σ M w a st) {ids:List Id} {ins:List Obj} {ts:List T} {vs:Array Value} (hnd:ids.Nodup) (hins:ids.mapM st.o=some ins) (hdata:ins.all Obj.data=true) (hvs:vs.size=ts.length)
    (hr1:∀ (j:Nat) t,ts[j]?=some t→∃ v,vs[j]?=some v∧RepT w M σ st.o t v):In w (outX M σ ids) (posS σ ids) M (ts.map (T.mapC (C.ren (Zat ids)))) ins vs:=by
  obtain ⟨hl2,hget⟩:=Zr hins
  have hstart:∀ i x,Zj ins i=some x→∃ j id,i=.par j∧ids[j]?=some id∧st.o id=some x:=by
    intro i x hi
    cases i with
    | loc t j=>cases hi
    | par j=>
      have hi':ins[j]?=some x:=hi
      have hlt:j<ids.length:=by rw [←hl2]; exact (List.getElem?_eq_some_iff.1 hi').1
      obtain ⟨y,h1,h2⟩:=hget j ids[j] (by simp [hlt])
      rw [hi'] at h1; cases h1
      exact ⟨j,ids[j],rfl,by simp [hlt],h2⟩
  have hsome:∀ i,(Zj ins i).isSome=true→∃ j id,i=.par j∧ids[j]?=some id∧(st.o id).isSome=true:=by
    intro i hi
    obtain ⟨x,hx⟩:=Option.isSome_iff_exists.1 hi
    obtain ⟨j,id,h1,h2,h3⟩:=hstart i x hx
    exact ⟨j,id,h1,h2,by rw [h3]; rfl⟩
  have k0:Zaa w w M M:=⟨Nat.le_refl _,fun _ _ _=>rfl,fun _ _ h=>h⟩
  refine ⟨by simp [hvs],fun j x hj=>?_,fun i x hx=>?_,fun i i' L L' b hi hi' hL hL' e e'=>?_,fun b hb=>?_,fun i L b hi hL hb=>?_,fun b hb=>⟨hb.1,h.ltM hb.1⟩,fun i x L hi hd hL=>?_,fun j hj=>?_⟩
  · rw [List.getElem?_map] at hj
    obtain ⟨t,ht,rfl⟩:=Option.map_eq_some_iff.1 hj
    obtain ⟨v,hv,hrep⟩:=hr1 j t ht
    refine ⟨v,hv,ZcC k0 (fun i q hi hs=>?_) hrep⟩
    obtain ⟨m,rfl,hm⟩:=ZdA hi
    obtain ⟨x,h1,h2⟩:=hget m i hm
    exact ⟨by show ins[m]?=_; rw [h1,h2],ZaS hm⟩
  · obtain ⟨j,id,rfl,h1,h2⟩:=hstart i x hx
    have hd1:x.data=true:=by
      simp only[List.all_eq_true] at hdata
      exact hdata x (List.mem_of_getElem? (show ins[j]?=some x from hx))
    exact ZaV hd1 k0 (ZaS h1) (fun L b hL hb=>h.inMb (by rw [h2]; rfl) hL hb) (h.obj id x h2)
  · obtain ⟨j,id,rfl,h1,h2⟩:=hsome i hi
    obtain ⟨j',id',rfl,h1',h2'⟩:=hsome i' hi'
    rw [ZaS h1] at hL
    rw [ZaS h1'] at hL'
    have:=h.inj id id' L L' b h2 h2' hL hL' e e'
    subst this
    rw [Zd9 hnd h1 h1']
  · by_cases hx:∃ id,id∈ids∧∃ L,σ id=some L∧L.has b
    · obtain ⟨id,hid,L,hL,e⟩:=hx
      obtain ⟨j,hj⟩:=List.mem_iff_getElem?.1 hid
      obtain ⟨x,h1,h2⟩:=hget j id hj
      exact .inr ⟨.par j,L,by show (ins[j]?).isSome=true; rw [h1]; rfl,by rw [ZaS hj]; exact hL,e⟩
    · exact .inl ⟨hb,fun id hid L hL e=>hx ⟨id,hid,L,hL,e⟩⟩
  · obtain ⟨j,id,rfl,h1,h2⟩:=hsome i hi
    rw [ZaS h1] at hL
    exact fun hx=>hx.2 id (List.mem_of_getElem? h1) L hL hb
  · obtain ⟨j,id,rfl,h1,h2⟩:=hstart i x hi
    rw [ZaS h1] at hL
    exact h.lone id x L h2 hd hL
  · show (ids[j]?).bind σ=none
    rw [List.getElem?_eq_none (by omega)]; rfl
theorem Zgt (hE:Zad P E) (h:Rel base σ0 X w0 σ M w a st) (hn:a.tmps.size=n) {d f:Nat} {xs:List Arg} (hok:okOp P n o (.callr d f xs)=true) (hs:step E st (.callr d f xs)=some st'):Does base σ0 X w0 P o a w st':=by
  simp only[okOp,Bool.and_eq_true] at hok
  obtain ⟨hd,hok⟩:=hok
  simp only[step,Option.bind_eq_some_iff] at hs
  obtain ⟨ts,hts,ins,hins,hs⟩:=hs
  split at hs
  · rename_i hdata
    simp only[Option.bind_eq_some_iff,Option.map_eq_some_iff] at hs
    obtain ⟨r,hr,st2,hst2,rfl⟩:=hs
    split at hok
    · rename_i c ho
      obtain ⟨hxs,hexec⟩:=ZbU (P:=P) (a:=a) (w:=w) ho hok
      obtain ⟨hl1,hr1⟩:=Zbo h hn xs c.args.toList ts hxs hts
      have hnd:=ZaO _ (ts.flatMap T.ids) (Nat.le_refl _)
      generalize hids:(ts.flatMap T.ids).eraseDups=ids at *
      obtain ⟨hl2,hr2⟩:=Zr hins
      obtain ⟨q1,q2,q3,q4⟩:=Zc4 ids r.out st st2 hnd hst2
      have hget:∀ (j:Nat) id,ids[j]?=some id→∃ x,ins[j]?=some x∧st.o id=some x:=hr2
      have hlive:∀ id,id∈ids→(st.o id).isSome=true:=by
        intro id hid
        obtain ⟨j,hj⟩:=List.mem_iff_getElem?.1 hid
        obtain ⟨x,_,h2⟩:=hget j id hj
        rw [h2]; rfl
      obtain ⟨hsize,hIn⟩:(c.args.map a.eval).size=ts.length∧In w (outX M σ ids) (posS σ ids) M (ts.map (T.mapC (C.ren (Zat ids)))) ins (c.args.map a.eval):=by
        have hs:(c.args.map a.eval).size=ts.length:=by simp [←hl1]
        exact ⟨hs,Zft h hnd hins hdata hs (fun j t ht=>by
          obtain ⟨v,hv,hrep⟩:=hr1 j t ht
          exact ⟨v,by rw [←hv,←Array.getElem?_toList]; simp,hrep⟩)⟩
      have hσc:∀ (j:Nat) id,ids[j]?=some id→posS σ ids (.par j)=σ id:=fun j id hj=>ZaS hj
      intro next Q hnext
      unfold Oper.wp
      rw [hexec]
      refine Calls.mono (hE f _ ins r hr w (outX M σ ids) (posS σ ids) M _ hIn) ?_
      rintro e w' ⟨σn,N,Mo,ys,rfl,hOut⟩
      have hMo:∀ b,Mo b↔M b∨N b:=by
        intro b
        rw [hOut.all_]
        constructor
        · rintro (hb|hb|⟨j,L,hj,hL,hLb⟩)
          · exact .inl hb.1
          · exact .inr hb
          · have hlt:j<ids.length:=by rw [←q1]; exact hj
            rw [hσc j ids[j] (by simp [hlt])] at hL
            exact .inl (h.inMb (hlive _ (List.getElem_mem hlt)) hL hLb)
        · rintro (hb|hb)
          · by_cases hx:∃ id,id∈ids∧∃ L,σ id=some L∧L.has b
            · obtain ⟨id,hid,L,hL,e⟩:=hx
              obtain ⟨j,hj⟩:=List.mem_iff_getElem?.1 hid
              exact .inr (.inr ⟨j,L,by rw [q1]; exact (List.getElem?_eq_some_iff.1 hj).1,by rw [hσc j id hj]; exact hL,e⟩)
            · exact .inl ⟨hb,fun id hid L hL e=>hx ⟨id,hid,L,hL,e⟩⟩
          · exact .inr (.inl hb)
      have hsame:∀ b,b<w.heap.size→(∀ id,id∈ids→∀ L,σ id=some L→¬L.has b)→w'.heap[b]?=w.heap[b]?:=fun b hb hx=>hOut.same b hb (fun j L hL=>by
        cases hj:ids[j]? with
        | none=>rw [show posS σ ids (.par j)=(ids[j]?).bind σ from rfl,hj] at hL; cases hL
        | some id=>rw [hσc j id hj] at hL; exact hx id (List.mem_of_getElem? hj) L hL)
      have hfr:=hOut.fresh (q1.trans hl2.symm)
      have hC:=h.called (N:=N) hfr hOut.size hOut.os hOut.tape hOut.output (ids:=ids) hsame hlive (st2:=st2) q2 q3 (fun id hid=>by
        obtain ⟨j,hj⟩:=List.mem_iff_getElem?.1 hid
        obtain ⟨x,h1,h2,h3⟩:=q4 j id hj
        obtain ⟨hd1,hr⟩:=hOut.oobj j x h1
        exact ⟨x,h2,h3,ZaV hd1 ⟨Nat.le_refl _,fun _ _ _=>rfl,fun b _ hb=>(hMo b).2 hb⟩ (hσc j id hj).symm (fun L b hL hb=>.inl (by rw [hσc j id hj] at hL; exact h.inMb (hlive id hid) hL hb)) hr⟩)
      obtain ⟨σ',M',hF⟩:=ZbZ hC hn hd hOut (fun b hb=>⟨fun hx=>by have:=(h.sup b hx).2; have:=(hfr b hb).1; omega,.inl (Nat.le_trans h.size (hfr b hb).1)⟩) (.inl (fun b hb=>(hMo b).2 hb))
      exact hnext σ' M' w' _ hF
    · cases hok
  · cases hs
end Go.Proofs.YtfajcehhcjmofaaV
