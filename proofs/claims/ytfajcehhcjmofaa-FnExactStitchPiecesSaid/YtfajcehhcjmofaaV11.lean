/- Bytes as a string; structs compared; new objects. No conditions but those that the lemmas state. -/
import Derived.Test.YtfajcehhcjmofaaV10
namespace Go.Proofs.YtfajcehhcjmofaaV
open Go Go.RowKit
set_option linter.unusedVariables false
set_option linter.unusedSimpArgs false
variable {base:Nat} {σ0:Sig} {X:Nat→Prop} {w0 w:World} {σ:Sig} {M:Nat→Prop} {a:Act} {st st':St} {P:Program} {n:Nat} {o:Oper} {E:Zb}
variable {ob:Id→Option Obj}
/-- What a slice that is data looks like in memory: its cells one after the other. -/
theorem Ze1 {z:Nat} {rows:List (List U)} {v:Value} (hr:RepU w M (.sl z rows) v):(rows=[]∧∃ A c,v=.slice A 0 c)∨∃ A c,v=.slice (some A) rows.length c∧(∀ row,row∈rows→row.length=z)∧
  ∀ i j,i<rows.length→j<z→∃ y,w.cell? (A.add (i*z+j))=some y∧∀ row x,rows[i]?=some row→row[j]?=some x→RepU w M x y:=by
 cases hr with
 | sl0=>exact .inl ⟨rfl,_,_,rfl⟩
 | sl _ _ B c V hle hb hrow hcell hrep=>exact .inr ⟨B,c,rfl,hrow,fun i j hi hj=>⟨_,hcell i j hi hj,fun row x h1 h2=>hrep i j row x h1 h2⟩⟩
theorem Zfj (h:Rel base σ0 X w0 σ M w a st) {c:C} {z:Nat} {rows:List (List U)} {v:Value} (hc:RepC w M σ st.o c v) (hr:st.rowsOf c=some (z,rows)):RepU w (fun _=>False) (.sl z rows) v:=by
 unfold St.rowsOf at hr
 split at hr
 ·cases hr
  exact RepU.keep (M:=M) ⟨Nat.le_refl _,fun _ _ _=>rfl,fun _ _ h=>h.elim⟩ hc
 ·rename_i id0 m
  split at hr
  ·rename_i z' r ho
   split at hr
   ·cases hr
    exact ZcD h (fun _ h=>h.elim) hc ho (fun _ _ h=>h)
   ·cases hr
  ·cases hr
 ·cases hr
theorem Zdk (f:Value→ByteArray→Sem (ForInStep ByteArray)) (hf:∀ (k:Int) s,f (.int .u8 k) s=pure (ForInStep.yield (s.push (UInt8.ofNat k.toNat)))) (w:World):∀ (l:List Value) (bs:List UInt8) (s:ByteArray),l.length=bs.length→(∀ (j:Nat) v b,l[j]?=some v→bs[j]?=some b→∃ k:Int,v=.int .u8 k∧b=UInt8.ofNat k.toNat)→
  (forIn l s f).run P w=.ok ⟨s.data++bs.toArray⟩ w
 | [],[],s,_,_=>by simp
 | v::l,b::bs,s,hl,h=>by
  obtain ⟨k,rfl,rfl⟩:=h 0 v b rfl rfl
  simp only[List.forIn_cons,hf,Sem.run_bind,Sem.run_pure,Result.andThen_ok]
  rw [Zdk f hf w l bs _ (by simpa using hl) (fun j v b hv hb=>h (j+1) v b (by simpa using hv) (by simpa using hb))]
  congr 2
  simp [ByteArray.push]
 | [],_::_,_,hl,_=>by simp at hl
 | _::_,[],_,hl,_=>by simp at hl
theorem Zr {α β:Type} {f:α→Option β}:∀ {l:List α} {r:List β},l.mapM f=some r→r.length=l.length∧∀ (j:Nat) x,l[j]?=some x→∃ y,r[j]?=some y∧f x=some y
 | [],r,h=>by simp at h; subst h; exact ⟨rfl,fun j x hj=>by simp at hj⟩
 | x::l,r,h=>by
  simp only[List.mapM_cons,Option.bind_eq_bind,Option.bind_eq_some_iff,Option.pure_def,Option.some.injEq] at h
  obtain ⟨y,hy,ys,hys,rfl⟩:=h
  obtain ⟨h1,h2⟩:=Zr hys
  refine ⟨by simp [h1],fun j x' hj=>?_⟩
  cases j with
  | zero=>simp at hj; subst hj; exact ⟨y,rfl,hy⟩
  | succ j=>simp at hj; obtain ⟨y',h3,h4⟩:=h2 j x' hj; exact ⟨y',by simpa using h3,h4⟩
theorem ZgX (h:Rel base σ0 X w0 σ M w a st) (hn:a.tmps.size=n) {d:Nat} {x:Arg} (hok:okOp P n o (.bstr d x)=true) (hs:step E st (.bstr d x)=some st'):Goes base σ0 X w0 P o a w st':=by
 simp only[okOp,Bool.and_eq_true] at hok
 obtain ⟨hd,hok⟩:=hok
 simp only[step,Option.bind_eq_some_iff] at hs
 obtain ⟨c,hc,r,hr,hs⟩:=hs
 split at hs
 ·rename_i h1
  obtain ⟨z,rows⟩:=r
  simp only at h1 hs
  subst h1
  simp only[Option.map_eq_some_iff] at hs
  obtain ⟨bs,hbs,rfl⟩:=hs
  obtain ⟨hbl,hbg⟩:=Zr hbs
  split at hok
  ·rename_i s t y ho
   simp only[Bool.and_eq_true] at hok
   obtain ⟨⟨hx,hsl⟩,ht⟩:=hok
   obtain ⟨e,he,hu8⟩:=Zo hsl
   have hrc:=Zeb h hn hx hc
   have hru:=Zfj h hrc hr
   have hrun:(convert s t (a.eval y)).run P w=.ok (.string ⟨bs.toArray⟩) w:=by
    rcases Ze1 hru with ⟨rfl,A,cp,hv⟩|⟨A,cp,hv,hrow,hcell⟩
    ·have:bs=[]:=List.eq_nil_of_length_eq_zero (by rw [hbl]; rfl)
     subst this
     rw [hv,run_convert_bytes_string w s t e A 0 cp he (Zcd hu8) (Zab ht)]
     cases A with
     | none=>rfl
     | some A=>simp [Conv.bytesToString,loadCells,loadCellsFrom]; rfl
    ·rw [hv,run_convert_bytes_string w s t e (some A) rows.length cp he (Zcd hu8) (Zab ht)]
     let vs:List Value:=(List.range rows.length).map fun j=>(w.cell? (A.add j)).getD undef
     have hvl:vs.length=rows.length:=by simp [vs]
     have hvs:∀ (j:Nat) v,vs[j]?=some v→w.cell? (A.add j)=some v∧∀ b,bs[j]?=some b→∃ k:Int,v=.int .u8 k∧b=UInt8.ofNat k.toNat:=by
      intro j v hj
      have hjm:j<rows.length:=by rw [←hvl]; exact (List.getElem?_eq_some_iff.1 hj).1
      simp only[vs,List.getElem?_map,List.getElem?_range hjm,Option.map_some,Option.some.injEq] at hj
      obtain ⟨u,hu,hrep⟩:=hcell j 0 hjm (by omega)
      rw [Nat.mul_one,Nat.add_zero] at hu
      rw [hu,Option.getD_some] at hj
      subst hj
      refine ⟨hu,fun b hb=>?_⟩
      obtain ⟨b',hb',hf⟩:=hbg j rows[j] (by simp [hjm])
      rw [hb] at hb'; cases hb'
      unfold ZaX at hf
      split at hf
      ·rename_i k hk
       cases hf
       refine ⟨k,?_,rfl⟩
       have:=hrep rows[j] (.int .u8 k) (by simp [hjm]) (by rw [hk]; rfl)
       cases this
       rfl
      ·cases hf
     have hld:=run_loadCells_list (P:=P) w A vs (fun j v hj=>(hvs j v hj).1)
     rw [hvl] at hld
     simp only[Conv.bytesToString,Sem.run_bind,hld,Result.andThen_ok]
     rw [←Array.forIn_toList]
     simp only
     rw [Zdk _ (fun _ _=>rfl) w vs bs _ (by rw [hvl,hbl]) (fun j v b hv hb=>(hvs j v hv).2 b hb)]
     simp
   refine Goes.val (v:=.string ⟨bs.toArray⟩) h hn hd ?_ (RepU.str _)
   simp only[execOp,ho,Sem.run_bind,hrun,Result.andThen_ok,Sem.run_pure]
  ·cases hok
 ·cases hs
end Go.Proofs.YtfajcehhcjmofaaV
