/- The simplifier's rules for regions whose order is drawn. No conditions. -/
import Derived.Test.YtfajcehhcjmofaaS5
namespace Go.Proofs.YtfajcehhcjmofaaV
open Go Go.RowKit
set_option linter.unusedVariables false
set_option linter.unusedSimpArgs false
/-- What an operation that only reads puts into its slot. -/
theorem sv:(∀ (E:Zb) (st:St) d a,step E st (.mv d a)=Option.map (st.put d) ((some (st.get a))))∧
  (∀ (E:Zb) (st:St) d c a b,step E st (.pick d c a b)=Option.map (st.put d) ((Zb8 (st.get c) (st.get a) (st.get b))))∧
  (∀ (E:Zb) (st:St) d zero ps,step E st (.build d zero ps)=Option.map (st.put d) ((ZdM st (zero.map .u) ps)))∧
  (∀ (E:Zb) (st:St) d a n agg,step E st (.ld d a n agg)=Option.map (st.put d) ((vld st (st.get a) n agg)))∧
  (∀ (E:Zb) (st:St) d a off,step E st (.fa d a off)=Option.map (st.put d) ((vfa (st.get a) off)))∧
  (∀ (E:Zb) (st:St) d sz x i,step E st (.ia d sz x i)=Option.map (st.put d) ((via st sz (st.get x) (st.get i))))∧
  (∀ (E:Zb) (st:St) d x i,step E st (.ix d x i)=Option.map (st.put d) ((vix (st.get x) (st.get i))))∧
  (∀ (E:Zb) (st:St) d op x y,step E st (.bin d op x y)=Option.map (st.put d) ((vbin op (st.get x) (st.get y))))∧
  (∀ (E:Zb) (st:St) d ks ne x y,step E st (.eqs d ks ne x y)=Option.map (st.put d) ((veqs ks ne (st.get x) (st.get y))))∧
  (∀ (E:Zb) (st:St) d ne x y,step E st (.beq d ne x y)=Option.map (st.put d) ((vbeq ne (st.get x) (st.get y))))∧
  (∀ (E:Zb) (st:St) d ne x,step E st (.isn d ne x)=Option.map (st.put d) ((visn ne (st.get x))))∧
  (∀ (E:Zb) (st:St) d x,step E st (.not d x)=Option.map (st.put d) ((vnot (st.get x))))∧
  (∀ (E:Zb) (st:St) d x,step E st (.neg d x)=Option.map (st.put d) ((vneg (st.get x))))∧
  (∀ (E:Zb) (st:St) d k x,step E st (.conv d k x)=Option.map (st.put d) ((ZdK k (st.get x))))∧
  (∀ (E:Zb) (st:St) d x,step E st (.cstr d x)=Option.map (st.put d) ((ZdL (st.get x))))∧
  (∀ (E:Zb) (st:St) d x,step E st (.bstr d x)=Option.map (st.put d) ((ZcG st (st.get x))))∧
  (∀ (E:Zb) (st:St) d x,step E st (.len d x)=Option.map (st.put d) ((vlen (st.get x))))∧
  (∀ (E:Zb) (st:St) d x,step E st (.slen d x)=Option.map (st.put d) ((ZdN (st.get x))))∧
  (∀ (E:Zb) (st:St) d mx x y,step E st (.mnmx d mx x y)=Option.map (st.put d) ((ZcH mx (st.get x) (st.get y))))∧
  (∀ (E:Zb) (st:St) d x lo hi,step E st (.ssl d x lo hi)=Option.map (st.put d) ((vssl (st.get x) (lo.map st.get) (hi.map st.get))))∧
  (∀ (E:Zb) (st:St) d x i,step E st (.ext d x i)=Option.map (st.put d) ((vext (st.get x) i)))∧
  (∀ (E:Zb) (st:St) d x off n agg,step E st (.fld d x off n agg)=Option.map (st.put d) ((vfld (st.get x) off n agg)))∧
  (∀ (E:Zb) (st:St) d x,step E st (.nilc d x)=Option.map (st.put d) ((Zc8 (st.get x)))):=by
  refine ⟨?_,?_,?_,?_,?_,?_,?_,?_,?_,?_,?_,?_,?_,?_,?_,?_,?_,?_,?_,?_,?_,?_,?_⟩
  · exact fun E st d a=>rfl
  · exact fun E st d c a b=>by simp only[step,Zb8]; cases (st.get c).bool?<;>rfl
  · exact fun E st d zero ps=>by simp only[step,ZdM]; cases st.fill (zero.map .u) ps<;>rfl
  · intro E st d a n agg
    simp only[step,vld]
    split
    · rename_i id i o hg
      simp only[hg]
      cases st.read id i o n with
      | none=>rfl
      | some cs=>simp only[Option.bind_some]; cases Zl agg cs<;>rfl
    · rename_i cs hg
      simp only[hg]
      cases seg cs 0 n with
      | none=>rfl
      | some cs=>simp only[Option.bind_some]; cases Zl agg (cs.map .u)<;>rfl
    · rename_i cs hg
      simp only[hg]
      cases seg cs 0 n with
      | none=>rfl
      | some cs=>simp only[Option.bind_some]; cases Zl agg (cs.map .u)<;>rfl
    · rename_i h1 h2 h3
      generalize st.get a=x at h1 h2 h3 ⊢
      split<;>first|rfl|(exact absurd rfl (h1 _ _ _))|(exact absurd rfl (h2 _))|(exact absurd rfl (h3 _))
  · intro E st d a off
    simp only[step,vfa]
    cases st.get a with
    | t x=>cases x with
      | sc c=>cases c<;>rfl
      | ag cs=>rfl
    | _=>rfl
  · intro E st d sz x i
    simp only[step,via]
    cases (st.get i).int? with
    | none=>rfl
    | some n=>
      simp only[Option.bind_some]
      cases st.get x with
      | t x =>
        cases x with
        | sc c=>
          cases c with
          | u u=>
            cases u with
            | sl z rows=>simp only; split<;>(try cases rows[n.toNat]?)<;>rfl
            | _=>rfl
          | own id m=>
            simp only
            cases st.o id with
            | none=>rfl
            | some ob=>cases ob<;>simp only<;>(try split)<;>rfl
          | down id m=>
            simp only
            cases st.o id with
            | none=>rfl
            | some ob=>cases ob<;>simp only<;>(try split)<;>rfl
          | _=>rfl
        | ag cs=>rfl
      | _=>rfl
  · intro E st d x i
    simp only[step,vix]
    cases (st.get i).int? with
    | none=>rfl
    | some n=>
      simp only[Option.bind_some]
      cases st.get x with
      | t x =>
        cases x with
        | sc c=>
          cases c with
          | u u=>
            cases u with
            | str s=>simp only; split<;>(try cases s[n.toNat]?)<;>rfl
            | _=>rfl
          | _=>rfl
        | ag cs=>rfl
      | _=>rfl
  · intro E st d op x y
    simp only[step,vbin]
    cases (st.get x).u? with
    | none=>rfl
    | some a=>
      cases (st.get y).u? with
      | none=>rfl
      | some c=>simp only[Option.bind_some]; cases bin2 op a c<;>rfl
  · intro E st d ks ne x y
    simp only[step,veqs]
    split
    · rename_i xs ys h1 h2
      simp only[h1,h2]
      cases Zg ks xs ys<;>rfl
    · rename_i h1
      split
      · rename_i h2 h3; exact absurd h3 (h1 _ _ h2)
      · rfl
  · intro E st d ne x y
    simp only[step,vbeq]
    cases (st.get x).bool? with
    | none=>rfl
    | some a=>cases (st.get y).bool?<;>rfl
  · intro E st d ne x
    simp only[step,visn]
    cases st.get x with
    | t x =>
      cases x with
      | sc c=>
        cases c with
        | u u=>
          cases u with
          | sl z rows=>cases rows<;>rfl
          | _=>rfl
        | own id n=>cases n<;>rfl
        | _=>rfl
      | ag cs=>rfl
    | _=>rfl
  · exact fun E st d x=>by simp only[step,vnot]; cases (st.get x).bool?<;>rfl
  · exact fun E st d x=>by simp only[step,vneg]; cases (st.get x).int?<;>rfl
  · intro E st d k x
    simp only[step,ZdK]
    cases (st.get x).u? with
    | none=>rfl
    | some u=>cases u<;>rfl
  · intro E st d x
    simp only[step,ZdL]
    cases (st.get x).u? with
    | none=>rfl
    | some u=>cases u<;>rfl
  · intro E st d x
    simp only[step,ZcG]
    cases (st.get x).c? with
    | none=>rfl
    | some c=>
      simp only[Option.bind_some]
      cases st.rowsOf c with
      | none=>rfl
      | some r=>
        simp only[Option.bind_some]
        split
        · cases r.2.mapM ZaX<;>rfl
        · rfl
  · intro E st d x
    simp only[step,vlen]
    cases (st.get x).c? with
    | none=>rfl
    | some c=>simp only[Option.bind_some]; cases lenOf c<;>rfl
  · intro E st d x
    simp only[step,ZdN]
    cases (st.get x).u? with
    | none=>rfl
    | some u=>cases u<;>rfl
  · intro E st d mx x y
    simp only[step,ZcH]
    cases (st.get x).u? with
    | none=>rfl
    | some a=>
      cases (st.get y).u? with
      | none=>rfl
      | some c=>simp only[Option.bind_some]; cases mnmx mx a c<;>rfl
  · intro E st d x lo hi
    simp only[step,vssl,ZbG]
    cases (st.get x).u? with
    | none=>rfl
    | some u=>
      cases u with
      | str s=>simp only; cases vcut s.length (lo.map st.get) (hi.map st.get)<;>rfl
      | _=>rfl
  · intro E st d x i
    simp only[step,vext]
    cases st.get x with
    | tup xs=>simp only; cases xs[i]?<;>rfl
    | t x=>cases x with
      | sc c=>rfl
      | ag cs=>rfl
    | _=>rfl
  · intro E st d x off n agg
    simp only[step,vfld]
    cases st.get x with
    | t x=>cases x with
      | sc c=>rfl
      | ag cs=>
        simp only
        cases seg cs off n with
        | none=>rfl
        | some cs=>simp only[Option.bind_some]; cases Zl agg cs<;>rfl
    | _=>rfl
  · intro E st d x
    simp only[step,Zc8]
    cases st.get x with
    | t x=>cases x with
      | sc c=>cases c<;>rfl
      | ag cs=>rfl
    | _=>rfl
theorem Zs {E:Zb} {st:St} {op:IOp} {d:Nat} {v:Option D} (h:step E st op=Option.map (st.put d) v) (hd:op.dst=some d):fxF E st op=v.map fun x=>(⟨some d,x,[],Zt st op⟩:Fx):=by
 unfold fxF
 rw [h,hd]
 cases v with
 | none=>rfl
 | some x=>simp [Zc]
def fxv (d:Nat) (ids:List Id) (v:Option D):Option Fx:=v.map fun x=>⟨some d,x,[],ids⟩
/-- What is read by a copy: a pointer's copy reads no object. -/
def Zbr (x:D):List Id:=if x.isPtr=true then [] else x.ids
theorem Zjb (E:Zb) (st:St) (d:Nat) (a:Arg):fx E st (.mv d a)=fxv d (Zbr (st.get a)) (some (st.get a)):=by
 have h0:fx E st (.mv d a)=if (st.get a).isPtr=true then some ⟨some d,st.get a,[],[]⟩ else fxF E st (.mv d a):=by simp only[fx]
 have h1:fxF E st (.mv d a)=fxv d (Zt st (.mv d a)) (some (st.get a)):=Zs (sv.1 E st d a) rfl
 have h2:Zt st (.mv d a)=(st.get a).ids:=by simp [Zt,IOp.args]
 rw [h0,h1,h2]
 unfold Zbr
 split<;>rfl
/-- The effects of operations that only read. -/
theorem vfx:(∀ (E:Zb) (st:St) d a,fx E st (.mv d a)=fxv d (Zbr (st.get a)) (some (st.get a)))∧
 (∀ (E:Zb) (st:St) d c a b,fx E st (.pick d c a b)=fxv d (Zt st (.pick d c a b)) (Zb8 (st.get c) (st.get a) (st.get b)))∧
 (∀ (E:Zb) (st:St) d zero ps,fx E st (.build d zero ps)=fxv d (Zt st (.build d zero ps)) (ZdM st (zero.map .u) ps))∧
 (∀ (E:Zb) (st:St) d a n agg,fx E st (.ld d a n agg)=fxv d (Zt st (.ld d a n agg)) (vld st (st.get a) n agg))∧
 (∀ (E:Zb) (st:St) d a off,fx E st (.fa d a off)=fxv d (Zt st (.fa d a off)) (vfa (st.get a) off))∧
 (∀ (E:Zb) (st:St) d sz x i,fx E st (.ia d sz x i)=fxv d (Zt st (.ia d sz x i)) (via st sz (st.get x) (st.get i)))∧
 (∀ (E:Zb) (st:St) d x i,fx E st (.ix d x i)=fxv d (Zt st (.ix d x i)) (vix (st.get x) (st.get i)))∧
 (∀ (E:Zb) (st:St) d op x y,fx E st (.bin d op x y)=fxv d (Zt st (.bin d op x y)) (vbin op (st.get x) (st.get y)))∧
 (∀ (E:Zb) (st:St) d ks ne x y,fx E st (.eqs d ks ne x y)=fxv d (Zt st (.eqs d ks ne x y)) (veqs ks ne (st.get x) (st.get y)))∧
 (∀ (E:Zb) (st:St) d ne x y,fx E st (.beq d ne x y)=fxv d (Zt st (.beq d ne x y)) (vbeq ne (st.get x) (st.get y)))∧
 (∀ (E:Zb) (st:St) d ne x,fx E st (.isn d ne x)=fxv d (Zt st (.isn d ne x)) (visn ne (st.get x)))∧
 (∀ (E:Zb) (st:St) d x,fx E st (.not d x)=fxv d (Zt st (.not d x)) (vnot (st.get x)))∧
 (∀ (E:Zb) (st:St) d x,fx E st (.neg d x)=fxv d (Zt st (.neg d x)) (vneg (st.get x)))∧
 (∀ (E:Zb) (st:St) d k x,fx E st (.conv d k x)=fxv d (Zt st (.conv d k x)) (ZdK k (st.get x)))∧
 (∀ (E:Zb) (st:St) d x,fx E st (.cstr d x)=fxv d (Zt st (.cstr d x)) (ZdL (st.get x)))∧
 (∀ (E:Zb) (st:St) d x,fx E st (.bstr d x)=fxv d (Zt st (.bstr d x)) (ZcG st (st.get x)))∧
 (∀ (E:Zb) (st:St) d x,fx E st (.len d x)=fxv d (Zt st (.len d x)) (vlen (st.get x)))∧
 (∀ (E:Zb) (st:St) d x,fx E st (.slen d x)=fxv d (Zt st (.slen d x)) (ZdN (st.get x)))∧
 (∀ (E:Zb) (st:St) d mx x y,fx E st (.mnmx d mx x y)=fxv d (Zt st (.mnmx d mx x y)) (ZcH mx (st.get x) (st.get y)))∧
 (∀ (E:Zb) (st:St) d x lo hi,fx E st (.ssl d x lo hi)=fxv d (Zt st (.ssl d x lo hi)) (vssl (st.get x) (lo.map st.get) (hi.map st.get)))∧
 (∀ (E:Zb) (st:St) d x i,fx E st (.ext d x i)=fxv d (Zt st (.ext d x i)) (vext (st.get x) i))∧
 (∀ (E:Zb) (st:St) d x off n agg,fx E st (.fld d x off n agg)=fxv d (Zt st (.fld d x off n agg)) (vfld (st.get x) off n agg))∧
 (∀ (E:Zb) (st:St) d x,fx E st (.nilc d x)=fxv d (Zt st (.nilc d x)) (Zc8 (st.get x))):=
 ⟨Zjb,fun E st d c a b=>Zs (sv.2.1 E st d c a b) rfl,fun E st d zero ps=>Zs (sv.2.2.1 E st d zero ps) rfl,fun E st d a n agg=>Zs (sv.2.2.2.1 E st d a n agg) rfl,fun E st d a off=>Zs (sv.2.2.2.2.1 E st d a off) rfl,fun E st d sz x i=>Zs (sv.2.2.2.2.2.1 E st d sz x i) rfl,fun E st d x i=>Zs (sv.2.2.2.2.2.2.1 E st d x i) rfl,fun E st d op x y=>Zs (sv.2.2.2.2.2.2.2.1 E st d op x y) rfl,fun E st d ks ne x y=>Zs (sv.2.2.2.2.2.2.2.2.1 E st d ks ne x y) rfl,fun E st d ne x y=>Zs (sv.2.2.2.2.2.2.2.2.2.1 E st d ne x y) rfl,fun E st d ne x=>Zs (sv.2.2.2.2.2.2.2.2.2.2.1 E st d ne x) rfl,fun E st d x=>Zs (sv.2.2.2.2.2.2.2.2.2.2.2.1 E st d x) rfl,fun E st d x=>Zs (sv.2.2.2.2.2.2.2.2.2.2.2.2.1 E st d x) rfl,fun E st d k x=>Zs (sv.2.2.2.2.2.2.2.2.2.2.2.2.2.1 E st d k x) rfl,fun E st d x=>Zs (sv.2.2.2.2.2.2.2.2.2.2.2.2.2.2.1 E st d x) rfl,fun E st d x=>Zs (sv.2.2.2.2.2.2.2.2.2.2.2.2.2.2.2.1 E st d x) rfl,fun E st d x=>Zs (sv.2.2.2.2.2.2.2.2.2.2.2.2.2.2.2.2.1 E st d x) rfl,fun E st d x=>Zs (sv.2.2.2.2.2.2.2.2.2.2.2.2.2.2.2.2.2.1 E st d x) rfl,fun E st d mx x y=>Zs (sv.2.2.2.2.2.2.2.2.2.2.2.2.2.2.2.2.2.2.1 E st d mx x y) rfl,fun E st d x lo hi=>Zs (sv.2.2.2.2.2.2.2.2.2.2.2.2.2.2.2.2.2.2.2.1 E st d x lo hi) rfl,fun E st d x i=>Zs (sv.2.2.2.2.2.2.2.2.2.2.2.2.2.2.2.2.2.2.2.2.1 E st d x i) rfl,fun E st d x off n agg=>Zs (sv.2.2.2.2.2.2.2.2.2.2.2.2.2.2.2.2.2.2.2.2.2.1 E st d x off n agg) rfl,fun E st d x=>Zs (sv.2.2.2.2.2.2.2.2.2.2.2.2.2.2.2.2.2.2.2.2.2.2 E st d x) rfl⟩
/-- What the beginning of a drawn region does for one operation. -/
def Zh (st:St) (m:Nat):IOp→St
 | .alloc d _|.nilr d _|.box d _|.lit d _ _ _|.mk d _ _ _ _=>st.cool (.loc d 0)
 | .app d _ _ _ _=>if m=0 then st else st.cool (.loc d 0)
 | .call d _ _|.callr d _ _=>st.coolTo d m
 | _=>st
/-! ### Regions -/
noncomputable def KD (F:Nat→Option IFn) (fin:St→Option Ret) (is:List Za) (gs:List (GOp×List Nat)) (done:List Fx) (st:St):Option Ret:=(Zy (EE F) gs done st).bind (KK F fin is)
noncomputable def KE (F:Nat→Option IFn) (fin:St→Option Ret) (is:List Za) (gs:List (GOp×List Nat)) (free:List Nat) (done:List Fx) (st:St) (e:Option Fx):Option Ret:=e.bind fun e=>if ZaN done e free=true then KD F fin is gs (done++[e]) (e.app st) else none
noncomputable def KG (F:Nat→Option IFn) (fin:St→Option Ret) (is:List Za) (gs:List (GOp×List Nat)) (o:IOp) (t:Nat) (b:Bool) (free:List Nat) (done:List Fx) (st:St) (x:D):Option Ret:=(ZaJ x).bind fun y=>if y=some b then KE F fin is gs free done (pin st t y) (fx (EE F) (pin st t y) o) else KE F fin is gs free done (pin st t y) (some ⟨o.dst,DUnd,[],[]⟩)
noncomputable def KF (F:Nat→Option IFn) (fin:St→Option Ret) (is:List Za) (gs:List (GOp×List Nat)) (done:List Fx) (st:St) (ok:Bool) (e:Fx):Option Ret:=if ok=true then KD F fin is gs (done++[e]) (e.app st) else none
noncomputable def KH (F:Nat→Option IFn) (fin:St→Option Ret) (is:List Za) (gs:List (GOp×List Nat)) (done:List Fx) (st:St):Option Ret:=KD F fin is gs done st
section
variable {F:Nat→Option IFn} {fin:St→Option Ret} {is:List Za} {gs:List (GOp×List Nat)} {free:List Nat} {done done':List Fx} {st st':St} {o:IOp} {t:Nat} {b:Bool}
@[congr] theorem ZiQ {v v':Option Fx} (h:v=v'):KE F fin is gs free done st v=KE F fin is gs free done st v':=by rw [h]
@[congr] theorem ZiS {v v':D} (h:v=v'):KG F fin is gs o t b free done st v=KG F fin is gs o t b free done st v':=by rw [h]
@[congr] theorem ZiR {e:Fx} {v v':Bool} (h:v=v'):KF F fin is gs done st v e=KF F fin is gs done st v' e:=by rw [h]
@[congr] theorem ZiT (h1:done=done') (h2:st=st'):KH F fin is gs done st=KH F fin is gs done' st':=by rw [h1,h2]
end
noncomputable def KW (F:Nat→Option IFn) (fin:St→Option Ret) (is:List Za) (gs:List (GOp×List Nat)) (done:List Fx) (st:St):Option Ret:=KD F fin is gs (done++[noFx]) st
noncomputable def KZ (F:Nat→Option IFn) (fin:St→Option Ret) (is:List Za) (gs:List (GOp×List Nat)) (o:IOp) (free:List Nat) (done:List Fx) (st:St) (sol:Bool):Option Ret:=(if sol=true then (Zaf (EE F) st ⟨o,none⟩).bind fun st=>Zy (EE F) gs (done++[noFx]) st else
 (gfx (EE F) st ⟨o,none⟩).bind fun e=>if ZaN done e free then Zy (EE F) gs (done++[e]) (e.app st) else none).bind (KK F fin is)
noncomputable def KY (F:Nat→Option IFn) (fin:St→Option Ret) (is:List Za) (gs:List (GOp×List Nat)) (o:IOp) (t:Nat) (b:Bool) (free:List Nat) (done:List Fx) (st:St) (sol:Bool):Option Ret:=(if sol=true then (Zaf (EE F) st ⟨o,some (t,b)⟩).bind fun st=>Zy (EE F) gs (done++[noFx]) st else
 (gfx (EE F) st ⟨o,some (t,b)⟩).bind fun e=>if ZaN done e free then Zy (EE F) gs (done++[e]) (e.app st) else none).bind (KK F fin is)
@[congr] theorem ZiW {F:Nat→Option IFn} {fin:St→Option Ret} {is:List Za} {gs:List (GOp×List Nat)} {o:IOp} {free:List Nat} {done:List Fx} {st:St} {v v':Bool} (h:v=v'):KZ F fin is gs o free done st v=KZ F fin is gs o free done st v':=by rw [h]
@[congr] theorem ZiV {F:Nat→Option IFn} {fin:St→Option Ret} {is:List Za} {gs:List (GOp×List Nat)} {o:IOp} {t:Nat} {b:Bool} {free:List Nat} {done:List Fx} {st:St} {v v':Bool} (h:v=v'):KY F fin is gs o t b free done st v=KY F fin is gs o t b free done st v':=by rw [h]
def Zeg (f:Option Fx) (e:Fx):Bool:=match f with
 | some f=>f.apart e
 | none=>true
def Zdx (i:Id):List Id→Bool
 | []=>true
 | j::js=>!(i==j)&&Zdx i js
theorem ZeS (i:Id):∀ l:List Id,(!l.contains i)=Zdx i l
 | []=>rfl
 | j::js=>by rw [List.contains_cons,Bool.not_or,ZeS i js,Zdx]
def apI (a b:List Id):Bool:=ZaW a b
theorem vk:(∀ (F:Nat→Option IFn) (fin:St→Option Ret) is done st,KD F fin is [] done st=KK F fin is st)∧
  (∀ (F:Nat→Option IFn) (fin:St→Option Ret) is o free gs done st,KD F fin is ((⟨o,none⟩,free)::gs) done st=KZ F fin is gs o free done st (ZbQ free))∧
  (∀ (F:Nat→Option IFn) (fin:St→Option Ret) is o t b free gs done st,KD F fin is ((⟨o,some (t,b)⟩,free)::gs) done st=KY F fin is gs o t b free done st (ZbQ free))∧
  (∀ (F:Nat→Option IFn) (fin:St→Option Ret) is gs o free done st,KZ F fin is gs o free done st false=KE F fin is gs free done st (fx (EE F) st o))∧
  (∀ (F:Nat→Option IFn) (fin:St→Option Ret) is gs o free done st,KZ F fin is gs o free done st true=RR F (KW F fin is gs done) [] [⟨o,none⟩] st)∧
  (∀ (F:Nat→Option IFn) (fin:St→Option Ret) is gs o t b free done st,KY F fin is gs o t b free done st false=KG F fin is gs o t b free done st (st.s t))∧
  (∀ (F:Nat→Option IFn) (fin:St→Option Ret) is gs done st,KW F fin is gs done st=KD F fin is gs (done++[noFx]) st)∧
  (ZbQ []=false)∧(∀ k ks,ZbQ (k::ks)=(k==1000000)):=by
  refine ⟨fun F fin is done st=>rfl,fun F fin is o free gs done st=>rfl,fun F fin is o t b free gs done st=>rfl,fun F fin is gs o free done st=>?_,fun F fin is gs o free done st=>?_,fun F fin is gs o t b free done st=>?_,fun F fin is gs done st=>rfl,rfl,fun k ks=>rfl⟩
  · simp only[KZ,Bool.false_eq_true,if_false,gfx,KE,KD]
    cases fx (EE F) st o with
    | none=>rfl
    | some e=>simp only[Option.bind_some]; split<;>rfl
  · simp only[KZ,if_true,RR,Zaq,KW,KD]
    cases Zaf (EE F) st ⟨o,none⟩ with
    | none=>rfl
    | some s=>simp only[Option.bind_some,KK,Zf5,KW,KD]
  · simp only[KY,Bool.false_eq_true,if_false,gfx,KG,KE,KD]
    cases hx:ZaJ (st.s t) with
    | none=>rfl
    | some x=>
      have hs:pin st t x=st:=by
        unfold ZaJ at hx
        split at hx
        · cases hx; rfl
        · simp only[Option.map_eq_some_iff] at hx
          obtain ⟨y,hy,rfl⟩:=hx
          have:st.s t=DB y:=by
            unfold D.bool? at hy
            split at hy
            · cases hy; assumption
            · cases hy
          show st.put t (DB y)=st
          rw [←this]; exact ZdB st t
      simp only[Option.bind_some,hs]
      split
      · cases fx (EE F) st o with
        | none=>rfl
        | some e=>simp only[Option.bind_some]; split<;>rfl
      · simp only[Option.bind_some]; split<;>rfl
theorem Zfo {F:Nat→Option IFn} {fin:St→Option Ret} {is:List Za} {gs:List (GOp×List Nat)} {st:St} (h:gs.all (fun g=>g.1.op.isF)=false):KK F fin (.code (.draw gs)::is) st=KH F fin is gs [] (coolDsts st gs):=by
 simp only[KK,Zfn,KH,KD,Option.bind_assoc]
 rfl
noncomputable def fxc1 (F:Nat→Option IFn) (st:St) (d f:Nat) (vs:Option (List T)):Option Fx:=vs.bind fun vs=>(vs.mapM st.lendT).bind fun args=>(EE F f args []).bind fun r=>if r.out=[]∧(r.quiet=true∨vs.flatMap T.ids=[])∧st.dead d r.new.length=true then some ⟨some d,retD (r.res.map (T.mapC (C.ren (Zah d)))),Zw d 0 r.new,vs.flatMap T.ids⟩ else none
noncomputable def fxc2 (F:Nat→Option IFn) (st:St) (d f:Nat) (ids:List Id) (args:Option (List T)):Option Fx:=args.bind fun args=>(EE F f args []).bind fun r=>if r.out=[]∧(r.quiet=true∨ids=[])∧st.dead d r.new.length=true then some ⟨some d,retD (r.res.map (T.mapC (C.ren (Zah d)))),Zw d 0 r.new,ids⟩ else none
def fxc3 (st:St) (d:Nat) (ids:List Id) (r:Option Ret):Option Fx:=r.bind fun r=>if r.out=[]∧(r.quiet=true∨ids=[])∧st.dead d r.new.length=true then some ⟨some d,retD (r.res.map (T.mapC (C.ren (Zah d)))),Zw d 0 r.new,ids⟩ else none
@[congr] theorem Zhx {F:Nat→Option IFn} {st:St} {d f:Nat} {v v':Option (List T)} (h:v=v'):fxc1 F st d f v=fxc1 F st d f v':=by rw [h]
@[congr] theorem Zhy {F:Nat→Option IFn} {st:St} {d f:Nat} {ids:List Id} {v v':Option (List T)} (h:v=v'):fxc2 F st d f ids v=fxc2 F st d f ids v':=by rw [h]
@[congr] theorem Zhz {st:St} {d:Nat} {ids:List Id} {v v':Option Ret} (h:v=v'):fxc3 st d ids v=fxc3 st d ids v':=by rw [h]
def isNo (x:Option Obj):Bool:=x.isNone
theorem vkq:(∀ (F:Nat→Option IFn) (fin:St→Option Ret) is gs free done st e,KE F fin is gs free done st (some e)=KF F fin is gs done st (ZaN done e free) e)∧
 (∀ (F:Nat→Option IFn) (fin:St→Option Ret) is gs done st e,KF F fin is gs done st true e=KH F fin is gs (done++[e]) (e.app st))∧
 (∀ (F:Nat→Option IFn) (fin:St→Option Ret) is gs done st,KH F fin is gs done st=KD F fin is gs done st)∧
 (∀ (F:Nat→Option IFn) (fin:St→Option Ret) is gs o t free done st x,KG F fin is gs o t true free done st (DB x)=sel x (KE F fin is gs free done (st.put t (DB true)) (fx (EE F) (st.put t (DB true)) o)) (KE F fin is gs free done (st.put t (DB false)) (some ⟨o.dst,.tup [],[],[]⟩)))∧
 (∀ (F:Nat→Option IFn) (fin:St→Option Ret) is gs o t free done st x,KG F fin is gs o t false free done st (DB x)=sel x (KE F fin is gs free done (st.put t (DB true)) (some ⟨o.dst,.tup [],[],[]⟩)) (KE F fin is gs free done (st.put t (DB false)) (fx (EE F) (st.put t (DB false)) o)))∧
 (∀ (F:Nat→Option IFn) (fin:St→Option Ret) is gs o t b free done st,KG F fin is gs o t b free done st (.tup [])=KE F fin is gs free done st (some ⟨o.dst,.tup [],[],[]⟩))∧
 (∀ d ids x,fxv d ids (some x)=some ⟨some d,x,[],ids⟩)∧
 (∀ done e,ZaN done e []=true)∧(∀ done e k ks,ZaN done e (k::ks)=(Zeg (done[k]?) e&&ZaN done e ks))∧
 (∀ e,Zeg none e=true)∧(∀ d v set rd d' v' set' rd',Zeg (some ⟨d,v,set,rd⟩) ⟨d',v',set',rd'⟩=(apI (set.map (·.1)) (rd'++set'.map (·.1))&&apI (set'.map (·.1)) rd))∧
 (∀ b,apI [] b=true)∧(∀ i is b,apI (i::is) b=(Zdx i b&&apI is b))∧(∀ i,Zdx i []=true)∧(∀ i j js,Zdx i (j::js)=(!(i==j)&&Zdx i js))∧
 (∀ d v rd st,Fx.app ⟨some d,v,[],rd⟩ st=st.put d v)∧(∀ d v i x rd st,Fx.app ⟨some d,v,[(i,x)],rd⟩ st=(st.obj i (some x)).put d v)∧(∀ d v i x j y rd st,Fx.app ⟨some d,v,[(i,x),(j,y)],rd⟩ st=((st.obj i (some x)).obj j (some y)).put d v)∧
 (∀ v i x rd st,Fx.app ⟨none,v,[(i,x)],rd⟩ st=st.obj i (some x))∧(∀ v rd st,Fx.app ⟨none,v,[],rd⟩ st=st)∧
 (∀ st op,Zt st op=op.args.flatMap fun a=>(st.get a).ids)∧(∀ x,D.ids (.t x)=x.ids)∧(∀ xs,D.ids (.tup xs)=xs.flatMap T.ids)∧(∀ cs,D.ids (.rptr cs)=[])∧D.ids .bad=[]∧
 (∀ (F:Nat→Option IFn) st d f xs,fx (EE F) st (.call d f xs)=fxc1 F st d f (getL st xs))∧(∀ (F:Nat→Option IFn) st d f vs,fxc1 F st d f (some vs)=fxc2 F st d f (vs.flatMap T.ids) (ZbE st vs))∧
 (∀ (F:Nat→Option IFn) st d f ids args,fxc2 F st d f ids (some args)=fxc3 st d ids (EE F f args []))∧
 (∀ (st:St) d ids res new,fxc3 st d ids (some ⟨res,new,[]⟩)=sel (((Ret.mk res new []).quiet||ids.isEmpty)&&st.dead d new.length) (some ⟨some d,retD (res.map (T.mapC (C.ren (Zah d)))),Zw d 0 new,ids⟩) none)∧
 (∀ (st:St) d,st.dead d 0=true)∧(∀ (st:St) d,st.dead d 1=isNo (st.o (.loc d 0)))∧(∀ (st:St) d,st.dead d 2=(isNo (st.o (.loc d 0))&&isNo (st.o (.loc d 1))))∧isNo none=true∧
 (∀ d k,Zw d k []=[])∧(∀ d k x xs,Zw d k (x::xs)=(.loc d k,x)::Zw d (k+1) xs)∧(∀ b,(true||b)=true)∧(∀ b,(false||b)=b)∧
 (∀ st,coolDsts st []=st)∧(∀ st o g free gs,coolDsts st ((⟨o,g⟩,free)::gs)=coolDsts (Zh st (cnt free) o) gs)∧(cnt []=2)∧(∀ k ks,cnt (k::ks)=sel (k==1000000) 0 (cnt2 (k==2000000) ks))∧(∀ m ks,cnt2 true (m::ks)=m - 1000)∧(∀ ks,cnt2 false ks=2)∧(∀ (st:St) d,st.coolTo d 0=st)∧(∀ (st:St) d k,st.coolTo d (k+1)=(st.coolTo d k).cool (.loc d k)):=by
 refine ⟨fun F fin is gs free done st e=>rfl,fun F fin is gs done st e=>rfl,fun F fin is gs done st=>rfl,fun F fin is gs o t free done st x=>by cases x<;>rfl,fun F fin is gs o t free done st x=>by cases x<;>rfl,fun F fin is gs o t b free done st=>rfl,fun d ids x=>rfl,fun done e=>rfl,fun done e k ks=>?_,fun e=>rfl,fun d v set rd d' v' set' rd'=>rfl,fun b=>rfl,fun i is b=>?_,fun i=>rfl,fun i j js=>rfl,fun d v rd st=>rfl,fun d v i x rd st=>rfl,fun d v i x j y rd st=>rfl,fun v i x rd st=>rfl,fun v rd st=>rfl,fun st op=>rfl,fun x=>rfl,fun xs=>rfl,fun cs=>rfl,rfl,fun F st d f xs=>?_,fun F st d f vs=>?_,fun F st d f ids args=>rfl,fun st d ids res new=>?_,fun st d=>rfl,fun st d=>?_,fun st d=>?_,rfl,fun d k=>rfl,fun d k x xs=>rfl,fun b=>rfl,fun b=>rfl,fun st=>rfl,fun st o g free gs=>?_,rfl,fun k ks=>rfl,fun m ks=>rfl,fun ks=>by cases ks<;>rfl,fun st d=>rfl,fun st d k=>rfl⟩
 ·simp only[ZaN,List.all_cons,Zeg]
  cases done[k]?<;>rfl
 ·simp only[apI,ZaW,List.all_cons,ZeS]
 ·simp only[fx,fxc1,Za9]
 ·simp only[fxc1,fxc2,Option.bind_some,Zcz]
 ·simp only[fxc3,Option.bind_some,sel]
  cases h1:(Ret.mk res new []).quiet<;>cases h2:st.dead d new.length<;>cases ids<;>simp [List.isEmpty]
 ·simp [St.dead,isNo,List.range_succ]
 ·simp [St.dead,isNo,List.range_succ]
 ·cases o<;>rfl
def ZeX (st:St) (x:D) (n:Nat) (agg:Bool):Option T:=match x with
 | .t (.sc (.ptr id i o))=>(vrd id (st.o id) i o n).bind (Zl agg)
 | _=>none
theorem vres:(∀ (st:St) x n agg,st.rawCell x n agg=ZeX st x n agg)∧(∀ st t n agg,St.result st (.cell t n agg)=ZeX st (st.s t) n agg)∧(∀ st id i o n agg,ZeX st (.t (.sc (.ptr id i o))) n agg=(vrd id (st.o id) i o n).bind (Zl agg)):=by
 have main:∀ (st:St) x n agg,st.rawCell x n agg=ZeX st x n agg:=by
  intro st x n agg
  have hr:∀ id i o,st.read id i o n=vrd id (st.o id) i o n:=by
   intro id i o
   unfold St.read vrd
   cases st.o id with
   | none=>rfl
   | some ob=>cases ob<;>rfl
  simp only[St.rawCell,ZeX]
  cases x with
  | t x=>
   cases x with
   | sc c=>cases c<;>first|rfl|(simp only[hr])
   | ag cs=>rfl
  | _=>rfl
 refine ⟨main,fun st t n agg=>main st (st.s t) n agg,fun st id i o n agg=>rfl⟩
def viaO (x:Option Obj) (id:Id) (sz m i:Nat):Option D:=match x with
 | some (.row z _)=>if i<m∧z=sz then some (.t (.sc (.ptr id i 0))) else none
 | _=>none
theorem ZgI (z:Nat) (r:List (List U)) (id:Id) (sz m i:Nat):viaO (some (.row z r)) id sz m i=if i<m∧z=sz then some (.t (.sc (.ptr id i 0))) else none:=rfl
theorem ZfR (st:St) (sz:Nat) (id:Id) (m i:Nat):via st sz (.t (.sc (.own id m))) (DI (i:Int))=viaO (st.o id) id sz m i:=by
 simp only[via,D.int?,Option.bind_some,viaO]
 cases st.o id with
 | none=>rfl
 | some ob=>cases ob<;>simp
theorem xP:(type_of% vP)∧(type_of% vk)∧(type_of% @Zfo):=⟨vP,vk,@Zfo⟩
theorem xQ:(type_of% @vQ)∧(type_of% vf)∧(type_of% vfx)∧(type_of% vkq)∧(type_of% vres)∧(type_of% ZfR)∧(type_of% ZgI)∧(∀ p:Prop,(p∧True)=p)∧(∀ p:Prop,(True∧p)=p):=⟨@vQ,vf,vfx,vkq,vres,ZfR,ZgI,fun p=>by simp,fun p=>by simp⟩
end Go.Proofs.YtfajcehhcjmofaaV
