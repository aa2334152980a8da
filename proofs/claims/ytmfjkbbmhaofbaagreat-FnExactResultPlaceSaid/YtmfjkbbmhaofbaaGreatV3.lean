/- The evaluator without rounds: its equations. No conditions. -/
import Derived.Test.YtmfjkbbmhaofbaaGreatV1
import Derived.Test.YtmfjkbbmhaofbaaGreatV2
namespace Go.Proofs.YtmfjkbbmhaofbaaGreatV
open Go Go.RowKit
set_option linter.unusedVariables false
theorem step_lim {E : Nat → CallE} {E' : CallE} (h : ∀ f a i, Lim (fun k => E k f a i) (E' f a i)) (st : St) (o : IOp) : Lim (fun k => step (E k) st o) (step E' st o) := by
  cases o with
  | call d f xs => exact Lim.bind (Lim.const _) fun vs => Lim.bind (Lim.const _) fun args => Lim.bind (h ..) fun r => Lim.const _
  | callr d f xs =>
    refine Lim.bind (Lim.const _) fun vs => Lim.bind (Lim.const _) fun ins => ?_
    exact Lim.ite (Lim.bind (h ..) fun r => Lim.const _) (Lim.const _)
  | callv d fs x xs => exact Lim.bind (Lim.const _) fun p => Lim.ite (Lim.bind (Lim.const _) fun vs => Lim.bind (Lim.const _) fun args => Lim.bind (h ..) fun r => Lim.const _) (Lim.const _)
  | callk d f dp xs =>
    refine Lim.bind (Lim.const _) fun vs => ?_
    split
    · split
      · exact Lim.bind (Lim.const _) fun x => Lim.bind (Lim.const _) fun ob => Lim.bind (h ..) fun r => Lim.const _
      · exact Lim.const _
    · exact Lim.const _
  | _ => exact Lim.const _
theorem gstep_lim {E : Nat → CallE} {E' : CallE} (h : ∀ f a i, Lim (fun k => E k f a i) (E' f a i)) (st : St) (o : GOp) : Lim (fun k => gstep (E k) st o) (gstep E' st o) := by
  unfold gstep
  cases o.g with
  | none => exact step_lim h st o.op
  | some p => exact Lim.bind (Lim.const _) fun x => Lim.ite (step_lim h st o.op) (Lim.const _)
theorem runOps_lim {E : Nat → CallE} {E' : CallE} (h : ∀ f a i, Lim (fun k => E k f a i) (E' f a i)) : ∀ (ops : List GOp) (st : St), Lim (fun k => runOps (E k) ops st) (runOps E' ops st)
  | [], st => Lim.const _
  | o :: os, st => Lim.bind (gstep_lim h st o) fun st' => runOps_lim h os st'
theorem fxF_lim {E : Nat → CallE} {E' : CallE} (h : ∀ f a i, Lim (fun k => E k f a i) (E' f a i)) (st : St) (o : IOp) : Lim (fun k => fxF (E k) st o) (fxF E' st o) := Lim.bind (step_lim h st o) fun _ => Lim.const _
theorem fx_lim {E : Nat → CallE} {E' : CallE} (h : ∀ f a i, Lim (fun k => E k f a i) (E' f a i)) (st : St) (o : IOp) : Lim (fun k => fx (E k) st o) (fx E' st o) := by
  cases o with
  | call d f xs => exact Lim.bind (Lim.const _) fun vs => Lim.bind (Lim.const _) fun args => Lim.bind (h ..) fun r => Lim.const _
  | callr d f xs =>
    refine Lim.bind (Lim.const _) fun vs => Lim.bind (Lim.const _) fun ins => ?_
    exact Lim.ite (Lim.bind (h ..) fun r => Lim.const _) (Lim.const _)
  | mv d a => exact Lim.ite (Lim.const _) (fxF_lim h st _)
  | slc d sz x lo hi => exact Lim.ite (fxF_lim h st _) (Lim.const _)
  | alloc => exact Lim.const _
  | nilr => exact Lim.const _
  | box => exact Lim.const _
  | lit => exact Lim.const _
  | mk => exact Lim.const _
  | st => exact Lim.const _
  | app => exact Lim.const _
  | callv => exact Lim.const _
  | cl => exact Lim.const _
  | stc => exact Lim.const _
  | slp => exact Lim.const _
  | mkd => exact Lim.const _
  | litd => exact Lim.const _
  | appd => exact Lim.const _
  | std => exact Lim.const _
  | callk => exact Lim.const _
  | mkf => exact Lim.const _
  | _ => exact fxF_lim h st _
theorem gfx_lim {E : Nat → CallE} {E' : CallE} (h : ∀ f a i, Lim (fun k => E k f a i) (E' f a i)) (st : St) (o : GOp) : Lim (fun k => gfx (E k) st o) (gfx E' st o) := by
  unfold gfx
  cases o.g with
  | none => exact fx_lim h st o.op
  | some p => exact Lim.bind (Lim.const _) fun x => Lim.ite (fx_lim h st o.op) (Lim.const _)
theorem runDraw_lim {E : Nat → CallE} {E' : CallE} (h : ∀ f a i, Lim (fun k => E k f a i) (E' f a i)) : ∀ (ops : List (GOp × List Nat)) (done : List Fx) (st : St), Lim (fun k => runDraw (E k) ops done st) (runDraw E' ops done st)
  | [], _, st => Lim.const _
  | (o, free) :: os, done, st => Lim.ite (Lim.bind (gstep_lim h st o) fun st => runDraw_lim h os _ _) (Lim.bind (gfx_lim h st o) fun e => Lim.ite (runDraw_lim h os _ _) (Lim.const _))
variable (F : Nat → Option IFn)
theorem callOf_le {r r' : List IItem → St → Option St} (h : ∀ i s, LeO (r i s) (r' i s)) (f : Nat) (a : List T) (i : List Obj) : LeO (callOf F r f a i) (callOf F r' f a i) :=
  LeO.bind (LeO.refl _) fun fn => LeO.ite (LeO.bind (h _ _) fun _ => LeO.refl _) (LeO.refl _)
theorem step_le {E E' : CallE} (h : ∀ f a i, LeO (E f a i) (E' f a i)) (st : St) (o : IOp) : LeO (step E st o) (step E' st o) := by
  cases o with
  | call d f xs => exact LeO.bind (LeO.refl _) fun vs => LeO.bind (LeO.refl _) fun args => LeO.bind (h _ _ _) fun r => LeO.refl _
  | callr d f xs =>
    refine LeO.bind (LeO.refl _) fun vs => LeO.bind (LeO.refl _) fun ins => ?_
    exact LeO.ite (LeO.bind (h _ _ _) fun r => LeO.refl _) (LeO.refl _)
  | callv d fs x xs => exact LeO.bind (LeO.refl _) fun p => LeO.ite (LeO.bind (LeO.refl _) fun vs => LeO.bind (LeO.refl _) fun args => LeO.bind (h _ _ _) fun r => LeO.refl _) (LeO.refl _)
  | callk d f dp xs =>
    refine LeO.bind (LeO.refl _) fun vs => ?_
    split
    · split
      · exact LeO.bind (LeO.refl _) fun x => LeO.bind (LeO.refl _) fun ob => LeO.bind (h _ _ _) fun r => LeO.refl _
      · exact LeO.refl _
    · exact LeO.refl _
  | _ => exact LeO.refl _
theorem gstep_le {E E' : CallE} (h : ∀ f a i, LeO (E f a i) (E' f a i)) (st : St) (o : GOp) : LeO (gstep E st o) (gstep E' st o) := by
  unfold gstep
  cases o.g with
  | none => exact step_le h st o.op
  | some p => exact LeO.bind (LeO.refl _) fun x => LeO.ite (step_le h st o.op) (LeO.refl _)
theorem runOps_le {E E' : CallE} (h : ∀ f a i, LeO (E f a i) (E' f a i)) : ∀ (ops : List GOp) (st : St), LeO (runOps E ops st) (runOps E' ops st)
  | [], st => LeO.refl _
  | o :: os, st => LeO.bind (gstep_le h st o) fun st' => runOps_le h os st'
theorem fxF_le {E E' : CallE} (h : ∀ f a i, LeO (E f a i) (E' f a i)) (st : St) (o : IOp) : LeO (fxF E st o) (fxF E' st o) := LeO.bind (step_le h st o) fun _ => LeO.refl _
theorem fx_le {E E' : CallE} (h : ∀ f a i, LeO (E f a i) (E' f a i)) (st : St) (o : IOp) : LeO (fx E st o) (fx E' st o) := by
  cases o with
  | call d f xs => exact LeO.bind (LeO.refl _) fun vs => LeO.bind (LeO.refl _) fun args => LeO.bind (h _ _ _) fun r => LeO.refl _
  | callr d f xs =>
    refine LeO.bind (LeO.refl _) fun vs => LeO.bind (LeO.refl _) fun ins => ?_
    exact LeO.ite (LeO.bind (h _ _ _) fun r => LeO.refl _) (LeO.refl _)
  | mv d a => exact LeO.ite (LeO.refl _) (fxF_le h st _)
  | slc d sz x lo hi => exact LeO.ite (fxF_le h st _) (LeO.refl _)
  | alloc => exact LeO.refl _
  | nilr => exact LeO.refl _
  | box => exact LeO.refl _
  | lit => exact LeO.refl _
  | mk => exact LeO.refl _
  | st => exact LeO.refl _
  | app => exact LeO.refl _
  | callv => exact LeO.refl _
  | cl => exact LeO.refl _
  | stc => exact LeO.refl _
  | slp => exact LeO.refl _
  | mkd => exact LeO.refl _
  | litd => exact LeO.refl _
  | appd => exact LeO.refl _
  | std => exact LeO.refl _
  | callk => exact LeO.refl _
  | mkf => exact LeO.refl _
  | _ => exact fxF_le h st _
theorem gfx_le {E E' : CallE} (h : ∀ f a i, LeO (E f a i) (E' f a i)) (st : St) (o : GOp) : LeO (gfx E st o) (gfx E' st o) := by
  unfold gfx
  cases o.g with
  | none => exact fx_le h st o.op
  | some p => exact LeO.bind (LeO.refl _) fun x => LeO.ite (fx_le h st o.op) (LeO.refl _)
theorem runDraw_le {E E' : CallE} (h : ∀ f a i, LeO (E f a i) (E' f a i)) : ∀ (ops : List (GOp × List Nat)) (done : List Fx) (st : St), LeO (runDraw E ops done st) (runDraw E' ops done st)
  | [], _, st => LeO.refl _
  | (o, free) :: os, done, st => LeO.ite (LeO.bind (gstep_le h st o) fun st => runDraw_le h os _ _) (LeO.bind (gfx_le h st o) fun e => LeO.ite (runDraw_le h os _ _) (LeO.refl _))
theorem evalC_mono : ∀ (k : Nat) (items : List IItem) (st : St), LeO (evalC F k items st) (evalC F (k + 1) items st) := by
  intro k
  induction k with
  | zero => intro items st; exact LeO.none _
  | succ k ih =>
    intro items st
    match items with
    | [] => exact LeO.refl _
    | .inBlock _ :: rest => exact ih _ _
    | .inLoop c :: rest => exact ih _ _
    | .code c :: rest =>
      cases c with
      | skip => exact ih _ _
      | region ops => exact LeO.bind (runOps_le (callOf_le F ih) ops st) fun st' => ih _ _
      | draw ops => exact LeO.bind (runDraw_le (callOf_le F ih) ops _ _) fun st' => ih _ _
      | seq a b => exact ih _ _
      | cond c a b => exact LeO.bind (LeO.refl _) fun x => ih _ _
      | block id c => exact ih _ _
      | loop c => exact ih _ _
      | exit id => exact LeO.bind (LeO.refl _) fun r => ih _ _
      | ret => exact LeO.refl _
noncomputable def CC (items : List IItem) (st : St) : Option St := lim fun k => evalC F k items st
noncomputable def EE : CallE := callOf F (CC F)
theorem CC_lim (items : List IItem) (st : St) : Lim (fun k => evalC F k items st) (CC F items st) := Lim.of fun k => evalC_mono F k items st
theorem EE_lim (f : Nat) (a : List T) (i : List Obj) : Lim (fun k => callOf F (evalC F k) f a i) (EE F f a i) :=
  Lim.bind (Lim.const _) fun fn => Lim.ite (Lim.bind (CC_lim F _ _) fun _ => Lim.const _) (Lim.const _)
theorem CC_nil (st : St) : CC F [] st = some st := Lim.step (fun _ => rfl) (CC_lim F [] st).mono (Lim.const _)
theorem CC_inBlock (id : Nat) (rest : List IItem) (st : St) : CC F (.inBlock id :: rest) st = CC F rest st := Lim.step (fun _ => rfl) (CC_lim F _ st).mono (CC_lim F rest st)
theorem CC_inLoop (c : IC) (rest : List IItem) (st : St) : CC F (.inLoop c :: rest) st = CC F (.code c :: .inLoop c :: rest) st := Lim.step (fun _ => rfl) (CC_lim F _ st).mono (CC_lim F _ st)
theorem CC_skip (rest : List IItem) (st : St) : CC F (.code .skip :: rest) st = CC F rest st := Lim.step (fun _ => rfl) (CC_lim F _ st).mono (CC_lim F _ st)
theorem CC_region (ops : List GOp) (rest : List IItem) (st : St) : CC F (.code (.region ops) :: rest) st = (runOps (EE F) ops st).bind (CC F rest) :=
  Lim.step (fun _ => rfl) (CC_lim F _ st).mono (Lim.bind (runOps_lim (EE_lim F) ops st) fun st' => CC_lim F rest st')
theorem CC_draw (ops : List (GOp × List Nat)) (rest : List IItem) (st : St) : CC F (.code (.draw ops) :: rest) st = (runDraw (EE F) ops [] (coolDsts st ops)).bind (CC F rest) :=
  Lim.step (fun _ => rfl) (CC_lim F _ st).mono (Lim.bind (runDraw_lim (EE_lim F) ops _ _) fun st' => CC_lim F rest st')
theorem CC_seq (a b : IC) (rest : List IItem) (st : St) : CC F (.code (.seq a b) :: rest) st = CC F (.code a :: .code b :: rest) st := Lim.step (fun _ => rfl) (CC_lim F _ st).mono (CC_lim F _ st)
theorem CC_cond (c : Arg) (a b : IC) (rest : List IItem) (st : St) : CC F (.code (.cond c a b) :: rest) st = (st.get c).bool?.bind fun x => CC F (.code (if x then a else b) :: rest) st :=
  Lim.step (fun _ => rfl) (CC_lim F _ st).mono (Lim.bind (Lim.const _) fun x => CC_lim F _ st)
theorem CC_block (id : Nat) (c : IC) (rest : List IItem) (st : St) : CC F (.code (.block id c) :: rest) st = CC F (.code c :: .inBlock id :: rest) st := Lim.step (fun _ => rfl) (CC_lim F _ st).mono (CC_lim F _ st)
theorem CC_loop (c : IC) (rest : List IItem) (st : St) : CC F (.code (.loop c) :: rest) st = CC F (.code c :: .inLoop c :: rest) st := Lim.step (fun _ => rfl) (CC_lim F _ st).mono (CC_lim F _ st)
theorem CC_exit (id : Nat) (rest : List IItem) (st : St) : CC F (.code (.exit id) :: rest) st = (exitTo id rest).bind fun r => CC F r st :=
  Lim.step (fun _ => rfl) (CC_lim F _ st).mono (Lim.bind (Lim.const _) fun r => CC_lim F r st)
theorem CC_ret (rest : List IItem) (st : St) : CC F (.code .ret :: rest) st = some st := Lim.step (fun _ => rfl) (CC_lim F _ st).mono (Lim.const _)
theorem EE_some {f : Nat} {a : List T} {i : List Obj} {r : Ret} (h : EE F f a i = some r) : ∃ k, callOf F (evalC F k) f a i = some r := of_lim ((EE_lim F f a i).eq.trans h)
end Go.Proofs.YtmfjkbbmhaofbaaGreatV
