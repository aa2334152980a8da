/- More of the simplifier's rules: structs compared, calls that are handed own objects, and what drawn regions store. No conditions. -/
import Derived.Test.YtbieglaagpogkaaS6
namespace Go.Proofs.YtbieglaagpogkaaV
open Go Go.RowKit
set_option linter.unusedVariables false
set_option linter.unusedSimpArgs false
/-! ### Structs compared -/
def eqSh : List EK → List C → List C → Bool
  | [], [], [] => true
  | .i :: ks, .u (.int k _) :: xs, .u (.int k' _) :: ys => decide (k = k') && eqSh ks xs ys
  | .b :: ks, .u (.bool _) :: xs, .u (.bool _) :: ys => eqSh ks xs ys
  | .s :: ks, .u (.str _) :: xs, .u (.str _) :: ys => eqSh ks xs ys
  | _, _, _ => false
def eqBs : List EK → List C → List C → Bool
  | .i :: ks, .u (.int _ a) :: xs, .u (.int _ b) :: ys => decide (a = b) && eqBs ks xs ys
  | .b :: ks, .u (.bool a) :: xs, .u (.bool b) :: ys => decide (a = b) && eqBs ks xs ys
  | .s :: ks, .u (.str a) :: xs, .u (.str b) :: ys => decide (a = b) && eqBs ks xs ys
  | _, _, _ => true
theorem eqCells_ok : ∀ (ks : List EK) (xs ys : List C), eqSh ks xs ys = true → eqCells ks xs ys = some (eqBs ks xs ys) := by
  intro ks
  induction ks with
  | nil => intro xs ys h; cases xs <;> cases ys <;> simp_all [eqSh, eqCells, eqBs]
  | cons k ks ih =>
    intro xs ys h
    unfold eqSh at h
    split at h <;> simp_all [eqCells, eqBs]
    all_goals (split <;> simp_all)
/-! ### Drawn regions: boxes made and written -/
def fxb (ob : Option Obj) (id : Id) (n i off : Nat) (v : T) : Option Fx := match ob with
  | some (.box cs) => sel (v.cells.length == n && v.ids.isEmpty) (if i = 0 then (paste cs off v.cells).map fun c => ⟨none, .bad, [(id, .box c)], [id]⟩ else none) none
  | some (.row z r) => sel (v.cells.length == n && v.ids.isEmpty) ((uAll v.cells).bind fun us => (r[i]?).bind fun cs => (paste cs off us).map fun c => ⟨none, .bad, [(id, .row z (r.set i c))], [id]⟩) none
  | none => none
def fxw (st : St) (n : Nat) (a x : D) : Option Fx := match a with
  | .t (.sc (.ptr id i o)) => x.t?.bind fun v => fxb (st.o id) id n i o v
  | _ => none
@[congr] theorem fxw_congr {st : St} {n : Nat} {a a' x x' : D} (h : a = a') (h' : x = x') : fxw st n a x = fxw st n a' x' := by rw [h, h']
theorem fx_st (E : CallE) (st : St) (n : Nat) (a x : Arg) : fx E st (.st n a x) = fxw st n (st.get a) (st.get x) := by
  simp only [fx, fxw]
  split
  · rename_i id i o hg
    simp only [hg]
    cases (st.get x).t? with
    | none => rfl
    | some v =>
      simp only [Option.bind_some, fxb, St.write, uAll_eq]
      have ho : ∀ y, (st.obj id (some y)).o id = some y := by intro y; simp [St.obj]
      have hc : ∀ p : List Id, (p.isEmpty = true) ↔ p = [] := by intro p; cases p <;> simp
      by_cases h : v.cells.length = n ∧ v.ids = []
      · have h2 : (v.cells.length == n && v.ids.isEmpty) = true := by simp [h.1, h.2]
        rw [if_pos h]
        cases st.o id with
        | none => rfl
        | some ob =>
          cases ob with
          | box cs =>
            simp only [sel, h2, if_true]
            split
            · cases paste cs o v.cells <;> simp [ho]
            · rfl
          | row z r =>
            simp only [sel, h2, if_true]
            cases uAll v.cells with
            | none => rfl
            | some us =>
              simp only [Option.bind_some]
              cases r[i]? with
              | none => rfl
              | some cs => simp only [Option.bind_some]; cases paste cs o us <;> simp [ho]
      · have h2 : (v.cells.length == n && v.ids.isEmpty) = false := by
          rw [Bool.eq_false_iff]
          intro h3
          simp only [Bool.and_eq_true, beq_iff_eq, hc] at h3
          exact h h3
        rw [if_neg h]
        cases st.o id with
        | none => rfl
        | some ob => cases ob <;> simp [sel, h2]
  · rename_i h1
    generalize st.get a = y at h1
    split
    · rename_i id i o; exact absurd rfl (h1 id i o)
    · rfl
def fxa (st : St) (d : Nat) (ob : Option Obj) (zero : List U) : Option Fx := sel (isNo ob) (some ⟨some d, .t (.sc (.ptr (.loc d 0) 0 0)), [(.loc d 0, .box (zero.map .u))], []⟩) none
theorem dead1 (st : St) (d : Nat) : st.dead d 1 = isNo (st.o (.loc d 0)) := by simp [St.dead, isNo, List.range_succ]
/-! ### Calls that are handed own objects -/
def ddI (l : List Id) : List Id := l.eraseDups
def neI (a : Id) (l : List Id) : List Id := l.filter fun b => !b == a
def renP (x : Option Id) (a b : Nat) : C := match x with
  | some j => .ptr j a b
  | none => .bad
noncomputable def SQ1 (F : Nat → Option IFn) (st : St) (d f : Nat) (vs : Option (List T)) : Option St := vs.bind fun vs => (((vs.flatMap T.ids).eraseDups).mapM st.o).bind fun ins => if ins.all Obj.data then
      (EE F f (vs.map (T.mapC (C.ren (posOf ((vs.flatMap T.ids).eraseDups))))) ins).bind fun r => (putOut ((vs.flatMap T.ids).eraseDups) r.out st).map fun st => (st.coolAll ((List.range r.new.length).map (.loc d ·))).ofRet d r else none
noncomputable def SQ2 (F : Nat → Option IFn) (st : St) (d f : Nat) (vs : List T) (ids : List Id) (ins : Option (List Obj)) : Option St := ins.bind fun ins => if ins.all Obj.data then
      (EE F f (vs.map (T.mapC (C.ren (fun i => posI i 0 ids)))) ins).bind fun r => (putOut ids r.out st).map fun st => (st.coolAll ((List.range r.new.length).map (.loc d ·))).ofRet d r else none
noncomputable def SQ3 (F : Nat → Option IFn) (st : St) (d f : Nat) (vs : List T) (ids : List Id) (ins : List Obj) (ok : Bool) : Option St := if ok = true then
      (EE F f (vs.map (T.mapC (C.ren (fun i => posI i 0 ids)))) ins).bind fun r => (putOut ids r.out st).map fun st => (st.coolAll ((List.range r.new.length).map (.loc d ·))).ofRet d r else none
noncomputable def SQ4 (F : Nat → Option IFn) (st : St) (d f : Nat) (ids : List Id) (ins : List Obj) (args : List T) : Option St := (EE F f args ins).bind fun r => (putOut ids r.out st).map fun st => (st.coolAll ((List.range r.new.length).map (.loc d ·))).ofRet d r
def SQ5 (st : St) (d : Nat) (ids : List Id) (r : Option Ret) : Option St := r.bind fun r => (putOut ids r.out st).map fun st => (st.coolAll ((List.range r.new.length).map (.loc d ·))).ofRet d r
def SQ6 (d : Nat) (res : List T) (new : List Obj) (st : Option St) : Option St := st.map fun st => (st.coolAll ((List.range new.length).map (.loc d ·))).ofRet d ⟨res, new, []⟩
def PO (ids : List Id) (out : List Obj) (st : St) : Option St := putOut ids out st
def PK (ids : List Id) (out : List Obj) (id : Id) (x : Obj) (st : St) (ok : Bool) : Option St := if ok = true then putOut ids out (st.obj id (some x)) else none
@[congr] theorem SQ1_congr {F : Nat → Option IFn} {st : St} {d f : Nat} {v v' : Option (List T)} (h : v = v') : SQ1 F st d f v = SQ1 F st d f v' := by rw [h]
@[congr] theorem SQ2_congr {F : Nat → Option IFn} {st : St} {d f : Nat} {vs : List T} {ids ids' : List Id} {v v' : Option (List Obj)} (h1 : ids = ids') (h : v = v') : SQ2 F st d f vs ids v = SQ2 F st d f vs ids' v' := by rw [h1, h]
@[congr] theorem SQ3_congr {F : Nat → Option IFn} {st : St} {d f : Nat} {vs : List T} {ids : List Id} {ins : List Obj} {v v' : Bool} (h : v = v') : SQ3 F st d f vs ids ins v = SQ3 F st d f vs ids ins v' := by rw [h]
@[congr] theorem SQ4_congr {F : Nat → Option IFn} {st : St} {d f : Nat} {ids : List Id} {ins : List Obj} {v v' : List T} (h : v = v') : SQ4 F st d f ids ins v = SQ4 F st d f ids ins v' := by rw [h]
@[congr] theorem SQ5_congr {st : St} {d : Nat} {ids : List Id} {v v' : Option Ret} (h : v = v') : SQ5 st d ids v = SQ5 st d ids v' := by rw [h]
@[congr] theorem SQ6_congr {d : Nat} {res : List T} {new : List Obj} {v v' : Option St} (h : v = v') : SQ6 d res new v = SQ6 d res new v' := by rw [h]
@[congr] theorem PO_congr {ids : List Id} {out : List Obj} {st : St} : PO ids out st = PO ids out st := rfl
@[congr] theorem PK_congr {ids : List Id} {out : List Obj} {id : Id} {x : Obj} {st : St} {v v' : Bool} (h : v = v') : PK ids out id x st v = PK ids out id x st v' := by rw [h]
theorem posI_fun (ids : List Id) : (fun i => posI i 0 ids) = posOf ids := by funext i; rw [posI_eq]; simp [posOf]
theorem sq : (∀ (F : Nat → Option IFn) (st : St) d f xs, step (EE F) st (.callr d f xs) = SQ1 F st d f (getL st xs)) ∧
  (∀ (F : Nat → Option IFn) (st : St) d f vs, SQ1 F st d f (some vs) = SQ2 F st d f vs (ddI (vs.flatMap T.ids)) (objAll st (ddI (vs.flatMap T.ids)))) ∧
  (∀ (F : Nat → Option IFn) (st : St) d f vs ids ins, SQ2 F st d f vs ids (some ins) = SQ3 F st d f vs ids ins (ins.all Obj.data)) ∧
  (∀ (F : Nat → Option IFn) (st : St) d f vs ids ins, SQ3 F st d f vs ids ins true = SQ4 F st d f ids ins (vs.map (T.mapC (C.ren (fun i => posI i 0 ids))))) ∧
  (∀ (F : Nat → Option IFn) (st : St) d f ids ins args, SQ4 F st d f ids ins args = SQ5 st d ids (EE F f args ins)) ∧
  (∀ (st : St) d ids res new out, SQ5 st d ids (some ⟨res, new, out⟩) = SQ6 d res new (PO ids out st)) ∧
  (∀ d res new (st : St), SQ6 d res new (some st) = some ((st.coolAll ((List.range new.length).map (.loc d ·))).ofRet d ⟨res, new, []⟩)) ∧
  (∀ (st : St), PO [] [] st = some st) ∧ (∀ (st : St) id ids x out, PO (id :: ids) (x :: out) st = PK ids out id x st (sameKind (st.o id) x)) ∧
  (∀ (st : St) id ids x out, PK ids out id x st true = PO ids out (st.obj id (some x))) ∧
  (∀ z r z' r', sameKind (some (.row z r)) (.row z' r') = decide (r.length ≤ r'.length)) ∧ (∀ c c', sameKind (some (.box c)) (.box c') = true) ∧
  ddI [] = [] ∧ (∀ a l, ddI (a :: l) = a :: ddI (neI a l)) ∧ (∀ a, neI a [] = []) ∧ (∀ a b l, neI a (b :: l) = sel (b == a) (neI a l) (b :: neI a l)) ∧
  (∀ f i a b, C.ren f (.ptr i a b) = renP (f i) a b) ∧ (∀ j a b, renP (some j) a b = .ptr j a b) ∧ (∀ {α : Type} (l : List α), List.length l ≤ l.length) ∧ (∀ {α β : Type} (f : α → β) (l : List α), (l.map f).length = l.length) := by
  refine ⟨fun F st d f xs => ?_, fun F st d f vs => ?_, fun F st d f vs ids ins => rfl, fun F st d f vs ids ins => rfl, fun F st d f ids ins args => rfl, fun st d ids res new out => ?_, fun d res new st => rfl, fun st => rfl, fun st id ids x out => ?_, fun st id ids x out => rfl, fun z r z' r' => rfl, fun c c' => rfl, rfl, fun a l => ?_, fun a => rfl, fun a b l => ?_, fun f i a b => ?_, fun j a b => rfl, fun l => Nat.le_refl _, fun f l => List.length_map ..⟩
  · simp only [step, SQ1, getL_eq]
  · simp only [SQ1, SQ2, Option.bind_some, posI_fun, ddI, objAll_eq]
  · rfl
  · rfl
  · simp only [ddI, neI, List.eraseDups_cons]
  · simp only [neI, List.filter_cons, sel]
    cases b == a <;> rfl
  · simp only [C.ren, renP]
    cases f i <;> rfl
theorem fxq : (∀ st n id i o v, fxw st n (.t (.sc (.ptr id i o))) (.t v) = fxb (st.o id) id n i o v) ∧
  (∀ cs id n o v, fxb (some (.box cs)) id n 0 o v = sel (v.cells.length == n && v.ids.isEmpty) ((paste cs o v.cells).map fun c => ⟨none, .bad, [(id, .box c)], [id]⟩) none) ∧
  (∀ z r id n i o v, fxb (some (.row z r)) id n i o v = sel (v.cells.length == n && v.ids.isEmpty) ((uAll v.cells).bind fun us => (r[i]?).bind fun cs => (paste cs o us).map fun c => ⟨none, .bad, [(id, .row z (r.set i c))], [id]⟩) none) ∧
  (∀ (E : CallE) st d zero, fx E st (.alloc d zero) = fxa st d (st.o (.loc d 0)) zero) ∧ (∀ st d zero, fxa st d none zero = some ⟨some d, .t (.sc (.ptr (.loc d 0) 0 0)), [(.loc d 0, .box (zero.map .u))], []⟩) := by
  refine ⟨fun st n id i o v => rfl, fun cs id n o v => rfl, fun z r id n i o v => rfl, fun E st d zero => ?_, fun st d zero => rfl⟩
  simp only [fx, fxa, dead1, sel]
theorem xR : (type_of% fx_st) ∧ (type_of% sq) ∧ (type_of% fxq) := ⟨fx_st, sq, fxq⟩
end Go.Proofs.YtbieglaagpogkaaV
