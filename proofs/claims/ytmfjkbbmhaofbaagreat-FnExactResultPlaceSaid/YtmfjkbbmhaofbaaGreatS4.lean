/- The simplifier's rules, gathered: vP ahead of an expression's parts, vQ behind them. No conditions. -/
import Derived.Test.YtmfjkbbmhaofbaaGreatS3
import Derived.Test.YtmfjkbbmhaofbaaGreatV27
namespace Go.Proofs.YtmfjkbbmhaofbaaGreatV
open Go Go.RowKit
set_option linter.unusedVariables false
set_option linter.unusedSimpArgs false
theorem RG_und (F : Nat → Option IFn) (fin : St → Option Ret) (is : List IItem) (os : List GOp) (st : St) (o : IOp) (t : Nat) (b : Bool) : RG F fin is os o t b st (.tup []) = RP F fin is os st o.dst := rfl
theorem sel_split {α : Type} {x : Bool} {a b r : α} (ht : x = true → a = r) (hf : x = false → b = r) : sel x a b = r := by
  cases x
  · exact hf rfl
  · exact ht rfl
/-- An order that does not count: operations that only read. -/
theorem runDraw_pure {E : CallE} : ∀ (gs : List (GOp × List Nat)) (done : List Fx) (st : St), gs.all (fun g => g.1.op.isF) = true → done.all (fun f => f.set.isEmpty) = true → runDraw E gs done st = runOps E (gs.map (·.1)) st
  | [], _, _, _, _ => rfl
  | (g, free) :: gs, done, st, h, hd => by
    simp only [List.all_cons, Bool.and_eq_true] at h
    by_cases hsol : solid free = true
    · simp only [runDraw, List.map_cons, runOps, if_pos hsol]
      cases gstep E st g with
      | none => rfl
      | some s => exact runDraw_pure gs _ _ h.2 (by simp only [List.all_append, hd, Bool.true_and]; rfl)
    simp only [runDraw, List.map_cons, runOps, if_neg hsol]
    have key : ∀ e, gfx E st g = some e → e.set = [] ∧ gstep E st g = some (e.app st) := by
      intro e he
      have hF : ∀ op e, op.isF = true → fx E st op = some e → e.set = [] ∧ step E st op = some (e.app st) := by
        intro op e hop hf
        have hf0 : fxF E st op = some e ∨ (∃ d a, op = .mv d a ∧ e = ⟨some d, st.get a, [], []⟩) := by
          cases op
          case mv d a =>
            simp only [fx] at hf
            split at hf
            · cases hf; exact .inr ⟨_, _, rfl, rfl⟩
            · exact .inl hf
          all_goals first | exact .inl hf | cases hop
        rcases hf0 with hf' | ⟨d, a, rfl, rfl⟩
        case inr => exact ⟨rfl, rfl⟩
        simp only [fxF, Option.bind_eq_some_iff, Option.map_eq_some_iff] at hf'
        obtain ⟨s, hs, d, hd, rfl⟩ := hf'
        obtain ⟨h1, _⟩ := f_local hop hd ⟨fun _ _ => rfl, fun _ _ => rfl⟩ s hs
        refine ⟨rfl, ?_⟩
        rw [hs]
        simp only [Fx.app, St.objs, List.foldl_nil, St.putO]
        rw [← h1]
      cases hg : g.g with
      | none => simp only [gfx, gstep, hg] at he ⊢; exact hF _ _ h.1 he
      | some p =>
        obtain ⟨t, b⟩ := p
        simp only [gfx, hg, Option.bind_eq_some_iff] at he
        obtain ⟨x, hx, he⟩ := he
        simp only [gstep, hg, hx, Option.bind_some]
        split at he
        · rename_i hb; rw [if_pos hb]; exact hF _ _ h.1 he
        · rename_i hb; cases he; rw [if_neg hb]; exact ⟨rfl, rfl⟩
    have key2 : gfx E st g = none → gstep E st g = none := by
      intro he
      have hF : ∀ op, op.isF = true → fx E st op = none → step E st op = none := by
        intro op hop hf
        have hf' : fxF E st op = none := by
          cases op
          case mv d a =>
            simp only [fx] at hf
            split at hf
            · cases hf
            · exact hf
          all_goals first | exact hf | cases hop
        cases hs : step E st op with
        | none => rfl
        | some s =>
          simp only [fxF, hs, Option.bind_some] at hf'
          cases hd : op.dst with
          | none => cases op <;> first | (cases hop; done) | (cases hd; done)
          | some d => rw [hd] at hf'; cases hf'
      cases hg : g.g with
      | none => simp only [gfx, gstep, hg] at he ⊢; exact hF _ h.1 he
      | some p =>
        obtain ⟨t, b⟩ := p
        simp only [gfx, hg] at he
        simp only [gstep, hg]
        cases hx : guardOf (st.s t) with
        | none => rfl
        | some x =>
          rw [hx] at he
          simp only [Option.bind_some] at he ⊢
          split at he
          · rename_i hb; rw [if_pos hb]; exact hF _ h.1 he
          · cases he
    cases he : gfx E st g with
    | none => rw [key2 he]; rfl
    | some e =>
      obtain ⟨h1, h2⟩ := key e he
      rw [h2]
      simp only [Option.bind_some]
      have hf : freeOk done e free = true := by
        simp only [freeOk, List.all_eq_true]
        intro k _
        cases hk : done[k]? with
        | none => rfl
        | some f =>
          have : f.set = [] := by
            have := List.all_eq_true.1 hd f (List.mem_of_getElem? hk)
            simpa using this
          simp [Fx.apart, apartIds, this, h1]
      rw [if_pos hf]
      exact runDraw_pure gs _ _ h.2 (by simp only [List.all_append, hd, Bool.true_and, List.all_cons, h1, List.isEmpty_nil, List.all_nil])
theorem coolDsts_pure : ∀ (gs : List (GOp × List Nat)) (st : St), gs.all (fun g => g.1.op.isF) = true → coolDsts st gs = st
  | [], _, _ => rfl
  | (g, free) :: gs, st, h => by
    simp only [List.all_cons, Bool.and_eq_true] at h
    simp only [coolDsts]
    refine (congrArg (fun s => coolDsts s gs) ?_).trans (coolDsts_pure gs st h.2)
    have h1 := h.1
    generalize g.op = op at h1 ⊢
    cases op <;> first | rfl | cases h1
theorem KK_drawF {F : Nat → Option IFn} {fin : St → Option Ret} {is : List IItem} {gs : List (GOp × List Nat)} {st : St} (h : gs.all (fun g => g.1.op.isF) = true) : KK F fin (.code (.draw gs) :: is) st = RR F fin is (gs.map (·.1)) st := by
  simp only [KK, CC_draw, coolDsts_pure gs st h, runDraw_pure gs [] st h rfl, RR, Option.bind_assoc]
  rfl
theorem RR_maps (F : Nat → Option IFn) (fin : St → Option Ret) (is : List IItem) (st : St) (o : GOp) (f : List Nat) (gs : List (GOp × List Nat)) : RR F fin is (List.map (·.1) ((o, f) :: gs)) st = RR F fin is (o :: List.map (·.1) gs) st := rfl
theorem RR_maps0 (F : Nat → Option IFn) (fin : St → Option Ret) (is : List IItem) (st : St) : RR F fin is (List.map (fun x : GOp × List Nat => x.1) []) st = KK F fin is st := rfl
theorem vP : (type_of% vi) ∧ (type_of% vp) ∧ (type_of% @put_ne) ∧ (type_of% @obj_ne) ∧ (type_of% @exit_ne) ∧ (type_of% @KK_drawF) ∧ (type_of% RR_maps) ∧ (type_of% RR_maps0) := ⟨vi, vp, @put_ne, @obj_ne, @exit_ne, @KK_drawF, RR_maps, RR_maps0⟩
theorem w64 {x : Int} (h1 : -9223372036854775808 ≤ x) (h2 : x ≤ 9223372036854775807) : IntKind.i64.wrap x = x := by rw [IntKind.wrap_i64]; omega
theorem w_succ {i : Nat} (h : i < 9223372036854775807) : IntKind.i64.wrap ((i : Int) + 1) = ((i + 1 : Nat) : Int) := by rw [w64 (by omega) (by omega)]; rfl
/-- Slices' elements by whole numbers that are naturals. -/
theorem via_nat (st : St) (sz : Nat) (rows : List (List U)) (i : Nat) : via st sz (DU (.sl sz rows)) (DI (i : Int)) = (rows[i]?).map .rptr := by simp [via, D.int?]
theorem vix_nat (s : List UInt8) (i : Nat) : vix (DS s) (DI (i : Int)) = (s[i]?).map fun b => DU (.int .u8 b.toNat) := by simp [vix, D.int?]
theorem via_0 (st : St) (sz : Nat) (rows : List (List U)) : via st sz (DU (.sl sz rows)) (DI 0) = (rows[0]?).map .rptr := via_nat st sz rows 0
theorem vix_0 (s : List UInt8) : vix (DS s) (DI 0) = (s[0]?).map fun b => DU (.int .u8 b.toNat) := vix_nat s 0
theorem seg_r {α : Type} : (∀ cs : List α, seg cs 0 0 = some []) ∧ (∀ (a : α) cs n, seg (a :: cs) 0 (n + 1) = (seg cs 0 n).map (a :: ·)) ∧ (∀ (a : α) cs o n, seg (a :: cs) (o + 1) n = seg cs o n) := by
  refine ⟨fun cs => by simp [seg], fun a cs n => ?_, fun a cs o n => ?_⟩
  · simp only [seg, Nat.zero_add, List.length_cons, List.drop_zero, List.take_succ_cons]
    by_cases h : n ≤ cs.length
    · rw [if_pos (by omega), if_pos h]; rfl
    · rw [if_neg (by omega), if_neg h]; rfl
  · simp only [seg, List.length_cons, List.drop_succ_cons]
    by_cases h : o + n ≤ cs.length
    · rw [if_pos (by omega), if_pos h]
    · rw [if_neg (by omega), if_neg h]
theorem paste_r {α : Type} : (∀ cs : List α, paste cs 0 [] = some cs) ∧ (∀ (a : α) cs x xs, paste (a :: cs) 0 (x :: xs) = (paste cs 0 xs).map (x :: ·)) ∧ (∀ (a : α) cs o xs, paste (a :: cs) (o + 1) xs = (paste cs o xs).map (a :: ·)) := by
  refine ⟨fun cs => by simp [paste], fun a cs x xs => ?_, fun a cs o xs => ?_⟩
  · simp only [paste, Nat.zero_add, List.length_cons, List.take_zero, List.nil_append, List.drop_succ_cons, List.cons_append]
    by_cases h : xs.length ≤ cs.length
    · rw [if_pos (by omega), if_pos h]; rfl
    · rw [if_neg (by omega), if_neg h]; rfl
  · simp only [paste, List.length_cons, List.take_succ_cons, List.cons_append, show o + 1 + xs.length = (o + xs.length) + 1 by omega, List.drop_succ_cons]
    by_cases h : o + xs.length ≤ cs.length
    · rw [if_pos (by omega), if_pos h]; rfl
    · rw [if_neg (by omega), if_neg h]; rfl
theorem fill_r : (∀ cells off xs, fillAt cells off xs = paste cells off xs) ∧ (∀ (st : St) cells, st.fill cells [] = some cells) ∧ (∀ (st : St) cells off n a ps, st.fill cells ((off, n, a) :: ps) = (st.get a).t?.bind fun x => if x.cells.length = n then (paste cells off x.cells).bind fun cs => st.fill cs ps else none) ∧
  (∀ (st : St) cells ps, vfill st cells ps = (st.fill cells ps).map fun cs => .t (.ag cs)) := ⟨fun _ _ _ => rfl, fun _ _ => rfl, fun _ _ _ _ _ _ => rfl, fun _ _ _ => rfl⟩
theorem vcut_eq (n : Nat) (l h : Int) (h1 : 0 ≤ l) (h2 : l ≤ h) (h3 : h ≤ n) : vcut n (some (DI l)) (some (DI h)) = some (l.toNat, h.toNat) := by simp [vcut, D.int?, h1, h2, h3]
theorem vcut_lo (n : Nat) (l : Int) (h1 : 0 ≤ l) (h2 : l ≤ n) : vcut n (some (DI l)) none = some (l.toNat, n) := by simp [vcut, D.int?, h1, h2]
theorem vcut_hi (n : Nat) (h : Int) (h1 : 0 ≤ h) (h2 : h ≤ n) : vcut n none (some (DI h)) = some (0, h.toNat) := by simp [vcut, D.int?, h1, h2]
theorem vcut_all (n : Nat) : vcut n none none = some (0, n) := by simp [vcut]
/-- Lists and options. -/
theorem vl : (∀ {α β : Type} (a : α) (f : α → Option β), (some a).bind f = f a) ∧ (∀ {α β : Type} (f : α → Option β), (none : Option α).bind f = none) ∧ (∀ {α β : Type} (a : α) (f : α → β), (some a).map f = some (f a)) ∧ (∀ {α β : Type} (f : α → β), (none : Option α).map f = none) ∧
  (∀ {α β : Type} (f : α → β), List.map f [] = []) ∧ (∀ {α β : Type} (f : α → β) a l, List.map f (a :: l) = f a :: List.map f l) ∧
  (∀ {α : Type} (l : List α), l.drop 0 = l) ∧ (∀ {α : Type} (n : Nat) (a : α) l, List.drop (n + 1) (a :: l) = List.drop n l) ∧ (∀ {α : Type} (n : Nat), List.drop n ([] : List α) = []) ∧
  (∀ {α : Type} (l : List α), l.take 0 = []) ∧ (∀ {α : Type} (n : Nat) (a : α) l, List.take (n + 1) (a :: l) = a :: List.take n l) ∧ (∀ {α : Type} (n : Nat), List.take n ([] : List α) = []) ∧
  (∀ {α : Type} (l : List α), [] ++ l = l) ∧ (∀ {α : Type} (a : α) (l m : List α), (a :: l) ++ m = a :: (l ++ m)) ∧ (∀ {α : Type} (l : List α), l ++ [] = l) ∧
  (∀ {α : Type}, ([] : List α).length = 0) ∧ (∀ {α : Type} (a : α) l, (a :: l).length = l.length + 1) ∧ (∀ {α : Type} (a : α) l, (a :: l)[0]? = some a) ∧ (∀ {α : Type} (n : Nat) (a : α) l, (a :: l)[n + 1]? = l[n]?) ∧ (∀ {α β : Type} (l : List α) (f : α → β), (l.map f).length = l.length) ∧
  (∀ {α : Type} (p : α → Bool), [].all p = true) ∧ (∀ {α : Type} (p : α → Bool) a l, (a :: l).all p = (p a && l.all p)) ∧ (∀ {α β : Type} (f : α → Option β), [].filterMap f = []) ∧
  (∀ {α β : Type} (f : α → List β), List.flatMap f [] = []) ∧ (∀ {α β : Type} (f : α → List β) a l, List.flatMap f (a :: l) = f a ++ List.flatMap f l) ∧ (∀ {α : Type}, ([] : List α).isEmpty = true) ∧ (∀ {α : Type} (a : α) l, (a :: l).isEmpty = false) ∧
  (∀ b, (true && b) = b) ∧ (∀ b, (b && true) = b) ∧ (∀ b, (false && b) = false) ∧ (∀ b, (b && false) = false) ∧ (!true) = false ∧ (!false) = true ∧ List.range 0 = [] ∧ List.range 1 = [0] ∧ List.range 2 = [0, 1] ∧
  (∀ {α : Type} (p : Prop) [Decidable p] (a : α), (if p then a else a) = a) ∧ (∀ {α β : Type} (l : List α) (f : α → β) (i : Nat), (l.map f)[i]? = (l[i]?).map f) ∧ (∀ a b : Nat, ((a : Int) < (b : Int)) = (a < b)) ∧ (∀ a b : Nat, ((a : Int) ≤ (b : Int)) = (a ≤ b)) ∧ (∀ a b : Nat, ((a : Int) = (b : Int)) = (a = b)) ∧
  decide True = true ∧ decide False = false ∧ (∀ {α : Type} (a b : α), (if True then a else b) = a) ∧ (∀ {α : Type} (a b : α), (if False then a else b) = b) ∧ (∀ {α : Type} (a b : α), (if true = true then a else b) = a) ∧ (∀ {α : Type} (a b : α), (if false = true then a else b) = b) ∧ (∀ {α : Type} (a : α), (a = a) = True) ∧ (∀ n : Nat, (n ≤ n) = True) := by
  refine ⟨?_, ?_, ?_, ?_, ?_, ?_, ?_, ?_, ?_, ?_, ?_, ?_, ?_, ?_, ?_, ?_, ?_, ?_, ?_, ?_, ?_, ?_, ?_, ?_, ?_, ?_, ?_, ?_, ?_, ?_, ?_, ?_, ?_, ?_, ?_, ?_, ?_, ?_, ?_, ?_, ?_, ?_, ?_, ?_, ?_, ?_, ?_, ?_, ?_⟩ <;> intros <;> first | rfl | (simp; done) | (apply propext; omega)
theorem filterMap_cons_some {α β : Type} (f : α → Option β) (a : α) (l : List α) {b : β} (h : f a = some b) : (a :: l).filterMap f = b :: l.filterMap f := by simp [h]
/-- The cells that refer to objects. -/
def idsC : List C → List Id
  | [] => []
  | .u _ :: cs => idsC cs
  | .bad :: cs => idsC cs
  | .own i _ :: cs => i :: idsC cs
  | .ptr i _ _ :: cs => i :: idsC cs
  | .down i _ :: cs => i :: idsC cs
  | .sub i _ _ _ :: cs => i :: idsC cs
theorem ids_eq (x : T) : x.ids = idsC x.cells := by
  unfold T.ids
  generalize x.cells = cs
  induction cs with
  | nil => rfl
  | cons c cs ih => cases c <;> simp [List.filterMap_cons, C.id?, idsC, ih]
def lentAll (st : St) (rs : List IRes) : List Id := rs.flatMap st.lent
def lentD (x : Option T) : List Id := match x with
  | some x => x.ids
  | none => []
theorem vr : (∀ st, getL st [] = some []) ∧ (∀ st a as, getL st (a :: as) = (st.get a).t?.bind fun x => (getL st as).map (x :: ·)) ∧ (∀ st, lendL st [] = some []) ∧ (∀ st x xs, lendL st (x :: xs) = (st.lendT x).bind fun y => (lendL st xs).map (y :: ·)) ∧
  (∀ st, lendCs st [] = some []) ∧ (∀ st x xs, lendCs st (x :: xs) = (st.lend x).bind fun y => (lendCs st xs).map (y :: ·)) ∧ uAll [] = some [] ∧ (∀ u cs, uAll (.u u :: cs) = (uAll cs).map (u :: ·)) ∧
  (∀ st d ids res new, retSt st d ids res new = ((st.coolAll (sel (Ret.mk res new []).quiet [] ids)).coolAll ((List.range new.length).map (.loc d ·))).ofRet d ⟨res, new, []⟩) ∧
  (∀ st d res, St.ofRet st d ⟨res, [], []⟩ = st.put d (retD (res.map (T.mapC (C.ren (newIds d)))))) ∧ (∀ st d res x, St.ofRet st d ⟨res, [x], []⟩ = (st.obj (.loc d 0) (some x)).put d (retD (res.map (T.mapC (C.ren (newIds d)))))) ∧
  (∀ st d res x y, St.ofRet st d ⟨res, [x, y], []⟩ = ((st.obj (.loc d 0) (some x)).obj (.loc d 1) (some y)).put d (retD (res.map (T.mapC (C.ren (newIds d)))))) ∧
  (∀ res, (Ret.mk res [] []).quiet = res.all fun x => x.cells.all fun c => !c.isSl) ∧ (∀ res x new, (Ret.mk res (x :: new) []).quiet = (Obj.flat x && (Ret.mk res new []).quiet)) ∧
  (∀ k u, C.isSl (.u (.int k u)) = false) ∧ (∀ b, C.isSl (.u (.bool b)) = false) ∧ (∀ s, C.isSl (.u (.str s)) = false) ∧ (∀ (z : Nat) (r : List (List U)), C.isSl (.u (.sl z r)) = !r.isEmpty) ∧ C.isSl (.u .nil) = false ∧ (∀ i n, C.isSl (.own i n) = false) ∧
  (∀ x, retD [x] = .t x) ∧ (∀ x y l, retD (x :: y :: l) = .tup (x :: y :: l)) ∧ retD [] = .tup [] ∧
  (∀ f c, T.mapC f (.sc c) = .sc (f c)) ∧ (∀ f cs, T.mapC f (.ag cs) = .ag (cs.map f)) ∧ (∀ f u, C.ren f (.u u) = .u u) ∧ (∀ d j n, C.ren (newIds d) (.own (.par j) n) = .own (.loc d j) n) ∧
  idsC [] = [] ∧ (∀ u cs, idsC (.u u :: cs) = idsC cs) ∧ (∀ cs, idsC (.bad :: cs) = idsC cs) ∧ (∀ i n cs, idsC (.own i n :: cs) = i :: idsC cs) ∧ (∀ i a b cs, idsC (.ptr i a b :: cs) = i :: idsC cs) ∧ (∀ x, T.ids x = idsC x.cells) ∧
  (∀ st, resAll st [] = some []) ∧ (∀ st r rs, resAll st (r :: rs) = (st.result r).bind fun x => (resAll st rs).map (x :: ·)) ∧ (∀ st t, St.result st (.tmp t) = (st.s t).t?) ∧
  (∀ res n st, FF res n st = FV (lentAll st res) st n (resAll st res)) ∧ (∀ st n xs, FV [] st n xs = FX st n xs) ∧ (∀ i is st n xs, FV (i :: is) st n (some xs) = sel ((i :: is).all locOnly && (xs.flatMap T.ids).isEmpty) (FX st n (some xs)) none) ∧
  (∀ st, lentAll st [] = []) ∧ (∀ st t rs, lentAll st (.tmp t :: rs) = lentAll st rs) ∧ (∀ st t n agg rs, lentAll st (.cell t n agg :: rs) = lentAll st rs) ∧ (∀ st t rs, lentAll st (.tmpd t :: rs) = lentD (rawTmp (st.s t)) ++ lentAll st rs) ∧ (∀ st t n agg rs, lentAll st (.celld t n agg :: rs) = lentD (st.rawCell (st.s t) n agg) ++ lentAll st rs) ∧ (∀ x, lentD (some x) = x.ids) ∧
  (∀ st t, St.result st (.tmpd t) = (rawTmp (st.s t)).bind st.lendT) ∧ (∀ st t n agg, St.result st (.celld t n agg) = (st.rawCell (st.s t) n agg).bind st.lendT) ∧ (∀ x, rawTmp (.t x) = some x) ∧ (∀ st u, FX st 0 (some [.sc (.u u)]) = some ⟨[.sc (.u u)], [], []⟩) := by
  refine ⟨?_, ?_, ?_, ?_, ?_, ?_, ?_, ?_, ?_, ?_, ?_, ?_, ?_, ?_, ?_, ?_, ?_, ?_, ?_, ?_, ?_, ?_, ?_, ?_, ?_, ?_, ?_, ?_, ?_, ?_, ?_, ?_, ids_eq, ?_, ?_, ?_, FF_eq, FV_nil, FV_cons, ?_, ?_, ?_, ?_, ?_, ?_, ?_, ?_, ?_, FX_u⟩ <;> intros <;> first | rfl | simp [Ret.quiet, C.isSl, U.flat, Bool.and_assoc]
theorem vQ : (type_of% mapC_rules) ∧ (type_of% id_rules) ∧ (type_of% vj) ∧ (type_of% vd) ∧ (type_of% vb) ∧ (type_of% vv) ∧ (type_of% vs) ∧ (type_of% @vl) ∧ (type_of% @vr) ∧ (type_of% @cool_ne) ∧ (type_of% @kill_ne) ∧ (type_of% @coolC_own_ne) ∧ (type_of% @coolC_ptr_ne) ∧ (type_of% @kill_own_ne) ∧ (type_of% @kill_ptr_ne) ∧ (type_of% @seg_r) ∧ (type_of% @paste_r) ∧ (type_of% fill_r) ∧ (type_of% via_nat) ∧ (type_of% vix_nat) ∧ (type_of% RG_und) ∧ (type_of% via_0) ∧ (type_of% vix_0) :=
  ⟨mapC_rules, id_rules, vj, vd, vb, vv, vs, @vl, @vr, @cool_ne, @kill_ne, @coolC_own_ne, @coolC_ptr_ne, @kill_own_ne, @kill_ptr_ne, @seg_r, @paste_r, fill_r, via_nat, vix_nat, RG_und, via_0, vix_0⟩
end Go.Proofs.YtmfjkbbmhaofbaaGreatV
