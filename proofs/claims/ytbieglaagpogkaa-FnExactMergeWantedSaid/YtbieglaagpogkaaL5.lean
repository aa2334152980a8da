/- States; whether they are to be split or merged. No conditions but those that the lemmas state. -/
import Derived.Test.YtbieglaagpogkaaL4
namespace Go.Proofs.YtbieglaagpogkaaV
open Go Go.RowKit
set_option linter.unusedVariables false
set_option linter.unusedSimpArgs false
set_option maxRecDepth 4000
def stateValid (s : State) : Bool := intervalValid s.span && pairsValid s.pairs && sessionsValid s.known && (s.pairs.all fun q => inside s.span q.key) && (decide (s.cut = []) || s.sealed && cutOk s.span s.cut)
theorem pairsValid_len {l : List Pair} (h : pairsValid l = true) : l.length ≤ 48 := by
  simp only [pairsValid, Bool.and_eq_true, decide_eq_true_eq] at h; exact h.1
theorem stateValid_impl (lo hi : Str) (l : List Pair) (k : List Session) (se : Bool) (cut : Str) (hn : k.length ≤ 4611686018427387904) : EE F 127 [.ag [.u (.str lo), .u (.str hi), .u (.sl 2 (l.map Pair.u)), .u (.sl 3 (k.map Session.u)), .u (.bool se), .u (.str cut)]] [] = ok1 (B (stateValid ⟨⟨lo, hi⟩, l, k, se, cut⟩)) := by
  rw [R127, b127]
  simp only [↓xP, xQ, xR, eqCells_ok, eqSh, eqBs, Nat.reduceBEq, Nat.reduceAdd, IOp.dst, IOp.isF, IOp.args, coolOp, intervalValid_impl, pairsValid_impl, sessionsValid_impl k hn]
  refine sel_split (fun h => ?_) (fun h => ?_)
  · simp_all [stateValid]
  refine sel_split (fun h2 => ?_) (fun h2 => ?_)
  · simp_all [stateValid]
  refine sel_split (fun h3 => ?_) (fun h3 => ?_)
  · simp_all [stateValid]
  simp only [Bool.not_eq_false'] at h h2 h3
  have hlen := pairsValid_len h2
  refine (loop_ind (fun (i : Nat) st => st.s 1 = .t (.sc (.ptr (.loc 1 0) 0 0)) ∧ st.o (.loc 1 0) = some (.box [.u (.str lo), .u (.str hi), .u (.sl 2 (l.map Pair.u)), .u (.sl 3 (k.map Session.u)), .u (.bool se), .u (.str cut)]) ∧ st.s 25 = DU (.sl 2 (l.map Pair.u)) ∧ st.s 26 = DI l.length ∧ st.s 27 = DI i) (fun i => l.length - i) (fun i => ok1 (B (((l.drop i).all fun q => inside ⟨lo, hi⟩ q.key) && (decide (cut = []) || se && cutOk ⟨lo, hi⟩ cut)))) ?_ 0 ⟨by simp only [↓xP, xQ, xR, eqCells_ok, eqSh, eqBs, Nat.reduceBEq, Nat.reduceAdd, IOp.dst, IOp.isF, IOp.args, coolOp], by simp only [↓xP, xQ, xR, eqCells_ok, eqSh, eqBs, Nat.reduceBEq, Nat.reduceAdd, IOp.dst, IOp.isF, IOp.args, coolOp], by simp only [↓xP, xQ, xR, eqCells_ok, eqSh, eqBs, Nat.reduceBEq, Nat.reduceAdd, IOp.dst, IOp.isF, IOp.args, coolOp], by simp only [↓xP, xQ, xR, eqCells_ok, eqSh, eqBs, Nat.reduceBEq, Nat.reduceAdd, IOp.dst, IOp.isF, IOp.args, coolOp], by simp only [↓xP, xQ, xR, eqCells_ok, eqSh, eqBs, Nat.reduceBEq, Nat.reduceAdd, IOp.dst, IOp.isF, IOp.args, coolOp]; rfl⟩).trans ?_
  · rintro i st ⟨h1, ho, h25, h26, h27⟩ ih
    by_cases hi' : i < l.length
    · obtain ⟨⟨pk, pv⟩, hp⟩ : ∃ p, l[i]? = some p := ⟨_, List.getElem?_eq_getElem hi'⟩
      have hd : l.drop i = ⟨pk, pv⟩ :: l.drop (i + 1) := by rw [List.drop_eq_getElem_cons hi', (List.getElem?_eq_some_iff.1 hp).2]
      have hw := w_succ (i := i) (by omega)
      simp only [↓xP, xQ, xR, eqCells_ok, eqSh, eqBs, Nat.reduceBEq, Nat.reduceAdd, IOp.dst, IOp.isF, IOp.args, coolOp, h1, ho, h25, h26, h27, hi', hp, hw, Pair.u, inside_ok]
      rw [hd]
      refine sel_split (fun h => ?_) (fun h => ?_)
      · simp_all
      · rw [ih (i + 1) _ (by omega) ⟨by simp only [↓xP, xQ, xR, eqCells_ok, eqSh, eqBs, Nat.reduceBEq, Nat.reduceAdd, IOp.dst, IOp.isF, IOp.args, coolOp, h1], by simp only [↓xP, xQ, xR, eqCells_ok, eqSh, eqBs, Nat.reduceBEq, Nat.reduceAdd, IOp.dst, IOp.isF, IOp.args, coolOp, ho], by simp only [↓xP, xQ, xR, eqCells_ok, eqSh, eqBs, Nat.reduceBEq, Nat.reduceAdd, IOp.dst, IOp.isF, IOp.args, coolOp, h25], by simp only [↓xP, xQ, xR, eqCells_ok, eqSh, eqBs, Nat.reduceBEq, Nat.reduceAdd, IOp.dst, IOp.isF, IOp.args, coolOp, h26], by simp only [↓xP, xQ, xR, eqCells_ok, eqSh, eqBs, Nat.reduceBEq, Nat.reduceAdd, IOp.dst, IOp.isF, IOp.args, coolOp]⟩]
        simp_all
    · simp only [↓xP, xQ, xR, eqCells_ok, eqSh, eqBs, Nat.reduceBEq, Nat.reduceAdd, IOp.dst, IOp.isF, IOp.args, coolOp, h1, ho, h25, h26, h27, hi', intervalCut_impl]
      rw [List.drop_of_length_le (by omega)]
      refine sel_split (fun h => ?_) (fun h => ?_)
      · simp_all
      cases hc : cutOk ⟨lo, hi⟩ cut <;> simp only [↓xP, xQ, xR, eqCells_ok, eqSh, eqBs, Nat.reduceBEq, Nat.reduceAdd, IOp.dst, IOp.isF, IOp.args, coolOp, cutRet, hc, h1, ho]
      all_goals repeat' (refine sel_split (fun h => ?_) (fun h => ?_))
      all_goals simp_all
  · simp [stateValid, h, h2, h3]
theorem stateValid_spec (lo hi : Str) (l : List Pair) (k : List Session) (se : Bool) (cut : Str) (hn : k.length ≤ 4611686018427387904) : EE F 125 [.ag [.u (.str lo), .u (.str hi), .u (.sl 2 (l.map Pair.u)), .u (.sl 3 (k.map Session.u)), .u (.bool se), .u (.str cut)]] [] = ok1 (B (stateValid ⟨⟨lo, hi⟩, l, k, se, cut⟩)) := by
  rw [R125, b125]
  simp only [↓xP, xQ, xR, eqCells_ok, eqSh, eqBs, Nat.reduceBEq, Nat.reduceAdd, IOp.dst, IOp.isF, IOp.args, coolOp, intervalValid_spec, pairsValid_spec, sessionsValid_spec k hn]
  refine sel_split (fun h => ?_) (fun h => ?_)
  · simp_all [stateValid]
  refine sel_split (fun h2 => ?_) (fun h2 => ?_)
  · simp_all [stateValid]
  refine sel_split (fun h3 => ?_) (fun h3 => ?_)
  · simp_all [stateValid]
  simp only [Bool.not_eq_false'] at h h2 h3
  have hlen := pairsValid_len h2
  refine (loop_ind (fun (i : Nat) st => st.s 1 = .t (.sc (.ptr (.loc 1 0) 0 0)) ∧ st.o (.loc 1 0) = some (.box [.u (.str lo), .u (.str hi), .u (.sl 2 (l.map Pair.u)), .u (.sl 3 (k.map Session.u)), .u (.bool se), .u (.str cut)]) ∧ st.s 3 = DI i) (fun i => l.length - i) (fun i => ok1 (B (((l.drop i).all fun q => inside ⟨lo, hi⟩ q.key) && (decide (cut = []) || se && cutOk ⟨lo, hi⟩ cut)))) ?_ 0 ⟨by simp only [↓xP, xQ, xR, eqCells_ok, eqSh, eqBs, Nat.reduceBEq, Nat.reduceAdd, IOp.dst, IOp.isF, IOp.args, coolOp], by simp only [↓xP, xQ, xR, eqCells_ok, eqSh, eqBs, Nat.reduceBEq, Nat.reduceAdd, IOp.dst, IOp.isF, IOp.args, coolOp], by simp only [↓xP, xQ, xR, eqCells_ok, eqSh, eqBs, Nat.reduceBEq, Nat.reduceAdd, IOp.dst, IOp.isF, IOp.args, coolOp]; rfl⟩).trans ?_
  · rintro i st ⟨h1, ho, h3'⟩ ih
    by_cases hi' : i < l.length
    · obtain ⟨⟨pk, pv⟩, hp⟩ : ∃ p, l[i]? = some p := ⟨_, List.getElem?_eq_getElem hi'⟩
      have hd : l.drop i = ⟨pk, pv⟩ :: l.drop (i + 1) := by rw [List.drop_eq_getElem_cons hi', (List.getElem?_eq_some_iff.1 hp).2]
      have hw := w_succ (i := i) (by omega)
      have hk := (pairsValid_at h2 hp).1
      simp only [↓xP, xQ, xR, eqCells_ok, eqSh, eqBs, Nat.reduceBEq, Nat.reduceAdd, IOp.dst, IOp.isF, IOp.args, coolOp, h1, ho, h3', hi', hp, hw, Pair.u, intervalHas_spec]
      rw [hd]
      refine sel_split (fun h => ?_) (fun h => ?_)
      · simp_all [intervalHas]
      · rw [ih (i + 1) _ (by omega) ⟨by simp only [↓xP, xQ, xR, eqCells_ok, eqSh, eqBs, Nat.reduceBEq, Nat.reduceAdd, IOp.dst, IOp.isF, IOp.args, coolOp, h1], by simp only [↓xP, xQ, xR, eqCells_ok, eqSh, eqBs, Nat.reduceBEq, Nat.reduceAdd, IOp.dst, IOp.isF, IOp.args, coolOp, ho], by simp only [↓xP, xQ, xR, eqCells_ok, eqSh, eqBs, Nat.reduceBEq, Nat.reduceAdd, IOp.dst, IOp.isF, IOp.args, coolOp]⟩]
        simp_all [intervalHas]
    · simp only [↓xP, xQ, xR, eqCells_ok, eqSh, eqBs, Nat.reduceBEq, Nat.reduceAdd, IOp.dst, IOp.isF, IOp.args, coolOp, h1, ho, h3', hi', intervalCut_spec]
      rw [List.drop_of_length_le (by omega)]
      cases hc : cutOk ⟨lo, hi⟩ cut <;> simp only [↓xP, xQ, xR, eqCells_ok, eqSh, eqBs, Nat.reduceBEq, Nat.reduceAdd, IOp.dst, IOp.isF, IOp.args, coolOp, cutRet, hc, h1, ho]
      all_goals repeat' (refine sel_split (fun h => ?_) (fun h => ?_))
      all_goals simp_all
  · simp [stateValid, h, h2, h3]
/-! ### The middle key -/
def pairsMiddle (l : List Pair) : Str := if pairsValid l = true ∧ 2 ≤ l.length then (match l[l.length / 2]? with
  | some p => p.key
  | none => []) else []
theorem half {n : Nat} (h : n ≤ 48) : IntKind.i64.wrap ((n : Int).tdiv 2) = ((n / 2 : Nat) : Int) := by
  have : (n : Int).tdiv 2 = ((n / 2 : Nat) : Int) := by rw [Int.tdiv_eq_ediv_of_nonneg (by omega)]; rfl
  rw [this, w64 (by omega) (by omega)]
theorem pairsMiddle_spec (l : List Pair) : EE F 130 [L 2 (l.map Pair.u)] [] = ok1 (S (pairsMiddle l)) := by
  rw [R130, b130]
  simp only [↓xP, xQ, xR, eqCells_ok, eqSh, eqBs, Nat.reduceBEq, Nat.reduceAdd, IOp.dst, IOp.isF, IOp.args, coolOp, pairsValid_spec]
  refine sel_split (fun h => ?_) (fun h => ?_)
  · simp_all [pairsMiddle]
  refine sel_split (fun h2 => ?_) (fun h2 => ?_)
  · have h3 : ¬ 2 ≤ l.length := by simp at h2; omega
    simp [pairsMiddle, h3]
  have h3 : 2 ≤ l.length := by simp at h2; omega
  simp only [Bool.not_eq_false'] at h
  have hw := half (pairsValid_len h)
  have hi : l.length / 2 < l.length := by omega
  obtain ⟨⟨pk, pv⟩, hp⟩ : ∃ p, l[l.length / 2]? = some p := ⟨_, List.getElem?_eq_getElem hi⟩
  simp only [↓xP, xQ, xR, eqCells_ok, eqSh, eqBs, Nat.reduceBEq, Nat.reduceAdd, IOp.dst, IOp.isF, IOp.args, coolOp, hw, hp, Pair.u, pairsMiddle, h, h3, show ¬ (2 : Int) = 0 by omega]
theorem pairsMiddle_impl (l : List Pair) : EE F 131 [L 2 (l.map Pair.u)] [] = ok1 (S (pairsMiddle l)) := by
  rw [R131, b131]
  simp only [↓xP, xQ, xR, eqCells_ok, eqSh, eqBs, Nat.reduceBEq, Nat.reduceAdd, IOp.dst, IOp.isF, IOp.args, coolOp, pairsValid_impl]
  refine sel_split (fun h => ?_) (fun h => ?_)
  · simp_all [pairsMiddle]
  refine sel_split (fun h2 => ?_) (fun h2 => ?_)
  · have h3 : ¬ 2 ≤ l.length := by simp at h2; omega
    simp [pairsMiddle, h3]
  have h3 : 2 ≤ l.length := by simp at h2; omega
  simp only [Bool.not_eq_false'] at h
  have hw := half (pairsValid_len h)
  have hi : l.length / 2 < l.length := by omega
  obtain ⟨⟨pk, pv⟩, hp⟩ : ∃ p, l[l.length / 2]? = some p := ⟨_, List.getElem?_eq_getElem hi⟩
  simp only [↓xP, xQ, xR, eqCells_ok, eqSh, eqBs, Nat.reduceBEq, Nat.reduceAdd, IOp.dst, IOp.isF, IOp.args, coolOp, hw, hp, Pair.u, pairsMiddle, h, h3, show ¬ (2 : Int) = 0 by omega]
/-! ### Split and merge -/
def splitWanted (s : State) : Str := if stateValid s = true ∧ s.sealed = false ∧ 6 ≤ s.pairs.length then pairsMiddle s.pairs else []
theorem splitWanted_spec (lo hi : Str) (l : List Pair) (k : List Session) (se : Bool) (cut : Str) (hn : k.length ≤ 4611686018427387904) : EE F 61 [.ag [.u (.str lo), .u (.str hi), .u (.sl 2 (l.map Pair.u)), .u (.sl 3 (k.map Session.u)), .u (.bool se), .u (.str cut)]] [] = ok1 (S (splitWanted ⟨⟨lo, hi⟩, l, k, se, cut⟩)) := by
  rw [R61, b61]
  simp only [↓xP, xQ, xR, eqCells_ok, eqSh, eqBs, Nat.reduceBEq, Nat.reduceAdd, IOp.dst, IOp.isF, IOp.args, coolOp, stateValid_spec lo hi l k se cut hn, pairsMiddle_spec]
  repeat' (refine sel_split (fun h => ?_) (fun h => ?_))
  all_goals first | (simp_all [splitWanted]; done) | (simp_all [splitWanted] <;> (intros; omega))
theorem splitWanted_impl (lo hi : Str) (l : List Pair) (k : List Session) (se : Bool) (cut : Str) (hn : k.length ≤ 4611686018427387904) : EE F 62 [.ag [.u (.str lo), .u (.str hi), .u (.sl 2 (l.map Pair.u)), .u (.sl 3 (k.map Session.u)), .u (.bool se), .u (.str cut)]] [] = ok1 (S (splitWanted ⟨⟨lo, hi⟩, l, k, se, cut⟩)) := by
  rw [R62, b62]
  simp only [↓xP, xQ, xR, eqCells_ok, eqSh, eqBs, Nat.reduceBEq, Nat.reduceAdd, IOp.dst, IOp.isF, IOp.args, coolOp, stateValid_impl lo hi l k se cut hn, pairsMiddle_impl]
  repeat' (refine sel_split (fun h => ?_) (fun h => ?_))
  all_goals first | (simp_all [splitWanted]; done) | (simp_all [splitWanted] <;> (intros; omega))
def mergeWanted (a b : State) : Bool := stateValid a && stateValid b && !a.sealed && !b.sealed && joinOk a.span b.span && decide (a.pairs.length + b.pairs.length ≤ 3)
theorem mergeWanted_spec (al ah : Str) (l : List Pair) (k : List Session) (se : Bool) (cut : Str) (hn : k.length ≤ 4611686018427387904) (al' ah' : Str) (l' : List Pair) (k' : List Session) (se' : Bool) (cut' : Str) (hn' : k'.length ≤ 4611686018427387904) : EE F 57 [.ag [.u (.str al), .u (.str ah), .u (.sl 2 (l.map Pair.u)), .u (.sl 3 (k.map Session.u)), .u (.bool se), .u (.str cut)], .ag [.u (.str al'), .u (.str ah'), .u (.sl 2 (l'.map Pair.u)), .u (.sl 3 (k'.map Session.u)), .u (.bool se'), .u (.str cut')]] [] = ok1 (B (mergeWanted ⟨⟨al, ah⟩, l, k, se, cut⟩ ⟨⟨al', ah'⟩, l', k', se', cut'⟩)) := by
  rw [R57, b57]
  cases hc : joinOk ⟨al, ah⟩ ⟨al', ah'⟩ <;> simp only [↓xP, xQ, xR, eqCells_ok, eqSh, eqBs, Nat.reduceBEq, Nat.reduceAdd, IOp.dst, IOp.isF, IOp.args, coolOp, stateValid_spec al ah l k se cut hn, stateValid_spec al' ah' l' k' se' cut' hn', intervalJoin_spec, joinRet, hc]
  all_goals repeat' (refine sel_split (fun h => ?_) (fun h => ?_))
  all_goals try (simp_all [mergeWanted]; done)
  all_goals
    have hl := pairsValid_len (l := l) (by simp_all [stateValid])
    have hl' := pairsValid_len (l := l') (by simp_all [stateValid])
    rw [w64 (by omega) (by omega)]
    simp_all [mergeWanted]
    omega
theorem mergeWanted_impl (al ah : Str) (l : List Pair) (k : List Session) (se : Bool) (cut : Str) (hn : k.length ≤ 4611686018427387904) (al' ah' : Str) (l' : List Pair) (k' : List Session) (se' : Bool) (cut' : Str) (hn' : k'.length ≤ 4611686018427387904) : EE F 59 [.ag [.u (.str al), .u (.str ah), .u (.sl 2 (l.map Pair.u)), .u (.sl 3 (k.map Session.u)), .u (.bool se), .u (.str cut)], .ag [.u (.str al'), .u (.str ah'), .u (.sl 2 (l'.map Pair.u)), .u (.sl 3 (k'.map Session.u)), .u (.bool se'), .u (.str cut')]] [] = ok1 (B (mergeWanted ⟨⟨al, ah⟩, l, k, se, cut⟩ ⟨⟨al', ah'⟩, l', k', se', cut'⟩)) := by
  rw [R59, b59]
  cases hc : joinOk ⟨al, ah⟩ ⟨al', ah'⟩ <;> simp only [↓xP, xQ, xR, eqCells_ok, eqSh, eqBs, Nat.reduceBEq, Nat.reduceAdd, IOp.dst, IOp.isF, IOp.args, coolOp, stateValid_impl al ah l k se cut hn, stateValid_impl al' ah' l' k' se' cut' hn', intervalJoin_impl, joinRet, hc]
  all_goals repeat' (refine sel_split (fun h => ?_) (fun h => ?_))
  all_goals try (simp_all [mergeWanted]; done)
  all_goals
    have hl := pairsValid_len (l := l) (by simp_all [stateValid])
    have hl' := pairsValid_len (l := l') (by simp_all [stateValid])
    rw [w64 (by omega) (by omega)]
    simp_all [mergeWanted]
    omega
end Go.Proofs.YtbieglaagpogkaaV
