/- Keys, intervals, pairs: what the program's and the reference's functions return. No conditions but those that the lemmas state. -/
import Derived.Test.YtbieglaagpogkaaT1
import Derived.Test.YtbieglaagpogkaaI
import Derived.Test.YtbieglaagpogkaaS7
namespace Go.Proofs.YtbieglaagpogkaaV
open Go Go.RowKit
set_option linter.unusedVariables false
set_option linter.unusedSimpArgs false
set_option maxRecDepth 4000
/-- All from a number on. -/
def allF (n : Nat) (p : Nat → Bool) (i : Nat) : Bool := if i < n then p i && allF n p (i + 1) else true
termination_by n - i
theorem allF_lt {n : Nat} {p : Nat → Bool} {i : Nat} (h : i < n) : allF n p i = (p i && allF n p (i + 1)) := by rw [allF, if_pos h]
theorem allF_ge {n : Nat} {p : Nat → Bool} {i : Nat} (h : ¬ i < n) : allF n p i = true := by rw [allF, if_neg h]
theorem allF_iff {n : Nat} {p : Nat → Bool} : ∀ (k i : Nat), n - i = k → (allF n p i = true ↔ ∀ j, i ≤ j → j < n → p j = true)
  | 0, i, h => by
    rw [allF_ge (by omega)]
    exact ⟨fun _ j h1 h2 => by omega, fun _ => rfl⟩
  | k + 1, i, h => by
    rw [allF_lt (by omega), Bool.and_eq_true, allF_iff k (i + 1) (by omega)]
    refine ⟨fun ⟨h1, h2⟩ j hj hn => ?_, fun h1 => ⟨h1 i (Nat.le_refl _) (by omega), fun j hj hn => h1 j (by omega) hn⟩⟩
    by_cases e : j = i
    · subst e; exact h1
    · exact h2 j (by omega) hn
def inR (n a b : Int) : Bool := decide (a ≤ n) && decide (n ≤ b)
theorem l1In_ok (n a b : Int) : EE F 82 [I n, I a, I b] [] = ok1 (B (inR n a b)) := by
  rw [R82, b82]
  simp only [↓xP, xQ, xR, eqCells_ok, eqSh, eqBs, Nat.reduceBEq, Nat.reduceAdd, IOp.dst, IOp.isF, IOp.args, coolOp]
  repeat' (refine sel_split (fun h => ?_) (fun h => ?_))
  all_goals (simp_all [inR] <;> (intros; omega))
theorem valueValid_ok (n : Int) : EE F 146 [I n] [] = ok1 (B (inR n 0 999)) := by
  rw [R146, b146]
  simp only [↓xP, xQ, xR, eqCells_ok, eqSh, eqBs, Nat.reduceBEq, Nat.reduceAdd, IOp.dst, IOp.isF, IOp.args, coolOp]
  repeat' (refine sel_split (fun h => ?_) (fun h => ?_))
  all_goals (simp_all [inR] <;> (intros; omega))
/-! ### Keys -/
def letter (c : UInt8) : Bool := decide (97 ≤ (c.toNat : Int)) && decide ((c.toNat : Int) ≤ 122)
def keyValid (s : Str) : Bool := decide (1 ≤ s.length) && decide (s.length ≤ 4) && s.all letter
theorem cut1 (n : Nat) : vcut (n + 1) (some (DI 1)) none = some (1, n + 1) := by
  have : (1 : Int) ≤ (n : Int) + 1 := by omega
  simp [vcut, D.int?, this]
theorem lettersOnly_ok : ∀ s : Str, EE F 169 [S s] [] = ok1 (B (s.all letter))
  | [] => by
    rw [R169, b169]
    simp only [↓xP, xQ, xR, eqCells_ok, eqSh, eqBs, Nat.reduceBEq, Nat.reduceAdd, IOp.dst, IOp.isF, IOp.args, coolOp]
  | c :: s => by
    have h2 : (List.take (s.length + 1) (c :: s)).drop 1 = s := by simp
    rw [R169, b169]
    simp only [↓xP, xQ, xR, eqCells_ok, eqSh, eqBs, Nat.reduceBEq, Nat.reduceAdd, IOp.dst, IOp.isF, IOp.args, coolOp, cut1, lettersOnly_ok s, reduceCtorEq, letter, List.take_of_length_le]
    repeat' (refine sel_split (fun h => ?_) (fun h => ?_))
    all_goals (simp_all <;> (intros; omega))
theorem keyValid_impl (s : Str) : EE F 139 [S s] [] = ok1 (B (keyValid s)) := by
  rw [R139, b139]
  simp only [↓xP, xQ, xR, eqCells_ok, eqSh, eqBs, Nat.reduceBEq, Nat.reduceAdd, IOp.dst, IOp.isF, IOp.args, coolOp, lettersOnly_ok]
  repeat' (refine sel_split (fun h => ?_) (fun h => ?_))
  all_goals (simp_all [keyValid] <;> (intros; omega))
theorem keyValid_spec (s : Str) : EE F 143 [S s] [] = ok1 (B (keyValid s)) := by
  rw [R143, b143]
  simp only [↓xP, xQ, xR, eqCells_ok, eqSh, eqBs, Nat.reduceBEq, Nat.reduceAdd, IOp.dst, IOp.isF, IOp.args, coolOp, l1In_ok]
  refine sel_split (fun h => ?_) (fun h => ?_)
  · simp_all [keyValid, inR]
    omega
  · simp only [Bool.not_eq_false', inR, Bool.and_eq_true, decide_eq_true_eq] at h
    refine (loop_ind (fun (i : Nat) st => i ≤ s.length ∧ st.s 0 = DU (.str s) ∧ st.s 3 = DI i) (fun i => s.length - i) (fun i => ok1 (B ((s.drop i).all letter))) ?_ 0 ⟨by omega, by simp only [↓xP, xQ, Nat.reduceBEq], by simp only [↓xP, xQ, Nat.reduceBEq]; rfl⟩).trans ?_
    · rintro i st ⟨hle, h0, h3⟩ ih
      by_cases hi : i < s.length
      · have hc : s[i]? = some s[i] := List.getElem?_eq_getElem hi
        have hd : s.drop i = s[i] :: s.drop (i + 1) := List.drop_eq_getElem_cons hi
        have hw := w_succ (i := i) (by omega)
        simp only [↓xP, xQ, xR, eqCells_ok, eqSh, eqBs, Nat.reduceBEq, Nat.reduceAdd, IOp.dst, IOp.isF, IOp.args, coolOp, h0, h3, hi, hc, hw]
        rw [hd]
        generalize s[i] = c
        repeat' (refine sel_split (fun h => ?_) (fun h => ?_))
        · simp_all [letter]
          omega
        · simp_all [letter]
          omega
        · rw [ih (i + 1) _ (by omega) ⟨by omega, by simp only [↓xP, xQ, Nat.reduceBEq, h0], by simp only [↓xP, xQ, Nat.reduceBEq]⟩]
          simp_all [letter]
      · simp only [↓xP, xQ, xR, eqCells_ok, eqSh, eqBs, Nat.reduceBEq, Nat.reduceAdd, IOp.dst, IOp.isF, IOp.args, coolOp, h0, h3, hi]
        rw [List.drop_of_length_le (by omega)]; rfl
    · simp [keyValid]
      omega
/-! ### The order of strings -/
theorem lt_nil (s : Str) : strLt [] s = decide (s ≠ []) := by cases s <;> simp [strLt, Op.bytesLess]
theorem lt_nil' (s : Str) : strLt s [] = false := by cases s <;> simp [strLt, Op.bytesLess]
theorem lt_cons (a b : UInt8) (s t : Str) : strLt (a :: s) (b :: t) = (decide (a < b) || (a == b && strLt s t)) := rfl
theorem lt_irrefl : ∀ s : Str, strLt s s = false
  | [] => rfl
  | a :: s => by rw [lt_cons, lt_irrefl s]; simp
theorem lt_trans : ∀ {s t u : Str}, strLt s t = true → strLt t u = true → strLt s u = true
  | _, [], _, h, _ => by rw [lt_nil'] at h; cases h
  | _, b :: t, [], _, h => by rw [lt_nil'] at h; cases h
  | [], b :: t, c :: u, _, _ => by rw [lt_nil]; simp
  | a :: s, b :: t, c :: u, h1, h2 => by
    rw [lt_cons] at h1 h2 ⊢
    simp only [Bool.or_eq_true, Bool.and_eq_true, decide_eq_true_eq, beq_iff_eq] at h1 h2 ⊢
    rcases h1 with h1 | ⟨rfl, h1⟩
    · rcases h2 with h2 | ⟨rfl, h2⟩
      · exact .inl (UInt8.lt_trans h1 h2)
      · exact .inl h1
    · rcases h2 with h2 | ⟨rfl, h2⟩
      · exact .inl h2
      · exact .inr ⟨rfl, lt_trans h1 h2⟩
theorem lt_asymm {s t : Str} (h : strLt s t = true) : strLt t s = false := by
  cases hq : strLt t s with
  | false => rfl
  | true => have := lt_trans h hq; rw [lt_irrefl] at this; cases this
theorem lt_total : ∀ (s t : Str), strLt s t = true ∨ s = t ∨ strLt t s = true
  | [], [] => .inr (.inl rfl)
  | [], b :: t => .inl (by rw [lt_nil]; simp)
  | a :: s, [] => .inr (.inr (by rw [lt_nil]; simp))
  | a :: s, b :: t => by
    rw [lt_cons, lt_cons]
    simp only [Bool.or_eq_true, Bool.and_eq_true, decide_eq_true_eq, beq_iff_eq, List.cons.injEq]
    rcases Nat.lt_trichotomy a.toNat b.toNat with h | h | h
    · exact .inl (.inl (UInt8.lt_iff_toNat_lt.2 h))
    rotate_left
    · exact .inr (.inr (.inl (UInt8.lt_iff_toNat_lt.2 h)))
    · have h := UInt8.toNat_inj.1 h
      subst h
      rcases lt_total s t with h | h | h
      · exact .inl (.inr ⟨rfl, h⟩)
      · exact .inr (.inl ⟨rfl, h⟩)
      · exact .inr (.inr (.inr ⟨rfl, h⟩))
/-- For other strings 'at most' is 'not greater'. -/
theorem le_iff (s t : Str) : (strLt s t || decide (s = t)) = !strLt t s := by
  rcases lt_total s t with h | h | h
  · simp [h, lt_asymm h]
  · subst h; simp [lt_irrefl]
  · have h1 := lt_asymm h
    have h2 : ¬ s = t := fun e => by subst e; rw [lt_irrefl] at h; cases h
    simp [h, h1, h2]
/-! ### Intervals -/
def intervalValid (v : Interval) : Bool := (decide (v.low = []) || keyValid v.low) && (decide (v.high = []) || keyValid v.high) && (decide (v.high = []) || strLt (if v.low = [] then [97] else v.low) v.high)
theorem lowestKey_ok (lo hi : Str) : EE F 145 [.ag [.u (.str lo), .u (.str hi)]] [] = ok1 (S (if lo = [] then [97] else lo)) := by
  rw [R145, b145]
  simp only [↓xP, xQ, xR, eqCells_ok, eqSh, eqBs, Nat.reduceBEq, Nat.reduceAdd, IOp.dst, IOp.isF, IOp.args, coolOp]
  repeat' (refine sel_split (fun h => ?_) (fun h => ?_))
  all_goals simp_all
theorem intervalValid_impl (lo hi : Str) : EE F 95 [.ag [.u (.str lo), .u (.str hi)]] [] = ok1 (B (intervalValid ⟨lo, hi⟩)) := by
  rw [R95, b95]
  simp only [↓xP, xQ, xR, eqCells_ok, eqSh, eqBs, Nat.reduceBEq, Nat.reduceAdd, IOp.dst, IOp.isF, IOp.args, coolOp, keyValid_impl, lowestKey_ok]
  repeat' (refine sel_split (fun h => ?_) (fun h => ?_))
  all_goals simp_all [intervalValid]
/-- A valid key after "a". -/
theorem lt_a {s : Str} (h : keyValid s = true) : strLt [97] s = decide (s ≠ [97]) := by
  match s, h with
  | [], h => simp [keyValid] at h
  | c :: t, h =>
    simp only [keyValid, letter, List.all_cons, Bool.and_eq_true, decide_eq_true_eq] at h
    have hc : 97 ≤ c.toNat := by omega
    rw [lt_cons, lt_nil]
    by_cases e : c = 97
    · subst e; simp
    · have h1 : (97 : UInt8) < c := by
        rw [UInt8.lt_iff_toNat_lt]
        have : c.toNat ≠ 97 := fun q => e (UInt8.toNat_inj.1 q)
        show 97 < c.toNat
        omega
      simp [h1, e]
theorem intervalValid_spec (lo hi : Str) : EE F 91 [.ag [.u (.str lo), .u (.str hi)]] [] = ok1 (B (intervalValid ⟨lo, hi⟩)) := by
  rw [R91, b91]
  simp only [↓xP, xQ, xR, eqCells_ok, eqSh, eqBs, Nat.reduceBEq, Nat.reduceAdd, IOp.dst, IOp.isF, IOp.args, coolOp, keyValid_spec]
  repeat' (refine sel_split (fun h => ?_) (fun h => ?_))
  all_goals simp_all [intervalValid, lt_nil, lt_a]
/-- A key is between the bounds. -/
def inside (v : Interval) (key : Str) : Bool := !strLt key v.low && (decide (v.high = []) || strLt key v.high)
theorem inside_ok (lo hi key : Str) : EE F 97 [.ag [.u (.str lo), .u (.str hi)], S key] [] = ok1 (B (inside ⟨lo, hi⟩ key)) := by
  rw [R97, b97]
  simp only [↓xP, xQ, xR, eqCells_ok, eqSh, eqBs, Nat.reduceBEq, Nat.reduceAdd, IOp.dst, IOp.isF, IOp.args, coolOp, le_iff]
  repeat' (refine sel_split (fun h => ?_) (fun h => ?_))
  all_goals simp_all [inside]
def intervalHas (v : Interval) (key : Str) : Bool := intervalValid v && keyValid key && inside v key
theorem intervalHas_spec (lo hi key : Str) : EE F 93 [.ag [.u (.str lo), .u (.str hi)], S key] [] = ok1 (B (intervalHas ⟨lo, hi⟩ key)) := by
  rw [R93, b93]
  simp only [↓xP, xQ, xR, eqCells_ok, eqSh, eqBs, Nat.reduceBEq, Nat.reduceAdd, IOp.dst, IOp.isF, IOp.args, coolOp, intervalValid_spec, keyValid_spec]
  repeat' (refine sel_split (fun h => ?_) (fun h => ?_))
  all_goals simp_all [intervalHas, inside]
/-! ### Pairs -/
def pairAt (l : List Pair) (i : Nat) : Bool := match l[i]? with
  | some p => keyValid p.key && inR p.value 0 999 && (decide (i = 0) || (match l[i - 1]? with
    | some q => strLt q.key p.key
    | none => true))
  | none => true
def pairsValid (l : List Pair) : Bool := decide (l.length ≤ 48) && allF l.length (pairAt l) 0
theorem pairsValid_impl (l : List Pair) : EE F 96 [L 2 (l.map Pair.u)] [] = ok1 (B (pairsValid l)) := by
  rw [R96, b96]
  simp only [↓xP, xQ, xR, eqCells_ok, eqSh, eqBs, Nat.reduceBEq, Nat.reduceAdd, IOp.dst, IOp.isF, IOp.args, coolOp]
  refine sel_split (fun h => ?_) (fun h => ?_)
  · simp only [decide_eq_true_eq] at h
    simp [pairsValid, show ¬ l.length ≤ 48 by omega]
  · simp only [decide_eq_false_iff_not] at h
    refine (loop_ind (fun (i : Nat) st => st.s 0 = DU (.sl 2 (l.map Pair.u)) ∧ st.s 8 = DU (.sl 2 (l.map Pair.u)) ∧ st.s 9 = DI l.length ∧ st.s 10 = DI i) (fun i => l.length - i) (fun i => ok1 (B (allF l.length (pairAt l) i))) ?_ 0 ⟨by simp only [↓xP, xQ, xR, eqCells_ok, eqSh, eqBs, Nat.reduceBEq, Nat.reduceAdd, IOp.dst, IOp.isF, IOp.args, coolOp], by simp only [↓xP, xQ, xR, eqCells_ok, eqSh, eqBs, Nat.reduceBEq, Nat.reduceAdd, IOp.dst, IOp.isF, IOp.args, coolOp], by simp only [↓xP, xQ, xR, eqCells_ok, eqSh, eqBs, Nat.reduceBEq, Nat.reduceAdd, IOp.dst, IOp.isF, IOp.args, coolOp], by simp only [↓xP, xQ, xR, eqCells_ok, eqSh, eqBs, Nat.reduceBEq, Nat.reduceAdd, IOp.dst, IOp.isF, IOp.args, coolOp]; rfl⟩).trans ?_
    · rintro i st ⟨h0, h8, h9, h10⟩ ih
      by_cases hi : i < l.length
      · obtain ⟨⟨pk, pv⟩, hp⟩ : ∃ p, l[i]? = some p := ⟨_, List.getElem?_eq_getElem hi⟩
        have hw := w_succ (i := i) (by omega)
        rw [allF_lt hi]
        by_cases hz : i = 0
        · have h01 : ¬ (0 : Int) < (i : Int) := by omega
          simp only [↓xP, xQ, xR, eqCells_ok, eqSh, eqBs, Nat.reduceBEq, Nat.reduceAdd, IOp.dst, IOp.isF, IOp.args, coolOp, h0, h8, h9, h10, hi, hp, hw, h01, Pair.u, keyValid_impl, valueValid_ok]
          repeat' (refine sel_split (fun h => ?_) (fun h => ?_))
          · simp_all [pairAt]
          · simp_all [pairAt]
          · rw [ih (i + 1) _ (by omega) ⟨by simp only [↓xP, xQ, xR, eqCells_ok, eqSh, eqBs, Nat.reduceBEq, Nat.reduceAdd, IOp.dst, IOp.isF, IOp.args, coolOp, h0], by simp only [↓xP, xQ, xR, eqCells_ok, eqSh, eqBs, Nat.reduceBEq, Nat.reduceAdd, IOp.dst, IOp.isF, IOp.args, coolOp, h8], by simp only [↓xP, xQ, xR, eqCells_ok, eqSh, eqBs, Nat.reduceBEq, Nat.reduceAdd, IOp.dst, IOp.isF, IOp.args, coolOp, h9], by simp only [↓xP, xQ, xR, eqCells_ok, eqSh, eqBs, Nat.reduceBEq, Nat.reduceAdd, IOp.dst, IOp.isF, IOp.args, coolOp]⟩]
            simp_all [pairAt]
        · obtain ⟨⟨qk, qv⟩, hq⟩ : ∃ q, l[i - 1]? = some q := ⟨_, List.getElem?_eq_getElem (by omega)⟩
          have hw2 : IntKind.i64.wrap ((i : Int) - 1) = ((i - 1 : Nat) : Int) := by rw [w64 (by omega) (by omega)]; omega
          have h01 : (0 : Int) < (i : Int) := by omega
          simp only [↓xP, xQ, xR, eqCells_ok, eqSh, eqBs, Nat.reduceBEq, Nat.reduceAdd, IOp.dst, IOp.isF, IOp.args, coolOp, h0, h8, h9, h10, hi, hp, hw, hw2, hq, h01, Pair.u, keyValid_impl, valueValid_ok]
          repeat' (refine sel_split (fun h => ?_) (fun h => ?_))
          · simp_all [pairAt]
          · simp_all [pairAt]
          · simp_all [pairAt]
          · rw [ih (i + 1) _ (by omega) ⟨by simp only [↓xP, xQ, xR, eqCells_ok, eqSh, eqBs, Nat.reduceBEq, Nat.reduceAdd, IOp.dst, IOp.isF, IOp.args, coolOp, h0], by simp only [↓xP, xQ, xR, eqCells_ok, eqSh, eqBs, Nat.reduceBEq, Nat.reduceAdd, IOp.dst, IOp.isF, IOp.args, coolOp, h8], by simp only [↓xP, xQ, xR, eqCells_ok, eqSh, eqBs, Nat.reduceBEq, Nat.reduceAdd, IOp.dst, IOp.isF, IOp.args, coolOp, h9], by simp only [↓xP, xQ, xR, eqCells_ok, eqSh, eqBs, Nat.reduceBEq, Nat.reduceAdd, IOp.dst, IOp.isF, IOp.args, coolOp]⟩]
            simp_all [pairAt]
      · simp only [↓xP, xQ, xR, eqCells_ok, eqSh, eqBs, Nat.reduceBEq, Nat.reduceAdd, IOp.dst, IOp.isF, IOp.args, coolOp, h0, h8, h9, h10, hi]
        rw [allF_ge hi]
    · simp [pairsValid, show l.length ≤ 48 by omega]
end Go.Proofs.YtbieglaagpogkaaV
