/- Lemmas of functions that the law FnMergeWanted reaches, and that it returns true for all data of its types. No conditions but those that the lemmas state. -/
import Derived.Test.YtdnhamehpdlbgaaT1
import Derived.Test.YtdnhamehpdlbgaaJ
import Derived.Test.YtdnhamehpdlbgaaS7
namespace Go.Proofs.YtdnhamehpdlbgaaV
open Go Go.RowKit
set_option linter.unusedVariables false
set_option linter.unusedSimpArgs false
set_option maxRecDepth 4000
def chkZ (a : Int) (k : Int → Int) : Int := if a < 0 then -1 else k a
def allZ {α : Type} (g : α → Int → Int) : List α → Int → Int
  | [], a => a
  | x :: xs, a => chkZ (g x a) (allZ g xs)
/-- No more is left than was there; what was counted is small. -/
def LeZ (g : Int → Int) (P : Prop) : Prop := ∀ a, 0 ≤ a → a ≤ 1048576 → g a ≤ a ∧ (0 ≤ g a → P)
theorem LeZ.chk {g k : Int → Int} {P Q : Prop} (hg : LeZ g P) (hk : LeZ k Q) : LeZ (fun a => chkZ (g a) k) (P ∧ Q) := by
  intro a h0 h1
  obtain ⟨h2, h3⟩ := hg a h0 h1
  simp only [chkZ]
  split
  · exact ⟨by omega, fun h => by omega⟩
  · obtain ⟨h4, h5⟩ := hk (g a) (by omega) (by omega)
    exact ⟨by omega, fun h => ⟨h3 (by omega), h5 h⟩⟩
theorem LeZ.all {α : Type} {g : α → Int → Int} {P : α → Prop} : ∀ {l : List α}, (∀ x, x ∈ l → LeZ (g x) (P x)) → LeZ (allZ g l) (∀ x, x ∈ l → P x)
  | [], _ => fun a _ _ => ⟨Int.le_refl _, fun _ x h => by cases h⟩
  | x :: xs, h => by
    have h1 := (h x (List.mem_cons_self ..)).chk (LeZ.all (l := xs) (fun y hy => h y (List.mem_cons_of_mem _ hy)))
    intro a h0 h2
    obtain ⟨h3, h4⟩ := h1 a h0 h2
    refine ⟨h3, fun h y hy => ?_⟩
    rcases List.mem_cons.1 hy with rfl | hy
    · exact (h4 h).1
    · exact (h4 h).2 y hy
/-- All from a number on. -/
def allF (n : Nat) (p : Nat → Bool) (i : Nat) : Bool := if i < n then p i && allF n p (i + 1) else true
termination_by n - i
theorem allF_lt {n : Nat} {p : Nat → Bool} {i : Nat} (h : i < n) : allF n p i = (p i && allF n p (i + 1)) := by rw [allF, if_pos h]
theorem allF_ge {n : Nat} {p : Nat → Bool} {i : Nat} (h : ¬ i < n) : allF n p i = true := by rw [allF, if_neg h]
theorem allF_iff {n : Nat} {p : Nat → Bool} : ∀ (k i : Nat), n - i = k → (allF n p i = true ↔ ∀ j, i ≤ j → j < n → p j = true)
  | 0, i, h => by
    rw [allF_ge (by omega)]
    exact ⟨fun _ j h1 h2 => by omega, fun _ => rfl⟩
  | k + 1, i, h => by
    rw [allF_lt (by omega), Bool.and_eq_true, allF_iff k (i + 1) (by omega)]
    refine ⟨fun ⟨h1, h2⟩ j hj hn => ?_, fun h1 => ⟨h1 i (Nat.le_refl _) (by omega), fun j hj hn => h1 j (by omega) hn⟩⟩
    by_cases e : j = i
    · subst e; exact h1
    · exact h2 j (by omega) hn
def inR (n a b : Int) : Bool := decide (a ≤ n) && decide (n ≤ b)
theorem l1In_ok (n a b : Int) : EE F 134 [I n, I a, I b] [] = ok1 (B (inR n a b)) := by
  rw [R134, b134]
  simp only [↓xP, xQ, xR, flatR, eqCells_ok, eqSh, eqBs, Nat.reduceLT, decide_true, Nat.reduceBEq, Nat.reduceAdd, IOp.dst, IOp.isF, IOp.args, coolOp, Nat.reduceSub]
  repeat' (refine sel_split (fun h => ?_) (fun h => ?_))
  all_goals (simp_all [inR] <;> (intros; omega))
theorem valueValid_ok (n : Int) : EE F 138 [I n] [] = ok1 (B (inR n 0 999)) := by
  rw [R138, b138]
  simp only [↓xP, xQ, xR, flatR, eqCells_ok, eqSh, eqBs, Nat.reduceLT, decide_true, Nat.reduceBEq, Nat.reduceAdd, IOp.dst, IOp.isF, IOp.args, coolOp, Nat.reduceSub]
  repeat' (refine sel_split (fun h => ?_) (fun h => ?_))
  all_goals (simp_all [inR] <;> (intros; omega))
def letter (c : UInt8) : Bool := decide (97 ≤ (c.toNat : Int)) && decide ((c.toNat : Int) ≤ 122)
def keyValid (s : Str) : Bool := decide (1 ≤ s.length) && decide (s.length ≤ 4) && s.all letter
theorem cut1 (n : Nat) : vcut (n + 1) (some (DI 1)) none = some (1, n + 1) := by
  have : (1 : Int) ≤ (n : Int) + 1 := by omega
  simp [vcut, D.int?, this]
theorem lettersOnly_ok : ∀ s : Str, EE F 195 [S s] [] = ok1 (B (s.all letter))
  | [] => by
    rw [R195, b195]
    simp only [↓xP, xQ, xR, flatR, eqCells_ok, eqSh, eqBs, Nat.reduceLT, decide_true, Nat.reduceBEq, Nat.reduceAdd, IOp.dst, IOp.isF, IOp.args, coolOp, Nat.reduceSub]
  | c :: s => by
    have h2 : (List.take (s.length + 1) (c :: s)).drop 1 = s := by simp
    rw [R195, b195]
    simp only [↓xP, xQ, xR, flatR, eqCells_ok, eqSh, eqBs, Nat.reduceLT, decide_true, Nat.reduceBEq, Nat.reduceAdd, IOp.dst, IOp.isF, IOp.args, coolOp, Nat.reduceSub, cut1, lettersOnly_ok s, reduceCtorEq, letter, List.take_of_length_le]
    repeat' (refine sel_split (fun h => ?_) (fun h => ?_))
    all_goals (simp_all <;> (intros; omega))
theorem keyValid_impl (s : Str) : EE F 137 [S s] [] = ok1 (B (keyValid s)) := by
  rw [R137, b137]
  simp only [↓xP, xQ, xR, flatR, eqCells_ok, eqSh, eqBs, Nat.reduceLT, decide_true, Nat.reduceBEq, Nat.reduceAdd, IOp.dst, IOp.isF, IOp.args, coolOp, Nat.reduceSub, lettersOnly_ok]
  repeat' (refine sel_split (fun h => ?_) (fun h => ?_))
  all_goals (simp_all [keyValid] <;> (intros; omega))
theorem keyValid_spec (s : Str) : EE F 172 [S s] [] = ok1 (B (keyValid s)) := by
  rw [R172, b172]
  simp only [↓xP, xQ, xR, flatR, eqCells_ok, eqSh, eqBs, Nat.reduceLT, decide_true, Nat.reduceBEq, Nat.reduceAdd, IOp.dst, IOp.isF, IOp.args, coolOp, Nat.reduceSub, l1In_ok]
  refine sel_split (fun h => ?_) (fun h => ?_)
  · simp_all [keyValid, inR]
    omega
  · simp only [Bool.not_eq_false', inR, Bool.and_eq_true, decide_eq_true_eq] at h
    refine (loop_ind (fun (i : Nat) st => i ≤ s.length ∧ st.s 0 = DU (.str s) ∧ st.s 3 = DI i) (fun i => s.length - i) (fun i => ok1 (B ((s.drop i).all letter))) ?_ 0 ⟨by omega, by simp only [↓xP, xQ, Nat.reduceBEq], by simp only [↓xP, xQ, Nat.reduceBEq]; rfl⟩).trans ?_
    · rintro i st ⟨hle, h0, h3⟩ ih
      by_cases hi : i < s.length
      · have hc : s[i]? = some s[i] := List.getElem?_eq_getElem hi
        have hd : s.drop i = s[i] :: s.drop (i + 1) := List.drop_eq_getElem_cons hi
        have hw := w_succ (i := i) (by omega)
        simp only [↓xP, xQ, xR, flatR, eqCells_ok, eqSh, eqBs, Nat.reduceLT, decide_true, Nat.reduceBEq, Nat.reduceAdd, IOp.dst, IOp.isF, IOp.args, coolOp, Nat.reduceSub, h0, h3, hi, hc, hw]
        rw [hd]
        generalize s[i] = c
        repeat' (refine sel_split (fun h => ?_) (fun h => ?_))
        · simp_all [letter]
          omega
        · simp_all [letter]
          omega
        · rw [ih (i + 1) _ (by omega) ⟨by omega, by simp only [↓xP, xQ, Nat.reduceBEq, h0], by simp only [↓xP, xQ, Nat.reduceBEq]⟩]
          simp_all [letter]
      · simp only [↓xP, xQ, xR, flatR, eqCells_ok, eqSh, eqBs, Nat.reduceLT, decide_true, Nat.reduceBEq, Nat.reduceAdd, IOp.dst, IOp.isF, IOp.args, coolOp, Nat.reduceSub, h0, h3, hi]
        rw [List.drop_of_length_le (by omega)]; rfl
    · simp [keyValid]
      omega
theorem lt_nil (s : Str) : strLt [] s = decide (s ≠ []) := by cases s <;> simp [strLt, Op.bytesLess]
theorem lt_nil' (s : Str) : strLt s [] = false := by cases s <;> simp [strLt, Op.bytesLess]
theorem lt_cons (a b : UInt8) (s t : Str) : strLt (a :: s) (b :: t) = (decide (a < b) || (a == b && strLt s t)) := rfl
theorem lt_irrefl : ∀ s : Str, strLt s s = false
  | [] => rfl
  | a :: s => by rw [lt_cons, lt_irrefl s]; simp
theorem lt_trans : ∀ {s t u : Str}, strLt s t = true → strLt t u = true → strLt s u = true
  | _, [], _, h, _ => by rw [lt_nil'] at h; cases h
  | _, b :: t, [], _, h => by rw [lt_nil'] at h; cases h
  | [], b :: t, c :: u, _, _ => by rw [lt_nil]; simp
  | a :: s, b :: t, c :: u, h1, h2 => by
    rw [lt_cons] at h1 h2 ⊢
    simp only [Bool.or_eq_true, Bool.and_eq_true, decide_eq_true_eq, beq_iff_eq] at h1 h2 ⊢
    rcases h1 with h1 | ⟨rfl, h1⟩
    · rcases h2 with h2 | ⟨rfl, h2⟩
      · exact .inl (UInt8.lt_trans h1 h2)
      · exact .inl h1
    · rcases h2 with h2 | ⟨rfl, h2⟩
      · exact .inl h2
      · exact .inr ⟨rfl, lt_trans h1 h2⟩
theorem lt_asymm {s t : Str} (h : strLt s t = true) : strLt t s = false := by
  cases hq : strLt t s with
  | false => rfl
  | true => have := lt_trans h hq; rw [lt_irrefl] at this; cases this
theorem lt_total : ∀ (s t : Str), strLt s t = true ∨ s = t ∨ strLt t s = true
  | [], [] => .inr (.inl rfl)
  | [], b :: t => .inl (by rw [lt_nil]; simp)
  | a :: s, [] => .inr (.inr (by rw [lt_nil]; simp))
  | a :: s, b :: t => by
    rw [lt_cons, lt_cons]
    simp only [Bool.or_eq_true, Bool.and_eq_true, decide_eq_true_eq, beq_iff_eq, List.cons.injEq]
    rcases Nat.lt_trichotomy a.toNat b.toNat with h | h | h
    · exact .inl (.inl (UInt8.lt_iff_toNat_lt.2 h))
    rotate_left
    · exact .inr (.inr (.inl (UInt8.lt_iff_toNat_lt.2 h)))
    · have h := UInt8.toNat_inj.1 h
      subst h
      rcases lt_total s t with h | h | h
      · exact .inl (.inr ⟨rfl, h⟩)
      · exact .inr (.inl ⟨rfl, h⟩)
      · exact .inr (.inr (.inr ⟨rfl, h⟩))
/-- For other strings 'at most' is 'not greater'. -/
theorem le_iff (s t : Str) : (strLt s t || decide (s = t)) = !strLt t s := by
  rcases lt_total s t with h | h | h
  · simp [h, lt_asymm h]
  · subst h; simp [lt_irrefl]
  · have h1 := lt_asymm h
    have h2 : ¬ s = t := fun e => by subst e; rw [lt_irrefl] at h; cases h
    simp [h, h1, h2]
def intervalValid (v : Interval) : Bool := (decide (v.low = []) || keyValid v.low) && (decide (v.high = []) || keyValid v.high) && (decide (v.high = []) || strLt (if v.low = [] then [97] else v.low) v.high)
theorem lowestKey_ok (lo hi : Str) : EE F 171 [.ag [.u (.str lo), .u (.str hi)]] [] = ok1 (S (if lo = [] then [97] else lo)) := by
  rw [R171, b171]
  simp only [↓xP, xQ, xR, flatR, eqCells_ok, eqSh, eqBs, Nat.reduceLT, decide_true, Nat.reduceBEq, Nat.reduceAdd, IOp.dst, IOp.isF, IOp.args, coolOp, Nat.reduceSub]
  repeat' (refine sel_split (fun h => ?_) (fun h => ?_))
  all_goals simp_all
theorem intervalValid_impl (lo hi : Str) : EE F 102 [.ag [.u (.str lo), .u (.str hi)]] [] = ok1 (B (intervalValid ⟨lo, hi⟩)) := by
  rw [R102, b102]
  simp only [↓xP, xQ, xR, flatR, eqCells_ok, eqSh, eqBs, Nat.reduceLT, decide_true, Nat.reduceBEq, Nat.reduceAdd, IOp.dst, IOp.isF, IOp.args, coolOp, Nat.reduceSub, keyValid_impl, lowestKey_ok]
  repeat' (refine sel_split (fun h => ?_) (fun h => ?_))
  all_goals simp_all [intervalValid]
/-- A valid key after "a". -/
theorem lt_a {s : Str} (h : keyValid s = true) : strLt [97] s = decide (s ≠ [97]) := by
  match s, h with
  | [], h => simp [keyValid] at h
  | c :: t, h =>
    simp only [keyValid, letter, List.all_cons, Bool.and_eq_true, decide_eq_true_eq] at h
    have hc : 97 ≤ c.toNat := by omega
    rw [lt_cons, lt_nil]
    by_cases e : c = 97
    · subst e; simp
    · have h1 : (97 : UInt8) < c := by
        rw [UInt8.lt_iff_toNat_lt]
        have : c.toNat ≠ 97 := fun q => e (UInt8.toNat_inj.1 q)
        show 97 < c.toNat
        omega
      simp [h1, e]
theorem intervalValid_spec (lo hi : Str) : EE F 104 [.ag [.u (.str lo), .u (.str hi)]] [] = ok1 (B (intervalValid ⟨lo, hi⟩)) := by
  rw [R104, b104]
  simp only [↓xP, xQ, xR, flatR, eqCells_ok, eqSh, eqBs, Nat.reduceLT, decide_true, Nat.reduceBEq, Nat.reduceAdd, IOp.dst, IOp.isF, IOp.args, coolOp, Nat.reduceSub, keyValid_spec]
  repeat' (refine sel_split (fun h => ?_) (fun h => ?_))
  all_goals simp_all [intervalValid, lt_nil, lt_a]
/-- A key is between the bounds. -/
def inside (v : Interval) (key : Str) : Bool := !strLt key v.low && (decide (v.high = []) || strLt key v.high)
theorem inside_ok (lo hi key : Str) : EE F 103 [.ag [.u (.str lo), .u (.str hi)], S key] [] = ok1 (B (inside ⟨lo, hi⟩ key)) := by
  rw [R103, b103]
  simp only [↓xP, xQ, xR, flatR, eqCells_ok, eqSh, eqBs, Nat.reduceLT, decide_true, Nat.reduceBEq, Nat.reduceAdd, IOp.dst, IOp.isF, IOp.args, coolOp, Nat.reduceSub, le_iff]
  repeat' (refine sel_split (fun h => ?_) (fun h => ?_))
  all_goals simp_all [inside]
def intervalHas (v : Interval) (key : Str) : Bool := intervalValid v && keyValid key && inside v key
theorem intervalHas_spec (lo hi key : Str) : EE F 106 [.ag [.u (.str lo), .u (.str hi)], S key] [] = ok1 (B (intervalHas ⟨lo, hi⟩ key)) := by
  rw [R106, b106]
  simp only [↓xP, xQ, xR, flatR, eqCells_ok, eqSh, eqBs, Nat.reduceLT, decide_true, Nat.reduceBEq, Nat.reduceAdd, IOp.dst, IOp.isF, IOp.args, coolOp, Nat.reduceSub, intervalValid_spec, keyValid_spec]
  repeat' (refine sel_split (fun h => ?_) (fun h => ?_))
  all_goals simp_all [intervalHas, inside]
def pairAt (l : List Pair) (i : Nat) : Bool := match l[i]? with
  | some p => keyValid p.key && inR p.value 0 999 && (decide (i = 0) || (match l[i - 1]? with
    | some q => strLt q.key p.key
    | none => true))
  | none => true
def pairsValid (l : List Pair) : Bool := decide (l.length ≤ 48) && allF l.length (pairAt l) 0
theorem pairsValid_impl (l : List Pair) : EE F 65 [L 2 (l.map Pair.u)] [] = ok1 (B (pairsValid l)) := by
  rw [R65, b65]
  simp only [↓xP, xQ, xR, flatR, eqCells_ok, eqSh, eqBs, Nat.reduceLT, decide_true, Nat.reduceBEq, Nat.reduceAdd, IOp.dst, IOp.isF, IOp.args, coolOp, Nat.reduceSub]
  refine sel_split (fun h => ?_) (fun h => ?_)
  · simp only [decide_eq_true_eq] at h
    simp [pairsValid, show ¬ l.length ≤ 48 by omega]
  · simp only [decide_eq_false_iff_not] at h
    refine (loop_ind (fun (i : Nat) st => st.s 0 = DU (.sl 2 (l.map Pair.u)) ∧ st.s 8 = DU (.sl 2 (l.map Pair.u)) ∧ st.s 9 = DI l.length ∧ st.s 10 = DI i) (fun i => l.length - i) (fun i => ok1 (B (allF l.length (pairAt l) i))) ?_ 0 ⟨by simp only [↓xP, xQ, xR, flatR, eqCells_ok, eqSh, eqBs, Nat.reduceLT, decide_true, Nat.reduceBEq, Nat.reduceAdd, IOp.dst, IOp.isF, IOp.args, coolOp, Nat.reduceSub], by simp only [↓xP, xQ, xR, flatR, eqCells_ok, eqSh, eqBs, Nat.reduceLT, decide_true, Nat.reduceBEq, Nat.reduceAdd, IOp.dst, IOp.isF, IOp.args, coolOp, Nat.reduceSub], by simp only [↓xP, xQ, xR, flatR, eqCells_ok, eqSh, eqBs, Nat.reduceLT, decide_true, Nat.reduceBEq, Nat.reduceAdd, IOp.dst, IOp.isF, IOp.args, coolOp, Nat.reduceSub], by simp only [↓xP, xQ, xR, flatR, eqCells_ok, eqSh, eqBs, Nat.reduceLT, decide_true, Nat.reduceBEq, Nat.reduceAdd, IOp.dst, IOp.isF, IOp.args, coolOp, Nat.reduceSub]; rfl⟩).trans ?_
    · rintro i st ⟨h0, h8, h9, h10⟩ ih
      by_cases hi : i < l.length
      · obtain ⟨⟨pk, pv⟩, hp⟩ : ∃ p, l[i]? = some p := ⟨_, List.getElem?_eq_getElem hi⟩
        have hw := w_succ (i := i) (by omega)
        rw [allF_lt hi]
        by_cases hz : i = 0
        · have h01 : ¬ (0 : Int) < (i : Int) := by omega
          simp only [↓xP, xQ, xR, flatR, eqCells_ok, eqSh, eqBs, Nat.reduceLT, decide_true, Nat.reduceBEq, Nat.reduceAdd, IOp.dst, IOp.isF, IOp.args, coolOp, Nat.reduceSub, h0, h8, h9, h10, hi, hp, hw, h01, Pair.u, keyValid_impl, valueValid_ok]
          repeat' (refine sel_split (fun h => ?_) (fun h => ?_))
          · simp_all [pairAt]
          · simp_all [pairAt]
          · rw [ih (i + 1) _ (by omega) ⟨by simp only [↓xP, xQ, xR, flatR, eqCells_ok, eqSh, eqBs, Nat.reduceLT, decide_true, Nat.reduceBEq, Nat.reduceAdd, IOp.dst, IOp.isF, IOp.args, coolOp, Nat.reduceSub, h0], by simp only [↓xP, xQ, xR, flatR, eqCells_ok, eqSh, eqBs, Nat.reduceLT, decide_true, Nat.reduceBEq, Nat.reduceAdd, IOp.dst, IOp.isF, IOp.args, coolOp, Nat.reduceSub, h8], by simp only [↓xP, xQ, xR, flatR, eqCells_ok, eqSh, eqBs, Nat.reduceLT, decide_true, Nat.reduceBEq, Nat.reduceAdd, IOp.dst, IOp.isF, IOp.args, coolOp, Nat.reduceSub, h9], by simp only [↓xP, xQ, xR, flatR, eqCells_ok, eqSh, eqBs, Nat.reduceLT, decide_true, Nat.reduceBEq, Nat.reduceAdd, IOp.dst, IOp.isF, IOp.args, coolOp, Nat.reduceSub]⟩]
            simp_all [pairAt]
        · obtain ⟨⟨qk, qv⟩, hq⟩ : ∃ q, l[i - 1]? = some q := ⟨_, List.getElem?_eq_getElem (by omega)⟩
          have hw2 : IntKind.i64.wrap ((i : Int) - 1) = ((i - 1 : Nat) : Int) := by rw [w64 (by omega) (by omega)]; omega
          have h01 : (0 : Int) < (i : Int) := by omega
          simp only [↓xP, xQ, xR, flatR, eqCells_ok, eqSh, eqBs, Nat.reduceLT, decide_true, Nat.reduceBEq, Nat.reduceAdd, IOp.dst, IOp.isF, IOp.args, coolOp, Nat.reduceSub, h0, h8, h9, h10, hi, hp, hw, hw2, hq, h01, Pair.u, keyValid_impl, valueValid_ok]
          repeat' (refine sel_split (fun h => ?_) (fun h => ?_))
          · simp_all [pairAt]
          · simp_all [pairAt]
          · simp_all [pairAt]
          · rw [ih (i + 1) _ (by omega) ⟨by simp only [↓xP, xQ, xR, flatR, eqCells_ok, eqSh, eqBs, Nat.reduceLT, decide_true, Nat.reduceBEq, Nat.reduceAdd, IOp.dst, IOp.isF, IOp.args, coolOp, Nat.reduceSub, h0], by simp only [↓xP, xQ, xR, flatR, eqCells_ok, eqSh, eqBs, Nat.reduceLT, decide_true, Nat.reduceBEq, Nat.reduceAdd, IOp.dst, IOp.isF, IOp.args, coolOp, Nat.reduceSub, h8], by simp only [↓xP, xQ, xR, flatR, eqCells_ok, eqSh, eqBs, Nat.reduceLT, decide_true, Nat.reduceBEq, Nat.reduceAdd, IOp.dst, IOp.isF, IOp.args, coolOp, Nat.reduceSub, h9], by simp only [↓xP, xQ, xR, flatR, eqCells_ok, eqSh, eqBs, Nat.reduceLT, decide_true, Nat.reduceBEq, Nat.reduceAdd, IOp.dst, IOp.isF, IOp.args, coolOp, Nat.reduceSub]⟩]
            simp_all [pairAt]
      · simp only [↓xP, xQ, xR, flatR, eqCells_ok, eqSh, eqBs, Nat.reduceLT, decide_true, Nat.reduceBEq, Nat.reduceAdd, IOp.dst, IOp.isF, IOp.args, coolOp, Nat.reduceSub, h0, h8, h9, h10, hi]
        rw [allF_ge hi]
    · simp [pairsValid, show l.length ≤ 48 by omega]
theorem pairsValid_spec (l : List Pair) : EE F 105 [L 2 (l.map Pair.u)] [] = ok1 (B (pairsValid l)) := by
  rw [R105, b105]
  simp only [↓xP, xQ, xR, flatR, eqCells_ok, eqSh, eqBs, Nat.reduceLT, decide_true, Nat.reduceBEq, Nat.reduceAdd, IOp.dst, IOp.isF, IOp.args, coolOp, Nat.reduceSub]
  refine sel_split (fun h => ?_) (fun h => ?_)
  · simp only [decide_eq_true_eq] at h
    simp [pairsValid, show ¬ l.length ≤ 48 by omega]
  · simp only [decide_eq_false_iff_not] at h
    refine (loop_ind (fun (i : Nat) st => st.s 0 = DU (.sl 2 (l.map Pair.u)) ∧ st.s 3 = DI i) (fun i => l.length - i) (fun i => ok1 (B (allF l.length (pairAt l) i))) ?_ 0 ⟨by simp only [↓xP, xQ, xR, flatR, eqCells_ok, eqSh, eqBs, Nat.reduceLT, decide_true, Nat.reduceBEq, Nat.reduceAdd, IOp.dst, IOp.isF, IOp.args, coolOp, Nat.reduceSub], by simp only [↓xP, xQ, xR, flatR, eqCells_ok, eqSh, eqBs, Nat.reduceLT, decide_true, Nat.reduceBEq, Nat.reduceAdd, IOp.dst, IOp.isF, IOp.args, coolOp, Nat.reduceSub]; rfl⟩).trans ?_
    · rintro i st ⟨h0, h3⟩ ih
      by_cases hi : i < l.length
      · obtain ⟨⟨pk, pv⟩, hp⟩ : ∃ p, l[i]? = some p := ⟨_, List.getElem?_eq_getElem hi⟩
        have hw := w_succ (i := i) (by omega)
        rw [allF_lt hi]
        by_cases hz : i = 0
        · have h01 : ¬ (0 : Int) < (i : Int) := by omega
          simp only [↓xP, xQ, xR, flatR, eqCells_ok, eqSh, eqBs, Nat.reduceLT, decide_true, Nat.reduceBEq, Nat.reduceAdd, IOp.dst, IOp.isF, IOp.args, coolOp, Nat.reduceSub, h0, h3, hi, hp, hw, h01, Pair.u, keyValid_spec, l1In_ok]
          repeat' (refine sel_split (fun h => ?_) (fun h => ?_))
          · simp_all [pairAt]
          · simp_all [pairAt]
          · rw [ih (i + 1) _ (by omega) ⟨by simp only [↓xP, xQ, xR, flatR, eqCells_ok, eqSh, eqBs, Nat.reduceLT, decide_true, Nat.reduceBEq, Nat.reduceAdd, IOp.dst, IOp.isF, IOp.args, coolOp, Nat.reduceSub, h0], by simp only [↓xP, xQ, xR, flatR, eqCells_ok, eqSh, eqBs, Nat.reduceLT, decide_true, Nat.reduceBEq, Nat.reduceAdd, IOp.dst, IOp.isF, IOp.args, coolOp, Nat.reduceSub]⟩]
            simp_all [pairAt]
        · obtain ⟨⟨qk, qv⟩, hq⟩ : ∃ q, l[i - 1]? = some q := ⟨_, List.getElem?_eq_getElem (by omega)⟩
          have hw2 : IntKind.i64.wrap ((i : Int) - 1) = ((i - 1 : Nat) : Int) := by rw [w64 (by omega) (by omega)]; omega
          have h01 : (0 : Int) < (i : Int) := by omega
          simp only [↓xP, xQ, xR, flatR, eqCells_ok, eqSh, eqBs, Nat.reduceLT, decide_true, Nat.reduceBEq, Nat.reduceAdd, IOp.dst, IOp.isF, IOp.args, coolOp, Nat.reduceSub, h0, h3, hi, hp, hw, hw2, hq, h01, Pair.u, keyValid_spec, l1In_ok, le_iff]
          repeat' (refine sel_split (fun h => ?_) (fun h => ?_))
          · simp_all [pairAt]
          · simp_all [pairAt]
          · simp_all [pairAt]
          · rw [ih (i + 1) _ (by omega) ⟨by simp only [↓xP, xQ, xR, flatR, eqCells_ok, eqSh, eqBs, Nat.reduceLT, decide_true, Nat.reduceBEq, Nat.reduceAdd, IOp.dst, IOp.isF, IOp.args, coolOp, Nat.reduceSub, h0], by simp only [↓xP, xQ, xR, flatR, eqCells_ok, eqSh, eqBs, Nat.reduceLT, decide_true, Nat.reduceBEq, Nat.reduceAdd, IOp.dst, IOp.isF, IOp.args, coolOp, Nat.reduceSub]⟩]
            simp_all [pairAt]
      · simp only [↓xP, xQ, xR, flatR, eqCells_ok, eqSh, eqBs, Nat.reduceLT, decide_true, Nat.reduceBEq, Nat.reduceAdd, IOp.dst, IOp.isF, IOp.args, coolOp, Nat.reduceSub, h0, h3, hi]
        rw [allF_ge hi]
    · simp [pairsValid, show l.length ≤ 48 by omega]
theorem pairsValid_at {l : List Pair} (h : pairsValid l = true) {i : Nat} {p : Pair} (hp : l[i]? = some p) : keyValid p.key = true ∧ inR p.value 0 999 = true := by
  simp only [pairsValid, Bool.and_eq_true, decide_eq_true_eq] at h
  have := (allF_iff _ 0 rfl).1 h.2 i (by omega) (List.getElem?_eq_some_iff.1 hp).1
  simp only [pairAt, hp, Bool.and_eq_true] at this
  exact this.1
theorem seqValid_ok (n : Int) : EE F 178 [I n] [] = ok1 (B (inR n 1 999)) := by
  rw [R178, b178]
  simp only [↓xP, xQ, xR, flatR, eqCells_ok, eqSh, eqBs, Nat.reduceLT, decide_true, Nat.reduceBEq, Nat.reduceAdd, IOp.dst, IOp.isF, IOp.args, coolOp, Nat.reduceSub]
  repeat' (refine sel_split (fun h => ?_) (fun h => ?_))
  all_goals (simp_all [inR] <;> (intros; omega))
def commandValid (c : Command) : Bool := (keyValid c.key || decide (c.kind = 5) && decide (c.key = [])) &&
  ((decide (c.kind = 1) || decide (c.kind = 3) || decide (c.kind = 5)) && decide (c.value = 0) && decide (c.old = 0) || decide (c.kind = 2) && inR c.value 0 999 && decide (c.old = 0) || decide (c.kind = 4) && inR c.value 0 999 && inR c.old (-1) 999)
theorem cmdCases (k : Int) : k = 1 ∨ k = 2 ∨ k = 3 ∨ k = 4 ∨ k = 5 ∨ (k < 1 ∧ ¬ 5 < k ∧ ¬ k = 1 ∧ ¬ k = 2 ∧ ¬ k = 3 ∧ ¬ k = 4 ∧ ¬ k = 5) ∨ (¬ k < 1 ∧ 5 < k ∧ ¬ k = 1 ∧ ¬ k = 2 ∧ ¬ k = 3 ∧ ¬ k = 4 ∧ ¬ k = 5) := by omega
theorem commandValid_spec (k : Int) (key : Str) (v o : Int) : EE F 174 [.ag [.u (.int .i64 k), .u (.str key), .u (.int .i64 v), .u (.int .i64 o)]] [] = ok1 (B (commandValid ⟨k, key, v, o⟩)) := by
  rw [R174, b174]
  rcases cmdCases k with h | h | h | h | h | h | h <;> (try subst h) <;> (try obtain ⟨_, _, _, _, _, _, _⟩ := h) <;> simp only [↓xP, xQ, xR, flatR, eqCells_ok, eqSh, eqBs, Nat.reduceLT, decide_true, Nat.reduceBEq, Nat.reduceAdd, IOp.dst, IOp.isF, IOp.args, coolOp, Nat.reduceSub, keyValid_spec, l1In_ok, *] <;>
    repeat' (refine sel_split (fun h => ?_) (fun h => ?_))
  all_goals (simp_all [commandValid] <;> (intros; omega))
def cutOk (v : Interval) (key : Str) : Bool := intervalValid v && keyValid key && intervalValid ⟨v.low, key⟩ && intervalValid ⟨key, v.high⟩
def cutRet (v : Interval) (key : Str) : Option Ret := sel (cutOk v key) (some ⟨[.ag [.u (.str v.low), .u (.str key)], .ag [.u (.str key), .u (.str v.high)], B true], [], []⟩) (some ⟨[.ag [.u (.str []), .u (.str [])], .ag [.u (.str []), .u (.str [])], B false], [], []⟩)
theorem intervalCut_spec (lo hi key : Str) : EE F 190 [.ag [.u (.str lo), .u (.str hi)], S key] [] = cutRet ⟨lo, hi⟩ key := by
  rw [R190, b190]
  simp only [↓xP, xQ, xR, flatR, eqCells_ok, eqSh, eqBs, Nat.reduceLT, decide_true, Nat.reduceBEq, Nat.reduceAdd, IOp.dst, IOp.isF, IOp.args, coolOp, Nat.reduceSub, intervalValid_spec, keyValid_spec]
  repeat' (refine sel_split (fun h => ?_) (fun h => ?_))
  all_goals simp_all [cutOk, cutRet, sel]
theorem intervalCut_impl (lo hi key : Str) : EE F 145 [.ag [.u (.str lo), .u (.str hi)], S key] [] = cutRet ⟨lo, hi⟩ key := by
  rw [R145, b145]
  simp only [↓xP, xQ, xR, flatR, eqCells_ok, eqSh, eqBs, Nat.reduceLT, decide_true, Nat.reduceBEq, Nat.reduceAdd, IOp.dst, IOp.isF, IOp.args, coolOp, Nat.reduceSub, intervalValid_impl, keyValid_impl]
  repeat' (refine sel_split (fun h => ?_) (fun h => ?_))
  all_goals simp_all [cutOk, cutRet, sel]
def joinOk (a b : Interval) : Bool := intervalValid a && intervalValid b && !decide (a.high = []) && decide (a.high = b.low)
def joinRet (a b : Interval) : Option Ret := sel (joinOk a b) (some ⟨[.ag [.u (.str a.low), .u (.str b.high)], B true], [], []⟩) (some ⟨[.ag [.u (.str []), .u (.str [])], B false], [], []⟩)
theorem intervalJoin_spec (al ah bl bh : Str) : EE F 135 [.ag [.u (.str al), .u (.str ah)], .ag [.u (.str bl), .u (.str bh)]] [] = joinRet ⟨al, ah⟩ ⟨bl, bh⟩ := by
  rw [R135, b135]
  simp only [↓xP, xQ, xR, flatR, eqCells_ok, eqSh, eqBs, Nat.reduceLT, decide_true, Nat.reduceBEq, Nat.reduceAdd, IOp.dst, IOp.isF, IOp.args, coolOp, Nat.reduceSub, intervalValid_spec]
  repeat' (refine sel_split (fun h => ?_) (fun h => ?_))
  all_goals simp_all [joinOk, joinRet, sel]
theorem intervalJoin_impl (al ah bl bh : Str) : EE F 133 [.ag [.u (.str al), .u (.str ah)], .ag [.u (.str bl), .u (.str bh)]] [] = joinRet ⟨al, ah⟩ ⟨bl, bh⟩ := by
  rw [R133, b133]
  simp only [↓xP, xQ, xR, flatR, eqCells_ok, eqSh, eqBs, Nat.reduceLT, decide_true, Nat.reduceBEq, Nat.reduceAdd, IOp.dst, IOp.isF, IOp.args, coolOp, Nat.reduceSub, intervalValid_impl]
  repeat' (refine sel_split (fun h => ?_) (fun h => ?_))
  all_goals simp_all [joinOk, joinRet, sel]
def sessionAt (l : List Session) (i : Nat) : Bool := match l[i]? with
  | none => true
  | some s => inR s.client 0 3 && inR s.seq 1 999 && inR s.reply (-2) 999 && (decide (i = 0) || (match l[i - 1]? with
    | some r => decide (r.client < s.client)
    | none => true))
def sessionsValid (l : List Session) : Bool := allF l.length (sessionAt l) 0
theorem sessionsValid_spec (l : List Session) (hn : l.length ≤ 4611686018427387904) : EE F 189 [L 3 (l.map Session.u)] [] = ok1 (B (sessionsValid l)) := by
  rw [R189, b189]
  simp only [↓xP, xQ, xR, flatR, eqCells_ok, eqSh, eqBs, Nat.reduceLT, decide_true, Nat.reduceBEq, Nat.reduceAdd, IOp.dst, IOp.isF, IOp.args, coolOp, Nat.reduceSub]
  refine (loop_ind (fun (i : Nat) st => st.s 0 = DU (.sl 3 (l.map Session.u)) ∧ st.s 3 = DI i) (fun i => l.length - i) (fun i => ok1 (B (allF l.length (sessionAt l) i))) ?_ 0 ⟨by simp only [↓xP, xQ, xR, flatR, eqCells_ok, eqSh, eqBs, Nat.reduceLT, decide_true, Nat.reduceBEq, Nat.reduceAdd, IOp.dst, IOp.isF, IOp.args, coolOp, Nat.reduceSub], by simp only [↓xP, xQ, xR, flatR, eqCells_ok, eqSh, eqBs, Nat.reduceLT, decide_true, Nat.reduceBEq, Nat.reduceAdd, IOp.dst, IOp.isF, IOp.args, coolOp, Nat.reduceSub]; rfl⟩).trans ?_
  · rintro i st ⟨h0, h3⟩ ih
    by_cases hi : i < l.length
    · obtain ⟨⟨c, s, r⟩, hp⟩ : ∃ p, l[i]? = some p := ⟨_, List.getElem?_eq_getElem hi⟩
      have hw := w_succ (i := i) (by omega)
      rw [allF_lt hi]
      by_cases hz : i = 0
      · have h01 : ¬ (0 : Int) < (i : Int) := by omega
        simp only [↓xP, xQ, xR, flatR, eqCells_ok, eqSh, eqBs, Nat.reduceLT, decide_true, Nat.reduceBEq, Nat.reduceAdd, IOp.dst, IOp.isF, IOp.args, coolOp, Nat.reduceSub, h0, h3, hi, hp, hw, h01, Session.u, l1In_ok]
        repeat' (refine sel_split (fun h => ?_) (fun h => ?_))
        all_goals first | (rw [ih (i + 1) _ (by omega) ⟨by simp only [↓xP, xQ, xR, flatR, eqCells_ok, eqSh, eqBs, Nat.reduceLT, decide_true, Nat.reduceBEq, Nat.reduceAdd, IOp.dst, IOp.isF, IOp.args, coolOp, Nat.reduceSub, h0], by simp only [↓xP, xQ, xR, flatR, eqCells_ok, eqSh, eqBs, Nat.reduceLT, decide_true, Nat.reduceBEq, Nat.reduceAdd, IOp.dst, IOp.isF, IOp.args, coolOp, Nat.reduceSub]⟩]; simp_all [sessionAt]; done) | (simp_all [sessionAt]; done)
      · obtain ⟨⟨qc, qs, qr⟩, hq⟩ : ∃ q, l[i - 1]? = some q := ⟨_, List.getElem?_eq_getElem (by omega)⟩
        have hw2 : IntKind.i64.wrap ((i : Int) - 1) = ((i - 1 : Nat) : Int) := by rw [w64 (by omega) (by omega)]; omega
        have h01 : (0 : Int) < (i : Int) := by omega
        simp only [↓xP, xQ, xR, flatR, eqCells_ok, eqSh, eqBs, Nat.reduceLT, decide_true, Nat.reduceBEq, Nat.reduceAdd, IOp.dst, IOp.isF, IOp.args, coolOp, Nat.reduceSub, h0, h3, hi, hp, hw, hw2, hq, h01, Session.u, l1In_ok]
        repeat' (refine sel_split (fun h => ?_) (fun h => ?_))
        all_goals first | (rw [ih (i + 1) _ (by omega) ⟨by simp only [↓xP, xQ, xR, flatR, eqCells_ok, eqSh, eqBs, Nat.reduceLT, decide_true, Nat.reduceBEq, Nat.reduceAdd, IOp.dst, IOp.isF, IOp.args, coolOp, Nat.reduceSub, h0], by simp only [↓xP, xQ, xR, flatR, eqCells_ok, eqSh, eqBs, Nat.reduceLT, decide_true, Nat.reduceBEq, Nat.reduceAdd, IOp.dst, IOp.isF, IOp.args, coolOp, Nat.reduceSub]⟩]; simp_all [sessionAt]; done) | (simp_all [sessionAt]; done) | (simp_all [sessionAt] <;> (intros; omega))
    · simp only [↓xP, xQ, xR, flatR, eqCells_ok, eqSh, eqBs, Nat.reduceLT, decide_true, Nat.reduceBEq, Nat.reduceAdd, IOp.dst, IOp.isF, IOp.args, coolOp, Nat.reduceSub, h0, h3, hi]
      rw [allF_ge hi]
  · rfl
theorem sessionsValid_impl (l : List Session) (hn : l.length ≤ 4611686018427387904) : EE F 144 [L 3 (l.map Session.u)] [] = ok1 (B (sessionsValid l)) := by
  rw [R144, b144]
  simp only [↓xP, xQ, xR, flatR, eqCells_ok, eqSh, eqBs, Nat.reduceLT, decide_true, Nat.reduceBEq, Nat.reduceAdd, IOp.dst, IOp.isF, IOp.args, coolOp, Nat.reduceSub]
  refine (loop_ind (fun (i : Nat) st => st.s 0 = DU (.sl 3 (l.map Session.u)) ∧ st.s 5 = DU (.sl 3 (l.map Session.u)) ∧ st.s 6 = DI l.length ∧ st.s 7 = DI i) (fun i => l.length - i) (fun i => ok1 (B (allF l.length (sessionAt l) i))) ?_ 0 ⟨by simp only [↓xP, xQ, xR, flatR, eqCells_ok, eqSh, eqBs, Nat.reduceLT, decide_true, Nat.reduceBEq, Nat.reduceAdd, IOp.dst, IOp.isF, IOp.args, coolOp, Nat.reduceSub], by simp only [↓xP, xQ, xR, flatR, eqCells_ok, eqSh, eqBs, Nat.reduceLT, decide_true, Nat.reduceBEq, Nat.reduceAdd, IOp.dst, IOp.isF, IOp.args, coolOp, Nat.reduceSub], by simp only [↓xP, xQ, xR, flatR, eqCells_ok, eqSh, eqBs, Nat.reduceLT, decide_true, Nat.reduceBEq, Nat.reduceAdd, IOp.dst, IOp.isF, IOp.args, coolOp, Nat.reduceSub], by simp only [↓xP, xQ, xR, flatR, eqCells_ok, eqSh, eqBs, Nat.reduceLT, decide_true, Nat.reduceBEq, Nat.reduceAdd, IOp.dst, IOp.isF, IOp.args, coolOp, Nat.reduceSub]; rfl⟩).trans ?_
  · rintro i st ⟨h0, h5, h6, h7⟩ ih
    by_cases hi : i < l.length
    · obtain ⟨⟨c, s, r⟩, hp⟩ : ∃ p, l[i]? = some p := ⟨_, List.getElem?_eq_getElem hi⟩
      have hw := w_succ (i := i) (by omega)
      rw [allF_lt hi]
      by_cases hz : i = 0
      · have h01 : ¬ (0 : Int) < (i : Int) := by omega
        simp only [↓xP, xQ, xR, flatR, eqCells_ok, eqSh, eqBs, Nat.reduceLT, decide_true, Nat.reduceBEq, Nat.reduceAdd, IOp.dst, IOp.isF, IOp.args, coolOp, Nat.reduceSub, h0, h5, h6, h7, hi, hp, hw, h01, Session.u, seqValid_ok]
        repeat' (refine sel_split (fun h => ?_) (fun h => ?_))
        all_goals first | (rw [ih (i + 1) _ (by omega) ⟨by simp only [↓xP, xQ, xR, flatR, eqCells_ok, eqSh, eqBs, Nat.reduceLT, decide_true, Nat.reduceBEq, Nat.reduceAdd, IOp.dst, IOp.isF, IOp.args, coolOp, Nat.reduceSub, h0], by simp only [↓xP, xQ, xR, flatR, eqCells_ok, eqSh, eqBs, Nat.reduceLT, decide_true, Nat.reduceBEq, Nat.reduceAdd, IOp.dst, IOp.isF, IOp.args, coolOp, Nat.reduceSub, h5], by simp only [↓xP, xQ, xR, flatR, eqCells_ok, eqSh, eqBs, Nat.reduceLT, decide_true, Nat.reduceBEq, Nat.reduceAdd, IOp.dst, IOp.isF, IOp.args, coolOp, Nat.reduceSub, h6], by simp only [↓xP, xQ, xR, flatR, eqCells_ok, eqSh, eqBs, Nat.reduceLT, decide_true, Nat.reduceBEq, Nat.reduceAdd, IOp.dst, IOp.isF, IOp.args, coolOp, Nat.reduceSub]⟩]; simp_all [sessionAt, inR]; done) | (rw [ih (i + 1) _ (by omega) ⟨by simp only [↓xP, xQ, xR, flatR, eqCells_ok, eqSh, eqBs, Nat.reduceLT, decide_true, Nat.reduceBEq, Nat.reduceAdd, IOp.dst, IOp.isF, IOp.args, coolOp, Nat.reduceSub, h0], by simp only [↓xP, xQ, xR, flatR, eqCells_ok, eqSh, eqBs, Nat.reduceLT, decide_true, Nat.reduceBEq, Nat.reduceAdd, IOp.dst, IOp.isF, IOp.args, coolOp, Nat.reduceSub, h5], by simp only [↓xP, xQ, xR, flatR, eqCells_ok, eqSh, eqBs, Nat.reduceLT, decide_true, Nat.reduceBEq, Nat.reduceAdd, IOp.dst, IOp.isF, IOp.args, coolOp, Nat.reduceSub, h6], by simp only [↓xP, xQ, xR, flatR, eqCells_ok, eqSh, eqBs, Nat.reduceLT, decide_true, Nat.reduceBEq, Nat.reduceAdd, IOp.dst, IOp.isF, IOp.args, coolOp, Nat.reduceSub]⟩]; simp_all [sessionAt, inR] <;> (intros; omega)) | (simp_all [sessionAt, inR]; done) | (simp_all [sessionAt, inR] <;> (intros; omega))
      · obtain ⟨⟨qc, qs, qr⟩, hq⟩ : ∃ q, l[i - 1]? = some q := ⟨_, List.getElem?_eq_getElem (by omega)⟩
        have hw2 : IntKind.i64.wrap ((i : Int) - 1) = ((i - 1 : Nat) : Int) := by rw [w64 (by omega) (by omega)]; omega
        have h01 : (0 : Int) < (i : Int) := by omega
        simp only [↓xP, xQ, xR, flatR, eqCells_ok, eqSh, eqBs, Nat.reduceLT, decide_true, Nat.reduceBEq, Nat.reduceAdd, IOp.dst, IOp.isF, IOp.args, coolOp, Nat.reduceSub, h0, h5, h6, h7, hi, hp, hw, hw2, hq, h01, Session.u, seqValid_ok]
        repeat' (refine sel_split (fun h => ?_) (fun h => ?_))
        all_goals first | (rw [ih (i + 1) _ (by omega) ⟨by simp only [↓xP, xQ, xR, flatR, eqCells_ok, eqSh, eqBs, Nat.reduceLT, decide_true, Nat.reduceBEq, Nat.reduceAdd, IOp.dst, IOp.isF, IOp.args, coolOp, Nat.reduceSub, h0], by simp only [↓xP, xQ, xR, flatR, eqCells_ok, eqSh, eqBs, Nat.reduceLT, decide_true, Nat.reduceBEq, Nat.reduceAdd, IOp.dst, IOp.isF, IOp.args, coolOp, Nat.reduceSub, h5], by simp only [↓xP, xQ, xR, flatR, eqCells_ok, eqSh, eqBs, Nat.reduceLT, decide_true, Nat.reduceBEq, Nat.reduceAdd, IOp.dst, IOp.isF, IOp.args, coolOp, Nat.reduceSub, h6], by simp only [↓xP, xQ, xR, flatR, eqCells_ok, eqSh, eqBs, Nat.reduceLT, decide_true, Nat.reduceBEq, Nat.reduceAdd, IOp.dst, IOp.isF, IOp.args, coolOp, Nat.reduceSub]⟩]; simp_all [sessionAt, inR]; done) | (rw [ih (i + 1) _ (by omega) ⟨by simp only [↓xP, xQ, xR, flatR, eqCells_ok, eqSh, eqBs, Nat.reduceLT, decide_true, Nat.reduceBEq, Nat.reduceAdd, IOp.dst, IOp.isF, IOp.args, coolOp, Nat.reduceSub, h0], by simp only [↓xP, xQ, xR, flatR, eqCells_ok, eqSh, eqBs, Nat.reduceLT, decide_true, Nat.reduceBEq, Nat.reduceAdd, IOp.dst, IOp.isF, IOp.args, coolOp, Nat.reduceSub, h5], by simp only [↓xP, xQ, xR, flatR, eqCells_ok, eqSh, eqBs, Nat.reduceLT, decide_true, Nat.reduceBEq, Nat.reduceAdd, IOp.dst, IOp.isF, IOp.args, coolOp, Nat.reduceSub, h6], by simp only [↓xP, xQ, xR, flatR, eqCells_ok, eqSh, eqBs, Nat.reduceLT, decide_true, Nat.reduceBEq, Nat.reduceAdd, IOp.dst, IOp.isF, IOp.args, coolOp, Nat.reduceSub]⟩]; simp_all [sessionAt, inR] <;> (intros; omega)) | (simp_all [sessionAt, inR]; done) | (simp_all [sessionAt, inR] <;> (intros; omega))
    · simp only [↓xP, xQ, xR, flatR, eqCells_ok, eqSh, eqBs, Nat.reduceLT, decide_true, Nat.reduceBEq, Nat.reduceAdd, IOp.dst, IOp.isF, IOp.args, coolOp, Nat.reduceSub, h0, h5, h6, h7, hi]
      rw [allF_ge hi]
  · rfl
def stateValid (s : State) : Bool := intervalValid s.span && pairsValid s.pairs && sessionsValid s.known && (s.pairs.all fun q => inside s.span q.key) && (decide (s.cut = []) || s.sealed && cutOk s.span s.cut)
theorem pairsValid_len {l : List Pair} (h : pairsValid l = true) : l.length ≤ 48 := by
  simp only [pairsValid, Bool.and_eq_true, decide_eq_true_eq] at h; exact h.1
theorem stateValid_impl (lo hi : Str) (l : List Pair) (k : List Session) (se : Bool) (cut : Str) (hn : k.length ≤ 4611686018427387904) : EE F 71 [.ag [.u (.str lo), .u (.str hi), .u (.sl 2 (l.map Pair.u)), .u (.sl 3 (k.map Session.u)), .u (.bool se), .u (.str cut)]] [] = ok1 (B (stateValid ⟨⟨lo, hi⟩, l, k, se, cut⟩)) := by
  rw [R71, b71]
  simp only [↓xP, xQ, xR, flatR, eqCells_ok, eqSh, eqBs, Nat.reduceLT, decide_true, Nat.reduceBEq, Nat.reduceAdd, IOp.dst, IOp.isF, IOp.args, coolOp, Nat.reduceSub, intervalValid_impl, pairsValid_impl, sessionsValid_impl k hn]
  refine sel_split (fun h => ?_) (fun h => ?_)
  · simp_all [stateValid]
  refine sel_split (fun h2 => ?_) (fun h2 => ?_)
  · simp_all [stateValid]
  refine sel_split (fun h3 => ?_) (fun h3 => ?_)
  · simp_all [stateValid]
  simp only [Bool.not_eq_false'] at h h2 h3
  have hlen := pairsValid_len h2
  refine (loop_ind (fun (i : Nat) st => st.s 1 = .t (.sc (.ptr (.loc 1 0) 0 0)) ∧ st.o (.loc 1 0) = some (.box [.u (.str lo), .u (.str hi), .u (.sl 2 (l.map Pair.u)), .u (.sl 3 (k.map Session.u)), .u (.bool se), .u (.str cut)]) ∧ st.s 25 = DU (.sl 2 (l.map Pair.u)) ∧ st.s 26 = DI l.length ∧ st.s 27 = DI i) (fun i => l.length - i) (fun i => ok1 (B (((l.drop i).all fun q => inside ⟨lo, hi⟩ q.key) && (decide (cut = []) || se && cutOk ⟨lo, hi⟩ cut)))) ?_ 0 ⟨by simp only [↓xP, xQ, xR, flatR, eqCells_ok, eqSh, eqBs, Nat.reduceLT, decide_true, Nat.reduceBEq, Nat.reduceAdd, IOp.dst, IOp.isF, IOp.args, coolOp, Nat.reduceSub], by simp only [↓xP, xQ, xR, flatR, eqCells_ok, eqSh, eqBs, Nat.reduceLT, decide_true, Nat.reduceBEq, Nat.reduceAdd, IOp.dst, IOp.isF, IOp.args, coolOp, Nat.reduceSub], by simp only [↓xP, xQ, xR, flatR, eqCells_ok, eqSh, eqBs, Nat.reduceLT, decide_true, Nat.reduceBEq, Nat.reduceAdd, IOp.dst, IOp.isF, IOp.args, coolOp, Nat.reduceSub], by simp only [↓xP, xQ, xR, flatR, eqCells_ok, eqSh, eqBs, Nat.reduceLT, decide_true, Nat.reduceBEq, Nat.reduceAdd, IOp.dst, IOp.isF, IOp.args, coolOp, Nat.reduceSub], by simp only [↓xP, xQ, xR, flatR, eqCells_ok, eqSh, eqBs, Nat.reduceLT, decide_true, Nat.reduceBEq, Nat.reduceAdd, IOp.dst, IOp.isF, IOp.args, coolOp, Nat.reduceSub]; rfl⟩).trans ?_
  · rintro i st ⟨h1, ho, h25, h26, h27⟩ ih
    by_cases hi' : i < l.length
    · obtain ⟨⟨pk, pv⟩, hp⟩ : ∃ p, l[i]? = some p := ⟨_, List.getElem?_eq_getElem hi'⟩
      have hd : l.drop i = ⟨pk, pv⟩ :: l.drop (i + 1) := by rw [List.drop_eq_getElem_cons hi', (List.getElem?_eq_some_iff.1 hp).2]
      have hw := w_succ (i := i) (by omega)
      simp only [↓xP, xQ, xR, flatR, eqCells_ok, eqSh, eqBs, Nat.reduceLT, decide_true, Nat.reduceBEq, Nat.reduceAdd, IOp.dst, IOp.isF, IOp.args, coolOp, Nat.reduceSub, h1, ho, h25, h26, h27, hi', hp, hw, Pair.u, inside_ok]
      rw [hd]
      refine sel_split (fun h => ?_) (fun h => ?_)
      · simp_all
      · rw [ih (i + 1) _ (by omega) ⟨by simp only [↓xP, xQ, xR, flatR, eqCells_ok, eqSh, eqBs, Nat.reduceLT, decide_true, Nat.reduceBEq, Nat.reduceAdd, IOp.dst, IOp.isF, IOp.args, coolOp, Nat.reduceSub, h1], by simp only [↓xP, xQ, xR, flatR, eqCells_ok, eqSh, eqBs, Nat.reduceLT, decide_true, Nat.reduceBEq, Nat.reduceAdd, IOp.dst, IOp.isF, IOp.args, coolOp, Nat.reduceSub, ho], by simp only [↓xP, xQ, xR, flatR, eqCells_ok, eqSh, eqBs, Nat.reduceLT, decide_true, Nat.reduceBEq, Nat.reduceAdd, IOp.dst, IOp.isF, IOp.args, coolOp, Nat.reduceSub, h25], by simp only [↓xP, xQ, xR, flatR, eqCells_ok, eqSh, eqBs, Nat.reduceLT, decide_true, Nat.reduceBEq, Nat.reduceAdd, IOp.dst, IOp.isF, IOp.args, coolOp, Nat.reduceSub, h26], by simp only [↓xP, xQ, xR, flatR, eqCells_ok, eqSh, eqBs, Nat.reduceLT, decide_true, Nat.reduceBEq, Nat.reduceAdd, IOp.dst, IOp.isF, IOp.args, coolOp, Nat.reduceSub]⟩]
        simp_all
    · simp only [↓xP, xQ, xR, flatR, eqCells_ok, eqSh, eqBs, Nat.reduceLT, decide_true, Nat.reduceBEq, Nat.reduceAdd, IOp.dst, IOp.isF, IOp.args, coolOp, Nat.reduceSub, h1, ho, h25, h26, h27, hi', intervalCut_impl]
      rw [List.drop_of_length_le (by omega)]
      refine sel_split (fun h => ?_) (fun h => ?_)
      · simp_all
      cases hc : cutOk ⟨lo, hi⟩ cut <;> simp only [↓xP, xQ, xR, flatR, eqCells_ok, eqSh, eqBs, Nat.reduceLT, decide_true, Nat.reduceBEq, Nat.reduceAdd, IOp.dst, IOp.isF, IOp.args, coolOp, Nat.reduceSub, cutRet, hc, h1, ho]
      all_goals repeat' (refine sel_split (fun h => ?_) (fun h => ?_))
      all_goals simp_all
  · simp [stateValid, h, h2, h3]
theorem stateValid_spec (lo hi : Str) (l : List Pair) (k : List Session) (se : Bool) (cut : Str) (hn : k.length ≤ 4611686018427387904) : EE F 125 [.ag [.u (.str lo), .u (.str hi), .u (.sl 2 (l.map Pair.u)), .u (.sl 3 (k.map Session.u)), .u (.bool se), .u (.str cut)]] [] = ok1 (B (stateValid ⟨⟨lo, hi⟩, l, k, se, cut⟩)) := by
  rw [R125, b125]
  simp only [↓xP, xQ, xR, flatR, eqCells_ok, eqSh, eqBs, Nat.reduceLT, decide_true, Nat.reduceBEq, Nat.reduceAdd, IOp.dst, IOp.isF, IOp.args, coolOp, Nat.reduceSub, intervalValid_spec, pairsValid_spec, sessionsValid_spec k hn]
  refine sel_split (fun h => ?_) (fun h => ?_)
  · simp_all [stateValid]
  refine sel_split (fun h2 => ?_) (fun h2 => ?_)
  · simp_all [stateValid]
  refine sel_split (fun h3 => ?_) (fun h3 => ?_)
  · simp_all [stateValid]
  simp only [Bool.not_eq_false'] at h h2 h3
  have hlen := pairsValid_len h2
  refine (loop_ind (fun (i : Nat) st => st.s 1 = .t (.sc (.ptr (.loc 1 0) 0 0)) ∧ st.o (.loc 1 0) = some (.box [.u (.str lo), .u (.str hi), .u (.sl 2 (l.map Pair.u)), .u (.sl 3 (k.map Session.u)), .u (.bool se), .u (.str cut)]) ∧ st.s 3 = DI i) (fun i => l.length - i) (fun i => ok1 (B (((l.drop i).all fun q => inside ⟨lo, hi⟩ q.key) && (decide (cut = []) || se && cutOk ⟨lo, hi⟩ cut)))) ?_ 0 ⟨by simp only [↓xP, xQ, xR, flatR, eqCells_ok, eqSh, eqBs, Nat.reduceLT, decide_true, Nat.reduceBEq, Nat.reduceAdd, IOp.dst, IOp.isF, IOp.args, coolOp, Nat.reduceSub], by simp only [↓xP, xQ, xR, flatR, eqCells_ok, eqSh, eqBs, Nat.reduceLT, decide_true, Nat.reduceBEq, Nat.reduceAdd, IOp.dst, IOp.isF, IOp.args, coolOp, Nat.reduceSub], by simp only [↓xP, xQ, xR, flatR, eqCells_ok, eqSh, eqBs, Nat.reduceLT, decide_true, Nat.reduceBEq, Nat.reduceAdd, IOp.dst, IOp.isF, IOp.args, coolOp, Nat.reduceSub]; rfl⟩).trans ?_
  · rintro i st ⟨h1, ho, h3'⟩ ih
    by_cases hi' : i < l.length
    · obtain ⟨⟨pk, pv⟩, hp⟩ : ∃ p, l[i]? = some p := ⟨_, List.getElem?_eq_getElem hi'⟩
      have hd : l.drop i = ⟨pk, pv⟩ :: l.drop (i + 1) := by rw [List.drop_eq_getElem_cons hi', (List.getElem?_eq_some_iff.1 hp).2]
      have hw := w_succ (i := i) (by omega)
      have hk := (pairsValid_at h2 hp).1
      simp only [↓xP, xQ, xR, flatR, eqCells_ok, eqSh, eqBs, Nat.reduceLT, decide_true, Nat.reduceBEq, Nat.reduceAdd, IOp.dst, IOp.isF, IOp.args, coolOp, Nat.reduceSub, h1, ho, h3', hi', hp, hw, Pair.u, intervalHas_spec]
      rw [hd]
      refine sel_split (fun h => ?_) (fun h => ?_)
      · simp_all [intervalHas]
      · rw [ih (i + 1) _ (by omega) ⟨by simp only [↓xP, xQ, xR, flatR, eqCells_ok, eqSh, eqBs, Nat.reduceLT, decide_true, Nat.reduceBEq, Nat.reduceAdd, IOp.dst, IOp.isF, IOp.args, coolOp, Nat.reduceSub, h1], by simp only [↓xP, xQ, xR, flatR, eqCells_ok, eqSh, eqBs, Nat.reduceLT, decide_true, Nat.reduceBEq, Nat.reduceAdd, IOp.dst, IOp.isF, IOp.args, coolOp, Nat.reduceSub, ho], by simp only [↓xP, xQ, xR, flatR, eqCells_ok, eqSh, eqBs, Nat.reduceLT, decide_true, Nat.reduceBEq, Nat.reduceAdd, IOp.dst, IOp.isF, IOp.args, coolOp, Nat.reduceSub]⟩]
        simp_all [intervalHas]
    · simp only [↓xP, xQ, xR, flatR, eqCells_ok, eqSh, eqBs, Nat.reduceLT, decide_true, Nat.reduceBEq, Nat.reduceAdd, IOp.dst, IOp.isF, IOp.args, coolOp, Nat.reduceSub, h1, ho, h3', hi', intervalCut_spec]
      rw [List.drop_of_length_le (by omega)]
      cases hc : cutOk ⟨lo, hi⟩ cut <;> simp only [↓xP, xQ, xR, flatR, eqCells_ok, eqSh, eqBs, Nat.reduceLT, decide_true, Nat.reduceBEq, Nat.reduceAdd, IOp.dst, IOp.isF, IOp.args, coolOp, Nat.reduceSub, cutRet, hc, h1, ho]
      all_goals repeat' (refine sel_split (fun h => ?_) (fun h => ?_))
      all_goals simp_all
  · simp [stateValid, h, h2, h3]
def pairsMiddle (l : List Pair) : Str := if pairsValid l = true ∧ 2 ≤ l.length then (match l[l.length / 2]? with
  | some p => p.key
  | none => []) else []
theorem half {n : Nat} (h : n ≤ 48) : IntKind.i64.wrap ((n : Int).tdiv 2) = ((n / 2 : Nat) : Int) := by
  have : (n : Int).tdiv 2 = ((n / 2 : Nat) : Int) := by rw [Int.tdiv_eq_ediv_of_nonneg (by omega)]; rfl
  rw [this, w64 (by omega) (by omega)]
theorem pairsMiddle_impl (l : List Pair) : EE F 142 [L 2 (l.map Pair.u)] [] = ok1 (S (pairsMiddle l)) := by
  rw [R142, b142]
  simp only [↓xP, xQ, xR, flatR, eqCells_ok, eqSh, eqBs, Nat.reduceLT, decide_true, Nat.reduceBEq, Nat.reduceAdd, IOp.dst, IOp.isF, IOp.args, coolOp, Nat.reduceSub, pairsValid_impl]
  refine sel_split (fun h => ?_) (fun h => ?_)
  · simp_all [pairsMiddle]
  refine sel_split (fun h2 => ?_) (fun h2 => ?_)
  · have h3 : ¬ 2 ≤ l.length := by simp at h2; omega
    simp [pairsMiddle, h3]
  have h3 : 2 ≤ l.length := by simp at h2; omega
  simp only [Bool.not_eq_false'] at h
  have hw := half (pairsValid_len h)
  have hi : l.length / 2 < l.length := by omega
  obtain ⟨⟨pk, pv⟩, hp⟩ : ∃ p, l[l.length / 2]? = some p := ⟨_, List.getElem?_eq_getElem hi⟩
  simp only [↓xP, xQ, xR, flatR, eqCells_ok, eqSh, eqBs, Nat.reduceLT, decide_true, Nat.reduceBEq, Nat.reduceAdd, IOp.dst, IOp.isF, IOp.args, coolOp, Nat.reduceSub, hw, hp, Pair.u, pairsMiddle, h, h3, show ¬ (2 : Int) = 0 by omega]
def splitWanted (s : State) : Str := if stateValid s = true ∧ s.sealed = false ∧ 6 ≤ s.pairs.length then pairsMiddle s.pairs else []
theorem splitWanted_impl (lo hi : Str) (l : List Pair) (k : List Session) (se : Bool) (cut : Str) (hn : k.length ≤ 4611686018427387904) : EE F 69 [.ag [.u (.str lo), .u (.str hi), .u (.sl 2 (l.map Pair.u)), .u (.sl 3 (k.map Session.u)), .u (.bool se), .u (.str cut)]] [] = ok1 (S (splitWanted ⟨⟨lo, hi⟩, l, k, se, cut⟩)) := by
  rw [R69, b69]
  simp only [↓xP, xQ, xR, flatR, eqCells_ok, eqSh, eqBs, Nat.reduceLT, decide_true, Nat.reduceBEq, Nat.reduceAdd, IOp.dst, IOp.isF, IOp.args, coolOp, Nat.reduceSub, stateValid_impl lo hi l k se cut hn, pairsMiddle_impl]
  repeat' (refine sel_split (fun h => ?_) (fun h => ?_))
  all_goals first | (simp_all [splitWanted]; done) | (simp_all [splitWanted] <;> (intros; omega))
def mergeWanted (a b : State) : Bool := stateValid a && stateValid b && !a.sealed && !b.sealed && joinOk a.span b.span && decide (a.pairs.length + b.pairs.length ≤ 3)
theorem mergeWanted_spec (al ah : Str) (l : List Pair) (k : List Session) (se : Bool) (cut : Str) (hn : k.length ≤ 4611686018427387904) (al' ah' : Str) (l' : List Pair) (k' : List Session) (se' : Bool) (cut' : Str) (hn' : k'.length ≤ 4611686018427387904) : EE F 75 [.ag [.u (.str al), .u (.str ah), .u (.sl 2 (l.map Pair.u)), .u (.sl 3 (k.map Session.u)), .u (.bool se), .u (.str cut)], .ag [.u (.str al'), .u (.str ah'), .u (.sl 2 (l'.map Pair.u)), .u (.sl 3 (k'.map Session.u)), .u (.bool se'), .u (.str cut')]] [] = ok1 (B (mergeWanted ⟨⟨al, ah⟩, l, k, se, cut⟩ ⟨⟨al', ah'⟩, l', k', se', cut'⟩)) := by
  rw [R75, b75]
  cases hc : joinOk ⟨al, ah⟩ ⟨al', ah'⟩ <;> simp only [↓xP, xQ, xR, flatR, eqCells_ok, eqSh, eqBs, Nat.reduceLT, decide_true, Nat.reduceBEq, Nat.reduceAdd, IOp.dst, IOp.isF, IOp.args, coolOp, Nat.reduceSub, stateValid_spec al ah l k se cut hn, stateValid_spec al' ah' l' k' se' cut' hn', intervalJoin_spec, joinRet, hc]
  all_goals repeat' (refine sel_split (fun h => ?_) (fun h => ?_))
  all_goals try (simp_all [mergeWanted]; done)
  all_goals
    have hl := pairsValid_len (l := l) (by simp_all [stateValid])
    have hl' := pairsValid_len (l := l') (by simp_all [stateValid])
    rw [w64 (by omega) (by omega)]
    simp_all [mergeWanted]
    omega
theorem mergeWanted_impl (al ah : Str) (l : List Pair) (k : List Session) (se : Bool) (cut : Str) (hn : k.length ≤ 4611686018427387904) (al' ah' : Str) (l' : List Pair) (k' : List Session) (se' : Bool) (cut' : Str) (hn' : k'.length ≤ 4611686018427387904) : EE F 74 [.ag [.u (.str al), .u (.str ah), .u (.sl 2 (l.map Pair.u)), .u (.sl 3 (k.map Session.u)), .u (.bool se), .u (.str cut)], .ag [.u (.str al'), .u (.str ah'), .u (.sl 2 (l'.map Pair.u)), .u (.sl 3 (k'.map Session.u)), .u (.bool se'), .u (.str cut')]] [] = ok1 (B (mergeWanted ⟨⟨al, ah⟩, l, k, se, cut⟩ ⟨⟨al', ah'⟩, l', k', se', cut'⟩)) := by
  rw [R74, b74]
  cases hc : joinOk ⟨al, ah⟩ ⟨al', ah'⟩ <;> simp only [↓xP, xQ, xR, flatR, eqCells_ok, eqSh, eqBs, Nat.reduceLT, decide_true, Nat.reduceBEq, Nat.reduceAdd, IOp.dst, IOp.isF, IOp.args, coolOp, Nat.reduceSub, stateValid_impl al ah l k se cut hn, stateValid_impl al' ah' l' k' se' cut' hn', intervalJoin_impl, joinRet, hc]
  all_goals repeat' (refine sel_split (fun h => ?_) (fun h => ?_))
  all_goals try (simp_all [mergeWanted]; done)
  all_goals
    have hl := pairsValid_len (l := l) (by simp_all [stateValid])
    have hl' := pairsValid_len (l := l') (by simp_all [stateValid])
    rw [w64 (by omega) (by omega)]
    simp_all [mergeWanted]
    omega
def cmpS (a b : Str) : Int := if strLt a b = true then -1 else if strLt b a = true then 1 else 0
theorem isNaN_s (s : Str) : EE F 215 [S s] [] = ok1 (B false) := by
  rw [R215, b215]
  simp only [↓xP, xQ, xR, flatR, eqCells_ok, eqSh, eqBs, Nat.reduceLT, decide_true, Nat.reduceBEq, Nat.reduceAdd, IOp.dst, IOp.isF, IOp.args, coolOp, Nat.reduceSub, ne_eq, not_true_eq_false, decide_false]
theorem compare_s (a b : Str) : EE F 187 [S a, S b] [] = ok1 (I (cmpS a b)) := by
  rw [R187, b187]
  simp only [↓xP, xQ, xR, flatR, eqCells_ok, eqSh, eqBs, Nat.reduceLT, decide_true, Nat.reduceBEq, Nat.reduceAdd, IOp.dst, IOp.isF, IOp.args, coolOp, Nat.reduceSub, isNaN_s, le_iff]
  repeat' (refine sel_split (fun h => ?_) (fun h => ?_))
  all_goals simp_all [cmpS]
theorem pairCmp (p : Str) (v : Int) (key : Str) : EE F 186 [.ag [.u (.str p), .u (.int .i64 v)], S key] [] = ok1 (I (cmpS p key)) := by
  rw [R186, b186]
  simp only [↓xP, xQ, xR, flatR, eqCells_ok, eqSh, eqBs, Nat.reduceLT, decide_true, Nat.reduceBEq, Nat.reduceAdd, IOp.dst, IOp.isF, IOp.args, coolOp, Nat.reduceSub, compare_s]
def place (key : Str) : List Pair → Nat
  | [] => 0
  | p :: l => if strLt p.key key = true then place key l + 1 else 0
theorem place_le (key : Str) : ∀ l, place key l ≤ l.length
  | [] => Nat.le_refl _
  | p :: l => by simp only [place]; split; simpa using place_le key l; simp
theorem place_eq (key : Str) : ∀ (l : List Pair) (i : Nat), i ≤ l.length → (∀ t p, t < i → l[t]? = some p → strLt p.key key = true) → (∀ p, l[i]? = some p → strLt p.key key = false) → place key l = i
  | [], i, hi, _, _ => by simp at hi; simp [place, hi]
  | p :: l, 0, _, _, h2 => by simp [place, h2 p rfl]
  | p :: l, i + 1, hi, h1, h2 => by
    have := h1 0 p (by omega) rfl
    simp only [place, this, if_true]
    rw [place_eq key l i (by simpa using hi) (fun t q ht hq => h1 (t + 1) q (by omega) hq) (fun q hq => h2 q hq)]
/-- The keys ascend. -/
def Asc (l : List Pair) : Prop := ∀ (s t : Nat) p q, s < t → l[s]? = some p → l[t]? = some q → strLt p.key q.key = true
theorem asc_of {l : List Pair} (h : pairsValid l = true) : Asc l := by
  have hc : ∀ (t : Nat) p q, l[t]? = some p → l[t + 1]? = some q → strLt p.key q.key = true := by
    intro t p q hp hq
    simp only [pairsValid, Bool.and_eq_true, decide_eq_true_eq] at h
    have := (allF_iff _ 0 rfl).1 h.2 (t + 1) (by omega) (List.getElem?_eq_some_iff.1 hq).1
    simp only [pairAt, hq, Nat.add_sub_cancel, hp] at this
    simp_all
  intro s t p q hst hp hq
  induction t generalizing q with
  | zero => omega
  | succ t ih =>
    obtain ⟨r, hr⟩ : ∃ r, l[t]? = some r := ⟨_, List.getElem?_eq_getElem (by have := (List.getElem?_eq_some_iff.1 hq).1; omega)⟩
    by_cases e : s = t
    · subst e; exact hc _ _ _ hp hq
    · exact lt_trans (ih r (by omega) hr) (hc _ _ _ hr hq)
theorem mid64 {i j : Nat} (h : i + j < 9223372036854775808) : IntKind.i64.wrap ((IntKind.u64.wrap (IntKind.i64.wrap ((i : Int) + (j : Int)))).fdiv (2 ^ min (Int.toNat 1) IntKind.u64.bits)) = (((i + j) / 2 : Nat) : Int) := by
  rw [show (2 : Int) ^ min (Int.toNat 1) IntKind.u64.bits = 2 from rfl]
  rw [show IntKind.i64.wrap ((i : Int) + (j : Int)) = (i : Int) + j from w64 (by omega) (by omega)]
  have : IntKind.u64.wrap ((i : Int) + j) = (i : Int) + j := by rw [IntKind.wrap_u64]; omega
  rw [this, Int.fdiv_eq_ediv_of_nonneg _ (by omega), w64 (by omega) (by omega)]
  omega
def found (key : Str) (l : List Pair) : Bool := match l[place key l]? with
  | some p => decide (p.key = key)
  | none => false
theorem search_ok (l : List Pair) (key : Str) (ha : Asc l) (hn : l.length ≤ 1048576) : EE F 185 [L 2 (l.map Pair.u), S key, .sc (.u (.fn 186 []))] [] = some ⟨[I (place key l), B (found key l)], [], []⟩ := by
  rw [R185, b185]
  simp only [↓xP, xQ, xR, flatR, eqCells_ok, eqSh, eqBs, Nat.reduceLT, decide_true, Nat.reduceBEq, Nat.reduceAdd, IOp.dst, IOp.isF, IOp.args, coolOp, Nat.reduceSub]
  refine (loop_ind (fun (a : Nat × Nat) st => a.1 ≤ a.2 ∧ a.2 ≤ l.length ∧ (∀ t p, t < a.1 → l[t]? = some p → strLt p.key key = true) ∧ (∀ t p, a.2 ≤ t → l[t]? = some p → strLt p.key key = false) ∧
    st.s 0 = DU (.sl 2 (l.map Pair.u)) ∧ st.s 1 = DS key ∧ st.s 2 = .t (.sc (.u (.fn 186 []))) ∧ st.s 8 = DI l.length ∧ st.s 9 = DI a.1 ∧ st.s 10 = DI a.2) (fun a => a.2 - a.1) (fun a => some ⟨[I (place key l), B (found key l)], [], []⟩) ?_ (0, l.length) ⟨by omega, by dsimp only; omega, by omega, ?_, by simp only [↓xP, xQ, xR, flatR, eqCells_ok, eqSh, eqBs, Nat.reduceLT, decide_true, Nat.reduceBEq, Nat.reduceAdd, IOp.dst, IOp.isF, IOp.args, coolOp, Nat.reduceSub], by simp only [↓xP, xQ, xR, flatR, eqCells_ok, eqSh, eqBs, Nat.reduceLT, decide_true, Nat.reduceBEq, Nat.reduceAdd, IOp.dst, IOp.isF, IOp.args, coolOp, Nat.reduceSub], by simp only [↓xP, xQ, xR, flatR, eqCells_ok, eqSh, eqBs, Nat.reduceLT, decide_true, Nat.reduceBEq, Nat.reduceAdd, IOp.dst, IOp.isF, IOp.args, coolOp, Nat.reduceSub], by simp only [↓xP, xQ, xR, flatR, eqCells_ok, eqSh, eqBs, Nat.reduceLT, decide_true, Nat.reduceBEq, Nat.reduceAdd, IOp.dst, IOp.isF, IOp.args, coolOp, Nat.reduceSub], by simp only [↓xP, xQ, xR, flatR, eqCells_ok, eqSh, eqBs, Nat.reduceLT, decide_true, Nat.reduceBEq, Nat.reduceAdd, IOp.dst, IOp.isF, IOp.args, coolOp, Nat.reduceSub]; rfl, by simp only [↓xP, xQ, xR, flatR, eqCells_ok, eqSh, eqBs, Nat.reduceLT, decide_true, Nat.reduceBEq, Nat.reduceAdd, IOp.dst, IOp.isF, IOp.args, coolOp, Nat.reduceSub]⟩).trans rfl
  · rintro ⟨i, j⟩ st ⟨hij, hj, hlo, hhi, h0, h1, h2, h8, h9, h10⟩ ih
    dsimp only at hij hj hlo hhi h9 h10 ih
    by_cases h : i < j
    · obtain ⟨⟨pk, pv⟩, hp⟩ : ∃ p, l[(i + j) / 2]? = some p := ⟨_, List.getElem?_eq_getElem (by omega)⟩
      have hm := mid64 (i := i) (j := j) (by omega)
      have hw := w_succ (i := (i + j) / 2) (by omega)
      have hb : ¬ (1 : Int) < 0 := by omega
      by_cases hc : strLt pk key = true
      · have hs : cmpS pk key = -1 := by simp [cmpS, hc]
        have hn1 : (-1 : Int) < 0 := by omega
        simp only [↓xP, xQ, xR, flatR, eqCells_ok, eqSh, eqBs, Nat.reduceLT, decide_true, Nat.reduceBEq, Nat.reduceAdd, IOp.dst, IOp.isF, IOp.args, coolOp, Nat.reduceSub, h0, h1, h2, h8, h9, h10, h, hb, hm, hp, hw, Pair.u, pairCmp, hs, hn1]
        refine ih ((i + j) / 2 + 1, j) _ (by dsimp only; omega) ⟨by dsimp only; omega, hj, fun t q ht hq => ?_, hhi, by simp only [↓xP, xQ, xR, flatR, eqCells_ok, eqSh, eqBs, Nat.reduceLT, decide_true, Nat.reduceBEq, Nat.reduceAdd, IOp.dst, IOp.isF, IOp.args, coolOp, Nat.reduceSub, h0], by simp only [↓xP, xQ, xR, flatR, eqCells_ok, eqSh, eqBs, Nat.reduceLT, decide_true, Nat.reduceBEq, Nat.reduceAdd, IOp.dst, IOp.isF, IOp.args, coolOp, Nat.reduceSub, h1], by simp only [↓xP, xQ, xR, flatR, eqCells_ok, eqSh, eqBs, Nat.reduceLT, decide_true, Nat.reduceBEq, Nat.reduceAdd, IOp.dst, IOp.isF, IOp.args, coolOp, Nat.reduceSub, h2], by simp only [↓xP, xQ, xR, flatR, eqCells_ok, eqSh, eqBs, Nat.reduceLT, decide_true, Nat.reduceBEq, Nat.reduceAdd, IOp.dst, IOp.isF, IOp.args, coolOp, Nat.reduceSub, h8], by simp only [↓xP, xQ, xR, flatR, eqCells_ok, eqSh, eqBs, Nat.reduceLT, decide_true, Nat.reduceBEq, Nat.reduceAdd, IOp.dst, IOp.isF, IOp.args, coolOp, Nat.reduceSub], by simp only [↓xP, xQ, xR, flatR, eqCells_ok, eqSh, eqBs, Nat.reduceLT, decide_true, Nat.reduceBEq, Nat.reduceAdd, IOp.dst, IOp.isF, IOp.args, coolOp, Nat.reduceSub, h10]⟩
        dsimp only at ht
        by_cases e : t = (i + j) / 2
        · subst e; rw [hp] at hq; cases hq; exact hc
        · exact lt_trans (ha t _ _ _ (by omega) hq hp) hc
      · have hs : ¬ cmpS pk key < 0 := by unfold cmpS; rw [if_neg hc]; split <;> omega
        simp only [↓xP, xQ, xR, flatR, eqCells_ok, eqSh, eqBs, Nat.reduceLT, decide_true, Nat.reduceBEq, Nat.reduceAdd, IOp.dst, IOp.isF, IOp.args, coolOp, Nat.reduceSub, h0, h1, h2, h8, h9, h10, h, hb, hm, hp, hw, Pair.u, pairCmp, hs]
        refine ih (i, (i + j) / 2) _ (by dsimp only; omega) ⟨by dsimp only; omega, by dsimp only; omega, hlo, fun t q ht hq => ?_, by simp only [↓xP, xQ, xR, flatR, eqCells_ok, eqSh, eqBs, Nat.reduceLT, decide_true, Nat.reduceBEq, Nat.reduceAdd, IOp.dst, IOp.isF, IOp.args, coolOp, Nat.reduceSub, h0], by simp only [↓xP, xQ, xR, flatR, eqCells_ok, eqSh, eqBs, Nat.reduceLT, decide_true, Nat.reduceBEq, Nat.reduceAdd, IOp.dst, IOp.isF, IOp.args, coolOp, Nat.reduceSub, h1], by simp only [↓xP, xQ, xR, flatR, eqCells_ok, eqSh, eqBs, Nat.reduceLT, decide_true, Nat.reduceBEq, Nat.reduceAdd, IOp.dst, IOp.isF, IOp.args, coolOp, Nat.reduceSub, h2], by simp only [↓xP, xQ, xR, flatR, eqCells_ok, eqSh, eqBs, Nat.reduceLT, decide_true, Nat.reduceBEq, Nat.reduceAdd, IOp.dst, IOp.isF, IOp.args, coolOp, Nat.reduceSub, h8], by simp only [↓xP, xQ, xR, flatR, eqCells_ok, eqSh, eqBs, Nat.reduceLT, decide_true, Nat.reduceBEq, Nat.reduceAdd, IOp.dst, IOp.isF, IOp.args, coolOp, Nat.reduceSub, h9], by simp only [↓xP, xQ, xR, flatR, eqCells_ok, eqSh, eqBs, Nat.reduceLT, decide_true, Nat.reduceBEq, Nat.reduceAdd, IOp.dst, IOp.isF, IOp.args, coolOp, Nat.reduceSub]⟩
        dsimp only at ht
        rw [Bool.eq_false_iff]
        intro h3
        by_cases e : t = (i + j) / 2
        · subst e; rw [hp] at hq; cases hq; exact hc h3
        · exact hc (lt_trans (ha _ t _ _ (by omega) hp hq) h3)
    · have hpl : place key l = i := place_eq key l i (by omega) hlo (fun p hp => hhi i p (by omega) hp)
      by_cases hi : i < l.length
      · obtain ⟨⟨pk, pv⟩, hp⟩ : ∃ p, l[i]? = some p := ⟨_, List.getElem?_eq_getElem hi⟩
        have h3 := hhi i _ (by omega) hp
        simp only [↓xP, xQ, xR, flatR, eqCells_ok, eqSh, eqBs, Nat.reduceLT, decide_true, Nat.reduceBEq, Nat.reduceAdd, IOp.dst, IOp.isF, IOp.args, coolOp, Nat.reduceSub, h0, h1, h2, h8, h9, h10, h, hi, hp, Pair.u, pairCmp, found, hpl]
        have : decide (cmpS pk key = 0) = decide (pk = key) := by
          simp only at h3
          rcases lt_total pk key with h4 | h4 | h4
          · rw [h3] at h4; cases h4
          · subst h4; simp [cmpS, lt_irrefl]
          · have : pk ≠ key := fun e => by subst e; simp [lt_irrefl] at h4
            simp [cmpS, h3, h4, this]
        rw [this]
      · have hp : l[i]? = none := List.getElem?_eq_none (by omega)
        simp only [↓xP, xQ, xR, flatR, eqCells_ok, eqSh, eqBs, Nat.reduceLT, decide_true, Nat.reduceBEq, Nat.reduceAdd, IOp.dst, IOp.isF, IOp.args, coolOp, Nat.reduceSub, h0, h1, h2, h8, h9, h10, h, hi, found, hpl, hp]
  · intro t p ht hp
    have := (List.getElem?_eq_some_iff.1 hp).1
    dsimp only at ht
    omega
theorem pairPlace_ok (l : List Pair) (key : Str) (ha : Asc l) (hn : l.length ≤ 1048576) : EE F 121 [L 2 (l.map Pair.u), S key] [] = some ⟨[I (place key l), B (found key l)], [], []⟩ := by
  rw [R121, b121]
  simp only [↓xP, xQ, xR, flatR, eqCells_ok, eqSh, eqBs, Nat.reduceLT, decide_true, Nat.reduceBEq, Nat.reduceAdd, IOp.dst, IOp.isF, IOp.args, coolOp, Nat.reduceSub, search_ok l key ha hn]
theorem place_lt {key : Str} : ∀ {l : List Pair} {t : Nat} {p : Pair}, t < place key l → l[t]? = some p → strLt p.key key = true
  | [], t, p, ht, hp => by simp at hp
  | q :: l, t, p, ht, hp => by
    simp only [place] at ht
    split at ht
    · rename_i hq
      cases t with
      | zero => cases hp; exact hq
      | succ t => exact place_lt (l := l) (t := t) (by omega) hp
    · omega
theorem place_at {key : Str} : ∀ {l : List Pair} {p : Pair}, l[place key l]? = some p → strLt p.key key = false
  | [], p, hp => by simp at hp
  | q :: l, p, hp => by
    simp only [place] at hp
    split at hp
    · exact place_at (l := l) hp
    · rename_i hq; cases hp; simpa using hq
theorem place_ge {key : Str} {l : List Pair} (ha : Asc l) {t : Nat} {p : Pair} (ht : place key l ≤ t) (hp : l[t]? = some p) : strLt p.key key = false := by
  obtain ⟨q, hq⟩ : ∃ q, l[place key l]? = some q := ⟨_, List.getElem?_eq_getElem (by have := (List.getElem?_eq_some_iff.1 hp).1; omega)⟩
  have h1 := place_at hq
  by_cases e : place key l = t
  · subst e; rw [hq] at hp; cases hp; exact h1
  · rw [Bool.eq_false_iff]
    intro h2
    rw [lt_trans (ha _ t _ _ (by omega) hq hp) h2] at h1
    cases h1
theorem place_mono {a b : Str} {l : List Pair} (ha : Asc l) (h : strLt a b = true) : place a l ≤ place b l := by
  by_cases hc : place a l ≤ place b l
  · exact hc
  · have hl := place_le a l
    obtain ⟨q, hq⟩ : ∃ q, l[place b l]? = some q := ⟨_, List.getElem?_eq_getElem (by omega)⟩
    have h1 := place_at hq
    rw [lt_trans (place_lt (by omega) hq) h] at h1
    cases h1
theorem filter_cut {α : Type} (q : α → Bool) : ∀ (l : List α) (a b : Nat), (∀ t p, l[t]? = some p → (q p = true ↔ a ≤ t ∧ t < b)) → l.filter q = (l.take b).drop a
  | [], a, b, _ => by simp
  | x :: l, a, b, h => by
    have h0 := h 0 x rfl
    cases b with
    | zero =>
      have : q x = false := by simpa using h0
      rw [List.filter_cons, this]
      simpa using filter_cut q l 0 0 (fun t p hp => by have := h (t + 1) p hp; simpa using this)
    | succ b =>
      cases a with
      | zero =>
        have : q x = true := by simpa using h0
        rw [List.filter_cons, this]
        have := filter_cut q l 0 b (fun t p hp => by have := h (t + 1) p hp; simpa using this)
        simpa using this
      | succ a =>
        have : q x = false := by simpa using h0
        rw [List.filter_cons, this]
        have := filter_cut q l a b (fun t p hp => by have := h (t + 1) p hp; simpa using this)
        simpa using this
def pairsIn (l : List Pair) (v : Interval) : List Pair := l.filter fun p => inside v p.key
theorem pairsIn_cut {l : List Pair} (ha : Asc l) (v : Interval) : (l.take (if v.high = [] then l.length else place v.high l)).drop (place v.low l) = pairsIn l v := by
  refine (filter_cut _ l _ _ (fun t p hp => ?_)).symm
  have hlen := (List.getElem?_eq_some_iff.1 hp).1
  have h1 : place v.low l ≤ t ↔ strLt p.key v.low = false := by
    refine ⟨fun h => place_ge ha h hp, fun h => ?_⟩
    by_cases hc : place v.low l ≤ t
    · exact hc
    · rw [place_lt (by omega) hp] at h; cases h
  have h2 : t < place v.high l ↔ strLt p.key v.high = true := by
    refine ⟨fun h => place_lt h hp, fun h => ?_⟩
    by_cases hc : t < place v.high l
    · exact hc
    · rw [place_ge ha (by omega) hp] at h; cases h
  by_cases hh : v.high = []
  · simp [inside, hh, h1, hlen]
  · simp [inside, hh, h1, h2]
theorem valid_lt {v : Interval} (h : intervalValid v = true) (hh : v.high ≠ []) : strLt v.low v.high = true := by
  simp only [intervalValid, Bool.and_eq_true, Bool.or_eq_true, decide_eq_true_eq, hh, false_or] at h
  by_cases hl : v.low = []
  · rw [hl, lt_nil]; simpa using hh
  · have := h.2
    rwa [if_neg hl] at this
theorem copyOf_Pair (l : List Pair) (hn : l.length ≤ 1048576) : EE F 139 [L 2 (l.map Pair.u)] [] = some ⟨[.sc (.own (.par 0) l.length)], [.row 2 (l.map Pair.u)], []⟩ := by
  rw [R139, b139]
  have h1 : l.length ≤ maxLen := by simp [maxLen]; omega
  have h2 : l.length * 24 ≤ 140737488355328 := by omega
  simp only [↓xP, xQ, xR, flatR, eqCells_ok, eqSh, eqBs, Nat.reduceLT, decide_true, Nat.reduceBEq, Nat.reduceAdd, IOp.dst, IOp.isF, IOp.args, coolOp, Nat.reduceSub, h1, h2]
theorem pairsIn_le (l : List Pair) (v : Interval) : (pairsIn l v).length ≤ l.length := List.length_filter_le ..
def pairsInV (l : List Pair) (v : Interval) : List Pair := if pairsValid l = true ∧ intervalValid v = true then pairsIn l v else []
theorem pairsIn_impl (l : List Pair) (lo hi : Str) : EE F 66 [L 2 (l.map Pair.u), .ag [.u (.str lo), .u (.str hi)]] [] = some ⟨[.sc (.own (.par 0) (pairsInV l ⟨lo, hi⟩).length)], [.row 2 ((pairsInV l ⟨lo, hi⟩).map Pair.u)], []⟩ := by
  rw [R66, b66]
  simp only [↓xP, xQ, xR, flatR, eqCells_ok, eqSh, eqBs, Nat.reduceLT, decide_true, Nat.reduceBEq, Nat.reduceAdd, IOp.dst, IOp.isF, IOp.args, coolOp, Nat.reduceSub, pairsValid_impl, intervalValid_impl]
  refine sel_split (fun h => ?_) (fun h => ?_)
  · simp only [Bool.not_eq_true'] at h; simp [pairsInV, h]
  refine sel_split (fun h2 => ?_) (fun h2 => ?_)
  · simp only [Bool.not_eq_true'] at h2; simp [pairsInV, h2]
  simp only [Bool.not_eq_false'] at h h2
  have ha := asc_of h
  have hl := pairsValid_len h
  have hn : l.length ≤ 1048576 := by omega
  have e : pairsInV l ⟨lo, hi⟩ = pairsIn l ⟨lo, hi⟩ := by simp [pairsInV, h, h2]
  have hp1 := place_le lo l
  have hp2 := place_le hi l
  have hc := pairsIn_cut ha ⟨lo, hi⟩
  dsimp only at hc
  have hpl := pairsIn_le l ⟨lo, hi⟩
  rw [e]
  by_cases hh : hi = []
  · subst hh
    rw [if_pos rfl] at hc
    have hcut : vcut l.length (some (DI (place lo l))) (some (DI l.length)) = some (place lo l, l.length) := by simp [vcut, D.int?]; omega
    have hm : (l.map Pair.u).drop (place lo l) = (pairsIn l ⟨lo, []⟩).map Pair.u := by rw [← hc, List.map_drop, List.take_length]
    have hcp := copyOf_Pair (pairsIn l ⟨lo, []⟩) (by omega)
    simp only [↓xP, xQ, xR, flatR, eqCells_ok, eqSh, eqBs, Nat.reduceLT, decide_true, Nat.reduceBEq, Nat.reduceAdd, IOp.dst, IOp.isF, IOp.args, coolOp, Nat.reduceSub, pairPlace_ok l lo ha hn, ne_eq, not_true_eq_false, decide_false, hcut, hm, hcp]
  · rw [if_neg hh] at hc
    have hlt := place_mono ha (valid_lt h2 hh)
    dsimp only at hlt
    have hcut : vcut l.length (some (DI (place lo l))) (some (DI (place hi l))) = some (place lo l, place hi l) := by simp [vcut, D.int?]; omega
    have hm : ((l.map Pair.u).take (place hi l)).drop (place lo l) = (pairsIn l ⟨lo, hi⟩).map Pair.u := by rw [← hc, List.map_drop, List.map_take]
    have hcp := copyOf_Pair (pairsIn l ⟨lo, hi⟩) (by omega)
    simp only [↓xP, xQ, xR, flatR, eqCells_ok, eqSh, eqBs, Nat.reduceLT, decide_true, Nat.reduceBEq, Nat.reduceAdd, IOp.dst, IOp.isF, IOp.args, coolOp, Nat.reduceSub, pairPlace_ok l lo ha hn, pairPlace_ok l hi ha hn, hh, ne_eq, not_false_eq_true, decide_true, hcut, hm, hcp]
theorem pairsIn_take {l : List Pair} {v : Interval} {k : Nat} {p : Pair} (hp : l[k]? = some p) : pairsIn (l.take (k + 1)) v = pairsIn (l.take k) v ++ (if inside v p.key = true then [p] else []) := by
  have : l.take (k + 1) = l.take k ++ [p] := by rw [List.take_add_one, hp]; rfl
  simp only [pairsIn, this, List.filter_append, List.filter_cons, List.filter_nil]
theorem pairScan_spec (l : List Pair) (lo hi : Str) : EE F 136 [L 2 (l.map Pair.u), .ag [.u (.str lo), .u (.str hi)], I 48] [] = some ⟨[.sc (.own (.par 0) (pairsInV l ⟨lo, hi⟩).length)], [.row 2 ((pairsInV l ⟨lo, hi⟩).map Pair.u)], []⟩ := by
  rw [R136, b136]
  have h48 : inR 48 0 48 = true := by simp [inR]
  simp only [↓xP, xQ, xR, flatR, eqCells_ok, eqSh, eqBs, Nat.reduceLT, decide_true, Nat.reduceBEq, Nat.reduceAdd, IOp.dst, IOp.isF, IOp.args, coolOp, Nat.reduceSub, pairsValid_spec, intervalValid_spec, l1In_ok, h48]
  refine sel_split (fun h => ?_) (fun h => ?_)
  · simp only [Bool.not_eq_true'] at h; simp [pairsInV, h]
  refine sel_split (fun h2 => ?_) (fun h2 => ?_)
  · simp only [Bool.not_eq_true'] at h2; simp [pairsInV, h2]
  simp only [Bool.not_eq_false'] at h h2
  have hl := pairsValid_len h
  have e : pairsInV l ⟨lo, hi⟩ = pairsIn l ⟨lo, hi⟩ := by simp [pairsInV, h, h2]
  rw [e]
  refine (loop_ind (fun (k : Nat) st => k ≤ l.length ∧ st.s 0 = DU (.sl 2 (l.map Pair.u)) ∧ st.s 4 = .t (.sc (.ptr (.loc 4 0) 0 0)) ∧ st.o (.loc 4 0) = some (.box [.u (.str lo), .u (.str hi)]) ∧ st.s 2 = DI 48 ∧ st.s 8 = DI k ∧
    st.s 7 = .t (.sc (.own (.loc 9 0) (pairsIn (l.take k) ⟨lo, hi⟩).length)) ∧ st.o (.loc 9 0) = some (.row 2 ((pairsIn (l.take k) ⟨lo, hi⟩).map Pair.u))) (fun k => l.length - k) (fun k => some ⟨[.sc (.own (.par 0) (pairsIn l ⟨lo, hi⟩).length)], [.row 2 ((pairsIn l ⟨lo, hi⟩).map Pair.u)], []⟩) ?_ 0 ⟨by omega, by simp only [↓xP, xQ, xR, flatR, eqCells_ok, eqSh, eqBs, Nat.reduceLT, decide_true, Nat.reduceBEq, Nat.reduceAdd, IOp.dst, IOp.isF, IOp.args, coolOp, Nat.reduceSub], by simp only [↓xP, xQ, xR, flatR, eqCells_ok, eqSh, eqBs, Nat.reduceLT, decide_true, Nat.reduceBEq, Nat.reduceAdd, IOp.dst, IOp.isF, IOp.args, coolOp, Nat.reduceSub], by simp only [↓xP, xQ, xR, flatR, eqCells_ok, eqSh, eqBs, Nat.reduceLT, decide_true, Nat.reduceBEq, Nat.reduceAdd, IOp.dst, IOp.isF, IOp.args, coolOp, Nat.reduceSub], by simp only [↓xP, xQ, xR, flatR, eqCells_ok, eqSh, eqBs, Nat.reduceLT, decide_true, Nat.reduceBEq, Nat.reduceAdd, IOp.dst, IOp.isF, IOp.args, coolOp, Nat.reduceSub], by simp only [↓xP, xQ, xR, flatR, eqCells_ok, eqSh, eqBs, Nat.reduceLT, decide_true, Nat.reduceBEq, Nat.reduceAdd, IOp.dst, IOp.isF, IOp.args, coolOp, Nat.reduceSub]; rfl, by simp only [↓xP, xQ, xR, flatR, eqCells_ok, eqSh, eqBs, Nat.reduceLT, decide_true, Nat.reduceBEq, Nat.reduceAdd, IOp.dst, IOp.isF, IOp.args, coolOp, Nat.reduceSub]; simp [pairsIn], by simp only [↓xP, xQ, xR, flatR, eqCells_ok, eqSh, eqBs, Nat.reduceLT, decide_true, Nat.reduceBEq, Nat.reduceAdd, IOp.dst, IOp.isF, IOp.args, coolOp, Nat.reduceSub]; simp [pairsIn]⟩).trans rfl
  rintro k st ⟨hle, h0, h4, ho, h2', h8, h7, ho9⟩ ih
  by_cases hi' : k < l.length
  · obtain ⟨⟨pk, pv⟩, hp⟩ : ∃ p, l[k]? = some p := ⟨_, List.getElem?_eq_getElem hi'⟩
    have hw := w_succ (i := k) (by omega)
    have hk := (pairsValid_at h hp).1
    have hq := pairsIn_le (l.take k) ⟨lo, hi⟩
    have hq2 : (l.take k).length = k := by simp; omega
    have h47 : ((pairsIn (l.take k) ⟨lo, hi⟩).length : Int) < 48 := by omega
    have hin : intervalHas ⟨lo, hi⟩ pk = inside ⟨lo, hi⟩ pk := by simp [intervalHas, h2, hk]
    have hm1 : (pairsIn (l.take k) ⟨lo, hi⟩).length + 1 ≤ maxLen := by simp [maxLen]; omega
    have hm2 : ((pairsIn (l.take k) ⟨lo, hi⟩).length + 1) * 24 ≤ 140737488355328 := by omega
    have hnx := pairsIn_take (v := ⟨lo, hi⟩) hp
    by_cases hc : inside ⟨lo, hi⟩ pk = true
    · rw [if_pos hc] at hnx
      simp only [↓xP, xQ, xR, flatR, eqCells_ok, eqSh, eqBs, Nat.reduceLT, decide_true, Nat.reduceBEq, Nat.reduceAdd, IOp.dst, IOp.isF, IOp.args, coolOp, Nat.reduceSub, h0, h4, ho, h2', h8, h7, ho9, hi', hp, hw, h47, Pair.u, intervalHas_spec, hin, hc, hm1, hm2]
      refine ih (k + 1) _ (by omega) ⟨by omega, by simp only [↓xP, xQ, xR, flatR, eqCells_ok, eqSh, eqBs, Nat.reduceLT, decide_true, Nat.reduceBEq, Nat.reduceAdd, IOp.dst, IOp.isF, IOp.args, coolOp, Nat.reduceSub, h0], by simp only [↓xP, xQ, xR, flatR, eqCells_ok, eqSh, eqBs, Nat.reduceLT, decide_true, Nat.reduceBEq, Nat.reduceAdd, IOp.dst, IOp.isF, IOp.args, coolOp, Nat.reduceSub, h4], by simp only [↓xP, xQ, xR, flatR, eqCells_ok, eqSh, eqBs, Nat.reduceLT, decide_true, Nat.reduceBEq, Nat.reduceAdd, IOp.dst, IOp.isF, IOp.args, coolOp, Nat.reduceSub, ho], by simp only [↓xP, xQ, xR, flatR, eqCells_ok, eqSh, eqBs, Nat.reduceLT, decide_true, Nat.reduceBEq, Nat.reduceAdd, IOp.dst, IOp.isF, IOp.args, coolOp, Nat.reduceSub, h2'], by simp only [↓xP, xQ, xR, flatR, eqCells_ok, eqSh, eqBs, Nat.reduceLT, decide_true, Nat.reduceBEq, Nat.reduceAdd, IOp.dst, IOp.isF, IOp.args, coolOp, Nat.reduceSub], ?_, ?_⟩
      · rw [hnx]; simp only [↓xP, xQ, xR, flatR, eqCells_ok, eqSh, eqBs, Nat.reduceLT, decide_true, Nat.reduceBEq, Nat.reduceAdd, IOp.dst, IOp.isF, IOp.args, coolOp, Nat.reduceSub, List.length_append]
      · rw [hnx]; simp only [↓xP, xQ, xR, flatR, eqCells_ok, eqSh, eqBs, Nat.reduceLT, decide_true, Nat.reduceBEq, Nat.reduceAdd, IOp.dst, IOp.isF, IOp.args, coolOp, Nat.reduceSub, List.map_append]; rfl
    · rw [if_neg hc, List.append_nil] at hnx
      simp only [Bool.not_eq_true] at hc
      simp only [↓xP, xQ, xR, flatR, eqCells_ok, eqSh, eqBs, Nat.reduceLT, decide_true, Nat.reduceBEq, Nat.reduceAdd, IOp.dst, IOp.isF, IOp.args, coolOp, Nat.reduceSub, h0, h4, ho, h2', h8, h7, ho9, hi', hp, hw, h47, Pair.u, intervalHas_spec, hin, hc]
      exact ih (k + 1) _ (by omega) ⟨by omega, by simp only [↓xP, xQ, xR, flatR, eqCells_ok, eqSh, eqBs, Nat.reduceLT, decide_true, Nat.reduceBEq, Nat.reduceAdd, IOp.dst, IOp.isF, IOp.args, coolOp, Nat.reduceSub, h0], by simp only [↓xP, xQ, xR, flatR, eqCells_ok, eqSh, eqBs, Nat.reduceLT, decide_true, Nat.reduceBEq, Nat.reduceAdd, IOp.dst, IOp.isF, IOp.args, coolOp, Nat.reduceSub, h4], by simp only [↓xP, xQ, xR, flatR, eqCells_ok, eqSh, eqBs, Nat.reduceLT, decide_true, Nat.reduceBEq, Nat.reduceAdd, IOp.dst, IOp.isF, IOp.args, coolOp, Nat.reduceSub, ho], by simp only [↓xP, xQ, xR, flatR, eqCells_ok, eqSh, eqBs, Nat.reduceLT, decide_true, Nat.reduceBEq, Nat.reduceAdd, IOp.dst, IOp.isF, IOp.args, coolOp, Nat.reduceSub, h2'], by simp only [↓xP, xQ, xR, flatR, eqCells_ok, eqSh, eqBs, Nat.reduceLT, decide_true, Nat.reduceBEq, Nat.reduceAdd, IOp.dst, IOp.isF, IOp.args, coolOp, Nat.reduceSub], by rw [hnx]; simp only [↓xP, xQ, xR, flatR, eqCells_ok, eqSh, eqBs, Nat.reduceLT, decide_true, Nat.reduceBEq, Nat.reduceAdd, IOp.dst, IOp.isF, IOp.args, coolOp, Nat.reduceSub, h7], by rw [hnx]; simp only [↓xP, xQ, xR, flatR, eqCells_ok, eqSh, eqBs, Nat.reduceLT, decide_true, Nat.reduceBEq, Nat.reduceAdd, IOp.dst, IOp.isF, IOp.args, coolOp, Nat.reduceSub, ho9]⟩
  · have : k = l.length := by omega
    subst this
    rw [List.take_length] at h7 ho9
    simp only [↓xP, xQ, xR, flatR, eqCells_ok, eqSh, eqBs, Nat.reduceLT, decide_true, Nat.reduceBEq, Nat.reduceAdd, IOp.dst, IOp.isF, IOp.args, coolOp, Nat.reduceSub, h0, h4, ho, h2', h8, h7, ho9, hi']
theorem pairsIn_spec (l : List Pair) (lo hi : Str) : EE F 126 [L 2 (l.map Pair.u), .ag [.u (.str lo), .u (.str hi)]] [] = some ⟨[.sc (.own (.par 0) (pairsInV l ⟨lo, hi⟩).length)], [.row 2 ((pairsInV l ⟨lo, hi⟩).map Pair.u)], []⟩ := by
  rw [R126, b126]
  simp only [↓xP, xQ, xR, flatR, eqCells_ok, eqSh, eqBs, Nat.reduceLT, decide_true, Nat.reduceBEq, Nat.reduceAdd, IOp.dst, IOp.isF, IOp.args, coolOp, Nat.reduceSub, pairScan_spec]
theorem cut_to {n : Nat} {i : Nat} (h : i ≤ n) : vcut n none (some (DI (i : Int))) = some (0, i) := by
  simp [vcut, D.int?]
  omega
theorem small_max {n k : Nat} (h : n ≤ 1048576) (hk : k ≤ 100000000) : n ≤ maxLen ∧ n * k ≤ 140737488355328 := by
  refine ⟨by simp [maxLen]; omega, ?_⟩
  have := Nat.mul_le_mul h hk
  omega
def rep {α : Type} (l : List α) (a m : Nat) (b : List α) : List α := l.take a ++ b ++ l.drop (a + m)
theorem rep_len {α : Type} {l : List α} {a m : Nat} {b : List α} (h : a + m ≤ l.length) : (rep l a m b).length = l.length - m + b.length := by
  simp [rep]; omega
def zero_Session : List U := [.int .i64 0, .int .i64 0, .int .i64 0]
theorem mk0_ok (st : St) (d c : Nat) (zero : List U) (bytes : Nat) (h : c * bytes ≤ 140737488355328) : stMk st d (DI 0) (DI (c : Int)) zero bytes = some (((st.cool (.loc d 0)).obj (.loc d 0) (some (.row zero.length []))).put d (.t (.sc (.own (.loc d 0) 0)))) := by
  have h0 : (0 : Int) ≤ (c : Int) := by omega
  simp [stMk, D.int?, h, h0]
theorem cut_from {n i : Nat} (h : i ≤ n) : vcut n (some (DI (i : Int))) none = some (i, n) := by
  simp [vcut, D.int?]
  omega
theorem map_all {α β : Type} (f : α → β) (l : List α) : List.take l.length (List.map f l) = List.map f l := List.take_of_length_le (by simp)
theorem replaced_Session (l b : List Session) (a m : Nat) (h : a + m ≤ l.length) (hn : l.length + b.length ≤ 1048576) : EE F 219 [L 3 (l.map Session.u), I a, I m, L 3 (b.map Session.u)] [] = some ⟨[.sc (.own (.par 0) (rep l a m b).length)], [.row 3 ((rep l a m b).map Session.u)], []⟩ := by
  rw [R219, b219]
  have w1 : IntKind.i64.wrap ((l.length : Int) - (m : Int)) = ((l.length - m : Nat) : Int) := by rw [w64 (by omega) (by omega)]; omega
  have w2 : IntKind.i64.wrap (((l.length - m : Nat) : Int) + (b.length : Int)) = ((l.length - m + b.length : Nat) : Int) := by rw [w64 (by omega) (by omega)]; omega
  have w3 : IntKind.i64.wrap ((a : Int) + (m : Int)) = ((a + m : Nat) : Int) := by rw [w64 (by omega) (by omega)]; omega
  have c1 := cut_to (n := l.length) (i := a) (by omega)
  have c2 := cut_from (n := l.length) (i := a + m) h
  have k0 := fun st d => mk0_ok st d (l.length - m + b.length) (Go.Proofs.YtdnhamehpdlbgaaV.zero_Session) 24 (by omega)
  have ha : min a l.length = a := by omega
  have q1 : a ≤ maxLen ∧ a * 24 ≤ 140737488355328 := small_max (by omega) (by omega)
  have q2 : a + b.length ≤ maxLen ∧ (a + b.length) * 24 ≤ 140737488355328 := small_max (by omega) (by omega)
  have q3 : a + b.length + (l.length - (a + m)) ≤ maxLen ∧ (a + b.length + (l.length - (a + m))) * 24 ≤ 140737488355328 := small_max (by omega) (by omega)
  simp only [zero_Session] at k0
  simp only [↓xP, xQ, xR, flatR, eqCells_ok, eqSh, eqBs, Nat.reduceLT, decide_true, Nat.reduceBEq, Nat.reduceAdd, IOp.dst, IOp.isF, IOp.args, coolOp, Nat.reduceSub, w1, w2, w3, k0, c1, c2, List.drop_zero, List.length_map, List.length_take, List.length_drop, List.length_append, List.length_nil, Nat.zero_add, List.nil_append, ha, q1.1, q1.2, q2.1, q2.2, q3.1, q3.2, map_all, rep, List.map_append, List.map_take, List.map_drop]
def wid (a b : Id) : Bool → Id
  | false => a
  | true => b
def hit (key : Str) (l : List Pair) : Option Pair := match l[place key l]? with
  | some p => if p.key = key then some p else none
  | none => none
def pairGet (l : List Pair) (key : Str) : Int := if pairsValid l = true then (match hit key l with
  | some p => p.value
  | none => -1) else -1
def pairPut (l : List Pair) (key : Str) (v : Int) : List Pair × Bool :=
  if pairsValid l = true ∧ keyValid key = true ∧ inR v 0 999 = true then
    (if (hit key l).isSome = true then (rep l (place key l) 1 [⟨key, v⟩], true) else if 48 ≤ l.length then (l, false) else (rep l (place key l) 0 [⟨key, v⟩], true))
  else ([], false)
def pairDrop (l : List Pair) (key : Str) : List Pair × Bool :=
  if pairsValid l = true then (if (hit key l).isSome = true then (rep l (place key l) 1 [], true) else (l, false)) else ([], false)
def listRet (u : Pair → List U) (sz : Nat) (r : List Pair × Bool) : Option Ret := some ⟨[.sc (.own (.par 0) r.1.length), B r.2], [.row sz (r.1.map u)], []⟩
theorem hit_some {key : Str} {l : List Pair} {p : Pair} (h : hit key l = some p) : l[place key l]? = some p ∧ p.key = key := by
  unfold hit at h
  split at h
  · rename_i q hq
    split at h
    · rename_i hk; cases h; exact ⟨hq, hk⟩
    · cases h
  · cases h
theorem hit_none {key : Str} {l : List Pair} (h : hit key l = none) : ∀ p, l[place key l]? = some p → p.key ≠ key := by
  intro p hp
  unfold hit at h
  rw [hp] at h
  simp only at h
  split at h
  · cases h
  · assumption
theorem l4Place_ok (l : List Pair) (key : Str) (hn : l.length ≤ 4611686018427387904) : EE F 210 [L 2 (l.map Pair.u), S key] [] = ok1 (I (place key l)) := by
  rw [R210, b210]
  simp only [↓xP, xQ, xR, flatR, eqCells_ok, eqSh, eqBs, Nat.reduceLT, decide_true, Nat.reduceBEq, Nat.reduceAdd, IOp.dst, IOp.isF, IOp.args, coolOp, Nat.reduceSub]
  refine (loop_ind (fun (i : Nat) st => i ≤ l.length ∧ (∀ t p, t < i → l[t]? = some p → strLt p.key key = true) ∧ st.s 0 = DU (.sl 2 (l.map Pair.u)) ∧ st.s 1 = DS key ∧ st.s 5 = DI i) (fun i => l.length - i) (fun i => ok1 (I (place key l))) ?_ 0 ⟨by omega, fun t p ht => by omega, (by and_intros <;> first | omega | rfl | (simp only [↓xP, xQ, xR, flatR, eqCells_ok, eqSh, eqBs, Nat.reduceLT, decide_true, Nat.reduceBEq, Nat.reduceAdd, IOp.dst, IOp.isF, IOp.args, coolOp, Nat.reduceSub]; done) | (simp only [↓xP, xQ, xR, flatR, eqCells_ok, eqSh, eqBs, Nat.reduceLT, decide_true, Nat.reduceBEq, Nat.reduceAdd, IOp.dst, IOp.isF, IOp.args, coolOp, Nat.reduceSub]; rfl) | (simp only [↓xP, xQ, xR, flatR, eqCells_ok, eqSh, eqBs, Nat.reduceLT, decide_true, Nat.reduceBEq, Nat.reduceAdd, IOp.dst, IOp.isF, IOp.args, coolOp, Nat.reduceSub]; omega))⟩).trans rfl
  rintro i st ⟨hle, hlo, h0, h1, h5⟩ ih
  by_cases hi : i < l.length
  · obtain ⟨⟨pk, pv⟩, hp⟩ : ∃ p, l[i]? = some p := ⟨_, List.getElem?_eq_getElem hi⟩
    have hw := w_succ (i := i) (by omega)
    simp only [↓xP, xQ, xR, flatR, eqCells_ok, eqSh, eqBs, Nat.reduceLT, decide_true, Nat.reduceBEq, Nat.reduceAdd, IOp.dst, IOp.isF, IOp.args, coolOp, Nat.reduceSub, h0, h1, h5, hi, hp, Pair.u]
    refine sel_split (fun h => ?_) (fun h => ?_)
    · simp only [↓xP, xQ, xR, flatR, eqCells_ok, eqSh, eqBs, Nat.reduceLT, decide_true, Nat.reduceBEq, Nat.reduceAdd, IOp.dst, IOp.isF, IOp.args, coolOp, Nat.reduceSub, h0, h1, h5, hw]
      exact ih (i + 1) _ (by omega) ⟨by omega, fun t p ht hq => by
        by_cases e : t = i
        · subst e; rw [hp] at hq; cases hq; exact h
        · exact hlo t p (by omega) hq, (by and_intros <;> first | omega | rfl | (simp only [↓xP, xQ, xR, flatR, eqCells_ok, eqSh, eqBs, Nat.reduceLT, decide_true, Nat.reduceBEq, Nat.reduceAdd, IOp.dst, IOp.isF, IOp.args, coolOp, Nat.reduceSub, h0, h1]; done) | (simp only [↓xP, xQ, xR, flatR, eqCells_ok, eqSh, eqBs, Nat.reduceLT, decide_true, Nat.reduceBEq, Nat.reduceAdd, IOp.dst, IOp.isF, IOp.args, coolOp, Nat.reduceSub, h0, h1]; rfl) | (simp only [↓xP, xQ, xR, flatR, eqCells_ok, eqSh, eqBs, Nat.reduceLT, decide_true, Nat.reduceBEq, Nat.reduceAdd, IOp.dst, IOp.isF, IOp.args, coolOp, Nat.reduceSub, h0, h1]; omega))⟩
    · have : place key l = i := place_eq key l i (by omega) hlo (fun p hq => by rw [hp] at hq; cases hq; exact h)
      simp only [↓xP, xQ, xR, flatR, eqCells_ok, eqSh, eqBs, Nat.reduceLT, decide_true, Nat.reduceBEq, Nat.reduceAdd, IOp.dst, IOp.isF, IOp.args, coolOp, Nat.reduceSub, h0, h1, h5, this]
  · have : place key l = i := place_eq key l i (by omega) hlo (fun p hq => by have := (List.getElem?_eq_some_iff.1 hq).1; omega)
    simp only [↓xP, xQ, xR, flatR, eqCells_ok, eqSh, eqBs, Nat.reduceLT, decide_true, Nat.reduceBEq, Nat.reduceAdd, IOp.dst, IOp.isF, IOp.args, coolOp, Nat.reduceSub, h0, h1, h5, hi, this]
theorem pairGet_spec (l : List Pair) (key : Str) (hn : l.length ≤ 4611686018427387904) : EE F 175 [L 2 (l.map Pair.u), S key] [] = ok1 (I (pairGet l key)) := by
  rw [R175, b175]
  have hpl := place_le key l
  cases h : pairsValid l
  · simp only [↓xP, xQ, xR, flatR, eqCells_ok, eqSh, eqBs, Nat.reduceLT, decide_true, Nat.reduceBEq, Nat.reduceAdd, IOp.dst, IOp.isF, IOp.args, coolOp, Nat.reduceSub, l4Place_ok l key hn, pairsValid_spec, h, pairGet]
    try simp
  cases hh : hit key l with
  | none =>
    have hno := hit_none hh
    by_cases hi : place key l = l.length
    · have hi' : ((place key l : Nat) : Int) = (l.length : Int) := by omega
      simp only [↓xP, xQ, xR, flatR, eqCells_ok, eqSh, eqBs, Nat.reduceLT, decide_true, Nat.reduceBEq, Nat.reduceAdd, IOp.dst, IOp.isF, IOp.args, coolOp, Nat.reduceSub, l4Place_ok l key hn, pairsValid_spec, h, hi', pairGet, hh]
      try simp
    · obtain ⟨⟨pk, pv⟩, hp⟩ : ∃ p, l[place key l]? = some p := ⟨_, List.getElem?_eq_getElem (by omega)⟩
      have hi' : ¬ ((place key l : Nat) : Int) = (l.length : Int) := by omega
      have hne : ¬ pk = key := hno _ hp
      simp only [↓xP, xQ, xR, flatR, eqCells_ok, eqSh, eqBs, Nat.reduceLT, decide_true, Nat.reduceBEq, Nat.reduceAdd, IOp.dst, IOp.isF, IOp.args, coolOp, Nat.reduceSub, l4Place_ok l key hn, pairsValid_spec, h, hi', pairGet, hh, hp, Pair.u, hne]
      simp [sel, hne]
  | some p =>
    obtain ⟨pk, pv⟩ := p
    obtain ⟨h1, h2⟩ := hit_some hh
    have hlt := (List.getElem?_eq_some_iff.1 h1).1
    have hi' : ¬ ((place key l : Nat) : Int) = (l.length : Int) := by omega
    dsimp only at h2
    simp only [↓xP, xQ, xR, flatR, eqCells_ok, eqSh, eqBs, Nat.reduceLT, decide_true, Nat.reduceBEq, Nat.reduceAdd, IOp.dst, IOp.isF, IOp.args, coolOp, Nat.reduceSub, l4Place_ok l key hn, pairsValid_spec, h, hi', pairGet, hh, h1, Pair.u, h2]
    simp [sel]
def yU (n : Int) : List U := [.int .u8 n]
/-- A reader: its bytes, and how many numbers it drew. -/
def rd (bs : List Int) (p : Nat) : Obj := .box [.u (.sl 1 (bs.map yU)), .u (.int .i64 p)]
abbrev RP0 : T := .sc (.ptr (.par 0) 0 0)
def Bytes (bs : List Int) : Prop := bs.length ≤ 2000 ∧ ∀ b, b ∈ bs → 0 ≤ b ∧ b ≤ 255
theorem xor_nonneg {a b : Int} (ha : 0 ≤ a) (ha' : a < 4611686018427387904) (hb : 0 ≤ b) (hb' : b < 4611686018427387904) : 0 ≤ Go.bits .xor .i64 a b := by
  obtain ⟨m, rfl⟩ := Int.eq_ofNat_of_zero_le ha
  obtain ⟨n, rfl⟩ := Int.eq_ofNat_of_zero_le hb
  have h62 : (4611686018427387904 : Nat) = 2 ^ 62 := by decide
  have e1 : (BitVec.ofInt IntKind.i64.bits (m : Int)).toNat = m := by
    rw [BitVec.toNat_ofInt]
    show (((m : Int) % ((2 ^ 64 : Nat) : Int)).toNat) = m
    omega
  have e2 : (BitVec.ofInt IntKind.i64.bits (n : Int)).toNat = n := by
    rw [BitVec.toNat_ofInt]
    show (((n : Int) % ((2 ^ 64 : Nat) : Int)).toNat) = n
    omega
  have hx : m ^^^ n < 2 ^ 62 := Nat.xor_lt_two_pow (by omega) (by omega)
  have key : Go.bits .xor .i64 (m : Int) (n : Int) = IntKind.i64.wrap (((m ^^^ n : Nat)) : Int) := by
    show IntKind.i64.wrap (((BitVec.ofInt IntKind.i64.bits (m : Int) ^^^ BitVec.ofInt IntKind.i64.bits (n : Int)).toNat : Nat) : Int) = _
    rw [BitVec.toNat_xor, e1, e2]
  rw [key, IntKind.wrap_i64]
  omega
theorem pick_ok {bs : List Int} (hb : Bytes bs) (p : Nat) (n : Int) (hp : p ≤ 1099511627776) : ∃ v, EE F 92 [RP0, I n] [rd bs p] = some ⟨[I v], [], [rd bs (p + 1)]⟩ ∧ 0 ≤ v ∧ (1 ≤ n → v < n) := by
  have e1 := w_succ (i := p) (by omega)
  have e2 : IntKind.i64.wrap (((p + 1 : Nat) : Int) - 1) = (p : Int) := by rw [w64 (by omega) (by omega)]; omega
  by_cases hn : n < 1
  · refine ⟨0, (EE_run (fn := i92) (by kernel_rfl) rfl).trans ?_, by omega, fun h => by omega⟩
    simp only [i92, b92, argSt, insSt, List.length_cons, List.length_nil]
    simp only [↓xP, xQ, xR, flatR, eqCells_ok, eqSh, eqBs, Nat.reduceLT, decide_true, Nat.reduceBEq, Nat.reduceAdd, IOp.dst, IOp.isF, IOp.args, coolOp, Nat.reduceSub, rd, e1, hn]
  have hn0 : ¬ n = 0 := by omega
  by_cases hl : bs.length = 0
  · have hl' : ((bs.length : Nat) : Int) = 0 := by omega
    refine ⟨0, (EE_run (fn := i92) (by kernel_rfl) rfl).trans ?_, by omega, fun h => by omega⟩
    simp only [i92, b92, argSt, insSt, List.length_cons, List.length_nil]
    simp only [↓xP, xQ, xR, flatR, eqCells_ok, eqSh, eqBs, Nat.reduceLT, decide_true, Nat.reduceBEq, Nat.reduceAdd, IOp.dst, IOp.isF, IOp.args, coolOp, Nat.reduceSub, rd, e1, hn, List.length_map, hl']
  have hl' : ¬ ((bs.length : Nat) : Int) = 0 := by omega
  by_cases hlt : p < bs.length
  · obtain ⟨b, hx⟩ : ∃ b, bs[p]? = some b := ⟨_, List.getElem?_eq_getElem hlt⟩
    have hb2 := hb.2 b (List.mem_of_getElem? hx)
    have hlt' : (p : Int) < ((bs.length : Nat) : Int) := by omega
    have hwb : IntKind.i64.wrap b = b := by rw [w64 (by omega) (by omega)]
    refine ⟨b.tmod n, (EE_run (fn := i92) (by kernel_rfl) rfl).trans ?_, Int.tmod_nonneg _ hb2.1, fun h => Int.tmod_lt_of_pos _ (by omega)⟩
    simp only [i92, b92, argSt, insSt, List.length_cons, List.length_nil]
    simp only [↓xP, xQ, xR, flatR, eqCells_ok, eqSh, eqBs, Nat.reduceLT, decide_true, Nat.reduceBEq, Nat.reduceAdd, IOp.dst, IOp.isF, IOp.args, coolOp, Nat.reduceSub, rd, e1, e2, hn, hn0, List.length_map, hl', hlt, hx, yU, hwb]
    done
  · have hlt' : ¬ (p : Int) < ((bs.length : Nat) : Int) := by omega
    have t1 : (p : Int).tmod ((bs.length : Nat) : Int) = ((p % bs.length : Nat) : Int) := rfl
    have t2 : (((p * 7 + 3 : Nat)) : Int).tmod ((bs.length : Nat) : Int) = (((p * 7 + 3) % bs.length : Nat) : Int) := rfl
    have t3 : (p : Int).tdiv ((bs.length : Nat) : Int) = ((p / bs.length : Nat) : Int) := rfl
    have w1 : IntKind.i64.wrap ((p : Int) * 7) = (p : Int) * 7 := by rw [w64 (by omega) (by omega)]
    have w2 : IntKind.i64.wrap ((p : Int) * 7 + 3) = ((p * 7 + 3 : Nat) : Int) := by rw [w64 (by omega) (by omega)]; omega
    obtain ⟨a, ha⟩ : ∃ a, bs[p % bs.length]? = some a := ⟨_, List.getElem?_eq_getElem (Nat.mod_lt _ (by omega))⟩
    obtain ⟨b, hx⟩ : ∃ b, bs[(p * 7 + 3) % bs.length]? = some b := ⟨_, List.getElem?_eq_getElem (Nat.mod_lt _ (by omega))⟩
    have ha2 := hb.2 a (List.mem_of_getElem? ha)
    have hb2 := hb.2 b (List.mem_of_getElem? hx)
    have hwa : IntKind.i64.wrap a = a := by rw [w64 (by omega) (by omega)]
    have hwb : IntKind.i64.wrap b = b := by rw [w64 (by omega) (by omega)]
    have hq : p / bs.length ≤ p := Nat.div_le_self ..
    generalize p / bs.length = q at t3 hq
    have hwq : IntKind.i64.wrap (q : Int) = (q : Int) := by rw [w64 (by omega) (by omega)]
    have v1 : IntKind.i64.wrap (a * 131) = a * 131 := by rw [w64 (by omega) (by omega)]
    have v2 : IntKind.i64.wrap (b * 1117) = b * 1117 := by rw [w64 (by omega) (by omega)]
    have v3 : IntKind.i64.wrap (a * 131 + b * 1117) = a * 131 + b * 1117 := by rw [w64 (by omega) (by omega)]
    have v4 : IntKind.i64.wrap ((p : Int) * 29) = (p : Int) * 29 := by rw [w64 (by omega) (by omega)]
    have v5 : IntKind.i64.wrap (a * 131 + b * 1117 + (p : Int) * 29) = a * 131 + b * 1117 + (p : Int) * 29 := by rw [w64 (by omega) (by omega)]
    have v6 : IntKind.i64.wrap ((q : Int) * 53) = (q : Int) * 53 := by rw [w64 (by omega) (by omega)]
    obtain ⟨A, hA⟩ : ∃ A, A = a * 131 + b * 1117 + (p : Int) * 29 + (q : Int) * 53 := ⟨_, rfl⟩
    have v7 : IntKind.i64.wrap (a * 131 + b * 1117 + (p : Int) * 29 + (q : Int) * 53) = A := by rw [w64 (by omega) (by omega), hA]
    have hA0 : 0 ≤ A := by omega
    have hA1 : A < 4611686018427387904 := by omega
    have hB : 0 ≤ A.tdiv 64 := Int.tdiv_nonneg hA0 (by omega)
    have hB' : A.tdiv 64 ≤ A := Int.tdiv_le_self _ hA0
    have v8 : IntKind.i64.wrap (A.tdiv 64) = A.tdiv 64 := by rw [w64 (by omega) (by omega)]
    have h64 : ¬ (64 : Int) = 0 := by omega
    refine ⟨(Go.bits .xor .i64 A (A.tdiv 64)).tmod n, (EE_run (fn := i92) (by kernel_rfl) rfl).trans ?_, Int.tmod_nonneg _ (xor_nonneg hA0 hA1 hB (by omega)), fun h => Int.tmod_lt_of_pos _ (by omega)⟩
    simp only [i92, b92, argSt, insSt, List.length_cons, List.length_nil]
    simp only [↓xP, xQ, xR, flatR, eqCells_ok, eqSh, eqBs, Nat.reduceLT, decide_true, Nat.reduceBEq, Nat.reduceAdd, IOp.dst, IOp.isF, IOp.args, coolOp, Nat.reduceSub, rd, e1, e2, hn, hn0, List.length_map, hl', hlt, t1, t2, t3, w1, w2, ha, hx, yU, hwa, hwb, hwq, v1, v2, v3, v4, v5, v6, v7, v8, h64]
    done
theorem odd_ok {bs : List Int} (hb : Bytes bs) (p : Nat) (n : Int) (hp : p ≤ 1099511627776) (hn : n ≤ 1048576) : ∃ b q, EE F 166 [RP0, I n] [rd bs p] = some ⟨[B b], [], [rd bs q]⟩ ∧ p ≤ q ∧ q ≤ p + 1 ∧ (n ≤ 0 → b = false) := by
  by_cases hn0 : 0 < n
  · obtain ⟨v, h1, h2, h3⟩ := pick_ok hb p n hp
    have hw : IntKind.i64.wrap (n - 1) = n - 1 := by rw [w64 (by omega) (by omega)]
    refine ⟨decide (v = n - 1), p + 1, (EE_run (fn := i166) (by kernel_rfl) rfl).trans ?_, by omega, by omega, fun h => by omega⟩
    simp only [i166, b166, argSt, insSt, List.length_cons, List.length_nil]
    have h1' := h1
    simp only [rd] at h1'
    simp only [↓xP, xQ, xR, flatR, eqCells_ok, eqSh, eqBs, Nat.reduceLT, decide_true, Nat.reduceBEq, Nat.reduceAdd, IOp.dst, IOp.isF, IOp.args, coolOp, Nat.reduceSub, rd, hn0, h1', hw, gt_iff_lt]
    done
  · refine ⟨false, p, (EE_run (fn := i166) (by kernel_rfl) rfl).trans ?_, by omega, by omega, fun h => rfl⟩
    simp only [i166, b166, argSt, insSt, List.length_cons, List.length_nil]
    simp only [↓xP, xQ, xR, flatR, eqCells_ok, eqSh, eqBs, Nat.reduceLT, decide_true, Nat.reduceBEq, Nat.reduceAdd, IOp.dst, IOp.isF, IOp.args, coolOp, Nat.reduceSub, rd, hn0, gt_iff_lt]
    done
theorem open_ok (code : List Int) (hc : code.length ≤ 9223372036854775807 ∧ ∀ b, b ∈ code → 0 ≤ b ∧ b ≤ 255) : ∃ bs, EE F 88 [L 1 (code.map yU)] [] = some ⟨[RP0], [rd bs 0], []⟩ ∧ Bytes bs := by
  by_cases h : 2000 < code.length
  · have h' : (2000 : Int) < ((code.length : Nat) : Int) := by omega
    have hct := cut_to (n := code.length) (i := 2000) (by omega)
    refine ⟨code.take 2000, ?_, by simp; omega, fun b hb => hc.2 b (List.mem_of_mem_take hb)⟩
    rw [R88, b88]
    have hct' : vcut code.length none (some (DI 2000)) = some (0, 2000) := hct
    simp only [↓xP, xQ, xR, flatR, eqCells_ok, eqSh, eqBs, Nat.reduceLT, decide_true, Nat.reduceBEq, Nat.reduceAdd, IOp.dst, IOp.isF, IOp.args, coolOp, Nat.reduceSub, List.length_map, h', hct', gt_iff_lt, List.drop_zero, ← List.map_take, rd]
    rfl
  · have h' : ¬ (2000 : Int) < ((code.length : Nat) : Int) := by omega
    refine ⟨code, ?_, by omega, hc.2⟩
    rw [R88, b88]
    simp only [↓xP, xQ, xR, flatR, eqCells_ok, eqSh, eqBs, Nat.reduceLT, decide_true, Nat.reduceBEq, Nat.reduceAdd, IOp.dst, IOp.isF, IOp.args, coolOp, Nat.reduceSub, List.length_map, h', gt_iff_lt, rd]
    rfl
/-- What some rounds tell. -/
theorem EE_at {f : Nat} {a : List T} {i : List Obj} {r : Ret} (k : Nat) (h : callOf F (evalC F k) f a i = some r) : EE F f a i = some r := (EE_lim F f a i).eq.symm.trans (lim_of (EE_lim F f a i).mono (k := k) h)
theorem alive_ok : EE F 28 [] [] = ok1 (B true) := EE_at 120 (by kernel_rfl)
/-- What a function that draws comes to: results of a kind; the reader went on by at most so many. -/
def Gd (bs : List Int) (p c : Nat) (R : List T → List Obj → Prop) (x : Option Ret) : Prop := ∃ r n q, x = some ⟨r, n, [rd bs q]⟩ ∧ p ≤ q ∧ q ≤ p + c ∧ R r n
theorem loop_pred {fin : St → Option Ret} {is : List IItem} {c : IC} {α : Type} {G : Option Ret → Prop} (Inv : α → St → Prop) (μ : α → Nat)
    (h : ∀ a st, Inv a st → (∀ a' st', μ a' < μ a → Inv a' st' → G (KK F fin (.inLoop c :: is) st')) → G (KK F fin (.code c :: .inLoop c :: is) st)) {st : St} (a : α) (hI : Inv a st) : G (KK F fin (.code (.loop c) :: is) st) := by
  rw [KK_loop]
  have all : ∀ n a st, μ a < n → Inv a st → G (KK F fin (.inLoop c :: is) st) := by
    intro n
    induction n with
    | zero => intro a st h0; omega
    | succ n ih =>
      intro a st hn hI
      rw [KK_inLoop]
      exact h a st hI (fun a' st' hm hI' => ih a' st' (by omega) hI')
  exact all (μ a + 1) a st (by omega) hI
theorem sel_pred {x : Bool} {a b : Option Ret} {G : Option Ret → Prop} (ht : x = true → G a) (hf : x = false → G b) : G (sel x a b) := by
  cases x
  · exact hf rfl
  · exact ht rfl
theorem rdx : (∀ bs p, (rd bs p).data = true) ∧ (∀ bs p q, sameKind (some (rd bs p)) (rd bs q) = true) ∧ (∀ id bs p, Obj.mapC (C.kill id) (rd bs p) = rd bs p) ∧ (∀ st id bs p, Obj.mapC (St.coolC st id) (rd bs p) = rd bs p) := by
  refine ⟨fun _ _ => rfl, fun _ _ _ => rfl, fun _ _ _ => rfl, fun st id bs p => ?_⟩
  have h : ∀ u, st.coolC id (.u u) = .u u := by
    intro u
    unfold St.coolC
    cases st.o id with
    | none => rfl
    | some ob => cases ob <;> rfl
  simp [rd, Obj.mapC, h]
theorem Gd.run {f : Nat} {a : List T} {bs : List Int} {p c : Nat} {R : List T → List Obj → Prop} {fn : IFn} (hF : Go.Proofs.YtdnhamehpdlbgaaV.F f = some fn) (hn : a.length = fn.np) (h : Gd bs p c R (KK F (FF fn.res 1) [.code fn.body] (argSt 0 a (insSt 0 [rd bs p] S0)))) : Gd bs p c R (EE F f a [rd bs p]) := by
  rw [EE_run hF hn]; exact h
theorem w_pred {i : Nat} (h : i ≤ 1048576) : IntKind.i64.wrap (((i + 1 : Nat) : Int) - 1) = (i : Int) := by rw [w64 (by omega) (by omega)]; omega
theorem rdx2 : (∀ bs p, Obj.flat (rd bs p) = (bs.map yU).isEmpty) ∧ (∀ bs p, Obj.data (rd bs p) = true) ∧ (∀ (x : Bool) (a : List Id), sel x a a = a) := by
  refine ⟨fun bs p => ?_, fun bs p => rfl, fun x a => by cases x <;> rfl⟩
  simp [rd, Obj.flat, C.isSl, U.flat]
def Code (code : List Int) : Prop := code.length ≤ 9223372036854775807 ∧ ∀ b, b ∈ code → 0 ≤ b ∧ b ≤ 255
/-- A property of a call's end. -/
def Ok (R : Ret → Prop) (x : Option Ret) : Prop := ∃ r, x = some r ∧ R r
theorem Ok.run {f : Nat} {a : List T} {R : Ret → Prop} {fn : IFn} (hF : Go.Proofs.YtdnhamehpdlbgaaV.F f = some fn) (hn : a.length = fn.np) (h : Ok R (KK F (FF fn.res 0) [.code fn.body] (argSt 0 a (insSt 0 [] S0)))) : Ok R (EE F f a []) := by
  rw [EE_run hF hn]; exact h
theorem yU_of (us : List U) (hl : us.length = 1) (ht : ∀ (j : Nat) ty u, [Ty.i .u8][j]? = some ty → us[j]? = some u → UT ty u) : ∃ x, us = yU x ∧ (0 ≤ x ∧ x ≤ 255) := by
  match us, hl with
  | [a], _ => obtain ⟨n, rfl, h⟩ := (ht 0 _ a rfl rfl).u8_of; exact ⟨n, rfl, h⟩
theorem Code.of {u : U} (hu : UT (.sl [.i .u8]) u) : ∃ code : List Int, u = .sl 1 (code.map yU) ∧ Code code := by
  obtain ⟨code, rfl, hl, hb⟩ := hu.sl_of yU_of
  exact ⟨code, rfl, hl, hb⟩
theorem pk {bs : List Int} (hb : Bytes bs) (p : Nat) (n : Int) (hp : p ≤ 1000000000000) (hn : 1 ≤ n) : ∃ v : Nat, EE F 92 [RP0, I n] [rd bs p] = some ⟨[I (v : Int)], [], [rd bs (p + 1)]⟩ ∧ (v : Int) < n := by
  obtain ⟨v, h1, h2, h3⟩ := pick_ok hb p n (by omega)
  have := h3 hn
  obtain ⟨k, rfl⟩ := Int.eq_ofNat_of_zero_le h2
  exact ⟨k, h1, this⟩
theorem l20Key_ok {bs : List Int} (hb : Bytes bs) (p : Nat) (n : Int) (hn : n ≤ 1048576) (hp : p ≤ 1000000000) : Gd bs p 6 (fun r m => m = [] ∧ ∃ s : Str, r = [.sc (.u (.str s))] ∧ s.length ≤ 5) (EE F 141 [RP0, I n] [rd bs p]) := by
  refine Gd.run (fn := i141) (by kernel_rfl) rfl ?_
  simp only [i141, b141, argSt, insSt]
  obtain ⟨b, q, ho, hq1, hq2, _⟩ := odd_ok hb p n (by omega) hn
  cases b with
  | true =>
    obtain ⟨v, hv, hvl⟩ := pk hb q 6 (by omega) (by omega)
    rcases (show v = 0 ∨ v = 1 ∨ v = 2 ∨ v = 3 ∨ v = 4 ∨ v = 5 by omega) with rfl | rfl | rfl | rfl | rfl | rfl <;> simp only [↓xP, xQ, xR, flatR, eqCells_ok, eqSh, eqBs, Nat.reduceLT, decide_true, Nat.reduceBEq, Nat.reduceAdd, IOp.dst, IOp.isF, IOp.args, coolOp, Nat.reduceSub, rdx, ho, hv] <;> exact ⟨_, _, q + 1, rfl, by omega, by omega, rfl, _, rfl, by simp⟩
  | false =>
    obtain ⟨v, hv, hvl⟩ := pk hb q 12 (by omega) (by omega)
    by_cases h11 : (v : Int) = 11
    · obtain ⟨w, hw, hwl⟩ := pk hb (q + 1) 5 (by omega) (by omega)
      rcases (show w = 0 ∨ w = 1 ∨ w = 2 ∨ w = 3 ∨ w = 4 by omega) with rfl | rfl | rfl | rfl | rfl <;> simp only [↓xP, xQ, xR, flatR, eqCells_ok, eqSh, eqBs, Nat.reduceLT, decide_true, Nat.reduceBEq, Nat.reduceAdd, IOp.dst, IOp.isF, IOp.args, coolOp, Nat.reduceSub, rdx, ho, hv, h11, hw] <;> exact ⟨_, _, q + 2, rfl, by omega, by omega, rfl, _, rfl, by simp⟩
    · obtain ⟨w, hw, hwl⟩ := pk hb (q + 1) 2 (by omega) (by omega)
      have hw1 : IntKind.i64.wrap (1 + (w : Int)) = ((1 + w : Nat) : Int) := by rw [w64 (by omega) (by omega)]; omega
      simp only [↓xP, xQ, xR, flatR, eqCells_ok, eqSh, eqBs, Nat.reduceLT, decide_true, Nat.reduceBEq, Nat.reduceAdd, IOp.dst, IOp.isF, IOp.args, coolOp, Nat.reduceSub, rdx, ho, hv, h11, hw, hw1]
      refine loop_pred (fun (a : Nat × Nat × Str) st => a.1 + a.2.2.length ≤ 2 ∧ q + 2 ≤ a.2.1 ∧ a.2.1 + a.1 ≤ q + 4 ∧ st.s 0 = .t RP0 ∧ st.s 5 = DS a.2.2 ∧ st.s 6 = DI a.1 ∧ st.o (.par 0) = some (rd bs a.2.1)) (fun a => a.1) ?_ (1 + w, q + 1 + 1, []) ⟨by simp; omega, by simp, by dsimp only; omega, (by and_intros <;> first | omega | rfl | (simp only [↓xP, xQ, xR, flatR, eqCells_ok, eqSh, eqBs, Nat.reduceLT, decide_true, Nat.reduceBEq, Nat.reduceAdd, IOp.dst, IOp.isF, IOp.args, coolOp, Nat.reduceSub, rdx]; done) | (simp only [↓xP, xQ, xR, flatR, eqCells_ok, eqSh, eqBs, Nat.reduceLT, decide_true, Nat.reduceBEq, Nat.reduceAdd, IOp.dst, IOp.isF, IOp.args, coolOp, Nat.reduceSub, rdx]; rfl) | (simp only [↓xP, xQ, xR, flatR, eqCells_ok, eqSh, eqBs, Nat.reduceLT, decide_true, Nat.reduceBEq, Nat.reduceAdd, IOp.dst, IOp.isF, IOp.args, coolOp, Nat.reduceSub, rdx]; omega))⟩
      rintro ⟨k, q1, s⟩ st ⟨hl, hq, hq', h0, h5, h6, hr⟩ ih
      dsimp only at *
      cases k with
      | zero =>
        have hk : ¬ (0 : Int) < ((0 : Nat) : Int) := by omega
        simp only [↓xP, xQ, xR, flatR, eqCells_ok, eqSh, eqBs, Nat.reduceLT, decide_true, Nat.reduceBEq, Nat.reduceAdd, IOp.dst, IOp.isF, IOp.args, coolOp, Nat.reduceSub, rdx, h0, h5, h6, hr, gt_iff_lt, hk]
        exact ⟨_, _, q1, rfl, by omega, by omega, rfl, s, rfl, by omega⟩
      | succ k =>
        have hk : (0 : Int) < ((k + 1 : Nat) : Int) := by omega
        have hwk := w_pred (i := k) (by omega)
        obtain ⟨v2, hv2, hvl2⟩ := pk hb q1 4 (by omega) (by omega)
        have hs1 : s.length + 1 ≤ 9223372036854775807 := by omega
        simp only [↓xP, xQ, xR, flatR, eqCells_ok, eqSh, eqBs, Nat.reduceLT, decide_true, Nat.reduceBEq, Nat.reduceAdd, IOp.dst, IOp.isF, IOp.args, coolOp, Nat.reduceSub, rdx, h0, h5, h6, hr, gt_iff_lt, hk, hv2, hwk, hs1]
        exact ih (k, q1 + 1, s ++ [UInt8.ofNat (IntKind.u8.wrap (IntKind.i64.wrap (97 + (v2 : Int)))).toNat]) _ (by dsimp only; omega) ⟨by simp; omega, by dsimp only; omega, by dsimp only; omega, (by and_intros <;> first | omega | rfl | (simp only [↓xP, xQ, xR, flatR, eqCells_ok, eqSh, eqBs, Nat.reduceLT, decide_true, Nat.reduceBEq, Nat.reduceAdd, IOp.dst, IOp.isF, IOp.args, coolOp, Nat.reduceSub, rdx, h0, h5, h6, hr, hwk]; done) | (simp only [↓xP, xQ, xR, flatR, eqCells_ok, eqSh, eqBs, Nat.reduceLT, decide_true, Nat.reduceBEq, Nat.reduceAdd, IOp.dst, IOp.isF, IOp.args, coolOp, Nat.reduceSub, rdx, h0, h5, h6, hr, hwk]; rfl) | (simp only [↓xP, xQ, xR, flatR, eqCells_ok, eqSh, eqBs, Nat.reduceLT, decide_true, Nat.reduceBEq, Nat.reduceAdd, IOp.dst, IOp.isF, IOp.args, coolOp, Nat.reduceSub, rdx, h0, h5, h6, hr, hwk]; omega))⟩
theorem l20Value_ok {bs : List Int} (hb : Bytes bs) (p : Nat) (n : Int) (hn : n ≤ 1048576) (hp : p ≤ 1000000000) : Gd bs p 3 (fun r m => m = [] ∧ ∃ v : Int, r = [I v] ∧ -1 ≤ v ∧ v ≤ 1000) (EE F 170 [RP0, I n] [rd bs p]) := by
  refine Gd.run (fn := i170) (by kernel_rfl) rfl ?_
  simp only [i170, b170, argSt, insSt]
  obtain ⟨b, q, ho, hq1, hq2, _⟩ := odd_ok hb p n (by omega) hn
  cases b with
  | true =>
    obtain ⟨v, hv, hvl⟩ := pk hb q 2 (by omega) (by omega)
    rcases (show v = 0 ∨ v = 1 by omega) with rfl | rfl <;> simp only [↓xP, xQ, xR, flatR, eqCells_ok, eqSh, eqBs, Nat.reduceLT, decide_true, Nat.reduceBEq, Nat.reduceAdd, IOp.dst, IOp.isF, IOp.args, coolOp, Nat.reduceSub, rdx, ho, hv] <;> exact ⟨_, _, q + 1, rfl, by omega, by omega, rfl, _, rfl, by omega, by omega⟩
  | false =>
    obtain ⟨v, hv, hvl⟩ := pk hb q 20 (by omega) (by omega)
    obtain ⟨w, hw, hwl⟩ := pk hb (q + 1) 9 (by omega) (by omega)
    have h80 : ¬ (8 : Int) = 0 := by omega
    have e00 : IntKind.i64.wrap ((0 : Nat) : Int) = ((0 : Nat) : Int) := by rw [w64 (by omega) (by omega)]
    have e11 : IntKind.i64.wrap ((1 : Nat) : Int) = ((1 : Nat) : Int) := by rw [w64 (by omega) (by omega)]
    have h8 : ((w : Int)).tdiv 8 = ((w / 8 : Nat) : Int) := rfl
    by_cases h0 : w / 8 = 0
    · simp only [↓xP, xQ, xR, flatR, eqCells_ok, eqSh, eqBs, Nat.reduceLT, decide_true, Nat.reduceBEq, Nat.reduceAdd, IOp.dst, IOp.isF, IOp.args, coolOp, Nat.reduceSub, rdx, ho, hv, hw, h8, h0, h80, e00]
      exact ⟨_, _, q + 2, rfl, by omega, by omega, rfl, (v : Int), rfl, by omega, by omega⟩
    · have h1 : w / 8 = 1 := by omega
      simp only [↓xP, xQ, xR, flatR, eqCells_ok, eqSh, eqBs, Nat.reduceLT, decide_true, Nat.reduceBEq, Nat.reduceAdd, IOp.dst, IOp.isF, IOp.args, coolOp, Nat.reduceSub, rdx, ho, hv, hw, h8, h1, h80, e11]
      exact ⟨_, _, q + 2, rfl, by omega, by omega, rfl, (999 : Int), rfl, by omega, by omega⟩
theorem l20Span_ok {bs : List Int} (hb : Bytes bs) (p : Nat) (n : Int) (hn : n ≤ 1048576) (hp : p ≤ 100000000) : Gd bs p 20 (fun r m => m = [] ∧ ∃ a b : Str, r = [.ag [.u (.str a), .u (.str b)]] ∧ a.length ≤ 5 ∧ b.length ≤ 5) (EE F 100 [RP0, I n] [rd bs p]) := by
  refine Gd.run (fn := i100) (by kernel_rfl) rfl ?_
  simp only [i100, b100, argSt, insSt]
  obtain ⟨b, q, ho, hq1, hq2, _⟩ := odd_ok hb p n (by omega) hn
  cases b with
  | true =>
    obtain ⟨v, hv, hvl⟩ := pk hb q 5 (by omega) (by omega)
    rcases (show v = 0 ∨ v = 1 ∨ v = 2 ∨ v = 3 ∨ v = 4 by omega) with rfl | rfl | rfl | rfl | rfl <;> simp only [↓xP, xQ, xR, flatR, eqCells_ok, eqSh, eqBs, Nat.reduceLT, decide_true, Nat.reduceBEq, Nat.reduceAdd, IOp.dst, IOp.isF, IOp.args, coolOp, Nat.reduceSub, rdx, ho, hv] <;> exact ⟨_, _, q + 1, rfl, by omega, by omega, rfl, _, _, rfl, by simp, by simp⟩
  | false =>
    obtain ⟨r1, n1, q1, h1, hq1, hq1', rfl, a, rfl, hla⟩ := l20Key_ok hb q 0 (by omega) (by omega)
    obtain ⟨r2, n2, q2, h2, hq2, hq2', rfl, b, rfl, hlb⟩ := l20Key_ok hb q1 0 (by omega) (by omega)
    obtain ⟨v, hv, hvl⟩ := pk hb q2 6 (by omega) (by omega)
    have hab : ∀ x y : Str, x.length ≤ 5 → y.length ≤ 5 → Gd bs p 20 (fun r m => m = [] ∧ ∃ a b : Str, r = [.ag [.u (.str a), .u (.str b)]] ∧ a.length ≤ 5 ∧ b.length ≤ 5) (some ⟨[.ag [.u (.str x), .u (.str y)]], [], [rd bs (q2 + 1)]⟩) := fun x y hx hy => ⟨_, _, q2 + 1, rfl, by omega, by omega, rfl, x, y, rfl, hx, hy⟩
    by_cases e0 : (v : Int) = 0
    · simp only [↓xP, xQ, xR, flatR, eqCells_ok, eqSh, eqBs, Nat.reduceLT, decide_true, Nat.reduceBEq, Nat.reduceAdd, IOp.dst, IOp.isF, IOp.args, coolOp, Nat.reduceSub, rdx, ho, h1, h2, hv, e0]
      exact hab _ _ (by simp) (by simp)
    by_cases e1 : (v : Int) = 1
    · have e10 : ¬ (1 : Int) = 0 := by omega
      simp only [↓xP, xQ, xR, flatR, eqCells_ok, eqSh, eqBs, Nat.reduceLT, decide_true, Nat.reduceBEq, Nat.reduceAdd, IOp.dst, IOp.isF, IOp.args, coolOp, Nat.reduceSub, rdx, ho, h1, h2, hv, e1, e10]
      exact hab _ _ hla (by simp)
    by_cases e2 : (v : Int) = 2
    · have e20 : ¬ (2 : Int) = 0 := by omega
      have e21 : ¬ (2 : Int) = 1 := by omega
      by_cases hba : b = [97]
      · subst hba
        simp only [↓xP, xQ, xR, flatR, eqCells_ok, eqSh, eqBs, Nat.reduceLT, decide_true, Nat.reduceBEq, Nat.reduceAdd, IOp.dst, IOp.isF, IOp.args, coolOp, Nat.reduceSub, rdx, ho, h1, h2, hv, e2, e20, e21, ne_eq, not_true_eq_false]
        refine sel_pred (fun _ => hab _ _ hla hlb) (fun _ => sel_pred (fun _ => hab _ _ hlb hla) (fun _ => hab _ _ hla (by simp)))
      · simp only [↓xP, xQ, xR, flatR, eqCells_ok, eqSh, eqBs, Nat.reduceLT, decide_true, Nat.reduceBEq, Nat.reduceAdd, IOp.dst, IOp.isF, IOp.args, coolOp, Nat.reduceSub, rdx, ho, h1, h2, hv, e2, e20, e21, hba, ne_eq, not_false_eq_true]
        exact hab _ _ (by simp) hlb
    · simp only [↓xP, xQ, xR, flatR, eqCells_ok, eqSh, eqBs, Nat.reduceLT, decide_true, Nat.reduceBEq, Nat.reduceAdd, IOp.dst, IOp.isF, IOp.args, coolOp, Nat.reduceSub, rdx, ho, h1, h2, hv, e0, e1, e2]
      refine sel_pred (fun _ => hab _ _ hla hlb) (fun _ => sel_pred (fun _ => hab _ _ hlb hla) (fun _ => hab _ _ hla (by simp)))
theorem set_rep {l : List Pair} {i : Nat} {p q : Pair} (h : l[i]? = some p) : (l.map Pair.u).set i (Pair.u q) = (rep l i 1 [q]).map Pair.u := by
  obtain ⟨hi, _⟩ := List.getElem?_eq_some_iff.1 h
  rw [← List.map_set]
  congr 1
  rw [List.set_eq_take_append_cons_drop, if_pos hi]
  simp [rep]
theorem rep1_len {l : List Pair} {i : Nat} {p q : Pair} (h : l[i]? = some p) : (rep l i 1 [q]).length = l.length := by
  obtain ⟨hi, _⟩ := List.getElem?_eq_some_iff.1 h
  rw [rep_len (by omega)]
  simp; omega
theorem pairPut_spec (l : List Pair) (key : Str) (v : Int) (hn : l.length ≤ 1048576) : EE F 169 [L 2 (l.map Pair.u), S key, I v] [] = listRet Pair.u 2 (pairPut l key v) := by
  rw [R169, b169]
  have hpl := place_le key l
  have hv := pairsValid_spec l
  cases h : pairsValid l
  · rw [h] at hv
    simp only [↓xP, xQ, xR, flatR, eqCells_ok, eqSh, eqBs, Nat.reduceLT, decide_true, Nat.reduceBEq, Nat.reduceAdd, IOp.dst, IOp.isF, IOp.args, coolOp, Nat.reduceSub, hv, pairPut, h, Bool.false_eq_true, false_and, if_false, listRet, List.map_nil, List.length_nil]
  rw [h] at hv
  have hl48 := pairsValid_len h
  have hkv := keyValid_spec key
  cases hk : keyValid key
  · rw [hk] at hkv
    simp only [↓xP, xQ, xR, flatR, eqCells_ok, eqSh, eqBs, Nat.reduceLT, decide_true, Nat.reduceBEq, Nat.reduceAdd, IOp.dst, IOp.isF, IOp.args, coolOp, Nat.reduceSub, hv, hkv, pairPut, hk, Bool.false_eq_true, false_and, and_false, if_false, listRet, List.map_nil, List.length_nil]
  rw [hk] at hkv
  cases hr : inR v 0 999
  · simp only [↓xP, xQ, xR, flatR, eqCells_ok, eqSh, eqBs, Nat.reduceLT, decide_true, Nat.reduceBEq, Nat.reduceAdd, IOp.dst, IOp.isF, IOp.args, coolOp, Nat.reduceSub, hv, hkv, l1In_ok, hr, pairPut, Bool.false_eq_true, false_and, and_false, if_false, listRet, List.map_nil, List.length_nil]
  have q0 : l.length ≤ maxLen ∧ l.length * 24 ≤ 140737488355328 := small_max hn (by omega)
  have hpl4 := l4Place_ok l key (by omega)
  cases hh : hit key l with
  | some p =>
    obtain ⟨pk, pv⟩ := p
    obtain ⟨h1, h2⟩ := hit_some hh
    dsimp only at h2
    subst h2
    have hlt := (List.getElem?_eq_some_iff.1 h1).1
    have hli : ((place pk l : Nat) : Int) < (l.length : Int) := by omega
    have hset := set_rep (q := ⟨pk, v⟩) h1
    have hrl := rep1_len (q := ⟨pk, v⟩) h1
    simp only [Pair.u] at hset
    have hpp : pairPut l pk v = (rep l (place pk l) 1 [⟨pk, v⟩], true) := by simp only [pairPut, h, hk, hr, hh, Option.isSome_some, and_self, if_true]
    rw [hpp]
    simp only [↓xP, xQ, xR, flatR, eqCells_ok, eqSh, eqBs, Nat.reduceLT, decide_true, Nat.reduceBEq, Nat.reduceAdd, IOp.dst, IOp.isF, IOp.args, coolOp, Nat.reduceSub, hv, hkv, l1In_ok, hr, hpl4, List.length_map, Nat.zero_add, List.nil_append, hli, h1, Pair.u, q0.1, q0.2, hset, hlt]
    simp [sel, hrl, listRet]
  | none =>
    have hno := hit_none hh
    have hmin : min (place key l) l.length = place key l := by omega
    have hct := cut_to (n := l.length) (i := place key l) (by omega)
    have hcf := cut_from (n := l.length) (i := place key l) (by omega)
    have q1 : place key l ≤ maxLen ∧ place key l * 24 ≤ 140737488355328 := small_max (by omega) (by omega)
    have q2 : place key l + 1 ≤ maxLen ∧ (place key l + 1) * 24 ≤ 140737488355328 := small_max (by omega) (by omega)
    have q3 : place key l + 1 + (l.length - place key l) ≤ maxLen ∧ (place key l + 1 + (l.length - place key l)) * 24 ≤ 140737488355328 := small_max (by omega) (by omega)
    have hlen : (rep l (place key l) 0 [⟨key, v⟩]).length = place key l + 1 + (l.length - place key l) := by rw [rep_len (by omega)]; simp; omega
    have her : List.take (place key l) (l.map Pair.u) ++ [[U.str key, U.int .i64 v]] ++ List.drop (place key l) (l.map Pair.u) = (rep l (place key l) 0 [⟨key, v⟩]).map Pair.u := by simp [rep, List.map_take, List.map_drop, Pair.u]
    by_cases hge : (48 : Int) ≤ (l.length : Int)
    · have hge' : 48 ≤ l.length := by omega
      have hpp : pairPut l key v = (l, false) := by simp only [pairPut, h, hk, hr, hh, Option.isSome_none, Bool.false_eq_true, if_false, hge', and_self, if_true]
      rw [hpp]
      by_cases hlt : place key l < l.length
      · obtain ⟨⟨pk, pv⟩, hp⟩ : ∃ p, l[place key l]? = some p := ⟨_, List.getElem?_eq_getElem (by omega)⟩
        have hli : ((place key l : Nat) : Int) < (l.length : Int) := by omega
        have hne : ¬ pk = key := hno _ hp
        simp only [↓xP, xQ, xR, flatR, eqCells_ok, eqSh, eqBs, Nat.reduceLT, decide_true, Nat.reduceBEq, Nat.reduceAdd, IOp.dst, IOp.isF, IOp.args, coolOp, Nat.reduceSub, hv, hkv, l1In_ok, hr, hpl4, List.length_map, Nat.zero_add, List.nil_append, hli, hp, Pair.u, hne, q0.1, q0.2, ge_iff_le, hge, listRet, map_all]
      · have hli : ¬ ((place key l : Nat) : Int) < (l.length : Int) := by omega
        simp only [↓xP, xQ, xR, flatR, eqCells_ok, eqSh, eqBs, Nat.reduceLT, decide_true, Nat.reduceBEq, Nat.reduceAdd, IOp.dst, IOp.isF, IOp.args, coolOp, Nat.reduceSub, hv, hkv, l1In_ok, hr, hpl4, List.length_map, Nat.zero_add, List.nil_append, hli, Pair.u, q0.1, q0.2, ge_iff_le, hge, listRet, map_all]
    · have hge' : ¬ 48 ≤ l.length := by omega
      have hpp : pairPut l key v = (rep l (place key l) 0 [⟨key, v⟩], true) := by simp only [pairPut, h, hk, hr, hh, Option.isSome_none, Bool.false_eq_true, if_false, hge', and_self, if_true]
      rw [hpp]
      by_cases hlt : place key l < l.length
      · obtain ⟨⟨pk, pv⟩, hp⟩ : ∃ p, l[place key l]? = some p := ⟨_, List.getElem?_eq_getElem (by omega)⟩
        have hli : ((place key l : Nat) : Int) < (l.length : Int) := by omega
        have hne : ¬ pk = key := hno _ hp
        simp only [↓xP, xQ, xR, flatR, eqCells_ok, eqSh, eqBs, Nat.reduceLT, decide_true, Nat.reduceBEq, Nat.reduceAdd, IOp.dst, IOp.isF, IOp.args, coolOp, Nat.reduceSub, hv, hkv, l1In_ok, hr, hpl4, List.length_map, List.length_take, List.length_drop, Nat.zero_add, List.nil_append, hli, hp, Pair.u, hne, q1.1, q1.2, q2.1, q2.2, q3.1, q3.2, ge_iff_le, hge, listRet, map_all, hct, hcf, hmin, hlen, her, List.drop_zero, List.length_append, List.length_cons, List.length_nil]
      · have hli : ¬ ((place key l : Nat) : Int) < (l.length : Int) := by omega
        simp only [↓xP, xQ, xR, flatR, eqCells_ok, eqSh, eqBs, Nat.reduceLT, decide_true, Nat.reduceBEq, Nat.reduceAdd, IOp.dst, IOp.isF, IOp.args, coolOp, Nat.reduceSub, hv, hkv, l1In_ok, hr, hpl4, List.length_map, List.length_take, List.length_drop, Nat.zero_add, List.nil_append, hli, Pair.u, q1.1, q1.2, q2.1, q2.2, q3.1, q3.2, ge_iff_le, hge, listRet, map_all, hct, hcf, hmin, hlen, her, List.drop_zero, List.length_append, List.length_cons, List.length_nil]
theorem weight_ok {i : Nat} (h : i < 4) : ∃ w : Int, EE F 184 [I (i : Int)] [] = ok1 (I w) ∧ ¬ w = 0 := by
  rcases (show i = 0 ∨ i = 1 ∨ i = 2 ∨ i = 3 by omega) with rfl | rfl | rfl | rfl
  · exact ⟨18279, EE_at 60 (by kernel_rfl), by omega⟩
  · exact ⟨703, EE_at 60 (by kernel_rfl), by omega⟩
  · exact ⟨27, EE_at 60 (by kernel_rfl), by omega⟩
  · exact ⟨1, EE_at 60 (by kernel_rfl), by omega⟩
theorem keyAt_some (n : Int) : Ok (fun r => ∃ s : Str, r = ⟨[S s], [], []⟩ ∧ s.length ≤ 4) (EE F 120 [I n] []) := by
  refine Ok.run (fn := i120) (by kernel_rfl) rfl ?_
  simp only [i120, b120, argSt, insSt]
  cases hin : inR n 0 475253
  · simp only [↓xP, xQ, xR, flatR, eqCells_ok, eqSh, eqBs, Nat.reduceLT, decide_true, Nat.reduceBEq, Nat.reduceAdd, IOp.dst, IOp.isF, IOp.args, coolOp, Nat.reduceSub, l1In_ok, hin]
    exact ⟨_, rfl, [], rfl, by simp⟩
  simp only [↓xP, xQ, xR, flatR, eqCells_ok, eqSh, eqBs, Nat.reduceLT, decide_true, Nat.reduceBEq, Nat.reduceAdd, IOp.dst, IOp.isF, IOp.args, coolOp, Nat.reduceSub, l1In_ok, hin]
  refine loop_pred (fun (a : Nat × Int × Str) st => a.1 ≤ 4 ∧ a.2.2.length = a.1 ∧ st.s 0 = DI a.2.1 ∧ st.s 3 = DS a.2.2 ∧ st.s 4 = DI a.1) (fun a => 4 - a.1) ?_ (0, n, []) ⟨by simp, rfl, (by and_intros <;> first | omega | rfl | (simp only [↓xP, xQ, xR, flatR, eqCells_ok, eqSh, eqBs, Nat.reduceLT, decide_true, Nat.reduceBEq, Nat.reduceAdd, IOp.dst, IOp.isF, IOp.args, coolOp, Nat.reduceSub]; done) | (simp only [↓xP, xQ, xR, flatR, eqCells_ok, eqSh, eqBs, Nat.reduceLT, decide_true, Nat.reduceBEq, Nat.reduceAdd, IOp.dst, IOp.isF, IOp.args, coolOp, Nat.reduceSub]; rfl) | (simp only [↓xP, xQ, xR, flatR, eqCells_ok, eqSh, eqBs, Nat.reduceLT, decide_true, Nat.reduceBEq, Nat.reduceAdd, IOp.dst, IOp.isF, IOp.args, coolOp, Nat.reduceSub]; omega))⟩
  rintro ⟨i, m, s⟩ st ⟨hle, hl, h0, h3, h4⟩ ih
  dsimp only at *
  by_cases hi : i < 4
  · have hi' : (i : Int) < 4 := by omega
    have hw := w_succ (i := i) (by omega)
    obtain ⟨w, hwt, hw0⟩ := weight_ok hi
    have hs1 : s.length + 1 ≤ 9223372036854775807 := by omega
    simp only [↓xP, xQ, xR, flatR, eqCells_ok, eqSh, eqBs, Nat.reduceLT, decide_true, Nat.reduceBEq, Nat.reduceAdd, IOp.dst, IOp.isF, IOp.args, coolOp, Nat.reduceSub, h0, h3, h4, hi', hwt, hw0, hs1]
    refine sel_pred (fun h => ?_) (fun h => ?_)
    · exact ⟨_, rfl, _, rfl, by simp; omega⟩
    · simp only [↓xP, xQ, xR, flatR, eqCells_ok, eqSh, eqBs, Nat.reduceLT, decide_true, Nat.reduceBEq, Nat.reduceAdd, IOp.dst, IOp.isF, IOp.args, coolOp, Nat.reduceSub, h0, h3, h4, hi', hwt, hw0, hs1, hw]
      refine ih (i + 1, _, _) _ (by dsimp only; omega) ⟨by dsimp only; omega, ?_, (by and_intros <;> first | omega | rfl | (simp only [↓xP, xQ, xR, flatR, eqCells_ok, eqSh, eqBs, Nat.reduceLT, decide_true, Nat.reduceBEq, Nat.reduceAdd, IOp.dst, IOp.isF, IOp.args, coolOp, Nat.reduceSub, h0, h3, h4, hw]; done) | (simp only [↓xP, xQ, xR, flatR, eqCells_ok, eqSh, eqBs, Nat.reduceLT, decide_true, Nat.reduceBEq, Nat.reduceAdd, IOp.dst, IOp.isF, IOp.args, coolOp, Nat.reduceSub, h0, h3, h4, hw]; rfl) | (simp only [↓xP, xQ, xR, flatR, eqCells_ok, eqSh, eqBs, Nat.reduceLT, decide_true, Nat.reduceBEq, Nat.reduceAdd, IOp.dst, IOp.isF, IOp.args, coolOp, Nat.reduceSub, h0, h3, h4, hw]; omega))⟩
      simp [hl]
  · have hi' : ¬ (i : Int) < 4 := by omega
    simp only [↓xP, xQ, xR, flatR, eqCells_ok, eqSh, eqBs, Nat.reduceLT, decide_true, Nat.reduceBEq, Nat.reduceAdd, IOp.dst, IOp.isF, IOp.args, coolOp, Nat.reduceSub, h0, h3, h4, hi']
    exact ⟨_, rfl, s, rfl, by omega⟩
theorem pairPut_len (l : List Pair) (key : Str) (v : Int) : (pairPut l key v).1.length ≤ 48 := by
  unfold pairPut
  split
  · rename_i h
    have hl := pairsValid_len h.1
    split
    · rename_i hs
      cases hh : hit key l with
      | none => rw [hh] at hs; cases hs
      | some p => rw [rep1_len (hit_some hh).1]; exact hl
    · split
      · exact hl
      · have := place_le key l
        rw [rep_len (by omega)]
        simp; omega
  · simp
set_option maxHeartbeats 1000000 in
theorem l20Pairs_ok {bs : List Int} (hb : Bytes bs) (p : Nat) (n : Int) (hn : n ≤ 1048576) (hp : p ≤ 100000000) : Gd bs p 120 (fun r m => m = [] ∧ ∃ l : List Pair, r = [L 2 (l.map Pair.u)] ∧ l.length ≤ 49) (EE F 101 [RP0, I n] [rd bs p]) := by
  refine Gd.run (fn := i101) (by kernel_rfl) rfl ?_
  simp only [i101, b101, argSt, insSt]
  obtain ⟨k0, hk0, hkl⟩ := pk hb p 9 (by omega) (by omega)
  simp only [↓xP, xQ, xR, flatR, eqCells_ok, eqSh, eqBs, Nat.reduceLT, decide_true, Nat.reduceBEq, Nat.reduceAdd, IOp.dst, IOp.isF, IOp.args, coolOp, Nat.reduceSub, rdx, hk0]
  refine loop_pred (fun (a : Nat × Nat × Bool × List Pair) st => a.1 ≤ 8 ∧ p + 1 ≤ a.2.1 ∧ a.2.1 + 9 * a.1 ≤ p + 73 ∧ a.2.2.2.length ≤ 48 ∧ st.s 0 = .t RP0 ∧ st.s 1 = DI n ∧ st.o (.par 0) = some (rd bs a.2.1) ∧ st.s 5 = .t (.sc (.own (wid (.loc 12 0) (.loc 25 0) a.2.2.1) a.2.2.2.length)) ∧ st.o (wid (.loc 12 0) (.loc 25 0) a.2.2.1) = some (.row 2 (a.2.2.2.map Pair.u)) ∧ st.s 6 = DI a.1) (fun a => a.1) ?_ (k0, p + 1, false, []) ⟨by dsimp only; omega, by dsimp only; omega, by dsimp only; omega, by simp, (by and_intros <;> first | omega | rfl | (simp only [↓xP, xQ, xR, flatR, eqCells_ok, eqSh, eqBs, Nat.reduceLT, decide_true, Nat.reduceBEq, Nat.reduceAdd, IOp.dst, IOp.isF, IOp.args, coolOp, Nat.reduceSub, rdx, wid]; done) | (simp only [↓xP, xQ, xR, flatR, eqCells_ok, eqSh, eqBs, Nat.reduceLT, decide_true, Nat.reduceBEq, Nat.reduceAdd, IOp.dst, IOp.isF, IOp.args, coolOp, Nat.reduceSub, rdx, wid]; rfl) | (simp only [↓xP, xQ, xR, flatR, eqCells_ok, eqSh, eqBs, Nat.reduceLT, decide_true, Nat.reduceBEq, Nat.reduceAdd, IOp.dst, IOp.isF, IOp.args, coolOp, Nat.reduceSub, rdx, wid]; omega))⟩
  rintro ⟨k, q, b, l⟩ st ⟨hle, hq, hq', hl, h0, h1, hr, h5, ho5, h6⟩ ih
  dsimp only at *
  cases k with
  | succ k =>
    have hk : (0 : Int) < ((k + 1 : Nat) : Int) := by omega
    have hwk := w_pred (i := k) (by omega)
    obtain ⟨r1, n1, q1, h1', hq1, hq1', rfl, s, rfl, hls⟩ := l20Key_ok hb q 0 (by omega) (by omega)
    obtain ⟨r2, n2, q2, h2', hq2, hq2', rfl, v, rfl, hv1, hv2⟩ := l20Value_ok hb q1 0 (by omega) (by omega)
    have hpp := pairPut_spec l s v (by omega)
    have hpl := pairPut_len l s v
    generalize pairPut l s v = pp at hpp hpl
    obtain ⟨l', ok⟩ := pp
    simp only [listRet] at hpp
    dsimp only at hpl
    cases b
    · simp only [wid] at *
      simp only [↓xP, xQ, xR, flatR, eqCells_ok, eqSh, eqBs, Nat.reduceLT, decide_true, Nat.reduceBEq, Nat.reduceAdd, IOp.dst, IOp.isF, IOp.args, coolOp, Nat.reduceSub, rdx, h0, h1, hr, h5, ho5, h6, gt_iff_lt, hk, h1', h2', hpp, hwk, map_all]
      exact ih (k, q2, true, l') _ (by dsimp only; omega) ⟨by dsimp only; omega, by dsimp only; omega, by dsimp only; omega, hpl, (by and_intros <;> first | omega | rfl | (simp only [↓xP, xQ, xR, flatR, eqCells_ok, eqSh, eqBs, Nat.reduceLT, decide_true, Nat.reduceBEq, Nat.reduceAdd, IOp.dst, IOp.isF, IOp.args, coolOp, Nat.reduceSub, rdx, wid, h0, h1, hr, h5, ho5, h6, hwk]; done) | (simp only [↓xP, xQ, xR, flatR, eqCells_ok, eqSh, eqBs, Nat.reduceLT, decide_true, Nat.reduceBEq, Nat.reduceAdd, IOp.dst, IOp.isF, IOp.args, coolOp, Nat.reduceSub, rdx, wid, h0, h1, hr, h5, ho5, h6, hwk]; rfl) | (simp only [↓xP, xQ, xR, flatR, eqCells_ok, eqSh, eqBs, Nat.reduceLT, decide_true, Nat.reduceBEq, Nat.reduceAdd, IOp.dst, IOp.isF, IOp.args, coolOp, Nat.reduceSub, rdx, wid, h0, h1, hr, h5, ho5, h6, hwk]; omega))⟩
    · simp only [wid] at *
      simp only [↓xP, xQ, xR, flatR, eqCells_ok, eqSh, eqBs, Nat.reduceLT, decide_true, Nat.reduceBEq, Nat.reduceAdd, IOp.dst, IOp.isF, IOp.args, coolOp, Nat.reduceSub, rdx, h0, h1, hr, h5, ho5, h6, gt_iff_lt, hk, h1', h2', hpp, hwk, map_all]
      exact ih (k, q2, true, l') _ (by dsimp only; omega) ⟨by dsimp only; omega, by dsimp only; omega, by dsimp only; omega, hpl, (by and_intros <;> first | omega | rfl | (simp only [↓xP, xQ, xR, flatR, eqCells_ok, eqSh, eqBs, Nat.reduceLT, decide_true, Nat.reduceBEq, Nat.reduceAdd, IOp.dst, IOp.isF, IOp.args, coolOp, Nat.reduceSub, rdx, wid, h0, h1, hr, h5, ho5, h6, hwk]; done) | (simp only [↓xP, xQ, xR, flatR, eqCells_ok, eqSh, eqBs, Nat.reduceLT, decide_true, Nat.reduceBEq, Nat.reduceAdd, IOp.dst, IOp.isF, IOp.args, coolOp, Nat.reduceSub, rdx, wid, h0, h1, hr, h5, ho5, h6, hwk]; rfl) | (simp only [↓xP, xQ, xR, flatR, eqCells_ok, eqSh, eqBs, Nat.reduceLT, decide_true, Nat.reduceBEq, Nat.reduceAdd, IOp.dst, IOp.isF, IOp.args, coolOp, Nat.reduceSub, rdx, wid, h0, h1, hr, h5, ho5, h6, hwk]; omega))⟩
  | zero =>
    have hk : ¬ (0 : Int) < ((0 : Nat) : Int) := by omega
    obtain ⟨v0, hv0, hvl0⟩ := pk hb q 16 (by omega) (by omega)
    have app1 : ∀ (l : List Pair) a b, l.map Pair.u ++ [[.str a, .int .i64 b]] = (l ++ [(⟨a, b⟩ : Pair)]).map Pair.u := fun l a b => by simp [Pair.u]
    have htk : ∀ (l : List Pair) x, List.take (l.length + 1) (List.map Pair.u (l ++ [x])) = List.map Pair.u (l ++ [x]) := fun l x => List.take_of_length_le (by simp)
    have q49 : ∀ l : List Pair, l.length ≤ 48 → l.length + 1 ≤ maxLen ∧ (l.length + 1) * 24 ≤ 140737488355328 := fun l h => small_max (by omega) (by omega)
    by_cases h15 : (v0 : Int) = 15
    case neg =>
      obtain ⟨bo, q4, hod, hq4, hq4', _⟩ := odd_ok hb (q + 1) n (by omega) hn
      obtain ⟨w, hw, hwl⟩ := pk hb q4 5 (by omega) (by omega)
      have q5 := q49 l hl
      cases b <;> cases bo
      all_goals simp only [wid] at *
      · simp only [↓xP, xQ, xR, flatR, eqCells_ok, eqSh, eqBs, Nat.reduceLT, decide_true, Nat.reduceBEq, Nat.reduceAdd, IOp.dst, IOp.isF, IOp.args, coolOp, Nat.reduceSub, rdx, h0, h1, hr, h5, ho5, h6, gt_iff_lt, hk, hv0, h15, hod, map_all]
        exact ⟨_, _, q4, rfl, by omega, by omega, rfl, l, rfl, by omega⟩
      · rcases (show w = 0 ∨ w = 1 ∨ w = 2 ∨ w = 3 ∨ w = 4 by omega) with rfl | rfl | rfl | rfl | rfl <;> simp only [↓xP, xQ, xR, flatR, eqCells_ok, eqSh, eqBs, Nat.reduceLT, decide_true, Nat.reduceBEq, Nat.reduceAdd, IOp.dst, IOp.isF, IOp.args, coolOp, Nat.reduceSub, rdx, h0, h1, hr, h5, ho5, h6, gt_iff_lt, hk, hv0, h15, hod, hw, List.length_map, q5.1, q5.2, app1, htk, List.length_append, List.length_cons, List.length_nil, Nat.zero_add, Nat.le_refl] <;> (refine ⟨_, _, q4 + 1, rfl, by omega, by omega, rfl, _, rfl, ?_⟩; simp only [List.length_append, List.length_cons, List.length_nil]; omega)
      · simp only [↓xP, xQ, xR, flatR, eqCells_ok, eqSh, eqBs, Nat.reduceLT, decide_true, Nat.reduceBEq, Nat.reduceAdd, IOp.dst, IOp.isF, IOp.args, coolOp, Nat.reduceSub, rdx, h0, h1, hr, h5, ho5, h6, gt_iff_lt, hk, hv0, h15, hod, map_all]
        exact ⟨_, _, q4, rfl, by omega, by omega, rfl, l, rfl, by omega⟩
      · rcases (show w = 0 ∨ w = 1 ∨ w = 2 ∨ w = 3 ∨ w = 4 by omega) with rfl | rfl | rfl | rfl | rfl <;> simp only [↓xP, xQ, xR, flatR, eqCells_ok, eqSh, eqBs, Nat.reduceLT, decide_true, Nat.reduceBEq, Nat.reduceAdd, IOp.dst, IOp.isF, IOp.args, coolOp, Nat.reduceSub, rdx, h0, h1, hr, h5, ho5, h6, gt_iff_lt, hk, hv0, h15, hod, hw, List.length_map, q5.1, q5.2, app1, htk, List.length_append, List.length_cons, List.length_nil, Nat.zero_add, Nat.le_refl] <;> (refine ⟨_, _, q4 + 1, rfl, by omega, by omega, rfl, _, rfl, ?_⟩; simp only [List.length_append, List.length_cons, List.length_nil]; omega)
    clear ih
    cases b
    · simp only [wid] at *
      simp only [↓xP, xQ, xR, flatR, eqCells_ok, eqSh, eqBs, Nat.reduceLT, decide_true, Nat.reduceBEq, Nat.reduceAdd, IOp.dst, IOp.isF, IOp.args, coolOp, Nat.reduceSub, rdx, h0, h1, hr, h5, ho5, h6, gt_iff_lt, hk, hv0, h15]
      refine loop_pred (fun (a : Nat × Bool × List Pair) st => a.1 ≤ 200 ∧ a.2.2.length ≤ 48 ∧ st.s 0 = .t RP0 ∧ st.s 1 = DI n ∧ st.o (.par 0) = some (rd bs (q + 1)) ∧ st.s 5 = .t (.sc (.own (wid (.loc 12 0) (.loc 47 0) a.2.1) a.2.2.length)) ∧ st.o (wid (.loc 12 0) (.loc 47 0) a.2.1) = some (.row 2 (a.2.2.map Pair.u)) ∧ st.s 9 = DI a.1) (fun a => 200 - a.1) ?_ (0, false, l) ⟨by simp, hl, (by and_intros <;> first | omega | rfl | (simp only [↓xP, xQ, xR, flatR, eqCells_ok, eqSh, eqBs, Nat.reduceLT, decide_true, Nat.reduceBEq, Nat.reduceAdd, IOp.dst, IOp.isF, IOp.args, coolOp, Nat.reduceSub, rdx, wid, h0, h1, hr, h5, ho5, h6]; done) | (simp only [↓xP, xQ, xR, flatR, eqCells_ok, eqSh, eqBs, Nat.reduceLT, decide_true, Nat.reduceBEq, Nat.reduceAdd, IOp.dst, IOp.isF, IOp.args, coolOp, Nat.reduceSub, rdx, wid, h0, h1, hr, h5, ho5, h6]; rfl) | (simp only [↓xP, xQ, xR, flatR, eqCells_ok, eqSh, eqBs, Nat.reduceLT, decide_true, Nat.reduceBEq, Nat.reduceAdd, IOp.dst, IOp.isF, IOp.args, coolOp, Nat.reduceSub, rdx, wid, h0, h1, hr, h5, ho5, h6]; omega))⟩
      clear h0 h1 hr h5 ho5 h6 hl
      rintro ⟨k, b, l⟩ st ⟨hle, hl, h0, h1, hr, h5, ho5, h9⟩ ih
      dsimp only at *
      obtain ⟨bo, q4, hod, hq4, hq4', _⟩ := odd_ok hb (q + 1) n (by omega) hn
      obtain ⟨w, hw, hwl⟩ := pk hb q4 5 (by omega) (by omega)
      have q5 := q49 l hl
      by_cases h48 : (l.length : Int) < 48
      · by_cases h200 : (k : Int) < 200
        · have hwk := w_succ (i := k) (by omega)
          obtain ⟨r, hka, s, rfl, hls⟩ := keyAt_some (IntKind.i64.wrap ((k : Int) * 9))
          have hpp := pairPut_spec l s k (by omega)
          have hpl := pairPut_len l s k
          generalize pairPut l s k = pp at hpp hpl
          obtain ⟨l', ok⟩ := pp
          simp only [listRet] at hpp
          dsimp only at hpl
          cases b
          all_goals
            simp only [wid] at *
            simp only [↓xP, xQ, xR, flatR, eqCells_ok, eqSh, eqBs, Nat.reduceLT, decide_true, Nat.reduceBEq, Nat.reduceAdd, IOp.dst, IOp.isF, IOp.args, coolOp, Nat.reduceSub, rdx, h0, h1, hr, h5, ho5, h9, List.length_map, h48, h200, hka, hpp, hwk, map_all]
            exact ih (k + 1, true, l') _ (by dsimp only; omega) ⟨by dsimp only; omega, hpl, (by and_intros <;> first | omega | rfl | (simp only [↓xP, xQ, xR, flatR, eqCells_ok, eqSh, eqBs, Nat.reduceLT, decide_true, Nat.reduceBEq, Nat.reduceAdd, IOp.dst, IOp.isF, IOp.args, coolOp, Nat.reduceSub, rdx, wid, h0, h1, hr, h5, ho5, h9, hwk]; done) | (simp only [↓xP, xQ, xR, flatR, eqCells_ok, eqSh, eqBs, Nat.reduceLT, decide_true, Nat.reduceBEq, Nat.reduceAdd, IOp.dst, IOp.isF, IOp.args, coolOp, Nat.reduceSub, rdx, wid, h0, h1, hr, h5, ho5, h9, hwk]; rfl) | (simp only [↓xP, xQ, xR, flatR, eqCells_ok, eqSh, eqBs, Nat.reduceLT, decide_true, Nat.reduceBEq, Nat.reduceAdd, IOp.dst, IOp.isF, IOp.args, coolOp, Nat.reduceSub, rdx, wid, h0, h1, hr, h5, ho5, h9, hwk]; omega))⟩
        · cases b <;> cases bo
          all_goals simp only [wid] at *
          · simp only [↓xP, xQ, xR, flatR, eqCells_ok, eqSh, eqBs, Nat.reduceLT, decide_true, Nat.reduceBEq, Nat.reduceAdd, IOp.dst, IOp.isF, IOp.args, coolOp, Nat.reduceSub, rdx, h0, h1, hr, h5, ho5, h9, List.length_map, h48, h200, hod, map_all]
            exact ⟨_, _, q4, rfl, by omega, by omega, rfl, l, rfl, by omega⟩
          · rcases (show w = 0 ∨ w = 1 ∨ w = 2 ∨ w = 3 ∨ w = 4 by omega) with rfl | rfl | rfl | rfl | rfl <;> simp only [↓xP, xQ, xR, flatR, eqCells_ok, eqSh, eqBs, Nat.reduceLT, decide_true, Nat.reduceBEq, Nat.reduceAdd, IOp.dst, IOp.isF, IOp.args, coolOp, Nat.reduceSub, rdx, h0, h1, hr, h5, ho5, h9, List.length_map, h48, h200, hod, hw, q5.1, q5.2, app1, htk, List.length_append, List.length_cons, List.length_nil, Nat.zero_add, Nat.le_refl] <;> (refine ⟨_, _, q4 + 1, rfl, by omega, by omega, rfl, _, rfl, ?_⟩; simp only [List.length_append, List.length_cons, List.length_nil]; omega)
          · simp only [↓xP, xQ, xR, flatR, eqCells_ok, eqSh, eqBs, Nat.reduceLT, decide_true, Nat.reduceBEq, Nat.reduceAdd, IOp.dst, IOp.isF, IOp.args, coolOp, Nat.reduceSub, rdx, h0, h1, hr, h5, ho5, h9, List.length_map, h48, h200, hod, map_all]
            exact ⟨_, _, q4, rfl, by omega, by omega, rfl, l, rfl, by omega⟩
          · rcases (show w = 0 ∨ w = 1 ∨ w = 2 ∨ w = 3 ∨ w = 4 by omega) with rfl | rfl | rfl | rfl | rfl <;> simp only [↓xP, xQ, xR, flatR, eqCells_ok, eqSh, eqBs, Nat.reduceLT, decide_true, Nat.reduceBEq, Nat.reduceAdd, IOp.dst, IOp.isF, IOp.args, coolOp, Nat.reduceSub, rdx, h0, h1, hr, h5, ho5, h9, List.length_map, h48, h200, hod, hw, q5.1, q5.2, app1, htk, List.length_append, List.length_cons, List.length_nil, Nat.zero_add, Nat.le_refl] <;> (refine ⟨_, _, q4 + 1, rfl, by omega, by omega, rfl, _, rfl, ?_⟩; simp only [List.length_append, List.length_cons, List.length_nil]; omega)
      · cases b <;> cases bo
        all_goals simp only [wid] at *
        · simp only [↓xP, xQ, xR, flatR, eqCells_ok, eqSh, eqBs, Nat.reduceLT, decide_true, Nat.reduceBEq, Nat.reduceAdd, IOp.dst, IOp.isF, IOp.args, coolOp, Nat.reduceSub, rdx, h0, h1, hr, h5, ho5, h9, List.length_map, h48, hod, map_all]
          exact ⟨_, _, q4, rfl, by omega, by omega, rfl, l, rfl, by omega⟩
        · rcases (show w = 0 ∨ w = 1 ∨ w = 2 ∨ w = 3 ∨ w = 4 by omega) with rfl | rfl | rfl | rfl | rfl <;> simp only [↓xP, xQ, xR, flatR, eqCells_ok, eqSh, eqBs, Nat.reduceLT, decide_true, Nat.reduceBEq, Nat.reduceAdd, IOp.dst, IOp.isF, IOp.args, coolOp, Nat.reduceSub, rdx, h0, h1, hr, h5, ho5, h9, List.length_map, h48, hod, hw, q5.1, q5.2, app1, htk, List.length_append, List.length_cons, List.length_nil, Nat.zero_add, Nat.le_refl] <;> (refine ⟨_, _, q4 + 1, rfl, by omega, by omega, rfl, _, rfl, ?_⟩; simp only [List.length_append, List.length_cons, List.length_nil]; omega)
        · simp only [↓xP, xQ, xR, flatR, eqCells_ok, eqSh, eqBs, Nat.reduceLT, decide_true, Nat.reduceBEq, Nat.reduceAdd, IOp.dst, IOp.isF, IOp.args, coolOp, Nat.reduceSub, rdx, h0, h1, hr, h5, ho5, h9, List.length_map, h48, hod, map_all]
          exact ⟨_, _, q4, rfl, by omega, by omega, rfl, l, rfl, by omega⟩
        · rcases (show w = 0 ∨ w = 1 ∨ w = 2 ∨ w = 3 ∨ w = 4 by omega) with rfl | rfl | rfl | rfl | rfl <;> simp only [↓xP, xQ, xR, flatR, eqCells_ok, eqSh, eqBs, Nat.reduceLT, decide_true, Nat.reduceBEq, Nat.reduceAdd, IOp.dst, IOp.isF, IOp.args, coolOp, Nat.reduceSub, rdx, h0, h1, hr, h5, ho5, h9, List.length_map, h48, hod, hw, q5.1, q5.2, app1, htk, List.length_append, List.length_cons, List.length_nil, Nat.zero_add, Nat.le_refl] <;> (refine ⟨_, _, q4 + 1, rfl, by omega, by omega, rfl, _, rfl, ?_⟩; simp only [List.length_append, List.length_cons, List.length_nil]; omega)
    · simp only [wid] at *
      simp only [↓xP, xQ, xR, flatR, eqCells_ok, eqSh, eqBs, Nat.reduceLT, decide_true, Nat.reduceBEq, Nat.reduceAdd, IOp.dst, IOp.isF, IOp.args, coolOp, Nat.reduceSub, rdx, h0, h1, hr, h5, ho5, h6, gt_iff_lt, hk, hv0, h15]
      refine loop_pred (fun (a : Nat × Bool × List Pair) st => a.1 ≤ 200 ∧ a.2.2.length ≤ 48 ∧ st.s 0 = .t RP0 ∧ st.s 1 = DI n ∧ st.o (.par 0) = some (rd bs (q + 1)) ∧ st.s 5 = .t (.sc (.own (wid (.loc 25 0) (.loc 47 0) a.2.1) a.2.2.length)) ∧ st.o (wid (.loc 25 0) (.loc 47 0) a.2.1) = some (.row 2 (a.2.2.map Pair.u)) ∧ st.s 9 = DI a.1) (fun a => 200 - a.1) ?_ (0, false, l) ⟨by simp, hl, (by and_intros <;> first | omega | rfl | (simp only [↓xP, xQ, xR, flatR, eqCells_ok, eqSh, eqBs, Nat.reduceLT, decide_true, Nat.reduceBEq, Nat.reduceAdd, IOp.dst, IOp.isF, IOp.args, coolOp, Nat.reduceSub, rdx, wid, h0, h1, hr, h5, ho5, h6]; done) | (simp only [↓xP, xQ, xR, flatR, eqCells_ok, eqSh, eqBs, Nat.reduceLT, decide_true, Nat.reduceBEq, Nat.reduceAdd, IOp.dst, IOp.isF, IOp.args, coolOp, Nat.reduceSub, rdx, wid, h0, h1, hr, h5, ho5, h6]; rfl) | (simp only [↓xP, xQ, xR, flatR, eqCells_ok, eqSh, eqBs, Nat.reduceLT, decide_true, Nat.reduceBEq, Nat.reduceAdd, IOp.dst, IOp.isF, IOp.args, coolOp, Nat.reduceSub, rdx, wid, h0, h1, hr, h5, ho5, h6]; omega))⟩
      clear h0 h1 hr h5 ho5 h6 hl
      rintro ⟨k, b, l⟩ st ⟨hle, hl, h0, h1, hr, h5, ho5, h9⟩ ih
      dsimp only at *
      obtain ⟨bo, q4, hod, hq4, hq4', _⟩ := odd_ok hb (q + 1) n (by omega) hn
      obtain ⟨w, hw, hwl⟩ := pk hb q4 5 (by omega) (by omega)
      have q5 := q49 l hl
      by_cases h48 : (l.length : Int) < 48
      · by_cases h200 : (k : Int) < 200
        · have hwk := w_succ (i := k) (by omega)
          obtain ⟨r, hka, s, rfl, hls⟩ := keyAt_some (IntKind.i64.wrap ((k : Int) * 9))
          have hpp := pairPut_spec l s k (by omega)
          have hpl := pairPut_len l s k
          generalize pairPut l s k = pp at hpp hpl
          obtain ⟨l', ok⟩ := pp
          simp only [listRet] at hpp
          dsimp only at hpl
          cases b
          all_goals
            simp only [wid] at *
            simp only [↓xP, xQ, xR, flatR, eqCells_ok, eqSh, eqBs, Nat.reduceLT, decide_true, Nat.reduceBEq, Nat.reduceAdd, IOp.dst, IOp.isF, IOp.args, coolOp, Nat.reduceSub, rdx, h0, h1, hr, h5, ho5, h9, List.length_map, h48, h200, hka, hpp, hwk, map_all]
            exact ih (k + 1, true, l') _ (by dsimp only; omega) ⟨by dsimp only; omega, hpl, (by and_intros <;> first | omega | rfl | (simp only [↓xP, xQ, xR, flatR, eqCells_ok, eqSh, eqBs, Nat.reduceLT, decide_true, Nat.reduceBEq, Nat.reduceAdd, IOp.dst, IOp.isF, IOp.args, coolOp, Nat.reduceSub, rdx, wid, h0, h1, hr, h5, ho5, h9, hwk]; done) | (simp only [↓xP, xQ, xR, flatR, eqCells_ok, eqSh, eqBs, Nat.reduceLT, decide_true, Nat.reduceBEq, Nat.reduceAdd, IOp.dst, IOp.isF, IOp.args, coolOp, Nat.reduceSub, rdx, wid, h0, h1, hr, h5, ho5, h9, hwk]; rfl) | (simp only [↓xP, xQ, xR, flatR, eqCells_ok, eqSh, eqBs, Nat.reduceLT, decide_true, Nat.reduceBEq, Nat.reduceAdd, IOp.dst, IOp.isF, IOp.args, coolOp, Nat.reduceSub, rdx, wid, h0, h1, hr, h5, ho5, h9, hwk]; omega))⟩
        · cases b <;> cases bo
          all_goals simp only [wid] at *
          · simp only [↓xP, xQ, xR, flatR, eqCells_ok, eqSh, eqBs, Nat.reduceLT, decide_true, Nat.reduceBEq, Nat.reduceAdd, IOp.dst, IOp.isF, IOp.args, coolOp, Nat.reduceSub, rdx, h0, h1, hr, h5, ho5, h9, List.length_map, h48, h200, hod, map_all]
            exact ⟨_, _, q4, rfl, by omega, by omega, rfl, l, rfl, by omega⟩
          · rcases (show w = 0 ∨ w = 1 ∨ w = 2 ∨ w = 3 ∨ w = 4 by omega) with rfl | rfl | rfl | rfl | rfl <;> simp only [↓xP, xQ, xR, flatR, eqCells_ok, eqSh, eqBs, Nat.reduceLT, decide_true, Nat.reduceBEq, Nat.reduceAdd, IOp.dst, IOp.isF, IOp.args, coolOp, Nat.reduceSub, rdx, h0, h1, hr, h5, ho5, h9, List.length_map, h48, h200, hod, hw, q5.1, q5.2, app1, htk, List.length_append, List.length_cons, List.length_nil, Nat.zero_add, Nat.le_refl] <;> (refine ⟨_, _, q4 + 1, rfl, by omega, by omega, rfl, _, rfl, ?_⟩; simp only [List.length_append, List.length_cons, List.length_nil]; omega)
          · simp only [↓xP, xQ, xR, flatR, eqCells_ok, eqSh, eqBs, Nat.reduceLT, decide_true, Nat.reduceBEq, Nat.reduceAdd, IOp.dst, IOp.isF, IOp.args, coolOp, Nat.reduceSub, rdx, h0, h1, hr, h5, ho5, h9, List.length_map, h48, h200, hod, map_all]
            exact ⟨_, _, q4, rfl, by omega, by omega, rfl, l, rfl, by omega⟩
          · rcases (show w = 0 ∨ w = 1 ∨ w = 2 ∨ w = 3 ∨ w = 4 by omega) with rfl | rfl | rfl | rfl | rfl <;> simp only [↓xP, xQ, xR, flatR, eqCells_ok, eqSh, eqBs, Nat.reduceLT, decide_true, Nat.reduceBEq, Nat.reduceAdd, IOp.dst, IOp.isF, IOp.args, coolOp, Nat.reduceSub, rdx, h0, h1, hr, h5, ho5, h9, List.length_map, h48, h200, hod, hw, q5.1, q5.2, app1, htk, List.length_append, List.length_cons, List.length_nil, Nat.zero_add, Nat.le_refl] <;> (refine ⟨_, _, q4 + 1, rfl, by omega, by omega, rfl, _, rfl, ?_⟩; simp only [List.length_append, List.length_cons, List.length_nil]; omega)
      · cases b <;> cases bo
        all_goals simp only [wid] at *
        · simp only [↓xP, xQ, xR, flatR, eqCells_ok, eqSh, eqBs, Nat.reduceLT, decide_true, Nat.reduceBEq, Nat.reduceAdd, IOp.dst, IOp.isF, IOp.args, coolOp, Nat.reduceSub, rdx, h0, h1, hr, h5, ho5, h9, List.length_map, h48, hod, map_all]
          exact ⟨_, _, q4, rfl, by omega, by omega, rfl, l, rfl, by omega⟩
        · rcases (show w = 0 ∨ w = 1 ∨ w = 2 ∨ w = 3 ∨ w = 4 by omega) with rfl | rfl | rfl | rfl | rfl <;> simp only [↓xP, xQ, xR, flatR, eqCells_ok, eqSh, eqBs, Nat.reduceLT, decide_true, Nat.reduceBEq, Nat.reduceAdd, IOp.dst, IOp.isF, IOp.args, coolOp, Nat.reduceSub, rdx, h0, h1, hr, h5, ho5, h9, List.length_map, h48, hod, hw, q5.1, q5.2, app1, htk, List.length_append, List.length_cons, List.length_nil, Nat.zero_add, Nat.le_refl] <;> (refine ⟨_, _, q4 + 1, rfl, by omega, by omega, rfl, _, rfl, ?_⟩; simp only [List.length_append, List.length_cons, List.length_nil]; omega)
        · simp only [↓xP, xQ, xR, flatR, eqCells_ok, eqSh, eqBs, Nat.reduceLT, decide_true, Nat.reduceBEq, Nat.reduceAdd, IOp.dst, IOp.isF, IOp.args, coolOp, Nat.reduceSub, rdx, h0, h1, hr, h5, ho5, h9, List.length_map, h48, hod, map_all]
          exact ⟨_, _, q4, rfl, by omega, by omega, rfl, l, rfl, by omega⟩
        · rcases (show w = 0 ∨ w = 1 ∨ w = 2 ∨ w = 3 ∨ w = 4 by omega) with rfl | rfl | rfl | rfl | rfl <;> simp only [↓xP, xQ, xR, flatR, eqCells_ok, eqSh, eqBs, Nat.reduceLT, decide_true, Nat.reduceBEq, Nat.reduceAdd, IOp.dst, IOp.isF, IOp.args, coolOp, Nat.reduceSub, rdx, h0, h1, hr, h5, ho5, h9, List.length_map, h48, hod, hw, q5.1, q5.2, app1, htk, List.length_append, List.length_cons, List.length_nil, Nat.zero_add, Nat.le_refl] <;> (refine ⟨_, _, q4 + 1, rfl, by omega, by omega, rfl, _, rfl, ?_⟩; simp only [List.length_append, List.length_cons, List.length_nil]; omega)
theorem l20Session_ok {bs : List Int} (hb : Bytes bs) (p : Nat) (n : Int) (hn : n ≤ 1048576) (hp : p ≤ 100000000) : Gd bs p 6 (fun r m => m = [] ∧ ∃ x : Session, r = [.ag [.u (.int .i64 x.client), .u (.int .i64 x.seq), .u (.int .i64 x.reply)]]) (EE F 217 [RP0, I n] [rd bs p]) := by
  refine Gd.run (fn := i217) (by kernel_rfl) rfl ?_
  simp only [i217, b217, argSt, insSt]
  obtain ⟨b, q, ho, hq1, hq2, _⟩ := odd_ok hb p n (by omega) hn
  cases b with
  | true =>
    obtain ⟨v, hv, hvl⟩ := pk hb q 6 (by omega) (by omega)
    rcases (show v = 0 ∨ v = 1 ∨ v = 2 ∨ v = 3 ∨ v = 4 ∨ v = 5 by omega) with rfl | rfl | rfl | rfl | rfl | rfl <;> simp only [↓xP, xQ, xR, flatR, eqCells_ok, eqSh, eqBs, Nat.reduceLT, decide_true, Nat.reduceBEq, Nat.reduceAdd, IOp.dst, IOp.isF, IOp.args, coolOp, Nat.reduceSub, rdx, ho, hv] <;> exact ⟨_, _, q + 1, rfl, by omega, by omega, rfl, ⟨_, _, _⟩, rfl⟩
  | false =>
    obtain ⟨v, hv, hvl⟩ := pk hb q 4 (by omega) (by omega)
    obtain ⟨w, hw, hwl⟩ := pk hb (q + 1) 6 (by omega) (by omega)
    obtain ⟨z, hz, hzl⟩ := pk hb (q + 1 + 1) 9 (by omega) (by omega)
    simp only [↓xP, xQ, xR, flatR, eqCells_ok, eqSh, eqBs, Nat.reduceLT, decide_true, Nat.reduceBEq, Nat.reduceAdd, IOp.dst, IOp.isF, IOp.args, coolOp, Nat.reduceSub, rdx, ho, hv, hw, hz]
    exact ⟨_, _, q + 3, rfl, by omega, by omega, rfl, ⟨_, _, _⟩, rfl⟩
theorem l9Find_some (l : List Session) (c : Int) (hn : l.length ≤ 1048576) : ∃ x : Session, EE F 246 [L 3 (l.map Session.u), I c] [] = some ⟨[.ag [.u (.int .i64 x.client), .u (.int .i64 x.seq), .u (.int .i64 x.reply)]], [], []⟩ := by
  suffices h : Ok (fun r => ∃ x : Session, r = ⟨[.ag [.u (.int .i64 x.client), .u (.int .i64 x.seq), .u (.int .i64 x.reply)]], [], []⟩) (EE F 246 [L 3 (l.map Session.u), I c] []) by
    obtain ⟨r, hr, x, rfl⟩ := h
    exact ⟨x, hr⟩
  refine Ok.run (fn := i246) (by kernel_rfl) rfl ?_
  simp only [i246, b246, argSt, insSt]
  simp only [↓xP, xQ, xR, flatR, eqCells_ok, eqSh, eqBs, Nat.reduceLT, decide_true, Nat.reduceBEq, Nat.reduceAdd, IOp.dst, IOp.isF, IOp.args, coolOp, Nat.reduceSub]
  refine loop_pred (fun (i : Nat) st => i ≤ l.length ∧ st.s 0 = DU (.sl 3 (l.map Session.u)) ∧ st.s 1 = DI c ∧ st.s 4 = .t (.sc (.ptr (.loc 4 0) 0 0)) ∧ st.o (.loc 4 0) = some (.box [.u (.int .i64 0), .u (.int .i64 0), .u (.int .i64 0)]) ∧ st.s 5 = DI i) (fun i => l.length - i) ?_ 0 ⟨by omega, (by and_intros <;> first | omega | rfl | (simp only [↓xP, xQ, xR, flatR, eqCells_ok, eqSh, eqBs, Nat.reduceLT, decide_true, Nat.reduceBEq, Nat.reduceAdd, IOp.dst, IOp.isF, IOp.args, coolOp, Nat.reduceSub]; done) | (simp only [↓xP, xQ, xR, flatR, eqCells_ok, eqSh, eqBs, Nat.reduceLT, decide_true, Nat.reduceBEq, Nat.reduceAdd, IOp.dst, IOp.isF, IOp.args, coolOp, Nat.reduceSub]; rfl) | (simp only [↓xP, xQ, xR, flatR, eqCells_ok, eqSh, eqBs, Nat.reduceLT, decide_true, Nat.reduceBEq, Nat.reduceAdd, IOp.dst, IOp.isF, IOp.args, coolOp, Nat.reduceSub]; omega))⟩
  rintro i st ⟨hle, h0, h1, h4, ho4, h5⟩ ih
  by_cases hi : i < l.length
  · obtain ⟨⟨xc, xs, xr⟩, hx⟩ : ∃ p, l[i]? = some p := ⟨_, List.getElem?_eq_getElem hi⟩
    have hw := w_succ (i := i) (by omega)
    simp only [↓xP, xQ, xR, flatR, eqCells_ok, eqSh, eqBs, Nat.reduceLT, decide_true, Nat.reduceBEq, Nat.reduceAdd, IOp.dst, IOp.isF, IOp.args, coolOp, Nat.reduceSub, h0, h1, h4, ho4, h5, List.length_map, hi, hx, Session.u]
    refine sel_pred (fun h => ?_) (fun h => ?_)
    · exact ⟨_, rfl, ⟨_, _, _⟩, rfl⟩
    · simp only [↓xP, xQ, xR, flatR, eqCells_ok, eqSh, eqBs, Nat.reduceLT, decide_true, Nat.reduceBEq, Nat.reduceAdd, IOp.dst, IOp.isF, IOp.args, coolOp, Nat.reduceSub, h0, h1, h4, ho4, h5, hw]
      exact ih (i + 1) _ (by omega) ⟨by omega, (by and_intros <;> first | omega | rfl | (simp only [↓xP, xQ, xR, flatR, eqCells_ok, eqSh, eqBs, Nat.reduceLT, decide_true, Nat.reduceBEq, Nat.reduceAdd, IOp.dst, IOp.isF, IOp.args, coolOp, Nat.reduceSub, h0, h1, h4, ho4, h5, hw]; done) | (simp only [↓xP, xQ, xR, flatR, eqCells_ok, eqSh, eqBs, Nat.reduceLT, decide_true, Nat.reduceBEq, Nat.reduceAdd, IOp.dst, IOp.isF, IOp.args, coolOp, Nat.reduceSub, h0, h1, h4, ho4, h5, hw]; rfl) | (simp only [↓xP, xQ, xR, flatR, eqCells_ok, eqSh, eqBs, Nat.reduceLT, decide_true, Nat.reduceBEq, Nat.reduceAdd, IOp.dst, IOp.isF, IOp.args, coolOp, Nat.reduceSub, h0, h1, h4, ho4, h5, hw]; omega))⟩
  · simp only [↓xP, xQ, xR, flatR, eqCells_ok, eqSh, eqBs, Nat.reduceLT, decide_true, Nat.reduceBEq, Nat.reduceAdd, IOp.dst, IOp.isF, IOp.args, coolOp, Nat.reduceSub, h0, h1, h4, ho4, h5, List.length_map, hi]
    exact ⟨_, rfl, ⟨_, _, _⟩, rfl⟩
theorem sessionSeq_some (l : List Session) (c : Int) (hn : l.length ≤ 1048576) : ∃ v : Int, EE F 234 [L 3 (l.map Session.u), I c] [] = ok1 (I v) := by
  obtain ⟨x, hx⟩ := l9Find_some l c hn
  have hv := sessionsValid_spec l (by omega)
  cases h1 : sessionsValid l
  · refine ⟨-1, ?_⟩
    rw [R234, b234]
    simp only [↓xP, xQ, xR, flatR, eqCells_ok, eqSh, eqBs, Nat.reduceLT, decide_true, Nat.reduceBEq, Nat.reduceAdd, IOp.dst, IOp.isF, IOp.args, coolOp, Nat.reduceSub, hv, h1]
  cases h2 : inR c 0 3
  · refine ⟨-1, ?_⟩
    rw [R234, b234]
    simp only [↓xP, xQ, xR, flatR, eqCells_ok, eqSh, eqBs, Nat.reduceLT, decide_true, Nat.reduceBEq, Nat.reduceAdd, IOp.dst, IOp.isF, IOp.args, coolOp, Nat.reduceSub, hv, h1, l1In_ok, h2]
  · refine ⟨x.seq, ?_⟩
    rw [R234, b234]
    simp only [↓xP, xQ, xR, flatR, eqCells_ok, eqSh, eqBs, Nat.reduceLT, decide_true, Nat.reduceBEq, Nat.reduceAdd, IOp.dst, IOp.isF, IOp.args, coolOp, Nat.reduceSub, hv, h1, l1In_ok, h2, hx]
theorem sessionPut_some (l : List Session) (xc xs xr : Int) (hn : l.length ≤ 1000000) : Ok (fun r => ∃ (l' : List Session) (b : Bool), r = ⟨[.sc (.own (.par 0) l'.length), B b], [.row 3 (l'.map Session.u)], []⟩ ∧ l'.length ≤ l.length + 1) (EE F 216 [L 3 (l.map Session.u), .ag [.u (.int .i64 xc), .u (.int .i64 xs), .u (.int .i64 xr)]] []) := by
  refine Ok.run (fn := i216) (by kernel_rfl) rfl ?_
  simp only [i216, b216, argSt, insSt]
  have hv := sessionsValid_spec l (by omega)
  have hv1 := sessionsValid_spec [⟨xc, xs, xr⟩] (by simp)
  simp only [List.map_cons, List.map_nil, Session.u] at hv1
  cases h1 : sessionsValid l
  · simp only [↓xP, xQ, xR, flatR, eqCells_ok, eqSh, eqBs, Nat.reduceLT, decide_true, Nat.reduceBEq, Nat.reduceAdd, IOp.dst, IOp.isF, IOp.args, coolOp, Nat.reduceSub, hv, h1]
    exact ⟨_, rfl, [], _, rfl, by simp⟩
  cases h2 : sessionsValid [⟨xc, xs, xr⟩]
  · simp only [↓xP, xQ, xR, flatR, eqCells_ok, eqSh, eqBs, Nat.reduceLT, decide_true, Nat.reduceBEq, Nat.reduceAdd, IOp.dst, IOp.isF, IOp.args, coolOp, Nat.reduceSub, hv, h1, hv1, h2]
    exact ⟨_, rfl, [], _, rfl, by simp⟩
  obtain ⟨sq, hsq⟩ := sessionSeq_some l xc (by omega)
  have q0 : l.length ≤ maxLen ∧ l.length * 24 ≤ 140737488355328 := small_max (by omega) (by omega)
  simp only [↓xP, xQ, xR, flatR, eqCells_ok, eqSh, eqBs, Nat.reduceLT, decide_true, Nat.reduceBEq, Nat.reduceAdd, IOp.dst, IOp.isF, IOp.args, coolOp, Nat.reduceSub, hv, h1, hv1, h2, hsq]
  refine sel_pred (fun h3 => ?_) (fun h3 => ?_)
  · simp only [↓xP, xQ, xR, flatR, eqCells_ok, eqSh, eqBs, Nat.reduceLT, decide_true, Nat.reduceBEq, Nat.reduceAdd, IOp.dst, IOp.isF, IOp.args, coolOp, Nat.reduceSub, List.length_map, Nat.zero_add, List.nil_append, q0.1, q0.2, map_all]
    exact ⟨_, rfl, l, _, rfl, by omega⟩
  have app3 : ∀ (l : List Session) a b c, l.map Session.u ++ [[.int .i64 a, .int .i64 b, .int .i64 c]] = (l ++ [(⟨a, b, c⟩ : Session)]).map Session.u := fun l a b c => by simp [Session.u]
  have htk : ∀ (l : List Session) x, List.take (l.length + 1) (List.map Session.u (l ++ [x])) = List.map Session.u (l ++ [x]) := fun l x => List.take_of_length_le (by simp)
  refine loop_pred (fun (a : Nat × Bool × List Session) st => a.1 ≤ l.length ∧ a.2.2.length ≤ a.1 + a.2.1.toNat ∧ st.s 0 = DU (.sl 3 (l.map Session.u)) ∧ st.s 3 = .t (.sc (.ptr (.loc 3 0) 0 0)) ∧ st.o (.loc 3 0) = some (.box [.u (.int .i64 xc), .u (.int .i64 xs), .u (.int .i64 xr)]) ∧ st.s 6 = .t (.sc (.own (.loc 9 0) a.2.2.length)) ∧ st.o (.loc 9 0) = some (.row 3 (a.2.2.map Session.u)) ∧ st.s 7 = DB a.2.1 ∧ st.s 8 = DI a.1) (fun a => l.length - a.1) ?_ (0, false, []) ⟨by simp, by simp, (by and_intros <;> first | omega | rfl | (simp only [↓xP, xQ, xR, flatR, eqCells_ok, eqSh, eqBs, Nat.reduceLT, decide_true, Nat.reduceBEq, Nat.reduceAdd, IOp.dst, IOp.isF, IOp.args, coolOp, Nat.reduceSub]; done) | (simp only [↓xP, xQ, xR, flatR, eqCells_ok, eqSh, eqBs, Nat.reduceLT, decide_true, Nat.reduceBEq, Nat.reduceAdd, IOp.dst, IOp.isF, IOp.args, coolOp, Nat.reduceSub]; rfl) | (simp only [↓xP, xQ, xR, flatR, eqCells_ok, eqSh, eqBs, Nat.reduceLT, decide_true, Nat.reduceBEq, Nat.reduceAdd, IOp.dst, IOp.isF, IOp.args, coolOp, Nat.reduceSub]; omega))⟩
  rintro ⟨i, pl, m⟩ st ⟨hle, hml, h0, h3, ho3, h6, ho6, h7, h8⟩ ih
  dsimp only at *
  have hpl1 : pl.toNat ≤ 1 := by cases pl <;> simp
  have q1 : m.length + 1 ≤ maxLen ∧ (m.length + 1) * 24 ≤ 140737488355328 := small_max (by omega) (by omega)
  have q2 : m.length + 1 + 1 ≤ maxLen ∧ (m.length + 1 + 1) * 24 ≤ 140737488355328 := small_max (by omega) (by omega)
  by_cases hi : i < l.length
  · obtain ⟨⟨yc, ys, yr⟩, hy⟩ : ∃ p, l[i]? = some p := ⟨_, List.getElem?_eq_getElem hi⟩
    have hw := w_succ (i := i) (by omega)
    cases pl
    · simp only [Bool.toNat_false, Nat.add_zero] at hml
      simp only [↓xP, xQ, xR, flatR, eqCells_ok, eqSh, eqBs, Nat.reduceLT, decide_true, Nat.reduceBEq, Nat.reduceAdd, IOp.dst, IOp.isF, IOp.args, coolOp, Nat.reduceSub, h0, h3, ho3, h6, ho6, h7, h8, List.length_map, hi, hy, Session.u]
      refine sel_pred (fun h4 => ?_) (fun h4 => ?_)
      · simp only [↓xP, xQ, xR, flatR, eqCells_ok, eqSh, eqBs, Nat.reduceLT, decide_true, Nat.reduceBEq, Nat.reduceAdd, IOp.dst, IOp.isF, IOp.args, coolOp, Nat.reduceSub, h0, h3, ho3, h6, ho6, h7, h8, List.length_map, hi, hy, Session.u, q1.1, q1.2, app3]
        refine sel_pred (fun h5 => ?_) (fun h5 => ?_)
        · simp only [↓xP, xQ, xR, flatR, eqCells_ok, eqSh, eqBs, Nat.reduceLT, decide_true, Nat.reduceBEq, Nat.reduceAdd, IOp.dst, IOp.isF, IOp.args, coolOp, Nat.reduceSub, h0, h3, ho3, h6, ho6, h7, h8, List.length_map, hi, hy, Session.u, q1.1, q1.2, q2.1, q2.2, app3, hw, List.length_append, List.length_cons, List.length_nil, Nat.zero_add]
          exact ih (i + 1, true, m ++ [⟨xc, xs, xr⟩] ++ [⟨yc, ys, yr⟩]) _ (by dsimp only; omega) ⟨by dsimp only; omega, by simp; omega, (by and_intros <;> first | omega | rfl | (simp only [↓xP, xQ, xR, flatR, eqCells_ok, eqSh, eqBs, Nat.reduceLT, decide_true, Nat.reduceBEq, Nat.reduceAdd, IOp.dst, IOp.isF, IOp.args, coolOp, Nat.reduceSub, h0, h3, ho3, h6, ho6, h7, h8, hw, app3, List.length_append, List.length_cons, List.length_nil, Nat.zero_add]; done) | (simp only [↓xP, xQ, xR, flatR, eqCells_ok, eqSh, eqBs, Nat.reduceLT, decide_true, Nat.reduceBEq, Nat.reduceAdd, IOp.dst, IOp.isF, IOp.args, coolOp, Nat.reduceSub, h0, h3, ho3, h6, ho6, h7, h8, hw, app3, List.length_append, List.length_cons, List.length_nil, Nat.zero_add]; rfl) | (simp only [↓xP, xQ, xR, flatR, eqCells_ok, eqSh, eqBs, Nat.reduceLT, decide_true, Nat.reduceBEq, Nat.reduceAdd, IOp.dst, IOp.isF, IOp.args, coolOp, Nat.reduceSub, h0, h3, ho3, h6, ho6, h7, h8, hw, app3, List.length_append, List.length_cons, List.length_nil, Nat.zero_add]; omega))⟩
        · simp only [↓xP, xQ, xR, flatR, eqCells_ok, eqSh, eqBs, Nat.reduceLT, decide_true, Nat.reduceBEq, Nat.reduceAdd, IOp.dst, IOp.isF, IOp.args, coolOp, Nat.reduceSub, h0, h3, ho3, h6, ho6, h7, h8, List.length_map, hi, hy, Session.u, q1.1, q1.2, q2.1, q2.2, app3, hw, List.length_append, List.length_cons, List.length_nil, Nat.zero_add]
          exact ih (i + 1, true, m ++ [⟨xc, xs, xr⟩]) _ (by dsimp only; omega) ⟨by dsimp only; omega, by simp; omega, (by and_intros <;> first | omega | rfl | (simp only [↓xP, xQ, xR, flatR, eqCells_ok, eqSh, eqBs, Nat.reduceLT, decide_true, Nat.reduceBEq, Nat.reduceAdd, IOp.dst, IOp.isF, IOp.args, coolOp, Nat.reduceSub, h0, h3, ho3, h6, ho6, h7, h8, hw, app3, List.length_append, List.length_cons, List.length_nil, Nat.zero_add]; done) | (simp only [↓xP, xQ, xR, flatR, eqCells_ok, eqSh, eqBs, Nat.reduceLT, decide_true, Nat.reduceBEq, Nat.reduceAdd, IOp.dst, IOp.isF, IOp.args, coolOp, Nat.reduceSub, h0, h3, ho3, h6, ho6, h7, h8, hw, app3, List.length_append, List.length_cons, List.length_nil, Nat.zero_add]; rfl) | (simp only [↓xP, xQ, xR, flatR, eqCells_ok, eqSh, eqBs, Nat.reduceLT, decide_true, Nat.reduceBEq, Nat.reduceAdd, IOp.dst, IOp.isF, IOp.args, coolOp, Nat.reduceSub, h0, h3, ho3, h6, ho6, h7, h8, hw, app3, List.length_append, List.length_cons, List.length_nil, Nat.zero_add]; omega))⟩
      · simp only [↓xP, xQ, xR, flatR, eqCells_ok, eqSh, eqBs, Nat.reduceLT, decide_true, Nat.reduceBEq, Nat.reduceAdd, IOp.dst, IOp.isF, IOp.args, coolOp, Nat.reduceSub, h0, h3, ho3, h6, ho6, h7, h8, List.length_map, hi, hy, Session.u, q1.1, q1.2, app3]
        refine sel_pred (fun h5 => ?_) (fun h5 => ?_)
        · simp only [↓xP, xQ, xR, flatR, eqCells_ok, eqSh, eqBs, Nat.reduceLT, decide_true, Nat.reduceBEq, Nat.reduceAdd, IOp.dst, IOp.isF, IOp.args, coolOp, Nat.reduceSub, h0, h3, ho3, h6, ho6, h7, h8, List.length_map, hi, hy, Session.u, q1.1, q1.2, q2.1, q2.2, app3, hw, List.length_append, List.length_cons, List.length_nil, Nat.zero_add]
          exact ih (i + 1, false, m ++ [⟨yc, ys, yr⟩]) _ (by dsimp only; omega) ⟨by dsimp only; omega, by simp; omega, (by and_intros <;> first | omega | rfl | (simp only [↓xP, xQ, xR, flatR, eqCells_ok, eqSh, eqBs, Nat.reduceLT, decide_true, Nat.reduceBEq, Nat.reduceAdd, IOp.dst, IOp.isF, IOp.args, coolOp, Nat.reduceSub, h0, h3, ho3, h6, ho6, h7, h8, hw, app3, List.length_append, List.length_cons, List.length_nil, Nat.zero_add]; done) | (simp only [↓xP, xQ, xR, flatR, eqCells_ok, eqSh, eqBs, Nat.reduceLT, decide_true, Nat.reduceBEq, Nat.reduceAdd, IOp.dst, IOp.isF, IOp.args, coolOp, Nat.reduceSub, h0, h3, ho3, h6, ho6, h7, h8, hw, app3, List.length_append, List.length_cons, List.length_nil, Nat.zero_add]; rfl) | (simp only [↓xP, xQ, xR, flatR, eqCells_ok, eqSh, eqBs, Nat.reduceLT, decide_true, Nat.reduceBEq, Nat.reduceAdd, IOp.dst, IOp.isF, IOp.args, coolOp, Nat.reduceSub, h0, h3, ho3, h6, ho6, h7, h8, hw, app3, List.length_append, List.length_cons, List.length_nil, Nat.zero_add]; omega))⟩
        · simp only [↓xP, xQ, xR, flatR, eqCells_ok, eqSh, eqBs, Nat.reduceLT, decide_true, Nat.reduceBEq, Nat.reduceAdd, IOp.dst, IOp.isF, IOp.args, coolOp, Nat.reduceSub, h0, h3, ho3, h6, ho6, h7, h8, List.length_map, hi, hy, Session.u, q1.1, q1.2, q2.1, q2.2, app3, hw, List.length_append, List.length_cons, List.length_nil, Nat.zero_add]
          exact ih (i + 1, false, m) _ (by dsimp only; omega) ⟨by dsimp only; omega, by simp; omega, (by and_intros <;> first | omega | rfl | (simp only [↓xP, xQ, xR, flatR, eqCells_ok, eqSh, eqBs, Nat.reduceLT, decide_true, Nat.reduceBEq, Nat.reduceAdd, IOp.dst, IOp.isF, IOp.args, coolOp, Nat.reduceSub, h0, h3, ho3, h6, ho6, h7, h8, hw]; done) | (simp only [↓xP, xQ, xR, flatR, eqCells_ok, eqSh, eqBs, Nat.reduceLT, decide_true, Nat.reduceBEq, Nat.reduceAdd, IOp.dst, IOp.isF, IOp.args, coolOp, Nat.reduceSub, h0, h3, ho3, h6, ho6, h7, h8, hw]; rfl) | (simp only [↓xP, xQ, xR, flatR, eqCells_ok, eqSh, eqBs, Nat.reduceLT, decide_true, Nat.reduceBEq, Nat.reduceAdd, IOp.dst, IOp.isF, IOp.args, coolOp, Nat.reduceSub, h0, h3, ho3, h6, ho6, h7, h8, hw]; omega))⟩
    · simp only [Bool.toNat_true] at hml
      simp only [↓xP, xQ, xR, flatR, eqCells_ok, eqSh, eqBs, Nat.reduceLT, decide_true, Nat.reduceBEq, Nat.reduceAdd, IOp.dst, IOp.isF, IOp.args, coolOp, Nat.reduceSub, h0, h3, ho3, h6, ho6, h7, h8, List.length_map, hi, hy, Session.u]
      refine sel_pred (fun h5 => ?_) (fun h5 => ?_)
      · simp only [↓xP, xQ, xR, flatR, eqCells_ok, eqSh, eqBs, Nat.reduceLT, decide_true, Nat.reduceBEq, Nat.reduceAdd, IOp.dst, IOp.isF, IOp.args, coolOp, Nat.reduceSub, h0, h3, ho3, h6, ho6, h7, h8, List.length_map, hi, hy, Session.u, q1.1, q1.2, app3, hw, List.length_append, List.length_cons, List.length_nil, Nat.zero_add]
        exact ih (i + 1, true, m ++ [⟨yc, ys, yr⟩]) _ (by dsimp only; omega) ⟨by dsimp only; omega, by simp; omega, (by and_intros <;> first | omega | rfl | (simp only [↓xP, xQ, xR, flatR, eqCells_ok, eqSh, eqBs, Nat.reduceLT, decide_true, Nat.reduceBEq, Nat.reduceAdd, IOp.dst, IOp.isF, IOp.args, coolOp, Nat.reduceSub, h0, h3, ho3, h6, ho6, h7, h8, hw, app3, List.length_append, List.length_cons, List.length_nil, Nat.zero_add]; done) | (simp only [↓xP, xQ, xR, flatR, eqCells_ok, eqSh, eqBs, Nat.reduceLT, decide_true, Nat.reduceBEq, Nat.reduceAdd, IOp.dst, IOp.isF, IOp.args, coolOp, Nat.reduceSub, h0, h3, ho3, h6, ho6, h7, h8, hw, app3, List.length_append, List.length_cons, List.length_nil, Nat.zero_add]; rfl) | (simp only [↓xP, xQ, xR, flatR, eqCells_ok, eqSh, eqBs, Nat.reduceLT, decide_true, Nat.reduceBEq, Nat.reduceAdd, IOp.dst, IOp.isF, IOp.args, coolOp, Nat.reduceSub, h0, h3, ho3, h6, ho6, h7, h8, hw, app3, List.length_append, List.length_cons, List.length_nil, Nat.zero_add]; omega))⟩
      · simp only [↓xP, xQ, xR, flatR, eqCells_ok, eqSh, eqBs, Nat.reduceLT, decide_true, Nat.reduceBEq, Nat.reduceAdd, IOp.dst, IOp.isF, IOp.args, coolOp, Nat.reduceSub, h0, h3, ho3, h6, ho6, h7, h8, List.length_map, hi, hy, Session.u, hw]
        exact ih (i + 1, true, m) _ (by dsimp only; omega) ⟨by dsimp only; omega, by simp; omega, (by and_intros <;> first | omega | rfl | (simp only [↓xP, xQ, xR, flatR, eqCells_ok, eqSh, eqBs, Nat.reduceLT, decide_true, Nat.reduceBEq, Nat.reduceAdd, IOp.dst, IOp.isF, IOp.args, coolOp, Nat.reduceSub, h0, h3, ho3, h6, ho6, h7, h8, hw]; done) | (simp only [↓xP, xQ, xR, flatR, eqCells_ok, eqSh, eqBs, Nat.reduceLT, decide_true, Nat.reduceBEq, Nat.reduceAdd, IOp.dst, IOp.isF, IOp.args, coolOp, Nat.reduceSub, h0, h3, ho3, h6, ho6, h7, h8, hw]; rfl) | (simp only [↓xP, xQ, xR, flatR, eqCells_ok, eqSh, eqBs, Nat.reduceLT, decide_true, Nat.reduceBEq, Nat.reduceAdd, IOp.dst, IOp.isF, IOp.args, coolOp, Nat.reduceSub, h0, h3, ho3, h6, ho6, h7, h8, hw]; omega))⟩
  · cases pl
    · simp only [Bool.toNat_false, Nat.add_zero] at hml
      simp only [↓xP, xQ, xR, flatR, eqCells_ok, eqSh, eqBs, Nat.reduceLT, decide_true, Nat.reduceBEq, Nat.reduceAdd, IOp.dst, IOp.isF, IOp.args, coolOp, Nat.reduceSub, h0, h3, ho3, h6, ho6, h7, h8, List.length_map, hi, q1.1, q1.2, app3, htk, List.length_append, List.length_cons, List.length_nil, Nat.zero_add, Nat.le_refl]
      exact ⟨_, rfl, m ++ [⟨xc, xs, xr⟩], true, by simp, by simp; omega⟩
    · simp only [Bool.toNat_true] at hml
      simp only [↓xP, xQ, xR, flatR, eqCells_ok, eqSh, eqBs, Nat.reduceLT, decide_true, Nat.reduceBEq, Nat.reduceAdd, IOp.dst, IOp.isF, IOp.args, coolOp, Nat.reduceSub, h0, h3, ho3, h6, ho6, h7, h8, List.length_map, hi, map_all]
      exact ⟨_, rfl, m, _, rfl, by omega⟩
theorem l20Sessions_ok {bs : List Int} (hb : Bytes bs) (p : Nat) (n : Int) (hn : n ≤ 1048576) (hp : p ≤ 10000000) : Gd bs p 50 (fun r m => m = [] ∧ ∃ l : List Session, r = [L 3 (l.map Session.u)] ∧ l.length ≤ 8) (EE F 196 [RP0, I n] [rd bs p]) := by
  refine Gd.run (fn := i196) (by kernel_rfl) rfl ?_
  simp only [i196, b196, argSt, insSt]
  obtain ⟨k0, hk0, hkl⟩ := pk hb p 5 (by omega) (by omega)
  simp only [↓xP, xQ, xR, flatR, eqCells_ok, eqSh, eqBs, Nat.reduceLT, decide_true, Nat.reduceBEq, Nat.reduceAdd, IOp.dst, IOp.isF, IOp.args, coolOp, Nat.reduceSub, rdx, hk0]
  refine loop_pred (fun (a : Nat × Nat × Bool × List Session) st => a.1 + a.2.2.2.length ≤ 4 ∧ p + 1 ≤ a.2.1 ∧ a.2.1 + 6 * a.1 ≤ p + 25 ∧ st.s 0 = .t RP0 ∧ st.s 1 = DI n ∧ st.o (.par 0) = some (rd bs a.2.1) ∧ st.s 5 = .t (.sc (.own (wid (.loc 9 0) (.loc 20 0) a.2.2.1) a.2.2.2.length)) ∧ st.o (wid (.loc 9 0) (.loc 20 0) a.2.2.1) = some (.row 3 (a.2.2.2.map Session.u)) ∧ st.s 6 = DI a.1) (fun a => a.1) ?_ (k0, p + 1, false, []) ⟨by simp; omega, by dsimp only; omega, by dsimp only; omega, (by and_intros <;> first | omega | rfl | (simp only [↓xP, xQ, xR, flatR, eqCells_ok, eqSh, eqBs, Nat.reduceLT, decide_true, Nat.reduceBEq, Nat.reduceAdd, IOp.dst, IOp.isF, IOp.args, coolOp, Nat.reduceSub, rdx, wid]; done) | (simp only [↓xP, xQ, xR, flatR, eqCells_ok, eqSh, eqBs, Nat.reduceLT, decide_true, Nat.reduceBEq, Nat.reduceAdd, IOp.dst, IOp.isF, IOp.args, coolOp, Nat.reduceSub, rdx, wid]; rfl) | (simp only [↓xP, xQ, xR, flatR, eqCells_ok, eqSh, eqBs, Nat.reduceLT, decide_true, Nat.reduceBEq, Nat.reduceAdd, IOp.dst, IOp.isF, IOp.args, coolOp, Nat.reduceSub, rdx, wid]; omega))⟩
  rintro ⟨k, q, b, l⟩ st ⟨hle, hq, hq', h0, h1, hr, h5, ho5, h6⟩ ih
  dsimp only at *
  cases k with
  | succ k =>
    have hk : (0 : Int) < ((k + 1 : Nat) : Int) := by omega
    have hwk := w_pred (i := k) (by omega)
    obtain ⟨r1, n1, q1, h1', hq1, hq1', rfl, ⟨xc, xs, xr⟩, rfl⟩ := l20Session_ok hb q 0 (by omega) (by omega)
    obtain ⟨r2, hpp, l', ok, rfl, hpl⟩ := sessionPut_some l xc xs xr (by omega)
    cases b
    · simp only [wid] at *
      simp only [↓xP, xQ, xR, flatR, eqCells_ok, eqSh, eqBs, Nat.reduceLT, decide_true, Nat.reduceBEq, Nat.reduceAdd, IOp.dst, IOp.isF, IOp.args, coolOp, Nat.reduceSub, rdx, h0, h1, hr, h5, ho5, h6, gt_iff_lt, hk, h1', hpp, hwk, map_all]
      exact ih (k, q1, true, l') _ (by dsimp only; omega) ⟨by dsimp only; omega, by dsimp only; omega, by dsimp only; omega, (by and_intros <;> first | omega | rfl | (simp only [↓xP, xQ, xR, flatR, eqCells_ok, eqSh, eqBs, Nat.reduceLT, decide_true, Nat.reduceBEq, Nat.reduceAdd, IOp.dst, IOp.isF, IOp.args, coolOp, Nat.reduceSub, rdx, wid, h0, h1, hr, h5, ho5, h6, hwk]; done) | (simp only [↓xP, xQ, xR, flatR, eqCells_ok, eqSh, eqBs, Nat.reduceLT, decide_true, Nat.reduceBEq, Nat.reduceAdd, IOp.dst, IOp.isF, IOp.args, coolOp, Nat.reduceSub, rdx, wid, h0, h1, hr, h5, ho5, h6, hwk]; rfl) | (simp only [↓xP, xQ, xR, flatR, eqCells_ok, eqSh, eqBs, Nat.reduceLT, decide_true, Nat.reduceBEq, Nat.reduceAdd, IOp.dst, IOp.isF, IOp.args, coolOp, Nat.reduceSub, rdx, wid, h0, h1, hr, h5, ho5, h6, hwk]; omega))⟩
    · simp only [wid] at *
      simp only [↓xP, xQ, xR, flatR, eqCells_ok, eqSh, eqBs, Nat.reduceLT, decide_true, Nat.reduceBEq, Nat.reduceAdd, IOp.dst, IOp.isF, IOp.args, coolOp, Nat.reduceSub, rdx, h0, h1, hr, h5, ho5, h6, gt_iff_lt, hk, h1', hpp, hwk, map_all]
      exact ih (k, q1, true, l') _ (by dsimp only; omega) ⟨by dsimp only; omega, by dsimp only; omega, by dsimp only; omega, (by and_intros <;> first | omega | rfl | (simp only [↓xP, xQ, xR, flatR, eqCells_ok, eqSh, eqBs, Nat.reduceLT, decide_true, Nat.reduceBEq, Nat.reduceAdd, IOp.dst, IOp.isF, IOp.args, coolOp, Nat.reduceSub, rdx, wid, h0, h1, hr, h5, ho5, h6, hwk]; done) | (simp only [↓xP, xQ, xR, flatR, eqCells_ok, eqSh, eqBs, Nat.reduceLT, decide_true, Nat.reduceBEq, Nat.reduceAdd, IOp.dst, IOp.isF, IOp.args, coolOp, Nat.reduceSub, rdx, wid, h0, h1, hr, h5, ho5, h6, hwk]; rfl) | (simp only [↓xP, xQ, xR, flatR, eqCells_ok, eqSh, eqBs, Nat.reduceLT, decide_true, Nat.reduceBEq, Nat.reduceAdd, IOp.dst, IOp.isF, IOp.args, coolOp, Nat.reduceSub, rdx, wid, h0, h1, hr, h5, ho5, h6, hwk]; omega))⟩
  | zero =>
    have hk : ¬ (0 : Int) < ((0 : Nat) : Int) := by omega
    obtain ⟨bo, q4, hod, hq4, hq4', _⟩ := odd_ok hb q n (by omega) hn
    obtain ⟨w, hw, hwl⟩ := pk hb q4 2 (by omega) (by omega)
    obtain ⟨r1, n1, q5, hs, hq5, hq5', rfl, ⟨xc, xs, xr⟩, rfl⟩ := l20Session_ok hb (q4 + 1) 1 (by omega) (by omega)
    have app3 : ∀ (l : List Session) a b c, l.map Session.u ++ [[.int .i64 a, .int .i64 b, .int .i64 c]] = (l ++ [(⟨a, b, c⟩ : Session)]).map Session.u := fun l a b c => by simp [Session.u]
    have appl : List.map Session.u l ++ List.map Session.u l = List.map Session.u (l ++ l) := by simp
    have htk : ∀ (l : List Session) x, List.take (l.length + 1) (List.map Session.u (l ++ [x])) = List.map Session.u (l ++ [x]) := fun l x => List.take_of_length_le (by simp)
    have htl : List.take (l.length + l.length) (List.map Session.u (l ++ l)) = List.map Session.u (l ++ l) := List.take_of_length_le (by simp)
    have q1 : l.length + 1 ≤ maxLen ∧ (l.length + 1) * 24 ≤ 140737488355328 := small_max (by omega) (by omega)
    have q2 : l.length + l.length ≤ maxLen ∧ (l.length + l.length) * 24 ≤ 140737488355328 := small_max (by omega) (by omega)
    cases b
    · simp only [wid] at *
      cases bo
      · simp only [↓xP, xQ, xR, flatR, eqCells_ok, eqSh, eqBs, Nat.reduceLT, decide_true, Nat.reduceBEq, Nat.reduceAdd, IOp.dst, IOp.isF, IOp.args, coolOp, Nat.reduceSub, rdx, h0, h1, hr, h5, ho5, h6, gt_iff_lt, hk, hod, map_all]
        exact ⟨_, _, q4, rfl, by omega, by omega, rfl, l, rfl, by omega⟩
      by_cases hw0 : (w : Int) = 0
      · simp only [↓xP, xQ, xR, flatR, eqCells_ok, eqSh, eqBs, Nat.reduceLT, decide_true, Nat.reduceBEq, Nat.reduceAdd, IOp.dst, IOp.isF, IOp.args, coolOp, Nat.reduceSub, rdx, h0, h1, hr, h5, ho5, h6, gt_iff_lt, hk, hod, hw, hw0, List.length_map, map_all, q2.1, q2.2, appl, htl, List.length_append, Nat.le_refl]
        exact ⟨_, _, q4 + 1, rfl, by omega, by omega, rfl, l ++ l, rfl, by simp; omega⟩
      · simp only [↓xP, xQ, xR, flatR, eqCells_ok, eqSh, eqBs, Nat.reduceLT, decide_true, Nat.reduceBEq, Nat.reduceAdd, IOp.dst, IOp.isF, IOp.args, coolOp, Nat.reduceSub, rdx, h0, h1, hr, h5, ho5, h6, gt_iff_lt, hk, hod, hw, hw0, hs, List.length_map, q1.1, q1.2, app3, htk, List.length_append, List.length_cons, List.length_nil, Nat.zero_add, Nat.le_refl]
        exact ⟨_, _, q5, rfl, by omega, by omega, rfl, l ++ [⟨xc, xs, xr⟩], rfl, by simp; omega⟩
    · simp only [wid] at *
      cases bo
      · simp only [↓xP, xQ, xR, flatR, eqCells_ok, eqSh, eqBs, Nat.reduceLT, decide_true, Nat.reduceBEq, Nat.reduceAdd, IOp.dst, IOp.isF, IOp.args, coolOp, Nat.reduceSub, rdx, h0, h1, hr, h5, ho5, h6, gt_iff_lt, hk, hod, map_all]
        exact ⟨_, _, q4, rfl, by omega, by omega, rfl, l, rfl, by omega⟩
      by_cases hw0 : (w : Int) = 0
      · simp only [↓xP, xQ, xR, flatR, eqCells_ok, eqSh, eqBs, Nat.reduceLT, decide_true, Nat.reduceBEq, Nat.reduceAdd, IOp.dst, IOp.isF, IOp.args, coolOp, Nat.reduceSub, rdx, h0, h1, hr, h5, ho5, h6, gt_iff_lt, hk, hod, hw, hw0, List.length_map, map_all, q2.1, q2.2, appl, htl, List.length_append, Nat.le_refl]
        exact ⟨_, _, q4 + 1, rfl, by omega, by omega, rfl, l ++ l, rfl, by simp; omega⟩
      · simp only [↓xP, xQ, xR, flatR, eqCells_ok, eqSh, eqBs, Nat.reduceLT, decide_true, Nat.reduceBEq, Nat.reduceAdd, IOp.dst, IOp.isF, IOp.args, coolOp, Nat.reduceSub, rdx, h0, h1, hr, h5, ho5, h6, gt_iff_lt, hk, hod, hw, hw0, hs, List.length_map, q1.1, q1.2, app3, htk, List.length_append, List.length_cons, List.length_nil, Nat.zero_add, Nat.le_refl]
        exact ⟨_, _, q5, rfl, by omega, by omega, rfl, l ++ [⟨xc, xs, xr⟩], rfl, by simp; omega⟩
theorem pairsInV_len (l : List Pair) (v : Interval) : (pairsInV l v).length ≤ l.length := by unfold pairsInV; split; exact pairsIn_le ..; exact Nat.zero_le _
/-- What a drawn state is. -/
def IsState (t : T) : Prop := ∃ (lo hi : Str) (l : List Pair) (k : List Session) (se : Bool) (cut : Str), t = .ag [.u (.str lo), .u (.str hi), .u (.sl 2 (l.map Pair.u)), .u (.sl 3 (k.map Session.u)), .u (.bool se), .u (.str cut)] ∧ l.length ≤ 49 ∧ k.length ≤ 8
set_option maxHeartbeats 8000000 in
theorem l20State_ok {bs : List Int} (hb : Bytes bs) (p : Nat) (n : Int) (hn : n ≤ 1048576) (hp : p ≤ 1000000) : Gd bs p 400 (fun r m => m = [] ∧ ∃ t, r = [t] ∧ IsState t) (EE F 140 [RP0, I n] [rd bs p]) := by
  refine Gd.run (fn := i140) (by kernel_rfl) rfl ?_
  simp only [i140, b140, argSt, insSt]
  obtain ⟨r1, n1, q1, h1, hq1, hq1', rfl, a, b, rfl, _, _⟩ := l20Span_ok hb p 0 (by omega) (by omega)
  obtain ⟨v1, hv1, _⟩ := pk hb q1 2 (by omega) (by omega)
  obtain ⟨r2, n2, q2, h2, hq2, hq2', rfl, l, rfl, hl⟩ := l20Pairs_ok hb (q1 + 1) 0 (by omega) (by omega)
  obtain ⟨r3, n3, q3, h3, hq3, hq3', rfl, k, rfl, hk⟩ := l20Sessions_ok hb q2 0 (by omega) (by omega)
  obtain ⟨v5, hv5, _⟩ := pk hb q3 5 (by omega) (by omega)
  obtain ⟨v6, hv6, _⟩ := pk hb (q3 + 1) 2 (by omega) (by omega)
  obtain ⟨lo, hi, hsel⟩ : ∃ lo hi : Str, ((v1 : Int) = 0 ∧ lo = [] ∧ hi = []) ∨ (¬ (v1 : Int) = 0 ∧ lo = a ∧ hi = b) := by
    by_cases e : (v1 : Int) = 0
    · exact ⟨_, _, .inl ⟨e, rfl, rfl⟩⟩
    · exact ⟨_, _, .inr ⟨e, rfl, rfl⟩⟩
  have hpi := pairsIn_spec l lo hi
  have hpl := pairsInV_len l ⟨lo, hi⟩
  generalize pairsInV l ⟨lo, hi⟩ = pl at hpi hpl
  have hct := intervalCut_spec lo hi [99]
  simp only [cutRet] at hct
  obtain ⟨Q, hc5, hQ, hQ'⟩ : ∃ Q, ((¬ (v5 : Int) = 0 ∧ True ∧ True ∧ Q = q3 + 1) ∨ ((v5 : Int) = 0 ∧ cutOk ⟨lo, hi⟩ [99] = false ∧ True ∧ Q = q3 + 1) ∨ ((v5 : Int) = 0 ∧ cutOk ⟨lo, hi⟩ [99] = true ∧ (v6 : Int) = 0 ∧ Q = q3 + 1 + 1) ∨ ((v5 : Int) = 0 ∧ cutOk ⟨lo, hi⟩ [99] = true ∧ ¬ (v6 : Int) = 0 ∧ Q = q3 + 1 + 1)) ∧ q3 ≤ Q ∧ Q ≤ q3 + 2 := by
    by_cases e5 : (v5 : Int) = 0
    · cases ok : cutOk ⟨lo, hi⟩ [99]
      · exact ⟨_, .inr (.inl ⟨e5, rfl, trivial, rfl⟩), by omega, by omega⟩
      · by_cases e6 : (v6 : Int) = 0
        · exact ⟨_, .inr (.inr (.inl ⟨e5, rfl, e6, rfl⟩)), by omega, by omega⟩
        · exact ⟨_, .inr (.inr (.inr ⟨e5, rfl, e6, rfl⟩)), by omega, by omega⟩
    · exact ⟨_, .inl ⟨e5, trivial, trivial, rfl⟩, by omega, by omega⟩
  obtain ⟨bo, q4, hod, hq4, hq4', _⟩ := odd_ok hb Q n (by omega) hn
  obtain ⟨w, hw, hwl⟩ := pk hb q4 5 (by omega) (by omega)
  obtain ⟨s1, m1, u1, g1, hu1, hu1', rfl, sa, sb, rfl, _, _⟩ := l20Span_ok hb (q4 + 1) 1 (by omega) (by omega)
  obtain ⟨s2, m2, u2, g2, hu2, hu2', rfl, l2, rfl, hl2⟩ := l20Pairs_ok hb (q4 + 1) 1 (by omega) (by omega)
  obtain ⟨s3, m3, u3, g3, hu3, hu3', rfl, k3, rfl, hk3⟩ := l20Sessions_ok hb (q4 + 1) 1 (by omega) (by omega)
  have one : ∀ (t : T) (q : Nat), p ≤ q → q ≤ p + 400 → IsState t → Gd bs p 400 (fun r m => m = [] ∧ ∃ t, r = [t] ∧ IsState t) (some ⟨[t], [], [rd bs q]⟩) := fun t q h1 h2 h3 => ⟨_, _, q, rfl, h1, h2, rfl, t, rfl, h3⟩
  have hpl49 : pl.length ≤ 49 := by omega
  have l110 : [[U.str [110], U.int .i64 1]] = List.map Pair.u [⟨[110], 1⟩] := rfl
  rcases hsel with ⟨e0, rfl, rfl⟩ | ⟨e0, rfl, rfl⟩ <;> rcases hc5 with ⟨e5, ok, e6, rfl⟩ | ⟨e5, ok, e6, rfl⟩ | ⟨e5, ok, e6, rfl⟩ | ⟨e5, ok, e6, rfl⟩
  all_goals
    try simp only [ok, ↓xP, xQ, xR, flatR, eqCells_ok, eqSh, eqBs, Nat.reduceLT, decide_true, Nat.reduceBEq, Nat.reduceAdd, IOp.dst, IOp.isF, IOp.args, coolOp, Nat.reduceSub] at hct
    cases bo
    · simp only [↓xP, xQ, xR, flatR, eqCells_ok, eqSh, eqBs, Nat.reduceLT, decide_true, Nat.reduceBEq, Nat.reduceAdd, IOp.dst, IOp.isF, IOp.args, coolOp, Nat.reduceSub, rdx, h1, hv1, e0, h2, h3, hpi, hv5, e5, hct, ok, hv6, e6, hod, map_all]
      exact one _ _ (by omega) (by omega) ⟨_, _, _, _, _, _, rfl, hpl49, hk⟩
    · rcases (show w = 0 ∨ w = 1 ∨ w = 2 ∨ w = 3 ∨ w = 4 by omega) with rfl | rfl | rfl | rfl | rfl
      · simp only [↓xP, xQ, xR, flatR, eqCells_ok, eqSh, eqBs, Nat.reduceLT, decide_true, Nat.reduceBEq, Nat.reduceAdd, IOp.dst, IOp.isF, IOp.args, coolOp, Nat.reduceSub, rdx, h1, hv1, e0, h2, h3, hpi, hv5, e5, hct, ok, hv6, e6, hod, map_all, hw, g1]
        exact one _ _ (by omega) (by omega) ⟨_, _, _, _, _, _, rfl, hpl49, hk⟩
      · simp only [↓xP, xQ, xR, flatR, eqCells_ok, eqSh, eqBs, Nat.reduceLT, decide_true, Nat.reduceBEq, Nat.reduceAdd, IOp.dst, IOp.isF, IOp.args, coolOp, Nat.reduceSub, rdx, h1, hv1, e0, h2, h3, hpi, hv5, e5, hct, ok, hv6, e6, hod, map_all, hw, g2]
        exact one _ _ (by omega) (by omega) ⟨_, _, _, _, _, _, rfl, hl2, hk⟩
      · simp only [↓xP, xQ, xR, flatR, eqCells_ok, eqSh, eqBs, Nat.reduceLT, decide_true, Nat.reduceBEq, Nat.reduceAdd, IOp.dst, IOp.isF, IOp.args, coolOp, Nat.reduceSub, rdx, h1, hv1, e0, h2, h3, hpi, hv5, e5, hct, ok, hv6, e6, hod, map_all, hw, g3]
        exact one _ _ (by omega) (by omega) ⟨_, _, _, _, _, _, rfl, hpl49, hk3⟩
      · simp only [↓xP, xQ, xR, flatR, eqCells_ok, eqSh, eqBs, Nat.reduceLT, decide_true, Nat.reduceBEq, Nat.reduceAdd, IOp.dst, IOp.isF, IOp.args, coolOp, Nat.reduceSub, rdx, h1, hv1, e0, h2, h3, hpi, hv5, e5, hct, ok, hv6, e6, hod, map_all, hw]
        exact one _ _ (by omega) (by omega) ⟨_, _, _, _, _, _, rfl, hpl49, hk⟩
      · simp only [↓xP, xQ, xR, flatR, eqCells_ok, eqSh, eqBs, Nat.reduceLT, decide_true, Nat.reduceBEq, Nat.reduceAdd, IOp.dst, IOp.isF, IOp.args, coolOp, Nat.reduceSub, rdx, h1, hv1, e0, h2, h3, hpi, hv5, e5, hct, ok, hv6, e6, hod, map_all, hw, l110]
        exact one _ _ (by omega) (by omega) ⟨_, _, [⟨[110], 1⟩], _, _, _, rfl, by simp, hk⟩
def PairFit (p : Pair) : Prop := keyValid p.key = true ∧ inR p.value 0 999 = true
def Up (a b : Pair) : Prop := strLt a.key b.key = true
theorem pairsValid_iff (l : List Pair) : pairsValid l = true ↔ l.length ≤ 48 ∧ (∀ p, p ∈ l → PairFit p) ∧ l.Pairwise Up := by
  constructor
  · intro h
    refine ⟨pairsValid_len h, fun p hp => ?_, ?_⟩
    · obtain ⟨i, hi⟩ := List.mem_iff_getElem?.1 hp
      exact pairsValid_at h hi
    · rw [List.pairwise_iff_getElem]
      intro i j hi hj hij
      exact asc_of h i j _ _ hij (List.getElem?_eq_getElem hi) (List.getElem?_eq_getElem hj)
  · rintro ⟨h1, h2, h3⟩
    simp only [pairsValid, Bool.and_eq_true, decide_eq_true_eq]
    refine ⟨h1, (allF_iff _ 0 rfl).2 fun j _ hj => ?_⟩
    obtain ⟨p, hp⟩ : ∃ p, l[j]? = some p := ⟨_, List.getElem?_eq_getElem hj⟩
    have hf := h2 p (List.mem_of_getElem? hp)
    simp only [pairAt, hp, hf.1, hf.2, Bool.and_true, Bool.true_and, Bool.or_eq_true, decide_eq_true_eq]
    by_cases h0 : j = 0
    · exact .inl h0
    · right
      obtain ⟨q, hq⟩ : ∃ q, l[j - 1]? = some q := ⟨_, List.getElem?_eq_getElem (by omega)⟩
      rw [hq]
      have := List.pairwise_iff_getElem.1 h3 (j - 1) j (by omega) hj (by omega)
      rw [(List.getElem?_eq_some_iff.1 hq).2, (List.getElem?_eq_some_iff.1 hp).2] at this
      exact this
theorem pairsInV_eq {l : List Pair} {v : Interval} (h : pairsValid l = true) (hv : intervalValid v = true) : pairsInV l v = pairsIn l v := by unfold pairsInV; rw [if_pos ⟨h, hv⟩]
theorem pairDrop_spec (l : List Pair) (key : Str) (hn : l.length ≤ 1048576) : EE F 176 [L 2 (l.map Pair.u), S key] [] = listRet Pair.u 2 (pairDrop l key) := by
  rw [R176, b176]
  have hpl := place_le key l
  have hv := pairsValid_spec l
  cases h : pairsValid l
  · rw [h] at hv
    simp only [↓xP, xQ, xR, flatR, eqCells_ok, eqSh, eqBs, Nat.reduceLT, decide_true, Nat.reduceBEq, Nat.reduceAdd, IOp.dst, IOp.isF, IOp.args, coolOp, Nat.reduceSub, hv, pairDrop, h, Bool.false_eq_true, false_and, if_false, listRet, List.map_nil, List.length_nil]
  rw [h] at hv
  have q0 : l.length ≤ maxLen ∧ l.length * 24 ≤ 140737488355328 := small_max hn (by omega)
  have hpl4 := l4Place_ok l key (by omega)
  cases hh : hit key l with
  | none =>
    have hno := hit_none hh
    have hpp : pairDrop l key = (l, false) := by simp only [pairDrop, h, hh, Option.isSome_none, Bool.false_eq_true, if_false, if_true]
    rw [hpp]
    by_cases hi : place key l = l.length
    · have hi' : ((place key l : Nat) : Int) = (l.length : Int) := by omega
      simp only [↓xP, xQ, xR, flatR, eqCells_ok, eqSh, eqBs, Nat.reduceLT, decide_true, Nat.reduceBEq, Nat.reduceAdd, IOp.dst, IOp.isF, IOp.args, coolOp, Nat.reduceSub, hv, hpl4, List.length_map, hi', Nat.zero_add, List.nil_append, q0.1, q0.2, listRet, map_all]
    · obtain ⟨⟨pk, pv⟩, hp⟩ : ∃ p, l[place key l]? = some p := ⟨_, List.getElem?_eq_getElem (by omega)⟩
      have hi' : ¬ ((place key l : Nat) : Int) = (l.length : Int) := by omega
      have hne : ¬ pk = key := hno _ hp
      simp only [↓xP, xQ, xR, flatR, eqCells_ok, eqSh, eqBs, Nat.reduceLT, decide_true, Nat.reduceBEq, Nat.reduceAdd, IOp.dst, IOp.isF, IOp.args, coolOp, Nat.reduceSub, hv, hpl4, List.length_map, hi', hp, Pair.u, hne, Nat.zero_add, List.nil_append, q0.1, q0.2, listRet, map_all, ne_eq, not_false_eq_true]
  | some p =>
    obtain ⟨pk, pv⟩ := p
    obtain ⟨h1, h2⟩ := hit_some hh
    dsimp only at h2
    subst h2
    have hlt := (List.getElem?_eq_some_iff.1 h1).1
    have hi' : ¬ ((place pk l : Nat) : Int) = (l.length : Int) := by omega
    have hmin : min (place pk l) l.length = place pk l := by omega
    have hw := w_succ (i := place pk l) (by omega)
    have hct := cut_to (n := l.length) (i := place pk l) (by omega)
    have hcf := cut_from (n := l.length) (i := place pk l + 1) (by omega)
    have q1 : place pk l ≤ maxLen ∧ place pk l * 24 ≤ 140737488355328 := small_max (by omega) (by omega)
    have q3 : place pk l + (l.length - (place pk l + 1)) ≤ maxLen ∧ (place pk l + (l.length - (place pk l + 1))) * 24 ≤ 140737488355328 := small_max (by omega) (by omega)
    have hlen : (rep l (place pk l) 1 []).length = place pk l + (l.length - (place pk l + 1)) := by rw [rep_len (by omega)]; simp; omega
    have her : List.take (place pk l) (l.map Pair.u) ++ List.drop (place pk l + 1) (l.map Pair.u) = (rep l (place pk l) 1 []).map Pair.u := by simp [rep, List.map_take, List.map_drop]
    have hpp : pairDrop l pk = (rep l (place pk l) 1 [], true) := by simp only [pairDrop, h, hh, Option.isSome_some, if_true]
    rw [hpp]
    simp only [↓xP, xQ, xR, flatR, eqCells_ok, eqSh, eqBs, Nat.reduceLT, decide_true, Nat.reduceBEq, Nat.reduceAdd, IOp.dst, IOp.isF, IOp.args, coolOp, Nat.reduceSub, hv, hpl4, List.length_map, List.length_take, List.length_drop, hi', h1, Pair.u, Nat.zero_add, List.nil_append, hw, hct, hcf, hmin, q1.1, q1.2, q3.1, q3.2, listRet, map_all, hlen, her, List.drop_zero, ne_eq, not_true_eq_false]
def applyC (l : List Pair) (c : Command) : List Pair × Int :=
  if pairsValid l = true ∧ commandValid c = true ∧ ¬ c.kind = 5 then
    (if c.kind = 1 ∨ (c.kind = 4 ∧ ¬ c.old = pairGet l c.key) then (l, pairGet l c.key)
     else if c.kind = 3 then ((pairDrop l c.key).1, pairGet l c.key)
     else if pairGet l c.key < 0 ∧ 8 ≤ l.length then (l, -2)
     else ((pairPut l c.key c.value).1, pairGet l c.key))
  else ([], -3)
def applyRet (r : List Pair × Int) : Option Ret := some ⟨[.sc (.own (.par 0) r.1.length), I r.2], [.row 2 (r.1.map Pair.u)], []⟩
theorem applyCommand_spec (l : List Pair) (k : Int) (key : Str) (v o : Int) (hn : l.length ≤ 1048576) : EE F 117 [L 2 (l.map Pair.u), .ag [.u (.int .i64 k), .u (.str key), .u (.int .i64 v), .u (.int .i64 o)]] [] = applyRet (applyC l ⟨k, key, v, o⟩) := by
  rw [R117, b117]
  have hv := pairsValid_spec l
  have hcv := commandValid_spec k key v o
  cases h : pairsValid l
  · rw [h] at hv
    simp only [↓xP, xQ, xR, flatR, eqCells_ok, eqSh, eqBs, Nat.reduceLT, decide_true, Nat.reduceBEq, Nat.reduceAdd, IOp.dst, IOp.isF, IOp.args, coolOp, Nat.reduceSub, hv, applyC, h, Bool.false_eq_true, false_and, if_false, applyRet, List.map_nil, List.length_nil]
  rw [h] at hv
  cases h2 : commandValid ⟨k, key, v, o⟩
  · rw [h2] at hcv
    simp only [↓xP, xQ, xR, flatR, eqCells_ok, eqSh, eqBs, Nat.reduceLT, decide_true, Nat.reduceBEq, Nat.reduceAdd, IOp.dst, IOp.isF, IOp.args, coolOp, Nat.reduceSub, hv, hcv, applyC, h, h2, Bool.false_eq_true, false_and, and_false, if_false, applyRet, List.map_nil, List.length_nil]
  rw [h2] at hcv
  by_cases h5 : k = 5
  · subst h5
    simp only [↓xP, xQ, xR, flatR, eqCells_ok, eqSh, eqBs, Nat.reduceLT, decide_true, Nat.reduceBEq, Nat.reduceAdd, IOp.dst, IOp.isF, IOp.args, coolOp, Nat.reduceSub, hv, hcv, applyC, not_true_eq_false, and_false, if_false, applyRet, List.map_nil, List.length_nil]
  have q0 : l.length ≤ maxLen ∧ l.length * 24 ≤ 140737488355328 := small_max hn (by omega)
  have hpg := pairGet_spec l key (by omega)
  have hpd := pairDrop_spec l key hn
  have hpp := pairPut_spec l key v hn
  generalize hgo : pairGet l key = old at hpg
  generalize hdo : pairDrop l key = dr at hpd
  generalize hpo : pairPut l key v = pu at hpp
  obtain ⟨dl, db⟩ := dr
  obtain ⟨pl, pb⟩ := pu
  simp only [listRet] at hpd hpp
  by_cases h1 : k = 1
  · subst h1
    simp only [↓xP, xQ, xR, flatR, eqCells_ok, eqSh, eqBs, Nat.reduceLT, decide_true, Nat.reduceBEq, Nat.reduceAdd, IOp.dst, IOp.isF, IOp.args, coolOp, Nat.reduceSub, hv, hcv, h5, hpg, List.length_map, Nat.zero_add, List.nil_append, q0.1, q0.2, applyC, h, h2, hgo, hdo, hpo, and_self, true_or, false_or, not_false_eq_true, if_true, applyRet, map_all]
  by_cases h4 : k = 4
  · subst h4
    by_cases ho : o = old
    · subst ho
      have h43 : ¬ (4 : Int) = 3 := by omega
      by_cases hlt : o < 0
      · by_cases h8 : (8 : Int) ≤ (l.length : Int)
        · have h8' : 8 ≤ l.length := by omega
          simp only [↓xP, xQ, xR, flatR, eqCells_ok, eqSh, eqBs, Nat.reduceLT, decide_true, Nat.reduceBEq, Nat.reduceAdd, IOp.dst, IOp.isF, IOp.args, coolOp, Nat.reduceSub, hv, hcv, h5, h1, h43, hlt, h8, h8', hpg, List.length_map, Nat.zero_add, List.nil_append, q0.1, q0.2, applyC, h, h2, hgo, hdo, hpo, and_self, true_or, false_or, or_self, and_false, true_and, not_true_eq_false, not_false_eq_true, if_true, if_false, applyRet, map_all, ge_iff_le, ne_eq]
        · have h8' : ¬ 8 ≤ l.length := by omega
          simp only [↓xP, xQ, xR, flatR, eqCells_ok, eqSh, eqBs, Nat.reduceLT, decide_true, Nat.reduceBEq, Nat.reduceAdd, IOp.dst, IOp.isF, IOp.args, coolOp, Nat.reduceSub, hv, hcv, h5, h1, h43, hlt, h8, h8', hpg, hpp, List.length_map, Nat.zero_add, List.nil_append, q0.1, q0.2, applyC, h, h2, hgo, hdo, hpo, and_self, true_or, false_or, or_self, and_false, true_and, not_true_eq_false, not_false_eq_true, if_true, if_false, applyRet, map_all, ge_iff_le, ne_eq]
      · simp only [↓xP, xQ, xR, flatR, eqCells_ok, eqSh, eqBs, Nat.reduceLT, decide_true, Nat.reduceBEq, Nat.reduceAdd, IOp.dst, IOp.isF, IOp.args, coolOp, Nat.reduceSub, hv, hcv, h5, h1, h43, hlt, hpg, hpp, List.length_map, Nat.zero_add, List.nil_append, q0.1, q0.2, applyC, h, h2, hgo, hdo, hpo, and_self, true_or, false_or, or_self, and_false, false_and, true_and, not_true_eq_false, not_false_eq_true, if_true, if_false, applyRet, map_all, ge_iff_le, ne_eq]
    · simp only [↓xP, xQ, xR, flatR, eqCells_ok, eqSh, eqBs, Nat.reduceLT, decide_true, Nat.reduceBEq, Nat.reduceAdd, IOp.dst, IOp.isF, IOp.args, coolOp, Nat.reduceSub, hv, hcv, h5, h1, ho, hpg, List.length_map, Nat.zero_add, List.nil_append, q0.1, q0.2, applyC, h, h2, hgo, hdo, hpo, and_self, true_or, or_true, false_or, not_false_eq_true, if_true, applyRet, map_all, ne_eq]
  by_cases h3 : k = 3
  · subst h3
    simp only [↓xP, xQ, xR, flatR, eqCells_ok, eqSh, eqBs, Nat.reduceLT, decide_true, Nat.reduceBEq, Nat.reduceAdd, IOp.dst, IOp.isF, IOp.args, coolOp, Nat.reduceSub, hv, hcv, h5, h1, h4, hpg, hpd, List.length_map, Nat.zero_add, List.nil_append, q0.1, q0.2, applyC, h, h2, hgo, hdo, hpo, and_self, true_or, false_or, or_self, false_and, not_false_eq_true, if_true, if_false, applyRet, map_all]
  · by_cases hlt : old < 0
    · by_cases h8 : (8 : Int) ≤ (l.length : Int)
      · have h8' : 8 ≤ l.length := by omega
        simp only [↓xP, xQ, xR, flatR, eqCells_ok, eqSh, eqBs, Nat.reduceLT, decide_true, Nat.reduceBEq, Nat.reduceAdd, IOp.dst, IOp.isF, IOp.args, coolOp, Nat.reduceSub, hv, hcv, h5, h1, h4, h3, hlt, h8, h8', hpg, List.length_map, Nat.zero_add, List.nil_append, q0.1, q0.2, applyC, h, h2, hgo, hdo, hpo, and_self, true_or, false_or, or_self, and_false, false_and, true_and, not_true_eq_false, not_false_eq_true, if_true, if_false, applyRet, map_all, ge_iff_le, ne_eq]
      · have h8' : ¬ 8 ≤ l.length := by omega
        simp only [↓xP, xQ, xR, flatR, eqCells_ok, eqSh, eqBs, Nat.reduceLT, decide_true, Nat.reduceBEq, Nat.reduceAdd, IOp.dst, IOp.isF, IOp.args, coolOp, Nat.reduceSub, hv, hcv, h5, h1, h4, h3, hlt, h8, h8', hpg, hpp, List.length_map, Nat.zero_add, List.nil_append, q0.1, q0.2, applyC, h, h2, hgo, hdo, hpo, and_self, true_or, false_or, or_self, and_false, false_and, true_and, not_true_eq_false, not_false_eq_true, if_true, if_false, applyRet, map_all, ge_iff_le, ne_eq]
    · simp only [↓xP, xQ, xR, flatR, eqCells_ok, eqSh, eqBs, Nat.reduceLT, decide_true, Nat.reduceBEq, Nat.reduceAdd, IOp.dst, IOp.isF, IOp.args, coolOp, Nat.reduceSub, hv, hcv, h5, h1, h4, h3, hlt, hpg, hpp, List.length_map, Nat.zero_add, List.nil_append, q0.1, q0.2, applyC, h, h2, hgo, hdo, hpo, and_self, true_or, false_or, or_self, and_false, false_and, true_and, not_true_eq_false, not_false_eq_true, if_true, if_false, applyRet, map_all, ge_iff_le, ne_eq]
theorem copyOf_Session (l : List Session) (hn : l.length ≤ 1048576) : EE F 197 [L 3 (l.map Session.u)] [] = some ⟨[.sc (.own (.par 0) l.length)], [.row 3 (l.map Session.u)], []⟩ := by
  rw [R197, b197]
  have h1 : l.length ≤ maxLen := by simp [maxLen]; omega
  have h2 : l.length * 24 ≤ 140737488355328 := by omega
  have h3 : ∀ n : Nat, ¬ (n : Int) < 0 := fun n => by omega
  simp only [↓xP, xQ, xR, flatR, eqCells_ok, eqSh, eqBs, Nat.reduceLT, decide_true, Nat.reduceBEq, Nat.reduceAdd, IOp.dst, IOp.isF, IOp.args, coolOp, Nat.reduceSub, h1, h2]
theorem pairDrop_len {l : List Pair} (key : Str) (h : l.length ≤ 49) : (pairDrop l key).1.length ≤ 49 := by
  unfold pairDrop
  split
  · split
    · rename_i hs
      cases hh : hit key l with
      | none => rw [hh] at hs; cases hs
      | some p =>
        have := (List.getElem?_eq_some_iff.1 (hit_some hh).1).1
        rw [rep_len (by omega)]
        simp; omega
    · exact h
  · simp
theorem applyC_len {l : List Pair} (c : Command) (h : l.length ≤ 49) : (applyC l c).1.length ≤ 49 := by
  unfold applyC
  split
  · split
    · exact h
    · split
      · exact pairDrop_len _ h
      · split
        · exact h
        · have := pairPut_len l c.key c.value
          dsimp only; omega
  · simp
def pc (id : Id) (b : Bool) (l : List Pair) : C := match b with
  | false => .u (.sl 2 (l.map Pair.u))
  | true => .own id l.length
theorem drawSplitWanted_ok (code : List Int) (hc : Code code) : Ok (fun r => ∃ t, r = ⟨[t], [], []⟩ ∧ IsState t) (EE F 68 [L 1 (code.map yU)] []) := by
  refine Ok.run (fn := i68) (by kernel_rfl) rfl ?_
  simp only [i68, b68, argSt, insSt]
  obtain ⟨bs, ho, hb⟩ := open_ok code hc
  obtain ⟨r1, n1, q1, h1, hq1, hq1', rfl, t, rfl, lo, hi, l, k, se, cut, rfl, hl, hk⟩ := l20State_ok hb 0 9 (by omega) (by omega)
  obtain ⟨v1, hv1, _⟩ := pk hb q1 2 (by omega) (by omega)
  by_cases e0 : (v1 : Int) = 0
  case neg =>
    simp only [↓xP, xQ, xR, flatR, eqCells_ok, eqSh, eqBs, Nat.reduceLT, decide_true, Nat.reduceBEq, Nat.reduceAdd, IOp.dst, IOp.isF, IOp.args, coolOp, Nat.reduceSub, rdx, rdx2, ho, h1, hv1, e0]
    exact ⟨_, rfl, _, rfl, lo, hi, l, k, se, cut, rfl, hl, hk⟩
  cases se with
  | true =>
    simp only [↓xP, xQ, xR, flatR, eqCells_ok, eqSh, eqBs, Nat.reduceLT, decide_true, Nat.reduceBEq, Nat.reduceAdd, IOp.dst, IOp.isF, IOp.args, coolOp, Nat.reduceSub, rdx, rdx2, ho, h1, hv1, e0]
    exact ⟨_, rfl, _, rfl, lo, hi, l, k, true, cut, rfl, hl, hk⟩
  | false =>
    simp only [↓xP, xQ, xR, flatR, eqCells_ok, eqSh, eqBs, Nat.reduceLT, decide_true, Nat.reduceBEq, Nat.reduceAdd, IOp.dst, IOp.isF, IOp.args, coolOp, Nat.reduceSub, rdx, rdx2, ho, h1, hv1, e0]
    refine loop_pred (fun (a : Nat × Nat × Bool × List Pair) st => a.1 ≤ 9 ∧ a.2.1 ≤ 500 + 6 * a.1 ∧ a.2.2.2.length ≤ 49 ∧ st.s 3 = .t (.sc (.ptr (.loc 9 0) 0 0)) ∧ st.o (.loc 9 0) = some (rd bs a.2.1) ∧ st.s 2 = .t (.sc (.ptr (.loc 2 0) 0 0)) ∧ st.o (.loc 2 0) = some (.box [.u (.str []), .u (.str []), .u (.sl 2 []), .u (.sl 3 []), .u (.bool false), .u (.str [])]) ∧
      st.s 4 = .t (.sc (.ptr (.loc 4 0) 0 0)) ∧ st.o (.loc 4 0) = some (.box [.u (.str lo), .u (.str hi), pc (.loc 37 0) a.2.2.1 a.2.2.2, .u (.sl 3 (k.map Session.u)), .u (.bool false), .u (.str cut)]) ∧ st.s 5 = DI a.1 ∧ (a.2.2.1 = true → st.o (.loc 37 0) = some (.row 2 (a.2.2.2.map Pair.u)))) (fun a => 9 - a.1) ?_ (0, q1 + 1, false, l) ⟨by simp, by dsimp only; omega, hl, by simp only [↓xP, xQ, xR, flatR, eqCells_ok, eqSh, eqBs, Nat.reduceLT, decide_true, Nat.reduceBEq, Nat.reduceAdd, IOp.dst, IOp.isF, IOp.args, coolOp, Nat.reduceSub, rdx], by simp only [↓xP, xQ, xR, flatR, eqCells_ok, eqSh, eqBs, Nat.reduceLT, decide_true, Nat.reduceBEq, Nat.reduceAdd, IOp.dst, IOp.isF, IOp.args, coolOp, Nat.reduceSub, rdx], by simp only [↓xP, xQ, xR, flatR, eqCells_ok, eqSh, eqBs, Nat.reduceLT, decide_true, Nat.reduceBEq, Nat.reduceAdd, IOp.dst, IOp.isF, IOp.args, coolOp, Nat.reduceSub, rdx], by simp only [↓xP, xQ, xR, flatR, eqCells_ok, eqSh, eqBs, Nat.reduceLT, decide_true, Nat.reduceBEq, Nat.reduceAdd, IOp.dst, IOp.isF, IOp.args, coolOp, Nat.reduceSub, rdx], by simp only [↓xP, xQ, xR, flatR, eqCells_ok, eqSh, eqBs, Nat.reduceLT, decide_true, Nat.reduceBEq, Nat.reduceAdd, IOp.dst, IOp.isF, IOp.args, coolOp, Nat.reduceSub, rdx], by simp only [↓xP, xQ, xR, flatR, eqCells_ok, eqSh, eqBs, Nat.reduceLT, decide_true, Nat.reduceBEq, Nat.reduceAdd, IOp.dst, IOp.isF, IOp.args, coolOp, Nat.reduceSub, rdx, pc], by simp only [↓xP, xQ, xR, flatR, eqCells_ok, eqSh, eqBs, Nat.reduceLT, decide_true, Nat.reduceBEq, Nat.reduceAdd, IOp.dst, IOp.isF, IOp.args, coolOp, Nat.reduceSub, rdx]; rfl, fun h => by cases h⟩
    rintro ⟨i, q, b, l⟩ st ⟨hle, hq, hl, h3, hr, h2, ho2, h4, ho4, h5, ho37⟩ ih
    dsimp only at *
    by_cases hi9 : i < 9
    · have hi' : (i : Int) < 9 := by omega
      have hw := w_succ (i := i) (by omega)
      obtain ⟨r2, n2, q2, h2', hq2, hq2', rfl, s, rfl, hls⟩ := l20Key_ok hb q 0 (by omega) (by omega)
      have hac := applyCommand_spec l 2 s i 0 (by omega)
      have hal := applyC_len ⟨2, s, i, 0⟩ hl
      generalize applyC l ⟨2, s, i, 0⟩ = ac at hac hal
      obtain ⟨l1, old⟩ := ac
      simp only [applyRet] at hac
      dsimp only at hal
      have hpi := pairsIn_spec l1 lo hi
      have hpl := pairsInV_len l1 ⟨lo, hi⟩
      generalize pairsInV l1 ⟨lo, hi⟩ = l2 at hpi hpl
      cases b
      · simp only [pc] at *
        simp only [↓xP, xQ, xR, flatR, eqCells_ok, eqSh, eqBs, Nat.reduceLT, decide_true, Nat.reduceBEq, Nat.reduceAdd, IOp.dst, IOp.isF, IOp.args, coolOp, Nat.reduceSub, rdx, rdx2, h3, hr, h2, ho2, h4, ho4, h5, hi', h2', hac, hpi, hw, map_all]
        exact ih (i + 1, q2, true, l2) _ (by dsimp only; omega) ⟨by dsimp only; omega, by dsimp only; omega, by dsimp only; omega, by simp only [↓xP, xQ, xR, flatR, eqCells_ok, eqSh, eqBs, Nat.reduceLT, decide_true, Nat.reduceBEq, Nat.reduceAdd, IOp.dst, IOp.isF, IOp.args, coolOp, Nat.reduceSub, rdx, h3], by simp only [↓xP, xQ, xR, flatR, eqCells_ok, eqSh, eqBs, Nat.reduceLT, decide_true, Nat.reduceBEq, Nat.reduceAdd, IOp.dst, IOp.isF, IOp.args, coolOp, Nat.reduceSub, rdx], by simp only [↓xP, xQ, xR, flatR, eqCells_ok, eqSh, eqBs, Nat.reduceLT, decide_true, Nat.reduceBEq, Nat.reduceAdd, IOp.dst, IOp.isF, IOp.args, coolOp, Nat.reduceSub, rdx, h2], by simp only [↓xP, xQ, xR, flatR, eqCells_ok, eqSh, eqBs, Nat.reduceLT, decide_true, Nat.reduceBEq, Nat.reduceAdd, IOp.dst, IOp.isF, IOp.args, coolOp, Nat.reduceSub, rdx, ho2], by simp only [↓xP, xQ, xR, flatR, eqCells_ok, eqSh, eqBs, Nat.reduceLT, decide_true, Nat.reduceBEq, Nat.reduceAdd, IOp.dst, IOp.isF, IOp.args, coolOp, Nat.reduceSub, rdx, h4], by simp only [↓xP, xQ, xR, flatR, eqCells_ok, eqSh, eqBs, Nat.reduceLT, decide_true, Nat.reduceBEq, Nat.reduceAdd, IOp.dst, IOp.isF, IOp.args, coolOp, Nat.reduceSub, rdx, pc], by simp only [↓xP, xQ, xR, flatR, eqCells_ok, eqSh, eqBs, Nat.reduceLT, decide_true, Nat.reduceBEq, Nat.reduceAdd, IOp.dst, IOp.isF, IOp.args, coolOp, Nat.reduceSub, rdx, hw], fun _ => by simp only [↓xP, xQ, xR, flatR, eqCells_ok, eqSh, eqBs, Nat.reduceLT, decide_true, Nat.reduceBEq, Nat.reduceAdd, IOp.dst, IOp.isF, IOp.args, coolOp, Nat.reduceSub, rdx]⟩
      · have ho37 := ho37 rfl
        simp only [pc] at *
        simp only [↓xP, xQ, xR, flatR, eqCells_ok, eqSh, eqBs, Nat.reduceLT, decide_true, Nat.reduceBEq, Nat.reduceAdd, IOp.dst, IOp.isF, IOp.args, coolOp, Nat.reduceSub, rdx, rdx2, h3, hr, h2, ho2, h4, ho4, h5, ho37, hi', h2', hac, hpi, hw, map_all]
        exact ih (i + 1, q2, true, l2) _ (by dsimp only; omega) ⟨by dsimp only; omega, by dsimp only; omega, by dsimp only; omega, by simp only [↓xP, xQ, xR, flatR, eqCells_ok, eqSh, eqBs, Nat.reduceLT, decide_true, Nat.reduceBEq, Nat.reduceAdd, IOp.dst, IOp.isF, IOp.args, coolOp, Nat.reduceSub, rdx, h3], by simp only [↓xP, xQ, xR, flatR, eqCells_ok, eqSh, eqBs, Nat.reduceLT, decide_true, Nat.reduceBEq, Nat.reduceAdd, IOp.dst, IOp.isF, IOp.args, coolOp, Nat.reduceSub, rdx], by simp only [↓xP, xQ, xR, flatR, eqCells_ok, eqSh, eqBs, Nat.reduceLT, decide_true, Nat.reduceBEq, Nat.reduceAdd, IOp.dst, IOp.isF, IOp.args, coolOp, Nat.reduceSub, rdx, h2], by simp only [↓xP, xQ, xR, flatR, eqCells_ok, eqSh, eqBs, Nat.reduceLT, decide_true, Nat.reduceBEq, Nat.reduceAdd, IOp.dst, IOp.isF, IOp.args, coolOp, Nat.reduceSub, rdx, ho2], by simp only [↓xP, xQ, xR, flatR, eqCells_ok, eqSh, eqBs, Nat.reduceLT, decide_true, Nat.reduceBEq, Nat.reduceAdd, IOp.dst, IOp.isF, IOp.args, coolOp, Nat.reduceSub, rdx, h4], by simp only [↓xP, xQ, xR, flatR, eqCells_ok, eqSh, eqBs, Nat.reduceLT, decide_true, Nat.reduceBEq, Nat.reduceAdd, IOp.dst, IOp.isF, IOp.args, coolOp, Nat.reduceSub, rdx, pc], by simp only [↓xP, xQ, xR, flatR, eqCells_ok, eqSh, eqBs, Nat.reduceLT, decide_true, Nat.reduceBEq, Nat.reduceAdd, IOp.dst, IOp.isF, IOp.args, coolOp, Nat.reduceSub, rdx, hw], fun _ => by simp only [↓xP, xQ, xR, flatR, eqCells_ok, eqSh, eqBs, Nat.reduceLT, decide_true, Nat.reduceBEq, Nat.reduceAdd, IOp.dst, IOp.isF, IOp.args, coolOp, Nat.reduceSub, rdx]⟩
    · have hi' : ¬ (i : Int) < 9 := by omega
      cases b
      · simp only [pc] at *
        simp only [↓xP, xQ, xR, flatR, eqCells_ok, eqSh, eqBs, Nat.reduceLT, decide_true, Nat.reduceBEq, Nat.reduceAdd, IOp.dst, IOp.isF, IOp.args, coolOp, Nat.reduceSub, rdx, h3, hr, h2, ho2, h4, ho4, h5, hi']
        exact ⟨_, rfl, _, rfl, lo, hi, l, k, false, cut, rfl, hl, hk⟩
      · have ho37 := ho37 rfl
        simp only [pc] at *
        simp only [↓xP, xQ, xR, flatR, eqCells_ok, eqSh, eqBs, Nat.reduceLT, decide_true, Nat.reduceBEq, Nat.reduceAdd, IOp.dst, IOp.isF, IOp.args, coolOp, Nat.reduceSub, rdx, h3, hr, h2, ho2, h4, ho4, h5, ho37, hi', map_all]
        exact ⟨_, rfl, _, rfl, lo, hi, l, k, false, cut, rfl, hl, hk⟩
theorem ofR : (∀ (st : St) d res x y z, St.ofRet st d ⟨res, [x, y, z], []⟩ = (((st.obj (.loc d 0) (some x)).obj (.loc d 1) (some y)).obj (.loc d 2) (some z)).put d (retD (res.map (T.mapC (C.ren (newIds d)))))) ∧
  (∀ (st : St) d res x y z w, St.ofRet st d ⟨res, [x, y, z, w], []⟩ = ((((st.obj (.loc d 0) (some x)).obj (.loc d 1) (some y)).obj (.loc d 2) (some z)).obj (.loc d 3) (some w)).put d (retD (res.map (T.mapC (C.ren (newIds d)))))) ∧ List.range 3 = [0, 1, 2] ∧ List.range 4 = [0, 1, 2, 3] :=
  ⟨fun st d res x y z => rfl, fun st d res x y z w => rfl, rfl, rfl⟩
theorem statePart_ok (lo hi : Str) (l : List Pair) (k : List Session) (se : Bool) (cut : Str) (vl vh : Str) (hl : l.length ≤ 1048576) (hk : k.length ≤ 1048576) : EE F 146 [.ag [.u (.str lo), .u (.str hi), .u (.sl 2 (l.map Pair.u)), .u (.sl 3 (k.map Session.u)), .u (.bool se), .u (.str cut)], .ag [.u (.str vl), .u (.str vh)]] [] =
    some ⟨[.ag [.u (.str vl), .u (.str vh), .own (.par 0) (pairsInV l ⟨vl, vh⟩).length, .own (.par 1) k.length, .u (.bool false), .u (.str [])]], [.row 2 ((pairsInV l ⟨vl, vh⟩).map Pair.u), .row 3 (k.map Session.u)], []⟩ := by
  rw [R146, b146]
  have h1 := pairsIn_impl l vl vh
  have h2 := copyOf_Session k hk
  simp only [↓xP, xQ, xR, flatR, eqCells_ok, eqSh, eqBs, Nat.reduceLT, decide_true, Nat.reduceBEq, Nat.reduceAdd, IOp.dst, IOp.isF, IOp.args, coolOp, Nat.reduceSub, h1, h2]
theorem stateCut_impl (lo hi : Str) (l : List Pair) (k : List Session) (cut : Str) (hl : l.length ≤ 1048576) (hk : k.length ≤ 1048576) (hv : stateValid ⟨⟨lo, hi⟩, l, k, true, cut⟩ = true) (hc : ¬ cut = []) (hcut : cutOk ⟨lo, hi⟩ cut = true) : EE F 72 [.ag [.u (.str lo), .u (.str hi), .u (.sl 2 (l.map Pair.u)), .u (.sl 3 (k.map Session.u)), .u (.bool true), .u (.str cut)]] [] =
    some ⟨[.ag [.u (.str lo), .u (.str cut), .own (.par 0) (pairsInV l ⟨lo, cut⟩).length, .own (.par 1) k.length, .u (.bool false), .u (.str [])], .ag [.u (.str cut), .u (.str hi), .own (.par 2) (pairsInV l ⟨cut, hi⟩).length, .own (.par 3) k.length, .u (.bool false), .u (.str [])], B true],
      [.row 2 ((pairsInV l ⟨lo, cut⟩).map Pair.u), .row 3 (k.map Session.u), .row 2 ((pairsInV l ⟨cut, hi⟩).map Pair.u), .row 3 (k.map Session.u)], []⟩ := by
  rw [R72, b72]
  have h0 := stateValid_impl lo hi l k true cut (by omega)
  rw [hv] at h0
  have h1 := intervalCut_impl lo hi cut
  simp only [cutRet, hcut, ↓xP, xQ, xR, flatR, eqCells_ok, eqSh, eqBs, Nat.reduceLT, decide_true, Nat.reduceBEq, Nat.reduceAdd, IOp.dst, IOp.isF, IOp.args, coolOp, Nat.reduceSub] at h1
  have h2 := fun a b => statePart_ok lo hi l k true cut a b hl hk
  simp only [↓xP, xQ, xR, flatR, eqCells_ok, eqSh, eqBs, Nat.reduceLT, decide_true, Nat.reduceBEq, Nat.reduceAdd, IOp.dst, IOp.isF, IOp.args, coolOp, Nat.reduceSub, h0, h1, h2, hc]
def cmpI (a b : Int) : Int := if a < b then -1 else if b < a then 1 else 0
theorem isNaN_i (x : Int) : EE F 247 [I x] [] = ok1 (B false) := by
  rw [R247, b247]
  simp only [↓xP, xQ, xR, flatR, eqCells_ok, eqSh, eqBs, Nat.reduceLT, decide_true, Nat.reduceBEq, Nat.reduceAdd, IOp.dst, IOp.isF, IOp.args, coolOp, Nat.reduceSub, ne_eq, not_true_eq_false]
theorem compare_i (a b : Int) : EE F 237 [I a, I b] [] = ok1 (I (cmpI a b)) := by
  rw [R237, b237]
  simp only [↓xP, xQ, xR, flatR, eqCells_ok, eqSh, eqBs, Nat.reduceLT, decide_true, Nat.reduceBEq, Nat.reduceAdd, IOp.dst, IOp.isF, IOp.args, coolOp, Nat.reduceSub, isNaN_i]
  unfold cmpI
  by_cases h1 : a < b
  · simp only [h1, if_true, decide_true, sel]
  · by_cases h2 : b < a
    · simp only [h1, h2, if_true, if_false, decide_true, decide_false, sel, gt_iff_lt, Bool.false_eq_true]
    · simp only [h1, h2, if_true, if_false, decide_true, decide_false, sel, gt_iff_lt, Bool.false_eq_true]
theorem sessionCmp (a b c : Int) (x : Int) : EE F 236 [.ag [.u (.int .i64 a), .u (.int .i64 b), .u (.int .i64 c)], I x] [] = ok1 (I (cmpI a x)) := by
  rw [R236, b236]
  simp only [↓xP, xQ, xR, flatR, eqCells_ok, eqSh, eqBs, Nat.reduceLT, decide_true, Nat.reduceBEq, Nat.reduceAdd, IOp.dst, IOp.isF, IOp.args, coolOp, Nat.reduceSub, compare_i]
theorem sessionSearch_some (l : List Session) (x : Int) (hn : l.length ≤ 1048576) : Ok (fun r => ∃ (i : Nat) (b : Bool), r = ⟨[I i, B b], [], []⟩ ∧ i ≤ l.length ∧ (b = true → i < l.length)) (EE F 235 [L 3 (l.map Session.u), I x, .sc (.u (.fn 236 []))] []) := by
  refine Ok.run (fn := i235) (by kernel_rfl) rfl ?_
  simp only [i235, b235, argSt, insSt]
  simp only [↓xP, xQ, xR, flatR, eqCells_ok, eqSh, eqBs, Nat.reduceLT, decide_true, Nat.reduceBEq, Nat.reduceAdd, IOp.dst, IOp.isF, IOp.args, coolOp, Nat.reduceSub]
  refine loop_pred (fun (a : Nat × Nat) st => a.1 ≤ a.2 ∧ a.2 ≤ l.length ∧ st.s 0 = DU (.sl 3 (l.map Session.u)) ∧ st.s 1 = DI x ∧ st.s 2 = .t (.sc (.u (.fn 236 []))) ∧ st.s 8 = DI l.length ∧ st.s 9 = DI a.1 ∧ st.s 10 = DI a.2) (fun a => a.2 - a.1) ?_ (0, l.length) ⟨by omega, by dsimp only; omega, by simp only [↓xP, xQ, xR, flatR, eqCells_ok, eqSh, eqBs, Nat.reduceLT, decide_true, Nat.reduceBEq, Nat.reduceAdd, IOp.dst, IOp.isF, IOp.args, coolOp, Nat.reduceSub], by simp only [↓xP, xQ, xR, flatR, eqCells_ok, eqSh, eqBs, Nat.reduceLT, decide_true, Nat.reduceBEq, Nat.reduceAdd, IOp.dst, IOp.isF, IOp.args, coolOp, Nat.reduceSub], by simp only [↓xP, xQ, xR, flatR, eqCells_ok, eqSh, eqBs, Nat.reduceLT, decide_true, Nat.reduceBEq, Nat.reduceAdd, IOp.dst, IOp.isF, IOp.args, coolOp, Nat.reduceSub], by simp only [↓xP, xQ, xR, flatR, eqCells_ok, eqSh, eqBs, Nat.reduceLT, decide_true, Nat.reduceBEq, Nat.reduceAdd, IOp.dst, IOp.isF, IOp.args, coolOp, Nat.reduceSub], by simp only [↓xP, xQ, xR, flatR, eqCells_ok, eqSh, eqBs, Nat.reduceLT, decide_true, Nat.reduceBEq, Nat.reduceAdd, IOp.dst, IOp.isF, IOp.args, coolOp, Nat.reduceSub]; rfl, by simp only [↓xP, xQ, xR, flatR, eqCells_ok, eqSh, eqBs, Nat.reduceLT, decide_true, Nat.reduceBEq, Nat.reduceAdd, IOp.dst, IOp.isF, IOp.args, coolOp, Nat.reduceSub]⟩
  rintro ⟨i, j⟩ st ⟨hij, hj, h0, h1, h2, h8, h9, h10⟩ ih
  dsimp only at hij hj h9 h10 ih
  by_cases h : i < j
  · obtain ⟨⟨pa, pb, pc⟩, hp⟩ : ∃ p, l[(i + j) / 2]? = some p := ⟨_, List.getElem?_eq_getElem (by omega)⟩
    have hm := mid64 (i := i) (j := j) (by omega)
    have hw := w_succ (i := (i + j) / 2) (by omega)
    have hb : ¬ (1 : Int) < 0 := by omega
    by_cases hc : cmpI pa x < 0
    · simp only [↓xP, xQ, xR, flatR, eqCells_ok, eqSh, eqBs, Nat.reduceLT, decide_true, Nat.reduceBEq, Nat.reduceAdd, IOp.dst, IOp.isF, IOp.args, coolOp, Nat.reduceSub, h0, h1, h2, h8, h9, h10, h, hb, hm, hp, hw, Session.u, sessionCmp, hc]
      exact ih ((i + j) / 2 + 1, j) _ (by dsimp only; omega) ⟨by dsimp only; omega, hj, by simp only [↓xP, xQ, xR, flatR, eqCells_ok, eqSh, eqBs, Nat.reduceLT, decide_true, Nat.reduceBEq, Nat.reduceAdd, IOp.dst, IOp.isF, IOp.args, coolOp, Nat.reduceSub, h0], by simp only [↓xP, xQ, xR, flatR, eqCells_ok, eqSh, eqBs, Nat.reduceLT, decide_true, Nat.reduceBEq, Nat.reduceAdd, IOp.dst, IOp.isF, IOp.args, coolOp, Nat.reduceSub, h1], by simp only [↓xP, xQ, xR, flatR, eqCells_ok, eqSh, eqBs, Nat.reduceLT, decide_true, Nat.reduceBEq, Nat.reduceAdd, IOp.dst, IOp.isF, IOp.args, coolOp, Nat.reduceSub, h2], by simp only [↓xP, xQ, xR, flatR, eqCells_ok, eqSh, eqBs, Nat.reduceLT, decide_true, Nat.reduceBEq, Nat.reduceAdd, IOp.dst, IOp.isF, IOp.args, coolOp, Nat.reduceSub, h8], by simp only [↓xP, xQ, xR, flatR, eqCells_ok, eqSh, eqBs, Nat.reduceLT, decide_true, Nat.reduceBEq, Nat.reduceAdd, IOp.dst, IOp.isF, IOp.args, coolOp, Nat.reduceSub], by simp only [↓xP, xQ, xR, flatR, eqCells_ok, eqSh, eqBs, Nat.reduceLT, decide_true, Nat.reduceBEq, Nat.reduceAdd, IOp.dst, IOp.isF, IOp.args, coolOp, Nat.reduceSub, h10]⟩
    · simp only [↓xP, xQ, xR, flatR, eqCells_ok, eqSh, eqBs, Nat.reduceLT, decide_true, Nat.reduceBEq, Nat.reduceAdd, IOp.dst, IOp.isF, IOp.args, coolOp, Nat.reduceSub, h0, h1, h2, h8, h9, h10, h, hb, hm, hp, hw, Session.u, sessionCmp, hc]
      exact ih (i, (i + j) / 2) _ (by dsimp only; omega) ⟨by dsimp only; omega, by dsimp only; omega, by simp only [↓xP, xQ, xR, flatR, eqCells_ok, eqSh, eqBs, Nat.reduceLT, decide_true, Nat.reduceBEq, Nat.reduceAdd, IOp.dst, IOp.isF, IOp.args, coolOp, Nat.reduceSub, h0], by simp only [↓xP, xQ, xR, flatR, eqCells_ok, eqSh, eqBs, Nat.reduceLT, decide_true, Nat.reduceBEq, Nat.reduceAdd, IOp.dst, IOp.isF, IOp.args, coolOp, Nat.reduceSub, h1], by simp only [↓xP, xQ, xR, flatR, eqCells_ok, eqSh, eqBs, Nat.reduceLT, decide_true, Nat.reduceBEq, Nat.reduceAdd, IOp.dst, IOp.isF, IOp.args, coolOp, Nat.reduceSub, h2], by simp only [↓xP, xQ, xR, flatR, eqCells_ok, eqSh, eqBs, Nat.reduceLT, decide_true, Nat.reduceBEq, Nat.reduceAdd, IOp.dst, IOp.isF, IOp.args, coolOp, Nat.reduceSub, h8], by simp only [↓xP, xQ, xR, flatR, eqCells_ok, eqSh, eqBs, Nat.reduceLT, decide_true, Nat.reduceBEq, Nat.reduceAdd, IOp.dst, IOp.isF, IOp.args, coolOp, Nat.reduceSub, h9], by simp only [↓xP, xQ, xR, flatR, eqCells_ok, eqSh, eqBs, Nat.reduceLT, decide_true, Nat.reduceBEq, Nat.reduceAdd, IOp.dst, IOp.isF, IOp.args, coolOp, Nat.reduceSub]⟩
  · by_cases hi : i < l.length
    · obtain ⟨⟨pa, pb, pc⟩, hp⟩ : ∃ p, l[i]? = some p := ⟨_, List.getElem?_eq_getElem hi⟩
      simp only [↓xP, xQ, xR, flatR, eqCells_ok, eqSh, eqBs, Nat.reduceLT, decide_true, Nat.reduceBEq, Nat.reduceAdd, IOp.dst, IOp.isF, IOp.args, coolOp, Nat.reduceSub, h0, h1, h2, h8, h9, h10, h, hi, hp, Session.u, sessionCmp]
      exact ⟨_, rfl, i, _, rfl, by omega, fun _ => hi⟩
    · have hp : l[i]? = none := List.getElem?_eq_none (by omega)
      simp only [↓xP, xQ, xR, flatR, eqCells_ok, eqSh, eqBs, Nat.reduceLT, decide_true, Nat.reduceBEq, Nat.reduceAdd, IOp.dst, IOp.isF, IOp.args, coolOp, Nat.reduceSub, h0, h1, h2, h8, h9, h10, h, hi, hp]
      exact ⟨_, rfl, i, _, rfl, by omega, fun h => by cases h⟩
theorem sessionPlace_some (l : List Session) (x : Int) (hn : l.length ≤ 1048576) : ∃ (i : Nat) (b : Bool), EE F 218 [L 3 (l.map Session.u), I x] [] = some ⟨[I i, B b], [], []⟩ ∧ i ≤ l.length ∧ (b = true → i < l.length) := by
  obtain ⟨r, hr, i, b, rfl, h1, h2⟩ := sessionSearch_some l x hn
  refine ⟨i, b, ?_, h1, h2⟩
  rw [R218, b218]
  simp only [↓xP, xQ, xR, flatR, eqCells_ok, eqSh, eqBs, Nat.reduceLT, decide_true, Nat.reduceBEq, Nat.reduceAdd, IOp.dst, IOp.isF, IOp.args, coolOp, Nat.reduceSub, hr]
theorem sessionPut_impl_some (l : List Session) (xc xs xr : Int) (hn : l.length ≤ 100000) : Ok (fun r => ∃ (l' : List Session) (b : Bool), r = ⟨[.sc (.own (.par 0) l'.length), B b], [.row 3 (l'.map Session.u)], []⟩ ∧ l'.length ≤ l.length + 1) (EE F 199 [L 3 (l.map Session.u), .ag [.u (.int .i64 xc), .u (.int .i64 xs), .u (.int .i64 xr)]] []) := by
  refine Ok.run (fn := i199) (by kernel_rfl) rfl ?_
  simp only [i199, b199, argSt, insSt]
  have hv := sessionsValid_impl l (by omega)
  have hv1 := sessionsValid_impl [⟨xc, xs, xr⟩] (by simp)
  simp only [List.map_cons, List.map_nil, Session.u] at hv1
  cases h1 : sessionsValid l
  · simp only [↓xP, xQ, xR, flatR, eqCells_ok, eqSh, eqBs, Nat.reduceLT, decide_true, Nat.reduceBEq, Nat.reduceAdd, IOp.dst, IOp.isF, IOp.args, coolOp, Nat.reduceSub, hv, h1]
    exact ⟨_, rfl, [], _, rfl, by simp⟩
  cases h2 : sessionsValid [⟨xc, xs, xr⟩]
  · simp only [↓xP, xQ, xR, flatR, eqCells_ok, eqSh, eqBs, Nat.reduceLT, decide_true, Nat.reduceBEq, Nat.reduceAdd, IOp.dst, IOp.isF, IOp.args, coolOp, Nat.reduceSub, hv, h1, hv1, h2]
    exact ⟨_, rfl, [], _, rfl, by simp⟩
  obtain ⟨i, b, hpl, hi, hib⟩ := sessionPlace_some l xc (by omega)
  have hc := copyOf_Session l (by omega)
  have hmap : [[U.int .i64 xc, U.int .i64 xs, U.int .i64 xr]] = List.map Session.u [⟨xc, xs, xr⟩] := rfl
  cases b
  · have hre := replaced_Session l [⟨xc, xs, xr⟩] i 0 (by omega) (by simp only [List.length_cons, List.length_nil]; omega)
    have hlen : (rep l i 0 [(⟨xc, xs, xr⟩ : Session)]).length ≤ l.length + 1 := by rw [rep_len (by omega)]; simp only [List.length_cons, List.length_nil]; omega
    have e0 : ((0 : Nat) : Int) = 0 := rfl
    rw [e0, ← hmap] at hre
    simp only [↓xP, xQ, xR, flatR, eqCells_ok, eqSh, eqBs, Nat.reduceLT, decide_true, Nat.reduceBEq, Nat.reduceAdd, IOp.dst, IOp.isF, IOp.args, coolOp, Nat.reduceSub, hv, h1, hv1, h2, hpl, hre]
    exact ⟨_, rfl, _, _, rfl, hlen⟩
  · have hil := hib rfl
    obtain ⟨⟨yc, ys, yr⟩, hy⟩ : ∃ p, l[i]? = some p := ⟨_, List.getElem?_eq_getElem hil⟩
    have hre := replaced_Session l [⟨xc, xs, xr⟩] i 1 (by omega) (by simp only [List.length_cons, List.length_nil]; omega)
    have hlen : (rep l i 1 [(⟨xc, xs, xr⟩ : Session)]).length ≤ l.length + 1 := by rw [rep_len (by omega)]; simp only [List.length_cons, List.length_nil]; omega
    have e0 : ((1 : Nat) : Int) = 1 := rfl
    rw [e0, ← hmap] at hre
    simp only [↓xP, xQ, xR, flatR, eqCells_ok, eqSh, eqBs, Nat.reduceLT, decide_true, Nat.reduceBEq, Nat.reduceAdd, IOp.dst, IOp.isF, IOp.args, coolOp, Nat.reduceSub, hv, h1, hv1, h2, hpl, hy, Session.u]
    refine sel_pred (fun h => ?_) (fun h => ?_)
    · simp only [↓xP, xQ, xR, flatR, eqCells_ok, eqSh, eqBs, Nat.reduceLT, decide_true, Nat.reduceBEq, Nat.reduceAdd, IOp.dst, IOp.isF, IOp.args, coolOp, Nat.reduceSub, hc]
      exact ⟨_, rfl, l, _, rfl, by omega⟩
    · simp only [↓xP, xQ, xR, flatR, eqCells_ok, eqSh, eqBs, Nat.reduceLT, decide_true, Nat.reduceBEq, Nat.reduceAdd, IOp.dst, IOp.isF, IOp.args, coolOp, Nat.reduceSub, hre]
      exact ⟨_, rfl, _, _, rfl, hlen⟩
inductive Q3 where
  | qa
  | qb
  | qc
def sjC (k : List Session) : Q3 → C
  | .qa => .own (.loc 19 0) k.length
  | .qb => .own (.loc 29 0) k.length
  | .qc => .u (.sl 3 (k.map Session.u))
def sjO (st : St) (k : List Session) : Q3 → Prop
  | .qa => st.o (.loc 19 0) = some (.row 3 (k.map Session.u))
  | .qb => st.o (.loc 29 0) = some (.row 3 (k.map Session.u))
  | .qc => True
theorem sessionsJoin_some (l m : List Session) (hl : l.length ≤ 10000) (hm : m.length ≤ 10000) : Ok (fun r => ∃ (k : List Session), r = ⟨[L 3 (k.map Session.u)], [], []⟩ ∧ k.length ≤ 20000) (EE F 149 [L 3 (l.map Session.u), L 3 (m.map Session.u)] []) := by
  refine Ok.run (fn := i149) (by kernel_rfl) rfl ?_
  simp only [i149, b149, argSt, insSt]
  have hv := sessionsValid_impl l (by omega)
  have hv1 := sessionsValid_impl m (by omega)
  cases h1 : sessionsValid l
  · simp only [↓xP, xQ, xR, flatR, eqCells_ok, eqSh, eqBs, Nat.reduceLT, decide_true, Nat.reduceBEq, Nat.reduceAdd, IOp.dst, IOp.isF, IOp.args, coolOp, Nat.reduceSub, hv, h1]
    exact ⟨_, rfl, [], rfl, by simp⟩
  cases h2 : sessionsValid m
  · simp only [↓xP, xQ, xR, flatR, eqCells_ok, eqSh, eqBs, Nat.reduceLT, decide_true, Nat.reduceBEq, Nat.reduceAdd, IOp.dst, IOp.isF, IOp.args, coolOp, Nat.reduceSub, hv, h1, hv1, h2]
    exact ⟨_, rfl, [], rfl, by simp⟩
  have hc := copyOf_Session l (by omega)
  simp only [↓xP, xQ, xR, flatR, eqCells_ok, eqSh, eqBs, Nat.reduceLT, decide_true, Nat.reduceBEq, Nat.reduceAdd, IOp.dst, IOp.isF, IOp.args, coolOp, Nat.reduceSub, hv, h1, hv1, h2, hc]
  refine loop_pred (fun (a : Nat × Q3 × List Session) st => a.1 ≤ m.length ∧ a.2.2.length ≤ l.length + a.1 ∧ st.s 20 = DU (.sl 3 (m.map Session.u)) ∧ st.s 21 = DI m.length ∧ st.s 22 = DI a.1 ∧ st.s 5 = .t (.sc (sjC a.2.2 a.2.1)) ∧ sjO st a.2.2 a.2.1) (fun a => m.length - a.1) ?_ (0, .qa, l) ⟨by simp, by simp, (by and_intros <;> first | omega | rfl | (simp only [↓xP, xQ, xR, flatR, eqCells_ok, eqSh, eqBs, Nat.reduceLT, decide_true, Nat.reduceBEq, Nat.reduceAdd, IOp.dst, IOp.isF, IOp.args, coolOp, Nat.reduceSub, sjC, sjO]; done) | (simp only [↓xP, xQ, xR, flatR, eqCells_ok, eqSh, eqBs, Nat.reduceLT, decide_true, Nat.reduceBEq, Nat.reduceAdd, IOp.dst, IOp.isF, IOp.args, coolOp, Nat.reduceSub, sjC, sjO]; rfl) | (simp only [↓xP, xQ, xR, flatR, eqCells_ok, eqSh, eqBs, Nat.reduceLT, decide_true, Nat.reduceBEq, Nat.reduceAdd, IOp.dst, IOp.isF, IOp.args, coolOp, Nat.reduceSub, sjC, sjO]; omega))⟩
  rintro ⟨i, b, k⟩ st ⟨hle, hk, h20, h21, h22, h5, ho⟩ ih
  dsimp only at *
  by_cases hi : i < m.length
  · obtain ⟨⟨xc, xs, xr⟩, hx⟩ : ∃ p, m[i]? = some p := ⟨_, List.getElem?_eq_getElem hi⟩
    have hw := w_succ (i := i) (by omega)
    obtain ⟨r, hr, k', ok, rfl, hk'⟩ := sessionPut_impl_some k xc xs xr (by omega)
    cases b
    · simp only [sjC, sjO] at h5 ho
      cases ok
      · simp only [↓xP, xQ, xR, flatR, eqCells_ok, eqSh, eqBs, Nat.reduceLT, decide_true, Nat.reduceBEq, Nat.reduceAdd, IOp.dst, IOp.isF, IOp.args, coolOp, Nat.reduceSub, h20, h21, h22, h5, ho, hi, hx, Session.u, hr, hw, map_all]
        exact ih (i + 1, .qa, k) _ (by dsimp only; omega) ⟨by dsimp only; omega, by dsimp only; omega, (by and_intros <;> first | omega | rfl | (simp only [↓xP, xQ, xR, flatR, eqCells_ok, eqSh, eqBs, Nat.reduceLT, decide_true, Nat.reduceBEq, Nat.reduceAdd, IOp.dst, IOp.isF, IOp.args, coolOp, Nat.reduceSub, sjC, sjO, h20, h21, h22, h5, ho, hw, map_all]; done) | (simp only [↓xP, xQ, xR, flatR, eqCells_ok, eqSh, eqBs, Nat.reduceLT, decide_true, Nat.reduceBEq, Nat.reduceAdd, IOp.dst, IOp.isF, IOp.args, coolOp, Nat.reduceSub, sjC, sjO, h20, h21, h22, h5, ho, hw, map_all]; rfl) | (simp only [↓xP, xQ, xR, flatR, eqCells_ok, eqSh, eqBs, Nat.reduceLT, decide_true, Nat.reduceBEq, Nat.reduceAdd, IOp.dst, IOp.isF, IOp.args, coolOp, Nat.reduceSub, sjC, sjO, h20, h21, h22, h5, ho, hw, map_all]; omega))⟩
      · simp only [↓xP, xQ, xR, flatR, eqCells_ok, eqSh, eqBs, Nat.reduceLT, decide_true, Nat.reduceBEq, Nat.reduceAdd, IOp.dst, IOp.isF, IOp.args, coolOp, Nat.reduceSub, h20, h21, h22, h5, ho, hi, hx, Session.u, hr, hw, map_all]
        exact ih (i + 1, .qb, k') _ (by dsimp only; omega) ⟨by dsimp only; omega, by dsimp only; omega, (by and_intros <;> first | omega | rfl | (simp only [↓xP, xQ, xR, flatR, eqCells_ok, eqSh, eqBs, Nat.reduceLT, decide_true, Nat.reduceBEq, Nat.reduceAdd, IOp.dst, IOp.isF, IOp.args, coolOp, Nat.reduceSub, sjC, sjO, h20, h21, h22, h5, ho, hw]; done) | (simp only [↓xP, xQ, xR, flatR, eqCells_ok, eqSh, eqBs, Nat.reduceLT, decide_true, Nat.reduceBEq, Nat.reduceAdd, IOp.dst, IOp.isF, IOp.args, coolOp, Nat.reduceSub, sjC, sjO, h20, h21, h22, h5, ho, hw]; rfl) | (simp only [↓xP, xQ, xR, flatR, eqCells_ok, eqSh, eqBs, Nat.reduceLT, decide_true, Nat.reduceBEq, Nat.reduceAdd, IOp.dst, IOp.isF, IOp.args, coolOp, Nat.reduceSub, sjC, sjO, h20, h21, h22, h5, ho, hw]; omega))⟩
    · simp only [sjC, sjO] at h5 ho
      cases ok
      · simp only [↓xP, xQ, xR, flatR, eqCells_ok, eqSh, eqBs, Nat.reduceLT, decide_true, Nat.reduceBEq, Nat.reduceAdd, IOp.dst, IOp.isF, IOp.args, coolOp, Nat.reduceSub, h20, h21, h22, h5, ho, hi, hx, Session.u, hr, hw, map_all]
        exact ih (i + 1, .qc, k) _ (by dsimp only; omega) ⟨by dsimp only; omega, by dsimp only; omega, (by and_intros <;> first | omega | rfl | (simp only [↓xP, xQ, xR, flatR, eqCells_ok, eqSh, eqBs, Nat.reduceLT, decide_true, Nat.reduceBEq, Nat.reduceAdd, IOp.dst, IOp.isF, IOp.args, coolOp, Nat.reduceSub, sjC, sjO, h20, h21, h22, h5, ho, hw, map_all]; done) | (simp only [↓xP, xQ, xR, flatR, eqCells_ok, eqSh, eqBs, Nat.reduceLT, decide_true, Nat.reduceBEq, Nat.reduceAdd, IOp.dst, IOp.isF, IOp.args, coolOp, Nat.reduceSub, sjC, sjO, h20, h21, h22, h5, ho, hw, map_all]; rfl) | (simp only [↓xP, xQ, xR, flatR, eqCells_ok, eqSh, eqBs, Nat.reduceLT, decide_true, Nat.reduceBEq, Nat.reduceAdd, IOp.dst, IOp.isF, IOp.args, coolOp, Nat.reduceSub, sjC, sjO, h20, h21, h22, h5, ho, hw, map_all]; omega))⟩
      · simp only [↓xP, xQ, xR, flatR, eqCells_ok, eqSh, eqBs, Nat.reduceLT, decide_true, Nat.reduceBEq, Nat.reduceAdd, IOp.dst, IOp.isF, IOp.args, coolOp, Nat.reduceSub, h20, h21, h22, h5, ho, hi, hx, Session.u, hr, hw, map_all]
        exact ih (i + 1, .qb, k') _ (by dsimp only; omega) ⟨by dsimp only; omega, by dsimp only; omega, (by and_intros <;> first | omega | rfl | (simp only [↓xP, xQ, xR, flatR, eqCells_ok, eqSh, eqBs, Nat.reduceLT, decide_true, Nat.reduceBEq, Nat.reduceAdd, IOp.dst, IOp.isF, IOp.args, coolOp, Nat.reduceSub, sjC, sjO, h20, h21, h22, h5, ho, hw]; done) | (simp only [↓xP, xQ, xR, flatR, eqCells_ok, eqSh, eqBs, Nat.reduceLT, decide_true, Nat.reduceBEq, Nat.reduceAdd, IOp.dst, IOp.isF, IOp.args, coolOp, Nat.reduceSub, sjC, sjO, h20, h21, h22, h5, ho, hw]; rfl) | (simp only [↓xP, xQ, xR, flatR, eqCells_ok, eqSh, eqBs, Nat.reduceLT, decide_true, Nat.reduceBEq, Nat.reduceAdd, IOp.dst, IOp.isF, IOp.args, coolOp, Nat.reduceSub, sjC, sjO, h20, h21, h22, h5, ho, hw]; omega))⟩
    · simp only [sjC, sjO] at h5 ho
      cases ok
      · simp only [↓xP, xQ, xR, flatR, eqCells_ok, eqSh, eqBs, Nat.reduceLT, decide_true, Nat.reduceBEq, Nat.reduceAdd, IOp.dst, IOp.isF, IOp.args, coolOp, Nat.reduceSub, h20, h21, h22, h5, ho, hi, hx, Session.u, hr, hw, map_all]
        exact ih (i + 1, .qc, k) _ (by dsimp only; omega) ⟨by dsimp only; omega, by dsimp only; omega, (by and_intros <;> first | omega | rfl | (simp only [↓xP, xQ, xR, flatR, eqCells_ok, eqSh, eqBs, Nat.reduceLT, decide_true, Nat.reduceBEq, Nat.reduceAdd, IOp.dst, IOp.isF, IOp.args, coolOp, Nat.reduceSub, sjC, sjO, h20, h21, h22, h5, ho, hw, map_all]; done) | (simp only [↓xP, xQ, xR, flatR, eqCells_ok, eqSh, eqBs, Nat.reduceLT, decide_true, Nat.reduceBEq, Nat.reduceAdd, IOp.dst, IOp.isF, IOp.args, coolOp, Nat.reduceSub, sjC, sjO, h20, h21, h22, h5, ho, hw, map_all]; rfl) | (simp only [↓xP, xQ, xR, flatR, eqCells_ok, eqSh, eqBs, Nat.reduceLT, decide_true, Nat.reduceBEq, Nat.reduceAdd, IOp.dst, IOp.isF, IOp.args, coolOp, Nat.reduceSub, sjC, sjO, h20, h21, h22, h5, ho, hw, map_all]; omega))⟩
      · simp only [↓xP, xQ, xR, flatR, eqCells_ok, eqSh, eqBs, Nat.reduceLT, decide_true, Nat.reduceBEq, Nat.reduceAdd, IOp.dst, IOp.isF, IOp.args, coolOp, Nat.reduceSub, h20, h21, h22, h5, ho, hi, hx, Session.u, hr, hw, map_all]
        exact ih (i + 1, .qb, k') _ (by dsimp only; omega) ⟨by dsimp only; omega, by dsimp only; omega, (by and_intros <;> first | omega | rfl | (simp only [↓xP, xQ, xR, flatR, eqCells_ok, eqSh, eqBs, Nat.reduceLT, decide_true, Nat.reduceBEq, Nat.reduceAdd, IOp.dst, IOp.isF, IOp.args, coolOp, Nat.reduceSub, sjC, sjO, h20, h21, h22, h5, ho, hw]; done) | (simp only [↓xP, xQ, xR, flatR, eqCells_ok, eqSh, eqBs, Nat.reduceLT, decide_true, Nat.reduceBEq, Nat.reduceAdd, IOp.dst, IOp.isF, IOp.args, coolOp, Nat.reduceSub, sjC, sjO, h20, h21, h22, h5, ho, hw]; rfl) | (simp only [↓xP, xQ, xR, flatR, eqCells_ok, eqSh, eqBs, Nat.reduceLT, decide_true, Nat.reduceBEq, Nat.reduceAdd, IOp.dst, IOp.isF, IOp.args, coolOp, Nat.reduceSub, sjC, sjO, h20, h21, h22, h5, ho, hw]; omega))⟩
  · cases b <;> simp only [sjC, sjO] at h5 ho <;> simp only [↓xP, xQ, xR, flatR, eqCells_ok, eqSh, eqBs, Nat.reduceLT, decide_true, Nat.reduceBEq, Nat.reduceAdd, IOp.dst, IOp.isF, IOp.args, coolOp, Nat.reduceSub, h20, h21, h22, h5, ho, hi, map_all] <;> exact ⟨_, rfl, k, rfl, by omega⟩
theorem pairsJoin_ok (l m : List Pair) (h1 : pairsValid l = true) (h2 : pairsValid m = true) (h3 : pairsValid (l ++ m) = true) : EE F 148 [L 2 (l.map Pair.u), L 2 (m.map Pair.u)] [] = some ⟨[.sc (.own (.par 0) (l ++ m).length), B true], [.row 2 ((l ++ m).map Pair.u)], []⟩ := by
  rw [R148, b148]
  have v1 := pairsValid_impl l
  have v2 := pairsValid_impl m
  have v3 := pairsValid_impl (l ++ m)
  rw [h1] at v1; rw [h2] at v2; rw [h3] at v3
  have l1 := pairsValid_len h1
  have l2 := pairsValid_len h2
  have hc := copyOf_Pair l (by omega)
  have q := small_max (n := l.length + m.length) (k := 24) (by omega) (by omega)
  have hm : l.map Pair.u ++ m.map Pair.u = (l ++ m).map Pair.u := by simp
  have hln : l.length + m.length = (l ++ m).length := by simp
  have q' : (l ++ m).length ≤ maxLen ∧ (l ++ m).length * 24 ≤ 140737488355328 := by rw [← hln]; exact q
  simp only [↓xP, xQ, xR, flatR, eqCells_ok, eqSh, eqBs, Nat.reduceLT, decide_true, Nat.reduceBEq, Nat.reduceAdd, IOp.dst, IOp.isF, IOp.args, coolOp, Nat.reduceSub, v1, v2, hc, List.length_map, hm, hln, q'.1, q'.2, map_all, v3]
theorem joined_valid {a b : State} (hm : mergeWanted a b = true) : pairsValid (a.pairs ++ b.pairs) = true := by
  simp only [mergeWanted, Bool.and_eq_true, decide_eq_true_eq] at hm
  obtain ⟨⟨⟨⟨⟨ha, hb⟩, _⟩, _⟩, hj⟩, hl⟩ := hm
  simp only [stateValid, Bool.and_eq_true] at ha hb
  obtain ⟨⟨⟨⟨_, pa⟩, _⟩, ina⟩, _⟩ := ha
  obtain ⟨⟨⟨⟨_, pb⟩, _⟩, inb⟩, _⟩ := hb
  simp only [joinOk, Bool.and_eq_true, Bool.not_eq_true', decide_eq_true_eq, decide_eq_false_iff_not] at hj
  obtain ⟨⟨_, hne⟩, heq⟩ := hj
  obtain ⟨_, a2, a3⟩ := (pairsValid_iff _).1 pa
  obtain ⟨_, b2, b3⟩ := (pairsValid_iff _).1 pb
  rw [List.all_eq_true] at ina inb
  refine (pairsValid_iff _).2 ⟨by rw [List.length_append]; omega, fun p hp => ?_, ?_⟩
  · rcases List.mem_append.1 hp with h | h
    · exact a2 p h
    · exact b2 p h
  · rw [List.pairwise_append]
    refine ⟨a3, b3, fun x hx y hy => ?_⟩
    have h1 := ina x hx
    have h2 := inb y hy
    simp only [inside, Bool.and_eq_true, Bool.not_eq_true', Bool.or_eq_true, decide_eq_true_eq] at h1 h2
    have h3 : strLt x.key a.span.high = true := by
      rcases h1.2 with h | h
      · exact absurd h hne
      · exact h
    rw [heq] at h3
    unfold Up
    rcases lt_total b.span.low y.key with q | q | q
    · exact lt_trans h3 q
    · rw [← q]; exact h3
    · rw [h2.1] at q; cases q
theorem key_least {s : Str} (h : keyValid s = true) : s ≠ [] ∧ strLt s [97] = false := by
  simp only [keyValid, Bool.and_eq_true, decide_eq_true_eq] at h
  obtain ⟨⟨h1, _⟩, h2⟩ := h
  cases s with
  | nil => simp at h1
  | cons c t =>
    refine ⟨by simp, ?_⟩
    simp only [List.all_cons, Bool.and_eq_true] at h2
    have hc := h2.1
    simp only [letter, Bool.and_eq_true, decide_eq_true_eq] at hc
    rw [lt_cons, lt_nil']
    have hn : ¬ c < 97 := by
      have h97 : (97 : UInt8).toNat = 97 := rfl
      have := hc.1
      rw [UInt8.lt_iff_toNat_lt, h97]
      omega
    simp [hn]
theorem le_lt {a b c : Str} (h1 : strLt b a = false) (h2 : strLt b c = true) : strLt a c = true := by
  rcases lt_total a b with h | h | h
  · exact lt_trans h h2
  · subst h; exact h2
  · rw [h] at h1; cases h1
theorem split_ok {lo hi : Str} {l : List Pair} {k : List Session} {cut : Str} (hv : stateValid ⟨⟨lo, hi⟩, l, k, false, cut⟩ = true) (h6 : 6 ≤ l.length) : ¬ pairsMiddle l = [] ∧ cutOk ⟨lo, hi⟩ (pairsMiddle l) = true ∧ stateValid ⟨⟨lo, hi⟩, l, k, true, pairsMiddle l⟩ = true ∧
    (pairsInV l ⟨lo, pairsMiddle l⟩).length = l.length / 2 ∧ (pairsInV l ⟨pairsMiddle l, hi⟩).length = l.length - l.length / 2 := by
  have hv' := hv
  simp only [stateValid, Bool.and_eq_true] at hv'
  obtain ⟨⟨⟨⟨hi1, hp⟩, hses⟩, hall⟩, _⟩ := hv'
  obtain ⟨p, hpm⟩ : ∃ p, l[l.length / 2]? = some p := ⟨_, List.getElem?_eq_getElem (by omega)⟩
  have hmid : pairsMiddle l = p.key := by
    unfold pairsMiddle
    rw [if_pos ⟨hp, by omega⟩, hpm]
  rw [hmid]
  obtain ⟨p0, hp0⟩ : ∃ p, l[0]? = some p := ⟨_, List.getElem?_eq_getElem (by omega)⟩
  have hk := (pairsValid_at hp hpm).1
  have hk0 := (pairsValid_at hp hp0).1
  have ha := asc_of hp
  have h0m : strLt p0.key p.key = true := ha 0 (l.length / 2) p0 p (by omega) hp0 hpm
  rw [List.all_eq_true] at hall
  have hin : ∀ q, q ∈ l → strLt q.key lo = false ∧ (hi = [] ∨ strLt q.key hi = true) := fun q hq => by
    have := hall q hq
    simpa [inside] using this
  have hin0 := hin p0 (List.mem_of_getElem? hp0)
  have hinm := hin p (List.mem_of_getElem? hpm)
  have hne := (key_least hk).1
  have hi1' := hi1
  simp only [intervalValid, Bool.and_eq_true, Bool.or_eq_true, decide_eq_true_eq] at hi1'
  have hiL : intervalValid ⟨lo, p.key⟩ = true := by
    simp only [intervalValid, Bool.and_eq_true, Bool.or_eq_true, decide_eq_true_eq]
    refine ⟨⟨hi1'.1.1, .inr hk⟩, .inr ?_⟩
    split
    · exact le_lt (key_least hk0).2 h0m
    · exact le_lt hin0.1 h0m
  have hiR : intervalValid ⟨p.key, hi⟩ = true := by
    simp only [intervalValid, Bool.and_eq_true, Bool.or_eq_true, decide_eq_true_eq]
    refine ⟨⟨.inr hk, hi1'.1.2⟩, ?_⟩
    rw [if_neg hne]
    exact hinm.2
  have hcut : cutOk ⟨lo, hi⟩ p.key = true := by simp only [cutOk, hi1, hk, hiL, hiR, Bool.and_self]
  have hpl : place p.key l = l.length / 2 := place_eq p.key l _ (by omega) (fun t q ht hq => ha t (l.length / 2) q p ht hq hpm) (fun q hq => by rw [hpm] at hq; cases hq; exact lt_irrefl _)
  have hlo : place lo l = 0 := place_eq lo l 0 (by omega) (fun t q ht => by omega) (fun q hq => by rw [hp0] at hq; cases hq; exact hin0.1)
  have hhi : hi ≠ [] → place hi l = l.length := fun hne => place_eq hi l l.length (by omega) (fun t q ht hq => by
    rcases (hin q (List.mem_of_getElem? hq)).2 with h | h
    · exact absurd h hne
    · exact h) (fun q hq => by have := (List.getElem?_eq_some_iff.1 hq).1; omega)
  refine ⟨hne, hcut, ?_, ?_, ?_⟩
  · simp only [stateValid, hi1, hp, hses, hcut, Bool.and_self, Bool.true_and, Bool.or_true, Bool.and_true]
    rw [List.all_eq_true]; exact hall
  · rw [pairsInV_eq hp hiL, ← pairsIn_cut ha, if_neg hne, hpl, hlo]
    simp; omega
  · rw [pairsInV_eq hp hiR, ← pairsIn_cut ha, hpl]
    by_cases hh : hi = []
    · rw [if_pos hh]; simp
    · rw [if_neg hh, hhi hh]; simp
set_option maxHeartbeats 4000000 in
theorem l20Sealed_ok {bs : List Int} (hb : Bytes bs) (p : Nat) (lo hi cut : Str) (n : Int) (hn : n ≤ 1048576) (hp : p ≤ 1000000) : Gd bs p 400 (fun r m => m = [] ∧ ∃ t, r = [t] ∧ IsState t) (EE F 198 [RP0, .ag [.u (.str lo), .u (.str hi)], S cut, I n] [rd bs p]) := by
  refine Gd.run (fn := i198) (by kernel_rfl) rfl ?_
  simp only [i198, b198, argSt, insSt]
  obtain ⟨r2, n2, q2, h2, hq2, hq2', rfl, l, rfl, hl⟩ := l20Pairs_ok hb p 0 (by omega) (by omega)
  obtain ⟨r3, n3, q3, h3, hq3, hq3', rfl, k, rfl, hk⟩ := l20Sessions_ok hb q2 0 (by omega) (by omega)
  have hpi := pairsIn_spec l lo hi
  have hpl := pairsInV_len l ⟨lo, hi⟩
  generalize pairsInV l ⟨lo, hi⟩ = pl at hpi hpl
  obtain ⟨bo, q4, hod, hq4, hq4', _⟩ := odd_ok hb q3 n (by omega) hn
  obtain ⟨w, hw, hwl⟩ := pk hb q4 3 (by omega) (by omega)
  obtain ⟨s3, m3, u3, g3, hu3, hu3', rfl, k3, rfl, hk3⟩ := l20Sessions_ok hb (q4 + 1) 1 (by omega) (by omega)
  have one : ∀ (t : T) (q : Nat), p ≤ q → q ≤ p + 400 → IsState t → Gd bs p 400 (fun r m => m = [] ∧ ∃ t, r = [t] ∧ IsState t) (some ⟨[t], [], [rd bs q]⟩) := fun t q h1 h2 h3 => ⟨_, _, q, rfl, h1, h2, rfl, t, rfl, h3⟩
  have hpl49 : pl.length ≤ 49 := by omega
  cases bo
  · simp only [↓xP, xQ, xR, flatR, eqCells_ok, eqSh, eqBs, Nat.reduceLT, decide_true, Nat.reduceBEq, Nat.reduceAdd, IOp.dst, IOp.isF, IOp.args, coolOp, Nat.reduceSub, rdx, h2, h3, hpi, hod, map_all]
    exact one _ _ (by omega) (by omega) ⟨_, _, _, _, _, _, rfl, hpl49, hk⟩
  · rcases (show w = 0 ∨ w = 1 ∨ w = 2 by omega) with rfl | rfl | rfl
    · simp only [↓xP, xQ, xR, flatR, eqCells_ok, eqSh, eqBs, Nat.reduceLT, decide_true, Nat.reduceBEq, Nat.reduceAdd, IOp.dst, IOp.isF, IOp.args, coolOp, Nat.reduceSub, rdx, h2, h3, hpi, hod, map_all, hw]
      exact one _ _ (by omega) (by omega) ⟨_, _, _, _, _, _, rfl, hpl49, hk⟩
    · simp only [↓xP, xQ, xR, flatR, eqCells_ok, eqSh, eqBs, Nat.reduceLT, decide_true, Nat.reduceBEq, Nat.reduceAdd, IOp.dst, IOp.isF, IOp.args, coolOp, Nat.reduceSub, rdx, h2, h3, hpi, hod, map_all, hw]
      exact one _ _ (by omega) (by omega) ⟨_, _, _, _, _, _, rfl, hpl49, hk⟩
    · simp only [↓xP, xQ, xR, flatR, eqCells_ok, eqSh, eqBs, Nat.reduceLT, decide_true, Nat.reduceBEq, Nat.reduceAdd, IOp.dst, IOp.isF, IOp.args, coolOp, Nat.reduceSub, rdx, h2, h3, hpi, hod, map_all, hw, g3]
      exact one _ _ (by omega) (by omega) ⟨_, _, _, _, _, _, rfl, hpl49, hk3⟩
set_option maxHeartbeats 4000000 in
theorem drawStateJoin_ok (code : List Int) (hc : Code code) : Ok (fun r => ∃ t t', r = ⟨[t, t'], [], []⟩ ∧ IsState t ∧ IsState t') (EE F 147 [L 1 (code.map yU)] []) := by
  refine Ok.run (fn := i147) (by kernel_rfl) rfl ?_
  simp only [i147, b147, argSt, insSt]
  obtain ⟨bs, ho, hb⟩ := open_ok code hc
  obtain ⟨r1, n1, q1, h1, hq1, hq1', rfl, lo, hi, rfl, _⟩ := l20Span_ok hb 0 0 (by omega) (by omega)
  obtain ⟨r2, n2, q2, h2, hq2, hq2', rfl, key, rfl, _⟩ := l20Key_ok hb q1 0 (by omega) (by omega)
  have hct := intervalCut_spec lo hi key
  simp only [cutRet] at hct
  cases ok : cutOk ⟨lo, hi⟩ key
  · simp only [ok, ↓xP, xQ, xR, flatR, eqCells_ok, eqSh, eqBs, Nat.reduceLT, decide_true, Nat.reduceBEq, Nat.reduceAdd, IOp.dst, IOp.isF, IOp.args, coolOp, Nat.reduceSub] at hct
    obtain ⟨v, hv, _⟩ := pk hb q2 5 (by omega) (by omega)
    have h4 : ((v : Int)).tdiv 4 = ((v / 4 : Nat) : Int) := rfl
    have h40 : ¬ (4 : Int) = 0 := by omega
    have e00 : IntKind.i64.wrap ((0 : Nat) : Int) = ((0 : Nat) : Int) := by rw [w64 (by omega) (by omega)]
    have e11 : IntKind.i64.wrap ((1 : Nat) : Int) = ((1 : Nat) : Int) := by rw [w64 (by omega) (by omega)]
    obtain ⟨r3, n3, q3, h3, hq3, hq3', rfl, t, rfl, lo1, hi1, l1, k1, se1, cut1, rfl, hl1, hk1⟩ := l20Sealed_ok hb (q2 + 1) [] [99] [] 9 (by omega) (by omega)
    by_cases h0 : v / 4 = 0
    · obtain ⟨r4, n4, q4, h4', hq4, hq4', rfl, t', rfl, lo2, hi2, l2, k2, se2, cut2, rfl, hl2, hk2⟩ := l20Sealed_ok hb q3 [99] [] [] 9 (by omega) (by omega)
      simp only [↓xP, xQ, xR, flatR, eqCells_ok, eqSh, eqBs, Nat.reduceLT, decide_true, Nat.reduceBEq, Nat.reduceAdd, IOp.dst, IOp.isF, IOp.args, coolOp, Nat.reduceSub, rdx, rdx2, ho, h1, h2, hct, hv, h4, h40, h0, e00, h3, h4']
      exact ⟨_, rfl, _, _, rfl, ⟨_, _, _, _, _, _, rfl, hl1, hk1⟩, ⟨_, _, _, _, _, _, rfl, hl2, hk2⟩⟩
    · have hv1 : v / 4 = 1 := by omega
      obtain ⟨r4, n4, q4, h4', hq4, hq4', rfl, t', rfl, lo2, hi2, l2, k2, se2, cut2, rfl, hl2, hk2⟩ := l20Sealed_ok hb q3 [100] [] [] 9 (by omega) (by omega)
      simp only [↓xP, xQ, xR, flatR, eqCells_ok, eqSh, eqBs, Nat.reduceLT, decide_true, Nat.reduceBEq, Nat.reduceAdd, IOp.dst, IOp.isF, IOp.args, coolOp, Nat.reduceSub, rdx, rdx2, ho, h1, h2, hct, hv, h4, h40, hv1, e11, h3, h4']
      exact ⟨_, rfl, _, _, rfl, ⟨_, _, _, _, _, _, rfl, hl1, hk1⟩, ⟨_, _, _, _, _, _, rfl, hl2, hk2⟩⟩
  · simp only [ok, ↓xP, xQ, xR, flatR, eqCells_ok, eqSh, eqBs, Nat.reduceLT, decide_true, Nat.reduceBEq, Nat.reduceAdd, IOp.dst, IOp.isF, IOp.args, coolOp, Nat.reduceSub] at hct
    obtain ⟨r3, n3, q3, h3, hq3, hq3', rfl, t, rfl, lo1, hi1, l1, k1, se1, cut1, rfl, hl1, hk1⟩ := l20Sealed_ok hb q2 lo key [] 9 (by omega) (by omega)
    obtain ⟨r4, n4, q4, h4', hq4, hq4', rfl, t', rfl, lo2, hi2, l2, k2, se2, cut2, rfl, hl2, hk2⟩ := l20Sealed_ok hb q3 key hi [] 9 (by omega) (by omega)
    simp only [↓xP, xQ, xR, flatR, eqCells_ok, eqSh, eqBs, Nat.reduceLT, decide_true, Nat.reduceBEq, Nat.reduceAdd, IOp.dst, IOp.isF, IOp.args, coolOp, Nat.reduceSub, rdx, rdx2, ho, h1, h2, hct, h3, h4']
    exact ⟨_, rfl, _, _, rfl, ⟨_, _, _, _, _, _, rfl, hl1, hk1⟩, ⟨_, _, _, _, _, _, rfl, hl2, hk2⟩⟩
set_option maxHeartbeats 4000000 in
theorem drawMergeWanted_ok (code : List Int) (hc : Code code) : Ok (fun r => ∃ t t', r = ⟨[t, t'], [], []⟩ ∧ IsState t ∧ IsState t') (EE F 73 [L 1 (code.map yU)] []) := by
  refine Ok.run (fn := i73) (by kernel_rfl) rfl ?_
  simp only [i73, b73, argSt, insSt]
  obtain ⟨bs, ho, hb⟩ := open_ok code hc
  obtain ⟨r1, h1, t, t', rfl, ⟨al, ah, l, k, se, cut, rfl, hl, hk⟩, ⟨bl, bh, m, j, se', cut', rfl, hm, hj⟩⟩ := drawStateJoin_ok code hc
  obtain ⟨v, hv, _⟩ := pk hb 0 4 (by omega) (by omega)
  obtain ⟨w, hw, hwl⟩ := pk hb 1 3 (by omega) (by omega)
  have hc1 : 2 < l.length → vcut l.length none (some (DI 2)) = some (0, 2) := fun h => cut_to (n := l.length) (i := 2) (by omega)
  have hc2 : 2 < m.length → vcut m.length none (some (DI (w : Int))) = some (0, w) := fun h => cut_to (n := m.length) (i := w) (by omega)
  have tk : ∀ (l : List Pair) (n : Nat), List.take n (List.map Pair.u l) = List.map Pair.u (l.take n) := fun l n => by rw [List.map_take]
  by_cases h0 : (0 : Int) < (v : Int) <;> by_cases hl2 : (2 : Int) < (l.length : Int) <;> by_cases hm2 : (2 : Int) < (m.length : Int)
  all_goals
    try have hc1 := hc1 (by omega)
    try have hc2 := hc2 (by omega)
    simp only [↓xP, xQ, xR, flatR, eqCells_ok, eqSh, eqBs, Nat.reduceLT, decide_true, Nat.reduceBEq, Nat.reduceAdd, IOp.dst, IOp.isF, IOp.args, coolOp, Nat.reduceSub, rdx, rdx2, ho, h1, hv, gt_iff_lt, h0, List.length_map, hl2, hm2, hc1, hw, hc2, List.drop_zero, tk]
    exact ⟨_, rfl, _, _, rfl, ⟨_, _, _, _, _, _, rfl, by first | omega | (rw [List.length_take]; omega), hk⟩, ⟨_, _, _, _, _, _, rfl, by first | omega | (rw [List.length_take]; omega), hj⟩⟩
theorem stateJoin_some (al ah : Str) (l : List Pair) (k : List Session) (bl bh : Str) (m : List Pair) (j : List Session) (hk : k.length ≤ 10000) (hj : j.length ≤ 10000) (h1 : stateValid ⟨⟨al, ah⟩, l, k, true, []⟩ = true) (h2 : stateValid ⟨⟨bl, bh⟩, m, j, true, []⟩ = true) (h3 : joinOk ⟨al, ah⟩ ⟨bl, bh⟩ = true) (h4 : pairsValid (l ++ m) = true) :
    Ok (fun r => ∃ x : List Session, r = ⟨[.ag [.u (.str al), .u (.str bh), .u (.sl 2 ((l ++ m).map Pair.u)), .u (.sl 3 (x.map Session.u)), .u (.bool false), .u (.str [])], B true], [], []⟩ ∧ x.length ≤ 20000) (EE F 76 [.ag [.u (.str al), .u (.str ah), .u (.sl 2 (l.map Pair.u)), .u (.sl 3 (k.map Session.u)), .u (.bool true), .u (.str [])], .ag [.u (.str bl), .u (.str bh), .u (.sl 2 (m.map Pair.u)), .u (.sl 3 (j.map Session.u)), .u (.bool true), .u (.str [])]] []) := by
  refine Ok.run (fn := i76) (by kernel_rfl) rfl ?_
  simp only [i76, b76, argSt, insSt]
  have v1 := stateValid_impl al ah l k true [] (by omega)
  have v2 := stateValid_impl bl bh m j true [] (by omega)
  rw [h1] at v1; rw [h2] at v2
  have v3 := intervalJoin_impl al ah bl bh
  simp only [joinRet, h3, ↓xP, xQ, xR, flatR, eqCells_ok, eqSh, eqBs, Nat.reduceLT, decide_true, Nat.reduceBEq, Nat.reduceAdd, IOp.dst, IOp.isF, IOp.args, coolOp, Nat.reduceSub] at v3
  simp only [stateValid, Bool.and_eq_true] at h1 h2
  have v4 := pairsJoin_ok l m h1.1.1.1.2 h2.1.1.1.2 h4
  obtain ⟨r, hr, x, rfl, hx⟩ := sessionsJoin_some k j hk hj
  simp only [↓xP, xQ, xR, flatR, eqCells_ok, eqSh, eqBs, Nat.reduceLT, decide_true, Nat.reduceBEq, Nat.reduceAdd, IOp.dst, IOp.isF, IOp.args, coolOp, Nat.reduceSub, v1, v2, v3, v4, hr, map_all, ne_eq, not_true_eq_false, Bool.or_true]
  exact ⟨_, rfl, x, rfl, hx⟩
set_option maxHeartbeats 4000000 in
theorem law_FnMergeWanted (u : U) (hu : UT (.sl [.i .u8]) u) : EE F 13 [.sc (.u u)] [] = ok1 (B true) := by
  obtain ⟨code, rfl, hc⟩ := Code.of hu
  rw [R13, b13]
  by_cases hg : (1048576 : Int) < code.length
  · simp only [↓xP, xQ, xR, flatR, eqCells_ok, eqSh, eqBs, Nat.reduceLT, decide_true, Nat.reduceBEq, Nat.reduceAdd, IOp.dst, IOp.isF, IOp.args, coolOp, Nat.reduceSub, List.length_map, gt_iff_lt, hg]
  obtain ⟨r1, hr1, t, t', rfl, ⟨al, ah, l, k, se, cut, rfl, hl, hk⟩, ⟨bl, bh, m, j, se', cut', rfl, hm, hj⟩⟩ := drawMergeWanted_ok code hc
  obtain ⟨r2, hr2, t2, rfl, lo, hi, s, x, sd, sc, rfl, hsl, hxl⟩ := drawSplitWanted_ok code hc
  have m1 := mergeWanted_impl al ah l k se cut (by omega) bl bh m j se' cut' (by omega)
  have m2 := mergeWanted_spec al ah l k se cut (by omega) bl bh m j se' cut' (by omega)
  have s1 := splitWanted_impl lo hi s x sd sc (by omega)
  -- what comes of the part that is split
  have tail : mergeWanted ⟨⟨al, ah⟩, l, k, se, cut⟩ ⟨⟨bl, bh⟩, m, j, se', cut'⟩ = true → se = false ∧ se' = false ∧ cut = [] ∧ cut' = [] ∧ stateValid ⟨⟨al, ah⟩, l, k, true, []⟩ = true ∧ stateValid ⟨⟨bl, bh⟩, m, j, true, []⟩ = true ∧ joinOk ⟨al, ah⟩ ⟨bl, bh⟩ = true ∧ pairsValid (l ++ m) = true ∧ (l ++ m).length ≤ 3 := by
    intro h
    have hjv := joined_valid h
    simp only [mergeWanted, Bool.and_eq_true, Bool.not_eq_true', decide_eq_true_eq] at h
    obtain ⟨⟨⟨⟨⟨ha, hb⟩, rfl⟩, rfl⟩, hj⟩, hl⟩ := h
    simp only [stateValid, Bool.and_eq_true, Bool.or_eq_true, decide_eq_true_eq, Bool.false_eq_true, false_and, or_false] at ha hb
    refine ⟨rfl, rfl, ha.2, hb.2, ?_, ?_, hj, hjv, by rw [List.length_append]; exact hl⟩
    · simp only [stateValid, ha.1.1.1.1, ha.1.1.1.2, ha.1.1.2, ha.1.2, decide_true, Bool.true_or, Bool.and_self]
    · simp only [stateValid, hb.1.1.1.1, hb.1.1.1.2, hb.1.1.2, hb.1.2, decide_true, Bool.true_or, Bool.and_self]
  cases hmw : mergeWanted ⟨⟨al, ah⟩, l, k, se, cut⟩ ⟨⟨bl, bh⟩, m, j, se', cut'⟩
  · rw [hmw] at m1 m2
    by_cases hcase : stateValid ⟨⟨lo, hi⟩, s, x, sd, sc⟩ = true ∧ sd = false ∧ 6 ≤ s.length
    · obtain ⟨hs, rfl, h6⟩ := hcase
      obtain ⟨hne, hcut, hsv, hla, hlb⟩ := split_ok hs h6
      have hsp : splitWanted ⟨⟨lo, hi⟩, s, x, false, sc⟩ = pairsMiddle s := by unfold splitWanted; rw [if_pos ⟨hs, rfl, h6⟩]
      rw [hsp] at s1
      have hsc := stateCut_impl lo hi s x (pairsMiddle s) (by omega) (by omega) hsv hne hcut
      have m3 := mergeWanted_impl lo (pairsMiddle s) (pairsInV s ⟨lo, pairsMiddle s⟩) x false [] (by omega) (pairsMiddle s) hi (pairsInV s ⟨pairsMiddle s, hi⟩) x false [] (by omega)
      have m4 : mergeWanted ⟨⟨lo, pairsMiddle s⟩, pairsInV s ⟨lo, pairsMiddle s⟩, x, false, []⟩ ⟨⟨pairsMiddle s, hi⟩, pairsInV s ⟨pairsMiddle s, hi⟩, x, false, []⟩ = false := by
        have : ¬ (pairsInV s ⟨lo, pairsMiddle s⟩).length + (pairsInV s ⟨pairsMiddle s, hi⟩).length ≤ 3 := by omega
        simp only [mergeWanted, this, decide_false, Bool.and_false]
      rw [m4] at m3
      simp only [↓xP, xQ, xR, flatR, eqCells_ok, eqSh, eqBs, Nat.reduceLT, decide_true, Nat.reduceBEq, Nat.reduceAdd, IOp.dst, IOp.isF, IOp.args, coolOp, Nat.reduceSub, rdx2, List.length_map, gt_iff_lt, hg, hr1, hr2, m1, m2, s1, hne, hsc, ofR, m3, map_all, alive_ok, ne_eq, not_false_eq_true, not_true_eq_false]
    · have hsp : splitWanted ⟨⟨lo, hi⟩, s, x, sd, sc⟩ = [] := by unfold splitWanted; rw [if_neg hcase]
      rw [hsp] at s1
      simp only [↓xP, xQ, xR, flatR, eqCells_ok, eqSh, eqBs, Nat.reduceLT, decide_true, Nat.reduceBEq, Nat.reduceAdd, IOp.dst, IOp.isF, IOp.args, coolOp, Nat.reduceSub, rdx2, List.length_map, gt_iff_lt, hg, hr1, hr2, m1, m2, s1, alive_ok, ne_eq, not_true_eq_false]
  · obtain ⟨rfl, rfl, rfl, rfl, v1, v2, v3, v4, v5⟩ := tail hmw
    rw [hmw] at m1 m2
    obtain ⟨r3, hr3, y, rfl, hy⟩ := stateJoin_some al ah l k bl bh m j (by omega) (by omega) v1 v2 v3 v4
    have s2 := splitWanted_impl al bh (l ++ m) y false [] (by omega)
    have hsp2 : splitWanted ⟨⟨al, bh⟩, l ++ m, y, false, []⟩ = [] := by unfold splitWanted; rw [if_neg (by rintro ⟨_, _, h⟩; dsimp only at h; omega)]
    rw [hsp2] at s2
    by_cases hcase : stateValid ⟨⟨lo, hi⟩, s, x, sd, sc⟩ = true ∧ sd = false ∧ 6 ≤ s.length
    · obtain ⟨hs, rfl, h6⟩ := hcase
      obtain ⟨hne, hcut, hsv, hla, hlb⟩ := split_ok hs h6
      have hsp : splitWanted ⟨⟨lo, hi⟩, s, x, false, sc⟩ = pairsMiddle s := by unfold splitWanted; rw [if_pos ⟨hs, rfl, h6⟩]
      rw [hsp] at s1
      have hsc := stateCut_impl lo hi s x (pairsMiddle s) (by omega) (by omega) hsv hne hcut
      have m3 := mergeWanted_impl lo (pairsMiddle s) (pairsInV s ⟨lo, pairsMiddle s⟩) x false [] (by omega) (pairsMiddle s) hi (pairsInV s ⟨pairsMiddle s, hi⟩) x false [] (by omega)
      have m4 : mergeWanted ⟨⟨lo, pairsMiddle s⟩, pairsInV s ⟨lo, pairsMiddle s⟩, x, false, []⟩ ⟨⟨pairsMiddle s, hi⟩, pairsInV s ⟨pairsMiddle s, hi⟩, x, false, []⟩ = false := by
        have : ¬ (pairsInV s ⟨lo, pairsMiddle s⟩).length + (pairsInV s ⟨pairsMiddle s, hi⟩).length ≤ 3 := by omega
        simp only [mergeWanted, this, decide_false, Bool.and_false]
      rw [m4] at m3
      simp only [↓xP, xQ, xR, flatR, eqCells_ok, eqSh, eqBs, Nat.reduceLT, decide_true, Nat.reduceBEq, Nat.reduceAdd, IOp.dst, IOp.isF, IOp.args, coolOp, Nat.reduceSub, rdx2, List.length_map, gt_iff_lt, hg, hr1, hr2, m1, m2, s1, hne, hsc, ofR, m3, map_all, alive_ok, hr3, s2, ne_eq, not_false_eq_true, not_true_eq_false]
    · have hsp : splitWanted ⟨⟨lo, hi⟩, s, x, sd, sc⟩ = [] := by unfold splitWanted; rw [if_neg hcase]
      rw [hsp] at s1
      simp only [↓xP, xQ, xR, flatR, eqCells_ok, eqSh, eqBs, Nat.reduceLT, decide_true, Nat.reduceBEq, Nat.reduceAdd, IOp.dst, IOp.isF, IOp.args, coolOp, Nat.reduceSub, rdx2, List.length_map, gt_iff_lt, hg, hr1, hr2, m1, m2, s1, alive_ok, hr3, s2, ne_eq, not_true_eq_false]
end Go.Proofs.YtdnhamehpdlbgaaV
