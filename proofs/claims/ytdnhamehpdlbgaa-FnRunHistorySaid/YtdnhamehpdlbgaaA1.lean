/- Lemmas of functions that the law FnRunHistory reaches, and that it returns true for all data of its types. No conditions but those that the lemmas state. -/
import Derived.Test.YtdnhamehpdlbgaaT1
import Derived.Test.YtdnhamehpdlbgaaJ
import Derived.Test.YtdnhamehpdlbgaaS7
namespace Go.Proofs.YtdnhamehpdlbgaaV
open Go Go.RowKit
set_option linter.unusedVariables false
set_option linter.unusedSimpArgs false
set_option maxRecDepth 4000
def chkZ (a : Int) (k : Int → Int) : Int := if a < 0 then -1 else k a
def allZ {α : Type} (g : α → Int → Int) : List α → Int → Int
  | [], a => a
  | x :: xs, a => chkZ (g x a) (allZ g xs)
/-- No more is left than was there; what was counted is small. -/
def LeZ (g : Int → Int) (P : Prop) : Prop := ∀ a, 0 ≤ a → a ≤ 1048576 → g a ≤ a ∧ (0 ≤ g a → P)
theorem LeZ.chk {g k : Int → Int} {P Q : Prop} (hg : LeZ g P) (hk : LeZ k Q) : LeZ (fun a => chkZ (g a) k) (P ∧ Q) := by
  intro a h0 h1
  obtain ⟨h2, h3⟩ := hg a h0 h1
  simp only [chkZ]
  split
  · exact ⟨by omega, fun h => by omega⟩
  · obtain ⟨h4, h5⟩ := hk (g a) (by omega) (by omega)
    exact ⟨by omega, fun h => ⟨h3 (by omega), h5 h⟩⟩
theorem LeZ.all {α : Type} {g : α → Int → Int} {P : α → Prop} : ∀ {l : List α}, (∀ x, x ∈ l → LeZ (g x) (P x)) → LeZ (allZ g l) (∀ x, x ∈ l → P x)
  | [], _ => fun a _ _ => ⟨Int.le_refl _, fun _ x h => by cases h⟩
  | x :: xs, h => by
    have h1 := (h x (List.mem_cons_self ..)).chk (LeZ.all (l := xs) (fun y hy => h y (List.mem_cons_of_mem _ hy)))
    intro a h0 h2
    obtain ⟨h3, h4⟩ := h1 a h0 h2
    refine ⟨h3, fun h y hy => ?_⟩
    rcases List.mem_cons.1 hy with rfl | hy
    · exact (h4 h).1
    · exact (h4 h).2 y hy
/-- All from a number on. -/
def allF (n : Nat) (p : Nat → Bool) (i : Nat) : Bool := if i < n then p i && allF n p (i + 1) else true
termination_by n - i
theorem allF_lt {n : Nat} {p : Nat → Bool} {i : Nat} (h : i < n) : allF n p i = (p i && allF n p (i + 1)) := by rw [allF, if_pos h]
theorem allF_ge {n : Nat} {p : Nat → Bool} {i : Nat} (h : ¬ i < n) : allF n p i = true := by rw [allF, if_neg h]
theorem allF_iff {n : Nat} {p : Nat → Bool} : ∀ (k i : Nat), n - i = k → (allF n p i = true ↔ ∀ j, i ≤ j → j < n → p j = true)
  | 0, i, h => by
    rw [allF_ge (by omega)]
    exact ⟨fun _ j h1 h2 => by omega, fun _ => rfl⟩
  | k + 1, i, h => by
    rw [allF_lt (by omega), Bool.and_eq_true, allF_iff k (i + 1) (by omega)]
    refine ⟨fun ⟨h1, h2⟩ j hj hn => ?_, fun h1 => ⟨h1 i (Nat.le_refl _) (by omega), fun j hj hn => h1 j (by omega) hn⟩⟩
    by_cases e : j = i
    · subst e; exact h1
    · exact h2 j (by omega) hn
def inR (n a b : Int) : Bool := decide (a ≤ n) && decide (n ≤ b)
theorem l1In_ok (n a b : Int) : EE F 134 [I n, I a, I b] [] = ok1 (B (inR n a b)) := by
  rw [R134, b134]
  simp only [↓xP, xQ, xR, flatR, eqCells_ok, eqSh, eqBs, Nat.reduceLT, decide_true, Nat.reduceBEq, Nat.reduceAdd, IOp.dst, IOp.isF, IOp.args, coolOp, Nat.reduceSub]
  repeat' (refine sel_split (fun h => ?_) (fun h => ?_))
  all_goals (simp_all [inR] <;> (intros; omega))
theorem valueValid_ok (n : Int) : EE F 138 [I n] [] = ok1 (B (inR n 0 999)) := by
  rw [R138, b138]
  simp only [↓xP, xQ, xR, flatR, eqCells_ok, eqSh, eqBs, Nat.reduceLT, decide_true, Nat.reduceBEq, Nat.reduceAdd, IOp.dst, IOp.isF, IOp.args, coolOp, Nat.reduceSub]
  repeat' (refine sel_split (fun h => ?_) (fun h => ?_))
  all_goals (simp_all [inR] <;> (intros; omega))
def letter (c : UInt8) : Bool := decide (97 ≤ (c.toNat : Int)) && decide ((c.toNat : Int) ≤ 122)
def keyValid (s : Str) : Bool := decide (1 ≤ s.length) && decide (s.length ≤ 4) && s.all letter
theorem cut1 (n : Nat) : vcut (n + 1) (some (DI 1)) none = some (1, n + 1) := by
  have : (1 : Int) ≤ (n : Int) + 1 := by omega
  simp [vcut, D.int?, this]
theorem lettersOnly_ok : ∀ s : Str, EE F 195 [S s] [] = ok1 (B (s.all letter))
  | [] => by
    rw [R195, b195]
    simp only [↓xP, xQ, xR, flatR, eqCells_ok, eqSh, eqBs, Nat.reduceLT, decide_true, Nat.reduceBEq, Nat.reduceAdd, IOp.dst, IOp.isF, IOp.args, coolOp, Nat.reduceSub]
  | c :: s => by
    have h2 : (List.take (s.length + 1) (c :: s)).drop 1 = s := by simp
    rw [R195, b195]
    simp only [↓xP, xQ, xR, flatR, eqCells_ok, eqSh, eqBs, Nat.reduceLT, decide_true, Nat.reduceBEq, Nat.reduceAdd, IOp.dst, IOp.isF, IOp.args, coolOp, Nat.reduceSub, cut1, lettersOnly_ok s, reduceCtorEq, letter, List.take_of_length_le]
    repeat' (refine sel_split (fun h => ?_) (fun h => ?_))
    all_goals (simp_all <;> (intros; omega))
theorem keyValid_impl (s : Str) : EE F 137 [S s] [] = ok1 (B (keyValid s)) := by
  rw [R137, b137]
  simp only [↓xP, xQ, xR, flatR, eqCells_ok, eqSh, eqBs, Nat.reduceLT, decide_true, Nat.reduceBEq, Nat.reduceAdd, IOp.dst, IOp.isF, IOp.args, coolOp, Nat.reduceSub, lettersOnly_ok]
  repeat' (refine sel_split (fun h => ?_) (fun h => ?_))
  all_goals (simp_all [keyValid] <;> (intros; omega))
theorem keyValid_spec (s : Str) : EE F 172 [S s] [] = ok1 (B (keyValid s)) := by
  rw [R172, b172]
  simp only [↓xP, xQ, xR, flatR, eqCells_ok, eqSh, eqBs, Nat.reduceLT, decide_true, Nat.reduceBEq, Nat.reduceAdd, IOp.dst, IOp.isF, IOp.args, coolOp, Nat.reduceSub, l1In_ok]
  refine sel_split (fun h => ?_) (fun h => ?_)
  · simp_all [keyValid, inR]
    omega
  · simp only [Bool.not_eq_false', inR, Bool.and_eq_true, decide_eq_true_eq] at h
    refine (loop_ind (fun (i : Nat) st => i ≤ s.length ∧ st.s 0 = DU (.str s) ∧ st.s 3 = DI i) (fun i => s.length - i) (fun i => ok1 (B ((s.drop i).all letter))) ?_ 0 ⟨by omega, by simp only [↓xP, xQ, Nat.reduceBEq], by simp only [↓xP, xQ, Nat.reduceBEq]; rfl⟩).trans ?_
    · rintro i st ⟨hle, h0, h3⟩ ih
      by_cases hi : i < s.length
      · have hc : s[i]? = some s[i] := List.getElem?_eq_getElem hi
        have hd : s.drop i = s[i] :: s.drop (i + 1) := List.drop_eq_getElem_cons hi
        have hw := w_succ (i := i) (by omega)
        simp only [↓xP, xQ, xR, flatR, eqCells_ok, eqSh, eqBs, Nat.reduceLT, decide_true, Nat.reduceBEq, Nat.reduceAdd, IOp.dst, IOp.isF, IOp.args, coolOp, Nat.reduceSub, h0, h3, hi, hc, hw]
        rw [hd]
        generalize s[i] = c
        repeat' (refine sel_split (fun h => ?_) (fun h => ?_))
        · simp_all [letter]
          omega
        · simp_all [letter]
          omega
        · rw [ih (i + 1) _ (by omega) ⟨by omega, by simp only [↓xP, xQ, Nat.reduceBEq, h0], by simp only [↓xP, xQ, Nat.reduceBEq]⟩]
          simp_all [letter]
      · simp only [↓xP, xQ, xR, flatR, eqCells_ok, eqSh, eqBs, Nat.reduceLT, decide_true, Nat.reduceBEq, Nat.reduceAdd, IOp.dst, IOp.isF, IOp.args, coolOp, Nat.reduceSub, h0, h3, hi]
        rw [List.drop_of_length_le (by omega)]; rfl
    · simp [keyValid]
      omega
theorem lt_nil (s : Str) : strLt [] s = decide (s ≠ []) := by cases s <;> simp [strLt, Op.bytesLess]
theorem lt_nil' (s : Str) : strLt s [] = false := by cases s <;> simp [strLt, Op.bytesLess]
theorem lt_cons (a b : UInt8) (s t : Str) : strLt (a :: s) (b :: t) = (decide (a < b) || (a == b && strLt s t)) := rfl
theorem lt_irrefl : ∀ s : Str, strLt s s = false
  | [] => rfl
  | a :: s => by rw [lt_cons, lt_irrefl s]; simp
theorem lt_trans : ∀ {s t u : Str}, strLt s t = true → strLt t u = true → strLt s u = true
  | _, [], _, h, _ => by rw [lt_nil'] at h; cases h
  | _, b :: t, [], _, h => by rw [lt_nil'] at h; cases h
  | [], b :: t, c :: u, _, _ => by rw [lt_nil]; simp
  | a :: s, b :: t, c :: u, h1, h2 => by
    rw [lt_cons] at h1 h2 ⊢
    simp only [Bool.or_eq_true, Bool.and_eq_true, decide_eq_true_eq, beq_iff_eq] at h1 h2 ⊢
    rcases h1 with h1 | ⟨rfl, h1⟩
    · rcases h2 with h2 | ⟨rfl, h2⟩
      · exact .inl (UInt8.lt_trans h1 h2)
      · exact .inl h1
    · rcases h2 with h2 | ⟨rfl, h2⟩
      · exact .inl h2
      · exact .inr ⟨rfl, lt_trans h1 h2⟩
theorem lt_asymm {s t : Str} (h : strLt s t = true) : strLt t s = false := by
  cases hq : strLt t s with
  | false => rfl
  | true => have := lt_trans h hq; rw [lt_irrefl] at this; cases this
theorem lt_total : ∀ (s t : Str), strLt s t = true ∨ s = t ∨ strLt t s = true
  | [], [] => .inr (.inl rfl)
  | [], b :: t => .inl (by rw [lt_nil]; simp)
  | a :: s, [] => .inr (.inr (by rw [lt_nil]; simp))
  | a :: s, b :: t => by
    rw [lt_cons, lt_cons]
    simp only [Bool.or_eq_true, Bool.and_eq_true, decide_eq_true_eq, beq_iff_eq, List.cons.injEq]
    rcases Nat.lt_trichotomy a.toNat b.toNat with h | h | h
    · exact .inl (.inl (UInt8.lt_iff_toNat_lt.2 h))
    rotate_left
    · exact .inr (.inr (.inl (UInt8.lt_iff_toNat_lt.2 h)))
    · have h := UInt8.toNat_inj.1 h
      subst h
      rcases lt_total s t with h | h | h
      · exact .inl (.inr ⟨rfl, h⟩)
      · exact .inr (.inl ⟨rfl, h⟩)
      · exact .inr (.inr (.inr ⟨rfl, h⟩))
/-- For other strings 'at most' is 'not greater'. -/
theorem le_iff (s t : Str) : (strLt s t || decide (s = t)) = !strLt t s := by
  rcases lt_total s t with h | h | h
  · simp [h, lt_asymm h]
  · subst h; simp [lt_irrefl]
  · have h1 := lt_asymm h
    have h2 : ¬ s = t := fun e => by subst e; rw [lt_irrefl] at h; cases h
    simp [h, h1, h2]
def pairAt (l : List Pair) (i : Nat) : Bool := match l[i]? with
  | some p => keyValid p.key && inR p.value 0 999 && (decide (i = 0) || (match l[i - 1]? with
    | some q => strLt q.key p.key
    | none => true))
  | none => true
def pairsValid (l : List Pair) : Bool := decide (l.length ≤ 48) && allF l.length (pairAt l) 0
theorem pairsValid_impl (l : List Pair) : EE F 65 [L 2 (l.map Pair.u)] [] = ok1 (B (pairsValid l)) := by
  rw [R65, b65]
  simp only [↓xP, xQ, xR, flatR, eqCells_ok, eqSh, eqBs, Nat.reduceLT, decide_true, Nat.reduceBEq, Nat.reduceAdd, IOp.dst, IOp.isF, IOp.args, coolOp, Nat.reduceSub]
  refine sel_split (fun h => ?_) (fun h => ?_)
  · simp only [decide_eq_true_eq] at h
    simp [pairsValid, show ¬ l.length ≤ 48 by omega]
  · simp only [decide_eq_false_iff_not] at h
    refine (loop_ind (fun (i : Nat) st => st.s 0 = DU (.sl 2 (l.map Pair.u)) ∧ st.s 8 = DU (.sl 2 (l.map Pair.u)) ∧ st.s 9 = DI l.length ∧ st.s 10 = DI i) (fun i => l.length - i) (fun i => ok1 (B (allF l.length (pairAt l) i))) ?_ 0 ⟨by simp only [↓xP, xQ, xR, flatR, eqCells_ok, eqSh, eqBs, Nat.reduceLT, decide_true, Nat.reduceBEq, Nat.reduceAdd, IOp.dst, IOp.isF, IOp.args, coolOp, Nat.reduceSub], by simp only [↓xP, xQ, xR, flatR, eqCells_ok, eqSh, eqBs, Nat.reduceLT, decide_true, Nat.reduceBEq, Nat.reduceAdd, IOp.dst, IOp.isF, IOp.args, coolOp, Nat.reduceSub], by simp only [↓xP, xQ, xR, flatR, eqCells_ok, eqSh, eqBs, Nat.reduceLT, decide_true, Nat.reduceBEq, Nat.reduceAdd, IOp.dst, IOp.isF, IOp.args, coolOp, Nat.reduceSub], by simp only [↓xP, xQ, xR, flatR, eqCells_ok, eqSh, eqBs, Nat.reduceLT, decide_true, Nat.reduceBEq, Nat.reduceAdd, IOp.dst, IOp.isF, IOp.args, coolOp, Nat.reduceSub]; rfl⟩).trans ?_
    · rintro i st ⟨h0, h8, h9, h10⟩ ih
      by_cases hi : i < l.length
      · obtain ⟨⟨pk, pv⟩, hp⟩ : ∃ p, l[i]? = some p := ⟨_, List.getElem?_eq_getElem hi⟩
        have hw := w_succ (i := i) (by omega)
        rw [allF_lt hi]
        by_cases hz : i = 0
        · have h01 : ¬ (0 : Int) < (i : Int) := by omega
          simp only [↓xP, xQ, xR, flatR, eqCells_ok, eqSh, eqBs, Nat.reduceLT, decide_true, Nat.reduceBEq, Nat.reduceAdd, IOp.dst, IOp.isF, IOp.args, coolOp, Nat.reduceSub, h0, h8, h9, h10, hi, hp, hw, h01, Pair.u, keyValid_impl, valueValid_ok]
          repeat' (refine sel_split (fun h => ?_) (fun h => ?_))
          · simp_all [pairAt]
          · simp_all [pairAt]
          · rw [ih (i + 1) _ (by omega) ⟨by simp only [↓xP, xQ, xR, flatR, eqCells_ok, eqSh, eqBs, Nat.reduceLT, decide_true, Nat.reduceBEq, Nat.reduceAdd, IOp.dst, IOp.isF, IOp.args, coolOp, Nat.reduceSub, h0], by simp only [↓xP, xQ, xR, flatR, eqCells_ok, eqSh, eqBs, Nat.reduceLT, decide_true, Nat.reduceBEq, Nat.reduceAdd, IOp.dst, IOp.isF, IOp.args, coolOp, Nat.reduceSub, h8], by simp only [↓xP, xQ, xR, flatR, eqCells_ok, eqSh, eqBs, Nat.reduceLT, decide_true, Nat.reduceBEq, Nat.reduceAdd, IOp.dst, IOp.isF, IOp.args, coolOp, Nat.reduceSub, h9], by simp only [↓xP, xQ, xR, flatR, eqCells_ok, eqSh, eqBs, Nat.reduceLT, decide_true, Nat.reduceBEq, Nat.reduceAdd, IOp.dst, IOp.isF, IOp.args, coolOp, Nat.reduceSub]⟩]
            simp_all [pairAt]
        · obtain ⟨⟨qk, qv⟩, hq⟩ : ∃ q, l[i - 1]? = some q := ⟨_, List.getElem?_eq_getElem (by omega)⟩
          have hw2 : IntKind.i64.wrap ((i : Int) - 1) = ((i - 1 : Nat) : Int) := by rw [w64 (by omega) (by omega)]; omega
          have h01 : (0 : Int) < (i : Int) := by omega
          simp only [↓xP, xQ, xR, flatR, eqCells_ok, eqSh, eqBs, Nat.reduceLT, decide_true, Nat.reduceBEq, Nat.reduceAdd, IOp.dst, IOp.isF, IOp.args, coolOp, Nat.reduceSub, h0, h8, h9, h10, hi, hp, hw, hw2, hq, h01, Pair.u, keyValid_impl, valueValid_ok]
          repeat' (refine sel_split (fun h => ?_) (fun h => ?_))
          · simp_all [pairAt]
          · simp_all [pairAt]
          · simp_all [pairAt]
          · rw [ih (i + 1) _ (by omega) ⟨by simp only [↓xP, xQ, xR, flatR, eqCells_ok, eqSh, eqBs, Nat.reduceLT, decide_true, Nat.reduceBEq, Nat.reduceAdd, IOp.dst, IOp.isF, IOp.args, coolOp, Nat.reduceSub, h0], by simp only [↓xP, xQ, xR, flatR, eqCells_ok, eqSh, eqBs, Nat.reduceLT, decide_true, Nat.reduceBEq, Nat.reduceAdd, IOp.dst, IOp.isF, IOp.args, coolOp, Nat.reduceSub, h8], by simp only [↓xP, xQ, xR, flatR, eqCells_ok, eqSh, eqBs, Nat.reduceLT, decide_true, Nat.reduceBEq, Nat.reduceAdd, IOp.dst, IOp.isF, IOp.args, coolOp, Nat.reduceSub, h9], by simp only [↓xP, xQ, xR, flatR, eqCells_ok, eqSh, eqBs, Nat.reduceLT, decide_true, Nat.reduceBEq, Nat.reduceAdd, IOp.dst, IOp.isF, IOp.args, coolOp, Nat.reduceSub]⟩]
            simp_all [pairAt]
      · simp only [↓xP, xQ, xR, flatR, eqCells_ok, eqSh, eqBs, Nat.reduceLT, decide_true, Nat.reduceBEq, Nat.reduceAdd, IOp.dst, IOp.isF, IOp.args, coolOp, Nat.reduceSub, h0, h8, h9, h10, hi]
        rw [allF_ge hi]
    · simp [pairsValid, show l.length ≤ 48 by omega]
theorem pairsValid_spec (l : List Pair) : EE F 105 [L 2 (l.map Pair.u)] [] = ok1 (B (pairsValid l)) := by
  rw [R105, b105]
  simp only [↓xP, xQ, xR, flatR, eqCells_ok, eqSh, eqBs, Nat.reduceLT, decide_true, Nat.reduceBEq, Nat.reduceAdd, IOp.dst, IOp.isF, IOp.args, coolOp, Nat.reduceSub]
  refine sel_split (fun h => ?_) (fun h => ?_)
  · simp only [decide_eq_true_eq] at h
    simp [pairsValid, show ¬ l.length ≤ 48 by omega]
  · simp only [decide_eq_false_iff_not] at h
    refine (loop_ind (fun (i : Nat) st => st.s 0 = DU (.sl 2 (l.map Pair.u)) ∧ st.s 3 = DI i) (fun i => l.length - i) (fun i => ok1 (B (allF l.length (pairAt l) i))) ?_ 0 ⟨by simp only [↓xP, xQ, xR, flatR, eqCells_ok, eqSh, eqBs, Nat.reduceLT, decide_true, Nat.reduceBEq, Nat.reduceAdd, IOp.dst, IOp.isF, IOp.args, coolOp, Nat.reduceSub], by simp only [↓xP, xQ, xR, flatR, eqCells_ok, eqSh, eqBs, Nat.reduceLT, decide_true, Nat.reduceBEq, Nat.reduceAdd, IOp.dst, IOp.isF, IOp.args, coolOp, Nat.reduceSub]; rfl⟩).trans ?_
    · rintro i st ⟨h0, h3⟩ ih
      by_cases hi : i < l.length
      · obtain ⟨⟨pk, pv⟩, hp⟩ : ∃ p, l[i]? = some p := ⟨_, List.getElem?_eq_getElem hi⟩
        have hw := w_succ (i := i) (by omega)
        rw [allF_lt hi]
        by_cases hz : i = 0
        · have h01 : ¬ (0 : Int) < (i : Int) := by omega
          simp only [↓xP, xQ, xR, flatR, eqCells_ok, eqSh, eqBs, Nat.reduceLT, decide_true, Nat.reduceBEq, Nat.reduceAdd, IOp.dst, IOp.isF, IOp.args, coolOp, Nat.reduceSub, h0, h3, hi, hp, hw, h01, Pair.u, keyValid_spec, l1In_ok]
          repeat' (refine sel_split (fun h => ?_) (fun h => ?_))
          · simp_all [pairAt]
          · simp_all [pairAt]
          · rw [ih (i + 1) _ (by omega) ⟨by simp only [↓xP, xQ, xR, flatR, eqCells_ok, eqSh, eqBs, Nat.reduceLT, decide_true, Nat.reduceBEq, Nat.reduceAdd, IOp.dst, IOp.isF, IOp.args, coolOp, Nat.reduceSub, h0], by simp only [↓xP, xQ, xR, flatR, eqCells_ok, eqSh, eqBs, Nat.reduceLT, decide_true, Nat.reduceBEq, Nat.reduceAdd, IOp.dst, IOp.isF, IOp.args, coolOp, Nat.reduceSub]⟩]
            simp_all [pairAt]
        · obtain ⟨⟨qk, qv⟩, hq⟩ : ∃ q, l[i - 1]? = some q := ⟨_, List.getElem?_eq_getElem (by omega)⟩
          have hw2 : IntKind.i64.wrap ((i : Int) - 1) = ((i - 1 : Nat) : Int) := by rw [w64 (by omega) (by omega)]; omega
          have h01 : (0 : Int) < (i : Int) := by omega
          simp only [↓xP, xQ, xR, flatR, eqCells_ok, eqSh, eqBs, Nat.reduceLT, decide_true, Nat.reduceBEq, Nat.reduceAdd, IOp.dst, IOp.isF, IOp.args, coolOp, Nat.reduceSub, h0, h3, hi, hp, hw, hw2, hq, h01, Pair.u, keyValid_spec, l1In_ok, le_iff]
          repeat' (refine sel_split (fun h => ?_) (fun h => ?_))
          · simp_all [pairAt]
          · simp_all [pairAt]
          · simp_all [pairAt]
          · rw [ih (i + 1) _ (by omega) ⟨by simp only [↓xP, xQ, xR, flatR, eqCells_ok, eqSh, eqBs, Nat.reduceLT, decide_true, Nat.reduceBEq, Nat.reduceAdd, IOp.dst, IOp.isF, IOp.args, coolOp, Nat.reduceSub, h0], by simp only [↓xP, xQ, xR, flatR, eqCells_ok, eqSh, eqBs, Nat.reduceLT, decide_true, Nat.reduceBEq, Nat.reduceAdd, IOp.dst, IOp.isF, IOp.args, coolOp, Nat.reduceSub]⟩]
            simp_all [pairAt]
      · simp only [↓xP, xQ, xR, flatR, eqCells_ok, eqSh, eqBs, Nat.reduceLT, decide_true, Nat.reduceBEq, Nat.reduceAdd, IOp.dst, IOp.isF, IOp.args, coolOp, Nat.reduceSub, h0, h3, hi]
        rw [allF_ge hi]
    · simp [pairsValid, show l.length ≤ 48 by omega]
theorem pairsValid_at {l : List Pair} (h : pairsValid l = true) {i : Nat} {p : Pair} (hp : l[i]? = some p) : keyValid p.key = true ∧ inR p.value 0 999 = true := by
  simp only [pairsValid, Bool.and_eq_true, decide_eq_true_eq] at h
  have := (allF_iff _ 0 rfl).1 h.2 i (by omega) (List.getElem?_eq_some_iff.1 hp).1
  simp only [pairAt, hp, Bool.and_eq_true] at this
  exact this.1
theorem seqValid_ok (n : Int) : EE F 178 [I n] [] = ok1 (B (inR n 1 999)) := by
  rw [R178, b178]
  simp only [↓xP, xQ, xR, flatR, eqCells_ok, eqSh, eqBs, Nat.reduceLT, decide_true, Nat.reduceBEq, Nat.reduceAdd, IOp.dst, IOp.isF, IOp.args, coolOp, Nat.reduceSub]
  repeat' (refine sel_split (fun h => ?_) (fun h => ?_))
  all_goals (simp_all [inR] <;> (intros; omega))
def commandValid (c : Command) : Bool := (keyValid c.key || decide (c.kind = 5) && decide (c.key = [])) &&
  ((decide (c.kind = 1) || decide (c.kind = 3) || decide (c.kind = 5)) && decide (c.value = 0) && decide (c.old = 0) || decide (c.kind = 2) && inR c.value 0 999 && decide (c.old = 0) || decide (c.kind = 4) && inR c.value 0 999 && inR c.old (-1) 999)
theorem cmdCases (k : Int) : k = 1 ∨ k = 2 ∨ k = 3 ∨ k = 4 ∨ k = 5 ∨ (k < 1 ∧ ¬ 5 < k ∧ ¬ k = 1 ∧ ¬ k = 2 ∧ ¬ k = 3 ∧ ¬ k = 4 ∧ ¬ k = 5) ∨ (¬ k < 1 ∧ 5 < k ∧ ¬ k = 1 ∧ ¬ k = 2 ∧ ¬ k = 3 ∧ ¬ k = 4 ∧ ¬ k = 5) := by omega
theorem commandValid_spec (k : Int) (key : Str) (v o : Int) : EE F 174 [.ag [.u (.int .i64 k), .u (.str key), .u (.int .i64 v), .u (.int .i64 o)]] [] = ok1 (B (commandValid ⟨k, key, v, o⟩)) := by
  rw [R174, b174]
  rcases cmdCases k with h | h | h | h | h | h | h <;> (try subst h) <;> (try obtain ⟨_, _, _, _, _, _, _⟩ := h) <;> simp only [↓xP, xQ, xR, flatR, eqCells_ok, eqSh, eqBs, Nat.reduceLT, decide_true, Nat.reduceBEq, Nat.reduceAdd, IOp.dst, IOp.isF, IOp.args, coolOp, Nat.reduceSub, keyValid_spec, l1In_ok, *] <;>
    repeat' (refine sel_split (fun h => ?_) (fun h => ?_))
  all_goals (simp_all [commandValid] <;> (intros; omega))
theorem commandValid_impl (k : Int) (key : Str) (v o : Int) : EE F 179 [.ag [.u (.int .i64 k), .u (.str key), .u (.int .i64 v), .u (.int .i64 o)]] [] = ok1 (B (commandValid ⟨k, key, v, o⟩)) := by
  rw [R179, b179]
  rcases cmdCases k with h | h | h | h | h | h | h <;> (try subst h) <;> (try obtain ⟨_, _, _, _, _, _, _⟩ := h) <;> simp only [↓xP, xQ, xR, flatR, eqCells_ok, eqSh, eqBs, Nat.reduceLT, decide_true, Nat.reduceBEq, Nat.reduceAdd, IOp.dst, IOp.isF, IOp.args, coolOp, Nat.reduceSub, keyValid_impl, valueValid_ok, *] <;>
    repeat' (refine sel_split (fun h => ?_) (fun h => ?_))
  all_goals first | (simp_all [commandValid, inR]; done) | (simp_all [commandValid, inR] <;> (intros; omega)) | (simp_all [commandValid, inR]; rw [Bool.eq_iff_iff]; simp; omega)
def entryValid (e : Entry) : Bool := inR e.client 0 3 && inR e.seq 1 999 && commandValid e.cmd
theorem entryValid_spec (c s k : Int) (key : Str) (v o : Int) : EE F 108 [.ag [.u (.int .i64 c), .u (.int .i64 s), .u (.int .i64 k), .u (.str key), .u (.int .i64 v), .u (.int .i64 o)]] [] = ok1 (B (entryValid ⟨c, s, ⟨k, key, v, o⟩⟩)) := by
  rw [R108, b108]
  simp only [↓xP, xQ, xR, flatR, eqCells_ok, eqSh, eqBs, Nat.reduceLT, decide_true, Nat.reduceBEq, Nat.reduceAdd, IOp.dst, IOp.isF, IOp.args, coolOp, Nat.reduceSub, commandValid_spec, l1In_ok]
  repeat' (refine sel_split (fun h => ?_) (fun h => ?_))
  all_goals (simp_all [entryValid])
theorem entryValid_impl (c s k : Int) (key : Str) (v o : Int) : EE F 111 [.ag [.u (.int .i64 c), .u (.int .i64 s), .u (.int .i64 k), .u (.str key), .u (.int .i64 v), .u (.int .i64 o)]] [] = ok1 (B (entryValid ⟨c, s, ⟨k, key, v, o⟩⟩)) := by
  rw [R111, b111]
  simp only [↓xP, xQ, xR, flatR, eqCells_ok, eqSh, eqBs, Nat.reduceLT, decide_true, Nat.reduceBEq, Nat.reduceAdd, IOp.dst, IOp.isF, IOp.args, coolOp, Nat.reduceSub, commandValid_impl, seqValid_ok]
  repeat' (refine sel_split (fun h => ?_) (fun h => ?_))
  all_goals first | (simp_all [entryValid, inR]; done) | (simp_all [entryValid, inR] <;> (intros; omega)) | (simp_all [entryValid, inR]; rw [Bool.eq_iff_iff]; simp; omega)
theorem pairsValid_len {l : List Pair} (h : pairsValid l = true) : l.length ≤ 48 := by
  simp only [pairsValid, Bool.and_eq_true, decide_eq_true_eq] at h; exact h.1
def cmpS (a b : Str) : Int := if strLt a b = true then -1 else if strLt b a = true then 1 else 0
theorem isNaN_s (s : Str) : EE F 215 [S s] [] = ok1 (B false) := by
  rw [R215, b215]
  simp only [↓xP, xQ, xR, flatR, eqCells_ok, eqSh, eqBs, Nat.reduceLT, decide_true, Nat.reduceBEq, Nat.reduceAdd, IOp.dst, IOp.isF, IOp.args, coolOp, Nat.reduceSub, ne_eq, not_true_eq_false, decide_false]
theorem compare_s (a b : Str) : EE F 187 [S a, S b] [] = ok1 (I (cmpS a b)) := by
  rw [R187, b187]
  simp only [↓xP, xQ, xR, flatR, eqCells_ok, eqSh, eqBs, Nat.reduceLT, decide_true, Nat.reduceBEq, Nat.reduceAdd, IOp.dst, IOp.isF, IOp.args, coolOp, Nat.reduceSub, isNaN_s, le_iff]
  repeat' (refine sel_split (fun h => ?_) (fun h => ?_))
  all_goals simp_all [cmpS]
theorem pairCmp (p : Str) (v : Int) (key : Str) : EE F 186 [.ag [.u (.str p), .u (.int .i64 v)], S key] [] = ok1 (I (cmpS p key)) := by
  rw [R186, b186]
  simp only [↓xP, xQ, xR, flatR, eqCells_ok, eqSh, eqBs, Nat.reduceLT, decide_true, Nat.reduceBEq, Nat.reduceAdd, IOp.dst, IOp.isF, IOp.args, coolOp, Nat.reduceSub, compare_s]
def place (key : Str) : List Pair → Nat
  | [] => 0
  | p :: l => if strLt p.key key = true then place key l + 1 else 0
theorem place_le (key : Str) : ∀ l, place key l ≤ l.length
  | [] => Nat.le_refl _
  | p :: l => by simp only [place]; split; simpa using place_le key l; simp
theorem place_eq (key : Str) : ∀ (l : List Pair) (i : Nat), i ≤ l.length → (∀ t p, t < i → l[t]? = some p → strLt p.key key = true) → (∀ p, l[i]? = some p → strLt p.key key = false) → place key l = i
  | [], i, hi, _, _ => by simp at hi; simp [place, hi]
  | p :: l, 0, _, _, h2 => by simp [place, h2 p rfl]
  | p :: l, i + 1, hi, h1, h2 => by
    have := h1 0 p (by omega) rfl
    simp only [place, this, if_true]
    rw [place_eq key l i (by simpa using hi) (fun t q ht hq => h1 (t + 1) q (by omega) hq) (fun q hq => h2 q hq)]
/-- The keys ascend. -/
def Asc (l : List Pair) : Prop := ∀ (s t : Nat) p q, s < t → l[s]? = some p → l[t]? = some q → strLt p.key q.key = true
theorem asc_of {l : List Pair} (h : pairsValid l = true) : Asc l := by
  have hc : ∀ (t : Nat) p q, l[t]? = some p → l[t + 1]? = some q → strLt p.key q.key = true := by
    intro t p q hp hq
    simp only [pairsValid, Bool.and_eq_true, decide_eq_true_eq] at h
    have := (allF_iff _ 0 rfl).1 h.2 (t + 1) (by omega) (List.getElem?_eq_some_iff.1 hq).1
    simp only [pairAt, hq, Nat.add_sub_cancel, hp] at this
    simp_all
  intro s t p q hst hp hq
  induction t generalizing q with
  | zero => omega
  | succ t ih =>
    obtain ⟨r, hr⟩ : ∃ r, l[t]? = some r := ⟨_, List.getElem?_eq_getElem (by have := (List.getElem?_eq_some_iff.1 hq).1; omega)⟩
    by_cases e : s = t
    · subst e; exact hc _ _ _ hp hq
    · exact lt_trans (ih r (by omega) hr) (hc _ _ _ hr hq)
theorem mid64 {i j : Nat} (h : i + j < 9223372036854775808) : IntKind.i64.wrap ((IntKind.u64.wrap (IntKind.i64.wrap ((i : Int) + (j : Int)))).fdiv (2 ^ min (Int.toNat 1) IntKind.u64.bits)) = (((i + j) / 2 : Nat) : Int) := by
  rw [show (2 : Int) ^ min (Int.toNat 1) IntKind.u64.bits = 2 from rfl]
  rw [show IntKind.i64.wrap ((i : Int) + (j : Int)) = (i : Int) + j from w64 (by omega) (by omega)]
  have : IntKind.u64.wrap ((i : Int) + j) = (i : Int) + j := by rw [IntKind.wrap_u64]; omega
  rw [this, Int.fdiv_eq_ediv_of_nonneg _ (by omega), w64 (by omega) (by omega)]
  omega
def found (key : Str) (l : List Pair) : Bool := match l[place key l]? with
  | some p => decide (p.key = key)
  | none => false
theorem search_ok (l : List Pair) (key : Str) (ha : Asc l) (hn : l.length ≤ 1048576) : EE F 185 [L 2 (l.map Pair.u), S key, .sc (.u (.fn 186 []))] [] = some ⟨[I (place key l), B (found key l)], [], []⟩ := by
  rw [R185, b185]
  simp only [↓xP, xQ, xR, flatR, eqCells_ok, eqSh, eqBs, Nat.reduceLT, decide_true, Nat.reduceBEq, Nat.reduceAdd, IOp.dst, IOp.isF, IOp.args, coolOp, Nat.reduceSub]
  refine (loop_ind (fun (a : Nat × Nat) st => a.1 ≤ a.2 ∧ a.2 ≤ l.length ∧ (∀ t p, t < a.1 → l[t]? = some p → strLt p.key key = true) ∧ (∀ t p, a.2 ≤ t → l[t]? = some p → strLt p.key key = false) ∧
    st.s 0 = DU (.sl 2 (l.map Pair.u)) ∧ st.s 1 = DS key ∧ st.s 2 = .t (.sc (.u (.fn 186 []))) ∧ st.s 8 = DI l.length ∧ st.s 9 = DI a.1 ∧ st.s 10 = DI a.2) (fun a => a.2 - a.1) (fun a => some ⟨[I (place key l), B (found key l)], [], []⟩) ?_ (0, l.length) ⟨by omega, by dsimp only; omega, by omega, ?_, by simp only [↓xP, xQ, xR, flatR, eqCells_ok, eqSh, eqBs, Nat.reduceLT, decide_true, Nat.reduceBEq, Nat.reduceAdd, IOp.dst, IOp.isF, IOp.args, coolOp, Nat.reduceSub], by simp only [↓xP, xQ, xR, flatR, eqCells_ok, eqSh, eqBs, Nat.reduceLT, decide_true, Nat.reduceBEq, Nat.reduceAdd, IOp.dst, IOp.isF, IOp.args, coolOp, Nat.reduceSub], by simp only [↓xP, xQ, xR, flatR, eqCells_ok, eqSh, eqBs, Nat.reduceLT, decide_true, Nat.reduceBEq, Nat.reduceAdd, IOp.dst, IOp.isF, IOp.args, coolOp, Nat.reduceSub], by simp only [↓xP, xQ, xR, flatR, eqCells_ok, eqSh, eqBs, Nat.reduceLT, decide_true, Nat.reduceBEq, Nat.reduceAdd, IOp.dst, IOp.isF, IOp.args, coolOp, Nat.reduceSub], by simp only [↓xP, xQ, xR, flatR, eqCells_ok, eqSh, eqBs, Nat.reduceLT, decide_true, Nat.reduceBEq, Nat.reduceAdd, IOp.dst, IOp.isF, IOp.args, coolOp, Nat.reduceSub]; rfl, by simp only [↓xP, xQ, xR, flatR, eqCells_ok, eqSh, eqBs, Nat.reduceLT, decide_true, Nat.reduceBEq, Nat.reduceAdd, IOp.dst, IOp.isF, IOp.args, coolOp, Nat.reduceSub]⟩).trans rfl
  · rintro ⟨i, j⟩ st ⟨hij, hj, hlo, hhi, h0, h1, h2, h8, h9, h10⟩ ih
    dsimp only at hij hj hlo hhi h9 h10 ih
    by_cases h : i < j
    · obtain ⟨⟨pk, pv⟩, hp⟩ : ∃ p, l[(i + j) / 2]? = some p := ⟨_, List.getElem?_eq_getElem (by omega)⟩
      have hm := mid64 (i := i) (j := j) (by omega)
      have hw := w_succ (i := (i + j) / 2) (by omega)
      have hb : ¬ (1 : Int) < 0 := by omega
      by_cases hc : strLt pk key = true
      · have hs : cmpS pk key = -1 := by simp [cmpS, hc]
        have hn1 : (-1 : Int) < 0 := by omega
        simp only [↓xP, xQ, xR, flatR, eqCells_ok, eqSh, eqBs, Nat.reduceLT, decide_true, Nat.reduceBEq, Nat.reduceAdd, IOp.dst, IOp.isF, IOp.args, coolOp, Nat.reduceSub, h0, h1, h2, h8, h9, h10, h, hb, hm, hp, hw, Pair.u, pairCmp, hs, hn1]
        refine ih ((i + j) / 2 + 1, j) _ (by dsimp only; omega) ⟨by dsimp only; omega, hj, fun t q ht hq => ?_, hhi, by simp only [↓xP, xQ, xR, flatR, eqCells_ok, eqSh, eqBs, Nat.reduceLT, decide_true, Nat.reduceBEq, Nat.reduceAdd, IOp.dst, IOp.isF, IOp.args, coolOp, Nat.reduceSub, h0], by simp only [↓xP, xQ, xR, flatR, eqCells_ok, eqSh, eqBs, Nat.reduceLT, decide_true, Nat.reduceBEq, Nat.reduceAdd, IOp.dst, IOp.isF, IOp.args, coolOp, Nat.reduceSub, h1], by simp only [↓xP, xQ, xR, flatR, eqCells_ok, eqSh, eqBs, Nat.reduceLT, decide_true, Nat.reduceBEq, Nat.reduceAdd, IOp.dst, IOp.isF, IOp.args, coolOp, Nat.reduceSub, h2], by simp only [↓xP, xQ, xR, flatR, eqCells_ok, eqSh, eqBs, Nat.reduceLT, decide_true, Nat.reduceBEq, Nat.reduceAdd, IOp.dst, IOp.isF, IOp.args, coolOp, Nat.reduceSub, h8], by simp only [↓xP, xQ, xR, flatR, eqCells_ok, eqSh, eqBs, Nat.reduceLT, decide_true, Nat.reduceBEq, Nat.reduceAdd, IOp.dst, IOp.isF, IOp.args, coolOp, Nat.reduceSub], by simp only [↓xP, xQ, xR, flatR, eqCells_ok, eqSh, eqBs, Nat.reduceLT, decide_true, Nat.reduceBEq, Nat.reduceAdd, IOp.dst, IOp.isF, IOp.args, coolOp, Nat.reduceSub, h10]⟩
        dsimp only at ht
        by_cases e : t = (i + j) / 2
        · subst e; rw [hp] at hq; cases hq; exact hc
        · exact lt_trans (ha t _ _ _ (by omega) hq hp) hc
      · have hs : ¬ cmpS pk key < 0 := by unfold cmpS; rw [if_neg hc]; split <;> omega
        simp only [↓xP, xQ, xR, flatR, eqCells_ok, eqSh, eqBs, Nat.reduceLT, decide_true, Nat.reduceBEq, Nat.reduceAdd, IOp.dst, IOp.isF, IOp.args, coolOp, Nat.reduceSub, h0, h1, h2, h8, h9, h10, h, hb, hm, hp, hw, Pair.u, pairCmp, hs]
        refine ih (i, (i + j) / 2) _ (by dsimp only; omega) ⟨by dsimp only; omega, by dsimp only; omega, hlo, fun t q ht hq => ?_, by simp only [↓xP, xQ, xR, flatR, eqCells_ok, eqSh, eqBs, Nat.reduceLT, decide_true, Nat.reduceBEq, Nat.reduceAdd, IOp.dst, IOp.isF, IOp.args, coolOp, Nat.reduceSub, h0], by simp only [↓xP, xQ, xR, flatR, eqCells_ok, eqSh, eqBs, Nat.reduceLT, decide_true, Nat.reduceBEq, Nat.reduceAdd, IOp.dst, IOp.isF, IOp.args, coolOp, Nat.reduceSub, h1], by simp only [↓xP, xQ, xR, flatR, eqCells_ok, eqSh, eqBs, Nat.reduceLT, decide_true, Nat.reduceBEq, Nat.reduceAdd, IOp.dst, IOp.isF, IOp.args, coolOp, Nat.reduceSub, h2], by simp only [↓xP, xQ, xR, flatR, eqCells_ok, eqSh, eqBs, Nat.reduceLT, decide_true, Nat.reduceBEq, Nat.reduceAdd, IOp.dst, IOp.isF, IOp.args, coolOp, Nat.reduceSub, h8], by simp only [↓xP, xQ, xR, flatR, eqCells_ok, eqSh, eqBs, Nat.reduceLT, decide_true, Nat.reduceBEq, Nat.reduceAdd, IOp.dst, IOp.isF, IOp.args, coolOp, Nat.reduceSub, h9], by simp only [↓xP, xQ, xR, flatR, eqCells_ok, eqSh, eqBs, Nat.reduceLT, decide_true, Nat.reduceBEq, Nat.reduceAdd, IOp.dst, IOp.isF, IOp.args, coolOp, Nat.reduceSub]⟩
        dsimp only at ht
        rw [Bool.eq_false_iff]
        intro h3
        by_cases e : t = (i + j) / 2
        · subst e; rw [hp] at hq; cases hq; exact hc h3
        · exact hc (lt_trans (ha _ t _ _ (by omega) hp hq) h3)
    · have hpl : place key l = i := place_eq key l i (by omega) hlo (fun p hp => hhi i p (by omega) hp)
      by_cases hi : i < l.length
      · obtain ⟨⟨pk, pv⟩, hp⟩ : ∃ p, l[i]? = some p := ⟨_, List.getElem?_eq_getElem hi⟩
        have h3 := hhi i _ (by omega) hp
        simp only [↓xP, xQ, xR, flatR, eqCells_ok, eqSh, eqBs, Nat.reduceLT, decide_true, Nat.reduceBEq, Nat.reduceAdd, IOp.dst, IOp.isF, IOp.args, coolOp, Nat.reduceSub, h0, h1, h2, h8, h9, h10, h, hi, hp, Pair.u, pairCmp, found, hpl]
        have : decide (cmpS pk key = 0) = decide (pk = key) := by
          simp only at h3
          rcases lt_total pk key with h4 | h4 | h4
          · rw [h3] at h4; cases h4
          · subst h4; simp [cmpS, lt_irrefl]
          · have : pk ≠ key := fun e => by subst e; simp [lt_irrefl] at h4
            simp [cmpS, h3, h4, this]
        rw [this]
      · have hp : l[i]? = none := List.getElem?_eq_none (by omega)
        simp only [↓xP, xQ, xR, flatR, eqCells_ok, eqSh, eqBs, Nat.reduceLT, decide_true, Nat.reduceBEq, Nat.reduceAdd, IOp.dst, IOp.isF, IOp.args, coolOp, Nat.reduceSub, h0, h1, h2, h8, h9, h10, h, hi, found, hpl, hp]
  · intro t p ht hp
    have := (List.getElem?_eq_some_iff.1 hp).1
    dsimp only at ht
    omega
theorem pairPlace_ok (l : List Pair) (key : Str) (ha : Asc l) (hn : l.length ≤ 1048576) : EE F 121 [L 2 (l.map Pair.u), S key] [] = some ⟨[I (place key l), B (found key l)], [], []⟩ := by
  rw [R121, b121]
  simp only [↓xP, xQ, xR, flatR, eqCells_ok, eqSh, eqBs, Nat.reduceLT, decide_true, Nat.reduceBEq, Nat.reduceAdd, IOp.dst, IOp.isF, IOp.args, coolOp, Nat.reduceSub, search_ok l key ha hn]
theorem copyOf_Pair (l : List Pair) (hn : l.length ≤ 1048576) : EE F 139 [L 2 (l.map Pair.u)] [] = some ⟨[.sc (.own (.par 0) l.length)], [.row 2 (l.map Pair.u)], []⟩ := by
  rw [R139, b139]
  have h1 : l.length ≤ maxLen := by simp [maxLen]; omega
  have h2 : l.length * 24 ≤ 140737488355328 := by omega
  simp only [↓xP, xQ, xR, flatR, eqCells_ok, eqSh, eqBs, Nat.reduceLT, decide_true, Nat.reduceBEq, Nat.reduceAdd, IOp.dst, IOp.isF, IOp.args, coolOp, Nat.reduceSub, h1, h2]
theorem cut_to {n : Nat} {i : Nat} (h : i ≤ n) : vcut n none (some (DI (i : Int))) = some (0, i) := by
  simp [vcut, D.int?]
  omega
theorem small_max {n k : Nat} (h : n ≤ 1048576) (hk : k ≤ 100000000) : n ≤ maxLen ∧ n * k ≤ 140737488355328 := by
  refine ⟨by simp [maxLen]; omega, ?_⟩
  have := Nat.mul_le_mul h hk
  omega
def rep {α : Type} (l : List α) (a m : Nat) (b : List α) : List α := l.take a ++ b ++ l.drop (a + m)
theorem rep_len {α : Type} {l : List α} {a m : Nat} {b : List α} (h : a + m ≤ l.length) : (rep l a m b).length = l.length - m + b.length := by
  simp [rep]; omega
def zero_Pair : List U := [.str [], .int .i64 0]
theorem mk0_ok (st : St) (d c : Nat) (zero : List U) (bytes : Nat) (h : c * bytes ≤ 140737488355328) : stMk st d (DI 0) (DI (c : Int)) zero bytes = some (((st.cool (.loc d 0)).obj (.loc d 0) (some (.row zero.length []))).put d (.t (.sc (.own (.loc d 0) 0)))) := by
  have h0 : (0 : Int) ≤ (c : Int) := by omega
  simp [stMk, D.int?, h, h0]
theorem cut_from {n i : Nat} (h : i ≤ n) : vcut n (some (DI (i : Int))) none = some (i, n) := by
  simp [vcut, D.int?]
  omega
theorem map_all {α β : Type} (f : α → β) (l : List α) : List.take l.length (List.map f l) = List.map f l := List.take_of_length_le (by simp)
theorem replaced_Pair (l b : List Pair) (a m : Nat) (h : a + m ≤ l.length) (hn : l.length + b.length ≤ 1048576) : EE F 213 [L 2 (l.map Pair.u), I a, I m, L 2 (b.map Pair.u)] [] = some ⟨[.sc (.own (.par 0) (rep l a m b).length)], [.row 2 ((rep l a m b).map Pair.u)], []⟩ := by
  rw [R213, b213]
  have w1 : IntKind.i64.wrap ((l.length : Int) - (m : Int)) = ((l.length - m : Nat) : Int) := by rw [w64 (by omega) (by omega)]; omega
  have w2 : IntKind.i64.wrap (((l.length - m : Nat) : Int) + (b.length : Int)) = ((l.length - m + b.length : Nat) : Int) := by rw [w64 (by omega) (by omega)]; omega
  have w3 : IntKind.i64.wrap ((a : Int) + (m : Int)) = ((a + m : Nat) : Int) := by rw [w64 (by omega) (by omega)]; omega
  have c1 := cut_to (n := l.length) (i := a) (by omega)
  have c2 := cut_from (n := l.length) (i := a + m) h
  have k0 := fun st d => mk0_ok st d (l.length - m + b.length) (Go.Proofs.YtdnhamehpdlbgaaV.zero_Pair) 24 (by omega)
  have ha : min a l.length = a := by omega
  have q1 : a ≤ maxLen ∧ a * 24 ≤ 140737488355328 := small_max (by omega) (by omega)
  have q2 : a + b.length ≤ maxLen ∧ (a + b.length) * 24 ≤ 140737488355328 := small_max (by omega) (by omega)
  have q3 : a + b.length + (l.length - (a + m)) ≤ maxLen ∧ (a + b.length + (l.length - (a + m))) * 24 ≤ 140737488355328 := small_max (by omega) (by omega)
  simp only [zero_Pair] at k0
  simp only [↓xP, xQ, xR, flatR, eqCells_ok, eqSh, eqBs, Nat.reduceLT, decide_true, Nat.reduceBEq, Nat.reduceAdd, IOp.dst, IOp.isF, IOp.args, coolOp, Nat.reduceSub, w1, w2, w3, k0, c1, c2, List.drop_zero, List.length_map, List.length_take, List.length_drop, List.length_append, List.length_nil, Nat.zero_add, List.nil_append, ha, q1.1, q1.2, q2.1, q2.2, q3.1, q3.2, map_all, rep, List.map_append, List.map_take, List.map_drop]
def wid (a b : Id) : Bool → Id
  | false => a
  | true => b
def hit (key : Str) (l : List Pair) : Option Pair := match l[place key l]? with
  | some p => if p.key = key then some p else none
  | none => none
def pairGet (l : List Pair) (key : Str) : Int := if pairsValid l = true then (match hit key l with
  | some p => p.value
  | none => -1) else -1
def pairPut (l : List Pair) (key : Str) (v : Int) : List Pair × Bool :=
  if pairsValid l = true ∧ keyValid key = true ∧ inR v 0 999 = true then
    (if (hit key l).isSome = true then (rep l (place key l) 1 [⟨key, v⟩], true) else if 48 ≤ l.length then (l, false) else (rep l (place key l) 0 [⟨key, v⟩], true))
  else ([], false)
def pairDrop (l : List Pair) (key : Str) : List Pair × Bool :=
  if pairsValid l = true then (if (hit key l).isSome = true then (rep l (place key l) 1 [], true) else (l, false)) else ([], false)
def listRet (u : Pair → List U) (sz : Nat) (r : List Pair × Bool) : Option Ret := some ⟨[.sc (.own (.par 0) r.1.length), B r.2], [.row sz (r.1.map u)], []⟩
theorem hit_found {key : Str} {l : List Pair} : found key l = (hit key l).isSome := by
  unfold found hit
  cases l[place key l]? with
  | none => rfl
  | some p => by_cases h : p.key = key <;> simp [h]
theorem hit_some {key : Str} {l : List Pair} {p : Pair} (h : hit key l = some p) : l[place key l]? = some p ∧ p.key = key := by
  unfold hit at h
  split at h
  · rename_i q hq
    split at h
    · rename_i hk; cases h; exact ⟨hq, hk⟩
    · cases h
  · cases h
theorem hit_none {key : Str} {l : List Pair} (h : hit key l = none) : ∀ p, l[place key l]? = some p → p.key ≠ key := by
  intro p hp
  unfold hit at h
  rw [hp] at h
  simp only at h
  split at h
  · cases h
  · assumption
theorem l4Place_ok (l : List Pair) (key : Str) (hn : l.length ≤ 4611686018427387904) : EE F 210 [L 2 (l.map Pair.u), S key] [] = ok1 (I (place key l)) := by
  rw [R210, b210]
  simp only [↓xP, xQ, xR, flatR, eqCells_ok, eqSh, eqBs, Nat.reduceLT, decide_true, Nat.reduceBEq, Nat.reduceAdd, IOp.dst, IOp.isF, IOp.args, coolOp, Nat.reduceSub]
  refine (loop_ind (fun (i : Nat) st => i ≤ l.length ∧ (∀ t p, t < i → l[t]? = some p → strLt p.key key = true) ∧ st.s 0 = DU (.sl 2 (l.map Pair.u)) ∧ st.s 1 = DS key ∧ st.s 5 = DI i) (fun i => l.length - i) (fun i => ok1 (I (place key l))) ?_ 0 ⟨by omega, fun t p ht => by omega, (by and_intros <;> first | omega | rfl | (simp only [↓xP, xQ, xR, flatR, eqCells_ok, eqSh, eqBs, Nat.reduceLT, decide_true, Nat.reduceBEq, Nat.reduceAdd, IOp.dst, IOp.isF, IOp.args, coolOp, Nat.reduceSub]; done) | (simp only [↓xP, xQ, xR, flatR, eqCells_ok, eqSh, eqBs, Nat.reduceLT, decide_true, Nat.reduceBEq, Nat.reduceAdd, IOp.dst, IOp.isF, IOp.args, coolOp, Nat.reduceSub]; rfl) | (simp only [↓xP, xQ, xR, flatR, eqCells_ok, eqSh, eqBs, Nat.reduceLT, decide_true, Nat.reduceBEq, Nat.reduceAdd, IOp.dst, IOp.isF, IOp.args, coolOp, Nat.reduceSub]; omega))⟩).trans rfl
  rintro i st ⟨hle, hlo, h0, h1, h5⟩ ih
  by_cases hi : i < l.length
  · obtain ⟨⟨pk, pv⟩, hp⟩ : ∃ p, l[i]? = some p := ⟨_, List.getElem?_eq_getElem hi⟩
    have hw := w_succ (i := i) (by omega)
    simp only [↓xP, xQ, xR, flatR, eqCells_ok, eqSh, eqBs, Nat.reduceLT, decide_true, Nat.reduceBEq, Nat.reduceAdd, IOp.dst, IOp.isF, IOp.args, coolOp, Nat.reduceSub, h0, h1, h5, hi, hp, Pair.u]
    refine sel_split (fun h => ?_) (fun h => ?_)
    · simp only [↓xP, xQ, xR, flatR, eqCells_ok, eqSh, eqBs, Nat.reduceLT, decide_true, Nat.reduceBEq, Nat.reduceAdd, IOp.dst, IOp.isF, IOp.args, coolOp, Nat.reduceSub, h0, h1, h5, hw]
      exact ih (i + 1) _ (by omega) ⟨by omega, fun t p ht hq => by
        by_cases e : t = i
        · subst e; rw [hp] at hq; cases hq; exact h
        · exact hlo t p (by omega) hq, (by and_intros <;> first | omega | rfl | (simp only [↓xP, xQ, xR, flatR, eqCells_ok, eqSh, eqBs, Nat.reduceLT, decide_true, Nat.reduceBEq, Nat.reduceAdd, IOp.dst, IOp.isF, IOp.args, coolOp, Nat.reduceSub, h0, h1]; done) | (simp only [↓xP, xQ, xR, flatR, eqCells_ok, eqSh, eqBs, Nat.reduceLT, decide_true, Nat.reduceBEq, Nat.reduceAdd, IOp.dst, IOp.isF, IOp.args, coolOp, Nat.reduceSub, h0, h1]; rfl) | (simp only [↓xP, xQ, xR, flatR, eqCells_ok, eqSh, eqBs, Nat.reduceLT, decide_true, Nat.reduceBEq, Nat.reduceAdd, IOp.dst, IOp.isF, IOp.args, coolOp, Nat.reduceSub, h0, h1]; omega))⟩
    · have : place key l = i := place_eq key l i (by omega) hlo (fun p hq => by rw [hp] at hq; cases hq; exact h)
      simp only [↓xP, xQ, xR, flatR, eqCells_ok, eqSh, eqBs, Nat.reduceLT, decide_true, Nat.reduceBEq, Nat.reduceAdd, IOp.dst, IOp.isF, IOp.args, coolOp, Nat.reduceSub, h0, h1, h5, this]
  · have : place key l = i := place_eq key l i (by omega) hlo (fun p hq => by have := (List.getElem?_eq_some_iff.1 hq).1; omega)
    simp only [↓xP, xQ, xR, flatR, eqCells_ok, eqSh, eqBs, Nat.reduceLT, decide_true, Nat.reduceBEq, Nat.reduceAdd, IOp.dst, IOp.isF, IOp.args, coolOp, Nat.reduceSub, h0, h1, h5, hi, this]
theorem pairGet_impl (l : List Pair) (key : Str) : EE F 50 [L 2 (l.map Pair.u), S key] [] = ok1 (I (pairGet l key)) := by
  rw [R50, b50]
  simp only [↓xP, xQ, xR, flatR, eqCells_ok, eqSh, eqBs, Nat.reduceLT, decide_true, Nat.reduceBEq, Nat.reduceAdd, IOp.dst, IOp.isF, IOp.args, coolOp, Nat.reduceSub, pairsValid_impl]
  refine sel_split (fun h => ?_) (fun h => ?_)
  · simp_all [pairGet]
  simp only [Bool.not_eq_false'] at h
  have hl := pairsValid_len h
  simp only [↓xP, xQ, xR, flatR, eqCells_ok, eqSh, eqBs, Nat.reduceLT, decide_true, Nat.reduceBEq, Nat.reduceAdd, IOp.dst, IOp.isF, IOp.args, coolOp, Nat.reduceSub, pairPlace_ok l key (asc_of h) (by omega), hit_found]
  cases hh : hit key l with
  | none => simp [pairGet, h, hh, ↓xP, xQ, xR, flatR, eqCells_ok, eqSh, eqBs, Nat.reduceLT, decide_true, Nat.reduceBEq, Nat.reduceAdd, IOp.dst, IOp.isF, IOp.args, coolOp, Nat.reduceSub]
  | some p =>
    obtain ⟨pk, pv⟩ := p
    obtain ⟨h1, h2⟩ := hit_some hh
    simp only [↓xP, xQ, xR, flatR, eqCells_ok, eqSh, eqBs, Nat.reduceLT, decide_true, Nat.reduceBEq, Nat.reduceAdd, IOp.dst, IOp.isF, IOp.args, coolOp, Nat.reduceSub, Option.isSome_some, h1, Pair.u, pairGet, h, hh]
    try simp
theorem pairGet_spec (l : List Pair) (key : Str) (hn : l.length ≤ 4611686018427387904) : EE F 175 [L 2 (l.map Pair.u), S key] [] = ok1 (I (pairGet l key)) := by
  rw [R175, b175]
  have hpl := place_le key l
  cases h : pairsValid l
  · simp only [↓xP, xQ, xR, flatR, eqCells_ok, eqSh, eqBs, Nat.reduceLT, decide_true, Nat.reduceBEq, Nat.reduceAdd, IOp.dst, IOp.isF, IOp.args, coolOp, Nat.reduceSub, l4Place_ok l key hn, pairsValid_spec, h, pairGet]
    try simp
  cases hh : hit key l with
  | none =>
    have hno := hit_none hh
    by_cases hi : place key l = l.length
    · have hi' : ((place key l : Nat) : Int) = (l.length : Int) := by omega
      simp only [↓xP, xQ, xR, flatR, eqCells_ok, eqSh, eqBs, Nat.reduceLT, decide_true, Nat.reduceBEq, Nat.reduceAdd, IOp.dst, IOp.isF, IOp.args, coolOp, Nat.reduceSub, l4Place_ok l key hn, pairsValid_spec, h, hi', pairGet, hh]
      try simp
    · obtain ⟨⟨pk, pv⟩, hp⟩ : ∃ p, l[place key l]? = some p := ⟨_, List.getElem?_eq_getElem (by omega)⟩
      have hi' : ¬ ((place key l : Nat) : Int) = (l.length : Int) := by omega
      have hne : ¬ pk = key := hno _ hp
      simp only [↓xP, xQ, xR, flatR, eqCells_ok, eqSh, eqBs, Nat.reduceLT, decide_true, Nat.reduceBEq, Nat.reduceAdd, IOp.dst, IOp.isF, IOp.args, coolOp, Nat.reduceSub, l4Place_ok l key hn, pairsValid_spec, h, hi', pairGet, hh, hp, Pair.u, hne]
      simp [sel, hne]
  | some p =>
    obtain ⟨pk, pv⟩ := p
    obtain ⟨h1, h2⟩ := hit_some hh
    have hlt := (List.getElem?_eq_some_iff.1 h1).1
    have hi' : ¬ ((place key l : Nat) : Int) = (l.length : Int) := by omega
    dsimp only at h2
    simp only [↓xP, xQ, xR, flatR, eqCells_ok, eqSh, eqBs, Nat.reduceLT, decide_true, Nat.reduceBEq, Nat.reduceAdd, IOp.dst, IOp.isF, IOp.args, coolOp, Nat.reduceSub, l4Place_ok l key hn, pairsValid_spec, h, hi', pairGet, hh, h1, Pair.u, h2]
    simp [sel]
def yU (n : Int) : List U := [.int .u8 n]
/-- A reader: its bytes, and how many numbers it drew. -/
def rd (bs : List Int) (p : Nat) : Obj := .box [.u (.sl 1 (bs.map yU)), .u (.int .i64 p)]
abbrev RP0 : T := .sc (.ptr (.par 0) 0 0)
def Bytes (bs : List Int) : Prop := bs.length ≤ 2000 ∧ ∀ b, b ∈ bs → 0 ≤ b ∧ b ≤ 255
theorem xor_nonneg {a b : Int} (ha : 0 ≤ a) (ha' : a < 4611686018427387904) (hb : 0 ≤ b) (hb' : b < 4611686018427387904) : 0 ≤ Go.bits .xor .i64 a b := by
  obtain ⟨m, rfl⟩ := Int.eq_ofNat_of_zero_le ha
  obtain ⟨n, rfl⟩ := Int.eq_ofNat_of_zero_le hb
  have h62 : (4611686018427387904 : Nat) = 2 ^ 62 := by decide
  have e1 : (BitVec.ofInt IntKind.i64.bits (m : Int)).toNat = m := by
    rw [BitVec.toNat_ofInt]
    show (((m : Int) % ((2 ^ 64 : Nat) : Int)).toNat) = m
    omega
  have e2 : (BitVec.ofInt IntKind.i64.bits (n : Int)).toNat = n := by
    rw [BitVec.toNat_ofInt]
    show (((n : Int) % ((2 ^ 64 : Nat) : Int)).toNat) = n
    omega
  have hx : m ^^^ n < 2 ^ 62 := Nat.xor_lt_two_pow (by omega) (by omega)
  have key : Go.bits .xor .i64 (m : Int) (n : Int) = IntKind.i64.wrap (((m ^^^ n : Nat)) : Int) := by
    show IntKind.i64.wrap (((BitVec.ofInt IntKind.i64.bits (m : Int) ^^^ BitVec.ofInt IntKind.i64.bits (n : Int)).toNat : Nat) : Int) = _
    rw [BitVec.toNat_xor, e1, e2]
  rw [key, IntKind.wrap_i64]
  omega
theorem pick_ok {bs : List Int} (hb : Bytes bs) (p : Nat) (n : Int) (hp : p ≤ 1099511627776) : ∃ v, EE F 92 [RP0, I n] [rd bs p] = some ⟨[I v], [], [rd bs (p + 1)]⟩ ∧ 0 ≤ v ∧ (1 ≤ n → v < n) := by
  have e1 := w_succ (i := p) (by omega)
  have e2 : IntKind.i64.wrap (((p + 1 : Nat) : Int) - 1) = (p : Int) := by rw [w64 (by omega) (by omega)]; omega
  by_cases hn : n < 1
  · refine ⟨0, (EE_run (fn := i92) (by kernel_rfl) rfl).trans ?_, by omega, fun h => by omega⟩
    simp only [i92, b92, argSt, insSt, List.length_cons, List.length_nil]
    simp only [↓xP, xQ, xR, flatR, eqCells_ok, eqSh, eqBs, Nat.reduceLT, decide_true, Nat.reduceBEq, Nat.reduceAdd, IOp.dst, IOp.isF, IOp.args, coolOp, Nat.reduceSub, rd, e1, hn]
  have hn0 : ¬ n = 0 := by omega
  by_cases hl : bs.length = 0
  · have hl' : ((bs.length : Nat) : Int) = 0 := by omega
    refine ⟨0, (EE_run (fn := i92) (by kernel_rfl) rfl).trans ?_, by omega, fun h => by omega⟩
    simp only [i92, b92, argSt, insSt, List.length_cons, List.length_nil]
    simp only [↓xP, xQ, xR, flatR, eqCells_ok, eqSh, eqBs, Nat.reduceLT, decide_true, Nat.reduceBEq, Nat.reduceAdd, IOp.dst, IOp.isF, IOp.args, coolOp, Nat.reduceSub, rd, e1, hn, List.length_map, hl']
  have hl' : ¬ ((bs.length : Nat) : Int) = 0 := by omega
  by_cases hlt : p < bs.length
  · obtain ⟨b, hx⟩ : ∃ b, bs[p]? = some b := ⟨_, List.getElem?_eq_getElem hlt⟩
    have hb2 := hb.2 b (List.mem_of_getElem? hx)
    have hlt' : (p : Int) < ((bs.length : Nat) : Int) := by omega
    have hwb : IntKind.i64.wrap b = b := by rw [w64 (by omega) (by omega)]
    refine ⟨b.tmod n, (EE_run (fn := i92) (by kernel_rfl) rfl).trans ?_, Int.tmod_nonneg _ hb2.1, fun h => Int.tmod_lt_of_pos _ (by omega)⟩
    simp only [i92, b92, argSt, insSt, List.length_cons, List.length_nil]
    simp only [↓xP, xQ, xR, flatR, eqCells_ok, eqSh, eqBs, Nat.reduceLT, decide_true, Nat.reduceBEq, Nat.reduceAdd, IOp.dst, IOp.isF, IOp.args, coolOp, Nat.reduceSub, rd, e1, e2, hn, hn0, List.length_map, hl', hlt, hx, yU, hwb]
    done
  · have hlt' : ¬ (p : Int) < ((bs.length : Nat) : Int) := by omega
    have t1 : (p : Int).tmod ((bs.length : Nat) : Int) = ((p % bs.length : Nat) : Int) := rfl
    have t2 : (((p * 7 + 3 : Nat)) : Int).tmod ((bs.length : Nat) : Int) = (((p * 7 + 3) % bs.length : Nat) : Int) := rfl
    have t3 : (p : Int).tdiv ((bs.length : Nat) : Int) = ((p / bs.length : Nat) : Int) := rfl
    have w1 : IntKind.i64.wrap ((p : Int) * 7) = (p : Int) * 7 := by rw [w64 (by omega) (by omega)]
    have w2 : IntKind.i64.wrap ((p : Int) * 7 + 3) = ((p * 7 + 3 : Nat) : Int) := by rw [w64 (by omega) (by omega)]; omega
    obtain ⟨a, ha⟩ : ∃ a, bs[p % bs.length]? = some a := ⟨_, List.getElem?_eq_getElem (Nat.mod_lt _ (by omega))⟩
    obtain ⟨b, hx⟩ : ∃ b, bs[(p * 7 + 3) % bs.length]? = some b := ⟨_, List.getElem?_eq_getElem (Nat.mod_lt _ (by omega))⟩
    have ha2 := hb.2 a (List.mem_of_getElem? ha)
    have hb2 := hb.2 b (List.mem_of_getElem? hx)
    have hwa : IntKind.i64.wrap a = a := by rw [w64 (by omega) (by omega)]
    have hwb : IntKind.i64.wrap b = b := by rw [w64 (by omega) (by omega)]
    have hq : p / bs.length ≤ p := Nat.div_le_self ..
    generalize p / bs.length = q at t3 hq
    have hwq : IntKind.i64.wrap (q : Int) = (q : Int) := by rw [w64 (by omega) (by omega)]
    have v1 : IntKind.i64.wrap (a * 131) = a * 131 := by rw [w64 (by omega) (by omega)]
    have v2 : IntKind.i64.wrap (b * 1117) = b * 1117 := by rw [w64 (by omega) (by omega)]
    have v3 : IntKind.i64.wrap (a * 131 + b * 1117) = a * 131 + b * 1117 := by rw [w64 (by omega) (by omega)]
    have v4 : IntKind.i64.wrap ((p : Int) * 29) = (p : Int) * 29 := by rw [w64 (by omega) (by omega)]
    have v5 : IntKind.i64.wrap (a * 131 + b * 1117 + (p : Int) * 29) = a * 131 + b * 1117 + (p : Int) * 29 := by rw [w64 (by omega) (by omega)]
    have v6 : IntKind.i64.wrap ((q : Int) * 53) = (q : Int) * 53 := by rw [w64 (by omega) (by omega)]
    obtain ⟨A, hA⟩ : ∃ A, A = a * 131 + b * 1117 + (p : Int) * 29 + (q : Int) * 53 := ⟨_, rfl⟩
    have v7 : IntKind.i64.wrap (a * 131 + b * 1117 + (p : Int) * 29 + (q : Int) * 53) = A := by rw [w64 (by omega) (by omega), hA]
    have hA0 : 0 ≤ A := by omega
    have hA1 : A < 4611686018427387904 := by omega
    have hB : 0 ≤ A.tdiv 64 := Int.tdiv_nonneg hA0 (by omega)
    have hB' : A.tdiv 64 ≤ A := Int.tdiv_le_self _ hA0
    have v8 : IntKind.i64.wrap (A.tdiv 64) = A.tdiv 64 := by rw [w64 (by omega) (by omega)]
    have h64 : ¬ (64 : Int) = 0 := by omega
    refine ⟨(Go.bits .xor .i64 A (A.tdiv 64)).tmod n, (EE_run (fn := i92) (by kernel_rfl) rfl).trans ?_, Int.tmod_nonneg _ (xor_nonneg hA0 hA1 hB (by omega)), fun h => Int.tmod_lt_of_pos _ (by omega)⟩
    simp only [i92, b92, argSt, insSt, List.length_cons, List.length_nil]
    simp only [↓xP, xQ, xR, flatR, eqCells_ok, eqSh, eqBs, Nat.reduceLT, decide_true, Nat.reduceBEq, Nat.reduceAdd, IOp.dst, IOp.isF, IOp.args, coolOp, Nat.reduceSub, rd, e1, e2, hn, hn0, List.length_map, hl', hlt, t1, t2, t3, w1, w2, ha, hx, yU, hwa, hwb, hwq, v1, v2, v3, v4, v5, v6, v7, v8, h64]
    done
theorem odd_ok {bs : List Int} (hb : Bytes bs) (p : Nat) (n : Int) (hp : p ≤ 1099511627776) (hn : n ≤ 1048576) : ∃ b q, EE F 166 [RP0, I n] [rd bs p] = some ⟨[B b], [], [rd bs q]⟩ ∧ p ≤ q ∧ q ≤ p + 1 ∧ (n ≤ 0 → b = false) := by
  by_cases hn0 : 0 < n
  · obtain ⟨v, h1, h2, h3⟩ := pick_ok hb p n hp
    have hw : IntKind.i64.wrap (n - 1) = n - 1 := by rw [w64 (by omega) (by omega)]
    refine ⟨decide (v = n - 1), p + 1, (EE_run (fn := i166) (by kernel_rfl) rfl).trans ?_, by omega, by omega, fun h => by omega⟩
    simp only [i166, b166, argSt, insSt, List.length_cons, List.length_nil]
    have h1' := h1
    simp only [rd] at h1'
    simp only [↓xP, xQ, xR, flatR, eqCells_ok, eqSh, eqBs, Nat.reduceLT, decide_true, Nat.reduceBEq, Nat.reduceAdd, IOp.dst, IOp.isF, IOp.args, coolOp, Nat.reduceSub, rd, hn0, h1', hw, gt_iff_lt]
    done
  · refine ⟨false, p, (EE_run (fn := i166) (by kernel_rfl) rfl).trans ?_, by omega, by omega, fun h => rfl⟩
    simp only [i166, b166, argSt, insSt, List.length_cons, List.length_nil]
    simp only [↓xP, xQ, xR, flatR, eqCells_ok, eqSh, eqBs, Nat.reduceLT, decide_true, Nat.reduceBEq, Nat.reduceAdd, IOp.dst, IOp.isF, IOp.args, coolOp, Nat.reduceSub, rd, hn0, gt_iff_lt]
    done
theorem open_ok (code : List Int) (hc : code.length ≤ 9223372036854775807 ∧ ∀ b, b ∈ code → 0 ≤ b ∧ b ≤ 255) : ∃ bs, EE F 88 [L 1 (code.map yU)] [] = some ⟨[RP0], [rd bs 0], []⟩ ∧ Bytes bs := by
  by_cases h : 2000 < code.length
  · have h' : (2000 : Int) < ((code.length : Nat) : Int) := by omega
    have hct := cut_to (n := code.length) (i := 2000) (by omega)
    refine ⟨code.take 2000, ?_, by simp; omega, fun b hb => hc.2 b (List.mem_of_mem_take hb)⟩
    rw [R88, b88]
    have hct' : vcut code.length none (some (DI 2000)) = some (0, 2000) := hct
    simp only [↓xP, xQ, xR, flatR, eqCells_ok, eqSh, eqBs, Nat.reduceLT, decide_true, Nat.reduceBEq, Nat.reduceAdd, IOp.dst, IOp.isF, IOp.args, coolOp, Nat.reduceSub, List.length_map, h', hct', gt_iff_lt, List.drop_zero, ← List.map_take, rd]
    rfl
  · have h' : ¬ (2000 : Int) < ((code.length : Nat) : Int) := by omega
    refine ⟨code, ?_, by omega, hc.2⟩
    rw [R88, b88]
    simp only [↓xP, xQ, xR, flatR, eqCells_ok, eqSh, eqBs, Nat.reduceLT, decide_true, Nat.reduceBEq, Nat.reduceAdd, IOp.dst, IOp.isF, IOp.args, coolOp, Nat.reduceSub, List.length_map, h', gt_iff_lt, rd]
    rfl
/-- What some rounds tell. -/
theorem EE_at {f : Nat} {a : List T} {i : List Obj} {r : Ret} (k : Nat) (h : callOf F (evalC F k) f a i = some r) : EE F f a i = some r := (EE_lim F f a i).eq.symm.trans (lim_of (EE_lim F f a i).mono (k := k) h)
theorem alive_ok : EE F 28 [] [] = ok1 (B true) := EE_at 120 (by kernel_rfl)
/-- What a function that draws comes to: results of a kind; the reader went on by at most so many. -/
def Gd (bs : List Int) (p c : Nat) (R : List T → List Obj → Prop) (x : Option Ret) : Prop := ∃ r n q, x = some ⟨r, n, [rd bs q]⟩ ∧ p ≤ q ∧ q ≤ p + c ∧ R r n
theorem loop_pred {fin : St → Option Ret} {is : List IItem} {c : IC} {α : Type} {G : Option Ret → Prop} (Inv : α → St → Prop) (μ : α → Nat)
    (h : ∀ a st, Inv a st → (∀ a' st', μ a' < μ a → Inv a' st' → G (KK F fin (.inLoop c :: is) st')) → G (KK F fin (.code c :: .inLoop c :: is) st)) {st : St} (a : α) (hI : Inv a st) : G (KK F fin (.code (.loop c) :: is) st) := by
  rw [KK_loop]
  have all : ∀ n a st, μ a < n → Inv a st → G (KK F fin (.inLoop c :: is) st) := by
    intro n
    induction n with
    | zero => intro a st h0; omega
    | succ n ih =>
      intro a st hn hI
      rw [KK_inLoop]
      exact h a st hI (fun a' st' hm hI' => ih a' st' (by omega) hI')
  exact all (μ a + 1) a st (by omega) hI
theorem sel_pred {x : Bool} {a b : Option Ret} {G : Option Ret → Prop} (ht : x = true → G a) (hf : x = false → G b) : G (sel x a b) := by
  cases x
  · exact hf rfl
  · exact ht rfl
theorem rdx : (∀ bs p, (rd bs p).data = true) ∧ (∀ bs p q, sameKind (some (rd bs p)) (rd bs q) = true) ∧ (∀ id bs p, Obj.mapC (C.kill id) (rd bs p) = rd bs p) ∧ (∀ st id bs p, Obj.mapC (St.coolC st id) (rd bs p) = rd bs p) := by
  refine ⟨fun _ _ => rfl, fun _ _ _ => rfl, fun _ _ _ => rfl, fun st id bs p => ?_⟩
  have h : ∀ u, st.coolC id (.u u) = .u u := by
    intro u
    unfold St.coolC
    cases st.o id with
    | none => rfl
    | some ob => cases ob <;> rfl
  simp [rd, Obj.mapC, h]
theorem Gd.run {f : Nat} {a : List T} {bs : List Int} {p c : Nat} {R : List T → List Obj → Prop} {fn : IFn} (hF : Go.Proofs.YtdnhamehpdlbgaaV.F f = some fn) (hn : a.length = fn.np) (h : Gd bs p c R (KK F (FF fn.res 1) [.code fn.body] (argSt 0 a (insSt 0 [rd bs p] S0)))) : Gd bs p c R (EE F f a [rd bs p]) := by
  rw [EE_run hF hn]; exact h
theorem w_pred {i : Nat} (h : i ≤ 1048576) : IntKind.i64.wrap (((i + 1 : Nat) : Int) - 1) = (i : Int) := by rw [w64 (by omega) (by omega)]; omega
theorem rdx2 : (∀ bs p, Obj.flat (rd bs p) = (bs.map yU).isEmpty) ∧ (∀ bs p, Obj.data (rd bs p) = true) ∧ (∀ (x : Bool) (a : List Id), sel x a a = a) := by
  refine ⟨fun bs p => ?_, fun bs p => rfl, fun x a => by cases x <;> rfl⟩
  simp [rd, Obj.flat, C.isSl, U.flat]
def Code (code : List Int) : Prop := code.length ≤ 9223372036854775807 ∧ ∀ b, b ∈ code → 0 ≤ b ∧ b ≤ 255
/-- A property of a call's end. -/
def Ok (R : Ret → Prop) (x : Option Ret) : Prop := ∃ r, x = some r ∧ R r
theorem Ok.run {f : Nat} {a : List T} {R : Ret → Prop} {fn : IFn} (hF : Go.Proofs.YtdnhamehpdlbgaaV.F f = some fn) (hn : a.length = fn.np) (h : Ok R (KK F (FF fn.res 0) [.code fn.body] (argSt 0 a (insSt 0 [] S0)))) : Ok R (EE F f a []) := by
  rw [EE_run hF hn]; exact h
theorem yU_of (us : List U) (hl : us.length = 1) (ht : ∀ (j : Nat) ty u, [Ty.i .u8][j]? = some ty → us[j]? = some u → UT ty u) : ∃ x, us = yU x ∧ (0 ≤ x ∧ x ≤ 255) := by
  match us, hl with
  | [a], _ => obtain ⟨n, rfl, h⟩ := (ht 0 _ a rfl rfl).u8_of; exact ⟨n, rfl, h⟩
theorem Code.of {u : U} (hu : UT (.sl [.i .u8]) u) : ∃ code : List Int, u = .sl 1 (code.map yU) ∧ Code code := by
  obtain ⟨code, rfl, hl, hb⟩ := hu.sl_of yU_of
  exact ⟨code, rfl, hl, hb⟩
theorem pk {bs : List Int} (hb : Bytes bs) (p : Nat) (n : Int) (hp : p ≤ 1000000000000) (hn : 1 ≤ n) : ∃ v : Nat, EE F 92 [RP0, I n] [rd bs p] = some ⟨[I (v : Int)], [], [rd bs (p + 1)]⟩ ∧ (v : Int) < n := by
  obtain ⟨v, h1, h2, h3⟩ := pick_ok hb p n (by omega)
  have := h3 hn
  obtain ⟨k, rfl⟩ := Int.eq_ofNat_of_zero_le h2
  exact ⟨k, h1, this⟩
theorem l20Key_ok {bs : List Int} (hb : Bytes bs) (p : Nat) (n : Int) (hn : n ≤ 1048576) (hp : p ≤ 1000000000) : Gd bs p 6 (fun r m => m = [] ∧ ∃ s : Str, r = [.sc (.u (.str s))] ∧ s.length ≤ 5) (EE F 141 [RP0, I n] [rd bs p]) := by
  refine Gd.run (fn := i141) (by kernel_rfl) rfl ?_
  simp only [i141, b141, argSt, insSt]
  obtain ⟨b, q, ho, hq1, hq2, _⟩ := odd_ok hb p n (by omega) hn
  cases b with
  | true =>
    obtain ⟨v, hv, hvl⟩ := pk hb q 6 (by omega) (by omega)
    rcases (show v = 0 ∨ v = 1 ∨ v = 2 ∨ v = 3 ∨ v = 4 ∨ v = 5 by omega) with rfl | rfl | rfl | rfl | rfl | rfl <;> simp only [↓xP, xQ, xR, flatR, eqCells_ok, eqSh, eqBs, Nat.reduceLT, decide_true, Nat.reduceBEq, Nat.reduceAdd, IOp.dst, IOp.isF, IOp.args, coolOp, Nat.reduceSub, rdx, ho, hv] <;> exact ⟨_, _, q + 1, rfl, by omega, by omega, rfl, _, rfl, by simp⟩
  | false =>
    obtain ⟨v, hv, hvl⟩ := pk hb q 12 (by omega) (by omega)
    by_cases h11 : (v : Int) = 11
    · obtain ⟨w, hw, hwl⟩ := pk hb (q + 1) 5 (by omega) (by omega)
      rcases (show w = 0 ∨ w = 1 ∨ w = 2 ∨ w = 3 ∨ w = 4 by omega) with rfl | rfl | rfl | rfl | rfl <;> simp only [↓xP, xQ, xR, flatR, eqCells_ok, eqSh, eqBs, Nat.reduceLT, decide_true, Nat.reduceBEq, Nat.reduceAdd, IOp.dst, IOp.isF, IOp.args, coolOp, Nat.reduceSub, rdx, ho, hv, h11, hw] <;> exact ⟨_, _, q + 2, rfl, by omega, by omega, rfl, _, rfl, by simp⟩
    · obtain ⟨w, hw, hwl⟩ := pk hb (q + 1) 2 (by omega) (by omega)
      have hw1 : IntKind.i64.wrap (1 + (w : Int)) = ((1 + w : Nat) : Int) := by rw [w64 (by omega) (by omega)]; omega
      simp only [↓xP, xQ, xR, flatR, eqCells_ok, eqSh, eqBs, Nat.reduceLT, decide_true, Nat.reduceBEq, Nat.reduceAdd, IOp.dst, IOp.isF, IOp.args, coolOp, Nat.reduceSub, rdx, ho, hv, h11, hw, hw1]
      refine loop_pred (fun (a : Nat × Nat × Str) st => a.1 + a.2.2.length ≤ 2 ∧ q + 2 ≤ a.2.1 ∧ a.2.1 + a.1 ≤ q + 4 ∧ st.s 0 = .t RP0 ∧ st.s 5 = DS a.2.2 ∧ st.s 6 = DI a.1 ∧ st.o (.par 0) = some (rd bs a.2.1)) (fun a => a.1) ?_ (1 + w, q + 1 + 1, []) ⟨by simp; omega, by simp, by dsimp only; omega, (by and_intros <;> first | omega | rfl | (simp only [↓xP, xQ, xR, flatR, eqCells_ok, eqSh, eqBs, Nat.reduceLT, decide_true, Nat.reduceBEq, Nat.reduceAdd, IOp.dst, IOp.isF, IOp.args, coolOp, Nat.reduceSub, rdx]; done) | (simp only [↓xP, xQ, xR, flatR, eqCells_ok, eqSh, eqBs, Nat.reduceLT, decide_true, Nat.reduceBEq, Nat.reduceAdd, IOp.dst, IOp.isF, IOp.args, coolOp, Nat.reduceSub, rdx]; rfl) | (simp only [↓xP, xQ, xR, flatR, eqCells_ok, eqSh, eqBs, Nat.reduceLT, decide_true, Nat.reduceBEq, Nat.reduceAdd, IOp.dst, IOp.isF, IOp.args, coolOp, Nat.reduceSub, rdx]; omega))⟩
      rintro ⟨k, q1, s⟩ st ⟨hl, hq, hq', h0, h5, h6, hr⟩ ih
      dsimp only at *
      cases k with
      | zero =>
        have hk : ¬ (0 : Int) < ((0 : Nat) : Int) := by omega
        simp only [↓xP, xQ, xR, flatR, eqCells_ok, eqSh, eqBs, Nat.reduceLT, decide_true, Nat.reduceBEq, Nat.reduceAdd, IOp.dst, IOp.isF, IOp.args, coolOp, Nat.reduceSub, rdx, h0, h5, h6, hr, gt_iff_lt, hk]
        exact ⟨_, _, q1, rfl, by omega, by omega, rfl, s, rfl, by omega⟩
      | succ k =>
        have hk : (0 : Int) < ((k + 1 : Nat) : Int) := by omega
        have hwk := w_pred (i := k) (by omega)
        obtain ⟨v2, hv2, hvl2⟩ := pk hb q1 4 (by omega) (by omega)
        have hs1 : s.length + 1 ≤ 9223372036854775807 := by omega
        simp only [↓xP, xQ, xR, flatR, eqCells_ok, eqSh, eqBs, Nat.reduceLT, decide_true, Nat.reduceBEq, Nat.reduceAdd, IOp.dst, IOp.isF, IOp.args, coolOp, Nat.reduceSub, rdx, h0, h5, h6, hr, gt_iff_lt, hk, hv2, hwk, hs1]
        exact ih (k, q1 + 1, s ++ [UInt8.ofNat (IntKind.u8.wrap (IntKind.i64.wrap (97 + (v2 : Int)))).toNat]) _ (by dsimp only; omega) ⟨by simp; omega, by dsimp only; omega, by dsimp only; omega, (by and_intros <;> first | omega | rfl | (simp only [↓xP, xQ, xR, flatR, eqCells_ok, eqSh, eqBs, Nat.reduceLT, decide_true, Nat.reduceBEq, Nat.reduceAdd, IOp.dst, IOp.isF, IOp.args, coolOp, Nat.reduceSub, rdx, h0, h5, h6, hr, hwk]; done) | (simp only [↓xP, xQ, xR, flatR, eqCells_ok, eqSh, eqBs, Nat.reduceLT, decide_true, Nat.reduceBEq, Nat.reduceAdd, IOp.dst, IOp.isF, IOp.args, coolOp, Nat.reduceSub, rdx, h0, h5, h6, hr, hwk]; rfl) | (simp only [↓xP, xQ, xR, flatR, eqCells_ok, eqSh, eqBs, Nat.reduceLT, decide_true, Nat.reduceBEq, Nat.reduceAdd, IOp.dst, IOp.isF, IOp.args, coolOp, Nat.reduceSub, rdx, h0, h5, h6, hr, hwk]; omega))⟩
theorem l20Value_ok {bs : List Int} (hb : Bytes bs) (p : Nat) (n : Int) (hn : n ≤ 1048576) (hp : p ≤ 1000000000) : Gd bs p 3 (fun r m => m = [] ∧ ∃ v : Int, r = [I v] ∧ -1 ≤ v ∧ v ≤ 1000) (EE F 170 [RP0, I n] [rd bs p]) := by
  refine Gd.run (fn := i170) (by kernel_rfl) rfl ?_
  simp only [i170, b170, argSt, insSt]
  obtain ⟨b, q, ho, hq1, hq2, _⟩ := odd_ok hb p n (by omega) hn
  cases b with
  | true =>
    obtain ⟨v, hv, hvl⟩ := pk hb q 2 (by omega) (by omega)
    rcases (show v = 0 ∨ v = 1 by omega) with rfl | rfl <;> simp only [↓xP, xQ, xR, flatR, eqCells_ok, eqSh, eqBs, Nat.reduceLT, decide_true, Nat.reduceBEq, Nat.reduceAdd, IOp.dst, IOp.isF, IOp.args, coolOp, Nat.reduceSub, rdx, ho, hv] <;> exact ⟨_, _, q + 1, rfl, by omega, by omega, rfl, _, rfl, by omega, by omega⟩
  | false =>
    obtain ⟨v, hv, hvl⟩ := pk hb q 20 (by omega) (by omega)
    obtain ⟨w, hw, hwl⟩ := pk hb (q + 1) 9 (by omega) (by omega)
    have h80 : ¬ (8 : Int) = 0 := by omega
    have e00 : IntKind.i64.wrap ((0 : Nat) : Int) = ((0 : Nat) : Int) := by rw [w64 (by omega) (by omega)]
    have e11 : IntKind.i64.wrap ((1 : Nat) : Int) = ((1 : Nat) : Int) := by rw [w64 (by omega) (by omega)]
    have h8 : ((w : Int)).tdiv 8 = ((w / 8 : Nat) : Int) := rfl
    by_cases h0 : w / 8 = 0
    · simp only [↓xP, xQ, xR, flatR, eqCells_ok, eqSh, eqBs, Nat.reduceLT, decide_true, Nat.reduceBEq, Nat.reduceAdd, IOp.dst, IOp.isF, IOp.args, coolOp, Nat.reduceSub, rdx, ho, hv, hw, h8, h0, h80, e00]
      exact ⟨_, _, q + 2, rfl, by omega, by omega, rfl, (v : Int), rfl, by omega, by omega⟩
    · have h1 : w / 8 = 1 := by omega
      simp only [↓xP, xQ, xR, flatR, eqCells_ok, eqSh, eqBs, Nat.reduceLT, decide_true, Nat.reduceBEq, Nat.reduceAdd, IOp.dst, IOp.isF, IOp.args, coolOp, Nat.reduceSub, rdx, ho, hv, hw, h8, h1, h80, e11]
      exact ⟨_, _, q + 2, rfl, by omega, by omega, rfl, (999 : Int), rfl, by omega, by omega⟩
theorem set_rep {l : List Pair} {i : Nat} {p q : Pair} (h : l[i]? = some p) : (l.map Pair.u).set i (Pair.u q) = (rep l i 1 [q]).map Pair.u := by
  obtain ⟨hi, _⟩ := List.getElem?_eq_some_iff.1 h
  rw [← List.map_set]
  congr 1
  rw [List.set_eq_take_append_cons_drop, if_pos hi]
  simp [rep]
theorem rep1_len {l : List Pair} {i : Nat} {p q : Pair} (h : l[i]? = some p) : (rep l i 1 [q]).length = l.length := by
  obtain ⟨hi, _⟩ := List.getElem?_eq_some_iff.1 h
  rw [rep_len (by omega)]
  simp; omega
theorem pairPut_spec (l : List Pair) (key : Str) (v : Int) (hn : l.length ≤ 1048576) : EE F 169 [L 2 (l.map Pair.u), S key, I v] [] = listRet Pair.u 2 (pairPut l key v) := by
  rw [R169, b169]
  have hpl := place_le key l
  have hv := pairsValid_spec l
  cases h : pairsValid l
  · rw [h] at hv
    simp only [↓xP, xQ, xR, flatR, eqCells_ok, eqSh, eqBs, Nat.reduceLT, decide_true, Nat.reduceBEq, Nat.reduceAdd, IOp.dst, IOp.isF, IOp.args, coolOp, Nat.reduceSub, hv, pairPut, h, Bool.false_eq_true, false_and, if_false, listRet, List.map_nil, List.length_nil]
  rw [h] at hv
  have hl48 := pairsValid_len h
  have hkv := keyValid_spec key
  cases hk : keyValid key
  · rw [hk] at hkv
    simp only [↓xP, xQ, xR, flatR, eqCells_ok, eqSh, eqBs, Nat.reduceLT, decide_true, Nat.reduceBEq, Nat.reduceAdd, IOp.dst, IOp.isF, IOp.args, coolOp, Nat.reduceSub, hv, hkv, pairPut, hk, Bool.false_eq_true, false_and, and_false, if_false, listRet, List.map_nil, List.length_nil]
  rw [hk] at hkv
  cases hr : inR v 0 999
  · simp only [↓xP, xQ, xR, flatR, eqCells_ok, eqSh, eqBs, Nat.reduceLT, decide_true, Nat.reduceBEq, Nat.reduceAdd, IOp.dst, IOp.isF, IOp.args, coolOp, Nat.reduceSub, hv, hkv, l1In_ok, hr, pairPut, Bool.false_eq_true, false_and, and_false, if_false, listRet, List.map_nil, List.length_nil]
  have q0 : l.length ≤ maxLen ∧ l.length * 24 ≤ 140737488355328 := small_max hn (by omega)
  have hpl4 := l4Place_ok l key (by omega)
  cases hh : hit key l with
  | some p =>
    obtain ⟨pk, pv⟩ := p
    obtain ⟨h1, h2⟩ := hit_some hh
    dsimp only at h2
    subst h2
    have hlt := (List.getElem?_eq_some_iff.1 h1).1
    have hli : ((place pk l : Nat) : Int) < (l.length : Int) := by omega
    have hset := set_rep (q := ⟨pk, v⟩) h1
    have hrl := rep1_len (q := ⟨pk, v⟩) h1
    simp only [Pair.u] at hset
    have hpp : pairPut l pk v = (rep l (place pk l) 1 [⟨pk, v⟩], true) := by simp only [pairPut, h, hk, hr, hh, Option.isSome_some, and_self, if_true]
    rw [hpp]
    simp only [↓xP, xQ, xR, flatR, eqCells_ok, eqSh, eqBs, Nat.reduceLT, decide_true, Nat.reduceBEq, Nat.reduceAdd, IOp.dst, IOp.isF, IOp.args, coolOp, Nat.reduceSub, hv, hkv, l1In_ok, hr, hpl4, List.length_map, Nat.zero_add, List.nil_append, hli, h1, Pair.u, q0.1, q0.2, hset, hlt]
    simp [sel, hrl, listRet]
  | none =>
    have hno := hit_none hh
    have hmin : min (place key l) l.length = place key l := by omega
    have hct := cut_to (n := l.length) (i := place key l) (by omega)
    have hcf := cut_from (n := l.length) (i := place key l) (by omega)
    have q1 : place key l ≤ maxLen ∧ place key l * 24 ≤ 140737488355328 := small_max (by omega) (by omega)
    have q2 : place key l + 1 ≤ maxLen ∧ (place key l + 1) * 24 ≤ 140737488355328 := small_max (by omega) (by omega)
    have q3 : place key l + 1 + (l.length - place key l) ≤ maxLen ∧ (place key l + 1 + (l.length - place key l)) * 24 ≤ 140737488355328 := small_max (by omega) (by omega)
    have hlen : (rep l (place key l) 0 [⟨key, v⟩]).length = place key l + 1 + (l.length - place key l) := by rw [rep_len (by omega)]; simp; omega
    have her : List.take (place key l) (l.map Pair.u) ++ [[U.str key, U.int .i64 v]] ++ List.drop (place key l) (l.map Pair.u) = (rep l (place key l) 0 [⟨key, v⟩]).map Pair.u := by simp [rep, List.map_take, List.map_drop, Pair.u]
    by_cases hge : (48 : Int) ≤ (l.length : Int)
    · have hge' : 48 ≤ l.length := by omega
      have hpp : pairPut l key v = (l, false) := by simp only [pairPut, h, hk, hr, hh, Option.isSome_none, Bool.false_eq_true, if_false, hge', and_self, if_true]
      rw [hpp]
      by_cases hlt : place key l < l.length
      · obtain ⟨⟨pk, pv⟩, hp⟩ : ∃ p, l[place key l]? = some p := ⟨_, List.getElem?_eq_getElem (by omega)⟩
        have hli : ((place key l : Nat) : Int) < (l.length : Int) := by omega
        have hne : ¬ pk = key := hno _ hp
        simp only [↓xP, xQ, xR, flatR, eqCells_ok, eqSh, eqBs, Nat.reduceLT, decide_true, Nat.reduceBEq, Nat.reduceAdd, IOp.dst, IOp.isF, IOp.args, coolOp, Nat.reduceSub, hv, hkv, l1In_ok, hr, hpl4, List.length_map, Nat.zero_add, List.nil_append, hli, hp, Pair.u, hne, q0.1, q0.2, ge_iff_le, hge, listRet, map_all]
      · have hli : ¬ ((place key l : Nat) : Int) < (l.length : Int) := by omega
        simp only [↓xP, xQ, xR, flatR, eqCells_ok, eqSh, eqBs, Nat.reduceLT, decide_true, Nat.reduceBEq, Nat.reduceAdd, IOp.dst, IOp.isF, IOp.args, coolOp, Nat.reduceSub, hv, hkv, l1In_ok, hr, hpl4, List.length_map, Nat.zero_add, List.nil_append, hli, Pair.u, q0.1, q0.2, ge_iff_le, hge, listRet, map_all]
    · have hge' : ¬ 48 ≤ l.length := by omega
      have hpp : pairPut l key v = (rep l (place key l) 0 [⟨key, v⟩], true) := by simp only [pairPut, h, hk, hr, hh, Option.isSome_none, Bool.false_eq_true, if_false, hge', and_self, if_true]
      rw [hpp]
      by_cases hlt : place key l < l.length
      · obtain ⟨⟨pk, pv⟩, hp⟩ : ∃ p, l[place key l]? = some p := ⟨_, List.getElem?_eq_getElem (by omega)⟩
        have hli : ((place key l : Nat) : Int) < (l.length : Int) := by omega
        have hne : ¬ pk = key := hno _ hp
        simp only [↓xP, xQ, xR, flatR, eqCells_ok, eqSh, eqBs, Nat.reduceLT, decide_true, Nat.reduceBEq, Nat.reduceAdd, IOp.dst, IOp.isF, IOp.args, coolOp, Nat.reduceSub, hv, hkv, l1In_ok, hr, hpl4, List.length_map, List.length_take, List.length_drop, Nat.zero_add, List.nil_append, hli, hp, Pair.u, hne, q1.1, q1.2, q2.1, q2.2, q3.1, q3.2, ge_iff_le, hge, listRet, map_all, hct, hcf, hmin, hlen, her, List.drop_zero, List.length_append, List.length_cons, List.length_nil]
      · have hli : ¬ ((place key l : Nat) : Int) < (l.length : Int) := by omega
        simp only [↓xP, xQ, xR, flatR, eqCells_ok, eqSh, eqBs, Nat.reduceLT, decide_true, Nat.reduceBEq, Nat.reduceAdd, IOp.dst, IOp.isF, IOp.args, coolOp, Nat.reduceSub, hv, hkv, l1In_ok, hr, hpl4, List.length_map, List.length_take, List.length_drop, Nat.zero_add, List.nil_append, hli, Pair.u, q1.1, q1.2, q2.1, q2.2, q3.1, q3.2, ge_iff_le, hge, listRet, map_all, hct, hcf, hmin, hlen, her, List.drop_zero, List.length_append, List.length_cons, List.length_nil]
theorem weight_ok {i : Nat} (h : i < 4) : ∃ w : Int, EE F 184 [I (i : Int)] [] = ok1 (I w) ∧ ¬ w = 0 := by
  rcases (show i = 0 ∨ i = 1 ∨ i = 2 ∨ i = 3 by omega) with rfl | rfl | rfl | rfl
  · exact ⟨18279, EE_at 60 (by kernel_rfl), by omega⟩
  · exact ⟨703, EE_at 60 (by kernel_rfl), by omega⟩
  · exact ⟨27, EE_at 60 (by kernel_rfl), by omega⟩
  · exact ⟨1, EE_at 60 (by kernel_rfl), by omega⟩
theorem keyAt_some (n : Int) : Ok (fun r => ∃ s : Str, r = ⟨[S s], [], []⟩ ∧ s.length ≤ 4) (EE F 120 [I n] []) := by
  refine Ok.run (fn := i120) (by kernel_rfl) rfl ?_
  simp only [i120, b120, argSt, insSt]
  cases hin : inR n 0 475253
  · simp only [↓xP, xQ, xR, flatR, eqCells_ok, eqSh, eqBs, Nat.reduceLT, decide_true, Nat.reduceBEq, Nat.reduceAdd, IOp.dst, IOp.isF, IOp.args, coolOp, Nat.reduceSub, l1In_ok, hin]
    exact ⟨_, rfl, [], rfl, by simp⟩
  simp only [↓xP, xQ, xR, flatR, eqCells_ok, eqSh, eqBs, Nat.reduceLT, decide_true, Nat.reduceBEq, Nat.reduceAdd, IOp.dst, IOp.isF, IOp.args, coolOp, Nat.reduceSub, l1In_ok, hin]
  refine loop_pred (fun (a : Nat × Int × Str) st => a.1 ≤ 4 ∧ a.2.2.length = a.1 ∧ st.s 0 = DI a.2.1 ∧ st.s 3 = DS a.2.2 ∧ st.s 4 = DI a.1) (fun a => 4 - a.1) ?_ (0, n, []) ⟨by simp, rfl, (by and_intros <;> first | omega | rfl | (simp only [↓xP, xQ, xR, flatR, eqCells_ok, eqSh, eqBs, Nat.reduceLT, decide_true, Nat.reduceBEq, Nat.reduceAdd, IOp.dst, IOp.isF, IOp.args, coolOp, Nat.reduceSub]; done) | (simp only [↓xP, xQ, xR, flatR, eqCells_ok, eqSh, eqBs, Nat.reduceLT, decide_true, Nat.reduceBEq, Nat.reduceAdd, IOp.dst, IOp.isF, IOp.args, coolOp, Nat.reduceSub]; rfl) | (simp only [↓xP, xQ, xR, flatR, eqCells_ok, eqSh, eqBs, Nat.reduceLT, decide_true, Nat.reduceBEq, Nat.reduceAdd, IOp.dst, IOp.isF, IOp.args, coolOp, Nat.reduceSub]; omega))⟩
  rintro ⟨i, m, s⟩ st ⟨hle, hl, h0, h3, h4⟩ ih
  dsimp only at *
  by_cases hi : i < 4
  · have hi' : (i : Int) < 4 := by omega
    have hw := w_succ (i := i) (by omega)
    obtain ⟨w, hwt, hw0⟩ := weight_ok hi
    have hs1 : s.length + 1 ≤ 9223372036854775807 := by omega
    simp only [↓xP, xQ, xR, flatR, eqCells_ok, eqSh, eqBs, Nat.reduceLT, decide_true, Nat.reduceBEq, Nat.reduceAdd, IOp.dst, IOp.isF, IOp.args, coolOp, Nat.reduceSub, h0, h3, h4, hi', hwt, hw0, hs1]
    refine sel_pred (fun h => ?_) (fun h => ?_)
    · exact ⟨_, rfl, _, rfl, by simp; omega⟩
    · simp only [↓xP, xQ, xR, flatR, eqCells_ok, eqSh, eqBs, Nat.reduceLT, decide_true, Nat.reduceBEq, Nat.reduceAdd, IOp.dst, IOp.isF, IOp.args, coolOp, Nat.reduceSub, h0, h3, h4, hi', hwt, hw0, hs1, hw]
      refine ih (i + 1, _, _) _ (by dsimp only; omega) ⟨by dsimp only; omega, ?_, (by and_intros <;> first | omega | rfl | (simp only [↓xP, xQ, xR, flatR, eqCells_ok, eqSh, eqBs, Nat.reduceLT, decide_true, Nat.reduceBEq, Nat.reduceAdd, IOp.dst, IOp.isF, IOp.args, coolOp, Nat.reduceSub, h0, h3, h4, hw]; done) | (simp only [↓xP, xQ, xR, flatR, eqCells_ok, eqSh, eqBs, Nat.reduceLT, decide_true, Nat.reduceBEq, Nat.reduceAdd, IOp.dst, IOp.isF, IOp.args, coolOp, Nat.reduceSub, h0, h3, h4, hw]; rfl) | (simp only [↓xP, xQ, xR, flatR, eqCells_ok, eqSh, eqBs, Nat.reduceLT, decide_true, Nat.reduceBEq, Nat.reduceAdd, IOp.dst, IOp.isF, IOp.args, coolOp, Nat.reduceSub, h0, h3, h4, hw]; omega))⟩
      simp [hl]
  · have hi' : ¬ (i : Int) < 4 := by omega
    simp only [↓xP, xQ, xR, flatR, eqCells_ok, eqSh, eqBs, Nat.reduceLT, decide_true, Nat.reduceBEq, Nat.reduceAdd, IOp.dst, IOp.isF, IOp.args, coolOp, Nat.reduceSub, h0, h3, h4, hi']
    exact ⟨_, rfl, s, rfl, by omega⟩
theorem pairPut_len (l : List Pair) (key : Str) (v : Int) : (pairPut l key v).1.length ≤ 48 := by
  unfold pairPut
  split
  · rename_i h
    have hl := pairsValid_len h.1
    split
    · rename_i hs
      cases hh : hit key l with
      | none => rw [hh] at hs; cases hs
      | some p => rw [rep1_len (hit_some hh).1]; exact hl
    · split
      · exact hl
      · have := place_le key l
        rw [rep_len (by omega)]
        simp; omega
  · simp
theorem samePairs_refl (l : List Pair) (hn : l.length ≤ 4611686018427387904) : EE F 49 [L 2 (l.map Pair.u), L 2 (l.map Pair.u)] [] = ok1 (B true) := by
  rw [R49, b49]
  simp only [↓xP, xQ, xR, flatR, eqCells_ok, eqSh, eqBs, Nat.reduceLT, decide_true, Nat.reduceBEq, Nat.reduceAdd, IOp.dst, IOp.isF, IOp.args, coolOp, Nat.reduceSub, ne_eq, not_true_eq_false]
  refine (loop_ind (fun (i : Nat) st => i ≤ l.length ∧ st.s 0 = DU (.sl 2 (l.map Pair.u)) ∧ st.s 1 = DU (.sl 2 (l.map Pair.u)) ∧ st.s 5 = DI i) (fun i => l.length - i) (fun i => ok1 (B true)) ?_ 0 (by and_intros <;> first | omega | rfl | (simp only [↓xP, xQ, xR, flatR, eqCells_ok, eqSh, eqBs, Nat.reduceLT, decide_true, Nat.reduceBEq, Nat.reduceAdd, IOp.dst, IOp.isF, IOp.args, coolOp, Nat.reduceSub]; done) | (simp only [↓xP, xQ, xR, flatR, eqCells_ok, eqSh, eqBs, Nat.reduceLT, decide_true, Nat.reduceBEq, Nat.reduceAdd, IOp.dst, IOp.isF, IOp.args, coolOp, Nat.reduceSub]; rfl) | (simp only [↓xP, xQ, xR, flatR, eqCells_ok, eqSh, eqBs, Nat.reduceLT, decide_true, Nat.reduceBEq, Nat.reduceAdd, IOp.dst, IOp.isF, IOp.args, coolOp, Nat.reduceSub]; omega))).trans rfl
  rintro i st ⟨hle, h0, h1, h5⟩ ih
  by_cases hi : i < l.length
  · obtain ⟨⟨pk, pv⟩, hy⟩ : ∃ y, l[i]? = some y := ⟨_, List.getElem?_eq_getElem hi⟩
    have hw := w_succ (i := i) (by omega)
    simp only [↓xP, xQ, xR, flatR, eqCells_ok, eqSh, eqBs, Nat.reduceLT, decide_true, Nat.reduceBEq, Nat.reduceAdd, IOp.dst, IOp.isF, IOp.args, coolOp, Nat.reduceSub, h0, h1, h5, hi, hy, hw, Pair.u, ne_eq, not_true_eq_false]
    exact ih (i + 1) _ (by omega) ⟨by omega, (by and_intros <;> first | omega | rfl | (simp only [↓xP, xQ, xR, flatR, eqCells_ok, eqSh, eqBs, Nat.reduceLT, decide_true, Nat.reduceBEq, Nat.reduceAdd, IOp.dst, IOp.isF, IOp.args, coolOp, Nat.reduceSub, h0, h1, h5, hw]; done) | (simp only [↓xP, xQ, xR, flatR, eqCells_ok, eqSh, eqBs, Nat.reduceLT, decide_true, Nat.reduceBEq, Nat.reduceAdd, IOp.dst, IOp.isF, IOp.args, coolOp, Nat.reduceSub, h0, h1, h5, hw]; rfl) | (simp only [↓xP, xQ, xR, flatR, eqCells_ok, eqSh, eqBs, Nat.reduceLT, decide_true, Nat.reduceBEq, Nat.reduceAdd, IOp.dst, IOp.isF, IOp.args, coolOp, Nat.reduceSub, h0, h1, h5, hw]; omega))⟩
  · simp only [↓xP, xQ, xR, flatR, eqCells_ok, eqSh, eqBs, Nat.reduceLT, decide_true, Nat.reduceBEq, Nat.reduceAdd, IOp.dst, IOp.isF, IOp.args, coolOp, Nat.reduceSub, h0, h1, h5, hi]
theorem pairDrop_spec (l : List Pair) (key : Str) (hn : l.length ≤ 1048576) : EE F 176 [L 2 (l.map Pair.u), S key] [] = listRet Pair.u 2 (pairDrop l key) := by
  rw [R176, b176]
  have hpl := place_le key l
  have hv := pairsValid_spec l
  cases h : pairsValid l
  · rw [h] at hv
    simp only [↓xP, xQ, xR, flatR, eqCells_ok, eqSh, eqBs, Nat.reduceLT, decide_true, Nat.reduceBEq, Nat.reduceAdd, IOp.dst, IOp.isF, IOp.args, coolOp, Nat.reduceSub, hv, pairDrop, h, Bool.false_eq_true, false_and, if_false, listRet, List.map_nil, List.length_nil]
  rw [h] at hv
  have q0 : l.length ≤ maxLen ∧ l.length * 24 ≤ 140737488355328 := small_max hn (by omega)
  have hpl4 := l4Place_ok l key (by omega)
  cases hh : hit key l with
  | none =>
    have hno := hit_none hh
    have hpp : pairDrop l key = (l, false) := by simp only [pairDrop, h, hh, Option.isSome_none, Bool.false_eq_true, if_false, if_true]
    rw [hpp]
    by_cases hi : place key l = l.length
    · have hi' : ((place key l : Nat) : Int) = (l.length : Int) := by omega
      simp only [↓xP, xQ, xR, flatR, eqCells_ok, eqSh, eqBs, Nat.reduceLT, decide_true, Nat.reduceBEq, Nat.reduceAdd, IOp.dst, IOp.isF, IOp.args, coolOp, Nat.reduceSub, hv, hpl4, List.length_map, hi', Nat.zero_add, List.nil_append, q0.1, q0.2, listRet, map_all]
    · obtain ⟨⟨pk, pv⟩, hp⟩ : ∃ p, l[place key l]? = some p := ⟨_, List.getElem?_eq_getElem (by omega)⟩
      have hi' : ¬ ((place key l : Nat) : Int) = (l.length : Int) := by omega
      have hne : ¬ pk = key := hno _ hp
      simp only [↓xP, xQ, xR, flatR, eqCells_ok, eqSh, eqBs, Nat.reduceLT, decide_true, Nat.reduceBEq, Nat.reduceAdd, IOp.dst, IOp.isF, IOp.args, coolOp, Nat.reduceSub, hv, hpl4, List.length_map, hi', hp, Pair.u, hne, Nat.zero_add, List.nil_append, q0.1, q0.2, listRet, map_all, ne_eq, not_false_eq_true]
  | some p =>
    obtain ⟨pk, pv⟩ := p
    obtain ⟨h1, h2⟩ := hit_some hh
    dsimp only at h2
    subst h2
    have hlt := (List.getElem?_eq_some_iff.1 h1).1
    have hi' : ¬ ((place pk l : Nat) : Int) = (l.length : Int) := by omega
    have hmin : min (place pk l) l.length = place pk l := by omega
    have hw := w_succ (i := place pk l) (by omega)
    have hct := cut_to (n := l.length) (i := place pk l) (by omega)
    have hcf := cut_from (n := l.length) (i := place pk l + 1) (by omega)
    have q1 : place pk l ≤ maxLen ∧ place pk l * 24 ≤ 140737488355328 := small_max (by omega) (by omega)
    have q3 : place pk l + (l.length - (place pk l + 1)) ≤ maxLen ∧ (place pk l + (l.length - (place pk l + 1))) * 24 ≤ 140737488355328 := small_max (by omega) (by omega)
    have hlen : (rep l (place pk l) 1 []).length = place pk l + (l.length - (place pk l + 1)) := by rw [rep_len (by omega)]; simp; omega
    have her : List.take (place pk l) (l.map Pair.u) ++ List.drop (place pk l + 1) (l.map Pair.u) = (rep l (place pk l) 1 []).map Pair.u := by simp [rep, List.map_take, List.map_drop]
    have hpp : pairDrop l pk = (rep l (place pk l) 1 [], true) := by simp only [pairDrop, h, hh, Option.isSome_some, if_true]
    rw [hpp]
    simp only [↓xP, xQ, xR, flatR, eqCells_ok, eqSh, eqBs, Nat.reduceLT, decide_true, Nat.reduceBEq, Nat.reduceAdd, IOp.dst, IOp.isF, IOp.args, coolOp, Nat.reduceSub, hv, hpl4, List.length_map, List.length_take, List.length_drop, hi', h1, Pair.u, Nat.zero_add, List.nil_append, hw, hct, hcf, hmin, q1.1, q1.2, q3.1, q3.2, listRet, map_all, hlen, her, List.drop_zero, ne_eq, not_true_eq_false]
def applyC (l : List Pair) (c : Command) : List Pair × Int :=
  if pairsValid l = true ∧ commandValid c = true ∧ ¬ c.kind = 5 then
    (if c.kind = 1 ∨ (c.kind = 4 ∧ ¬ c.old = pairGet l c.key) then (l, pairGet l c.key)
     else if c.kind = 3 then ((pairDrop l c.key).1, pairGet l c.key)
     else if pairGet l c.key < 0 ∧ 8 ≤ l.length then (l, -2)
     else ((pairPut l c.key c.value).1, pairGet l c.key))
  else ([], -3)
def applyRet (r : List Pair × Int) : Option Ret := some ⟨[.sc (.own (.par 0) r.1.length), I r.2], [.row 2 (r.1.map Pair.u)], []⟩
theorem applyCommand_spec (l : List Pair) (k : Int) (key : Str) (v o : Int) (hn : l.length ≤ 1048576) : EE F 117 [L 2 (l.map Pair.u), .ag [.u (.int .i64 k), .u (.str key), .u (.int .i64 v), .u (.int .i64 o)]] [] = applyRet (applyC l ⟨k, key, v, o⟩) := by
  rw [R117, b117]
  have hv := pairsValid_spec l
  have hcv := commandValid_spec k key v o
  cases h : pairsValid l
  · rw [h] at hv
    simp only [↓xP, xQ, xR, flatR, eqCells_ok, eqSh, eqBs, Nat.reduceLT, decide_true, Nat.reduceBEq, Nat.reduceAdd, IOp.dst, IOp.isF, IOp.args, coolOp, Nat.reduceSub, hv, applyC, h, Bool.false_eq_true, false_and, if_false, applyRet, List.map_nil, List.length_nil]
  rw [h] at hv
  cases h2 : commandValid ⟨k, key, v, o⟩
  · rw [h2] at hcv
    simp only [↓xP, xQ, xR, flatR, eqCells_ok, eqSh, eqBs, Nat.reduceLT, decide_true, Nat.reduceBEq, Nat.reduceAdd, IOp.dst, IOp.isF, IOp.args, coolOp, Nat.reduceSub, hv, hcv, applyC, h, h2, Bool.false_eq_true, false_and, and_false, if_false, applyRet, List.map_nil, List.length_nil]
  rw [h2] at hcv
  by_cases h5 : k = 5
  · subst h5
    simp only [↓xP, xQ, xR, flatR, eqCells_ok, eqSh, eqBs, Nat.reduceLT, decide_true, Nat.reduceBEq, Nat.reduceAdd, IOp.dst, IOp.isF, IOp.args, coolOp, Nat.reduceSub, hv, hcv, applyC, not_true_eq_false, and_false, if_false, applyRet, List.map_nil, List.length_nil]
  have q0 : l.length ≤ maxLen ∧ l.length * 24 ≤ 140737488355328 := small_max hn (by omega)
  have hpg := pairGet_spec l key (by omega)
  have hpd := pairDrop_spec l key hn
  have hpp := pairPut_spec l key v hn
  generalize hgo : pairGet l key = old at hpg
  generalize hdo : pairDrop l key = dr at hpd
  generalize hpo : pairPut l key v = pu at hpp
  obtain ⟨dl, db⟩ := dr
  obtain ⟨pl, pb⟩ := pu
  simp only [listRet] at hpd hpp
  by_cases h1 : k = 1
  · subst h1
    simp only [↓xP, xQ, xR, flatR, eqCells_ok, eqSh, eqBs, Nat.reduceLT, decide_true, Nat.reduceBEq, Nat.reduceAdd, IOp.dst, IOp.isF, IOp.args, coolOp, Nat.reduceSub, hv, hcv, h5, hpg, List.length_map, Nat.zero_add, List.nil_append, q0.1, q0.2, applyC, h, h2, hgo, hdo, hpo, and_self, true_or, false_or, not_false_eq_true, if_true, applyRet, map_all]
  by_cases h4 : k = 4
  · subst h4
    by_cases ho : o = old
    · subst ho
      have h43 : ¬ (4 : Int) = 3 := by omega
      by_cases hlt : o < 0
      · by_cases h8 : (8 : Int) ≤ (l.length : Int)
        · have h8' : 8 ≤ l.length := by omega
          simp only [↓xP, xQ, xR, flatR, eqCells_ok, eqSh, eqBs, Nat.reduceLT, decide_true, Nat.reduceBEq, Nat.reduceAdd, IOp.dst, IOp.isF, IOp.args, coolOp, Nat.reduceSub, hv, hcv, h5, h1, h43, hlt, h8, h8', hpg, List.length_map, Nat.zero_add, List.nil_append, q0.1, q0.2, applyC, h, h2, hgo, hdo, hpo, and_self, true_or, false_or, or_self, and_false, true_and, not_true_eq_false, not_false_eq_true, if_true, if_false, applyRet, map_all, ge_iff_le, ne_eq]
        · have h8' : ¬ 8 ≤ l.length := by omega
          simp only [↓xP, xQ, xR, flatR, eqCells_ok, eqSh, eqBs, Nat.reduceLT, decide_true, Nat.reduceBEq, Nat.reduceAdd, IOp.dst, IOp.isF, IOp.args, coolOp, Nat.reduceSub, hv, hcv, h5, h1, h43, hlt, h8, h8', hpg, hpp, List.length_map, Nat.zero_add, List.nil_append, q0.1, q0.2, applyC, h, h2, hgo, hdo, hpo, and_self, true_or, false_or, or_self, and_false, true_and, not_true_eq_false, not_false_eq_true, if_true, if_false, applyRet, map_all, ge_iff_le, ne_eq]
      · simp only [↓xP, xQ, xR, flatR, eqCells_ok, eqSh, eqBs, Nat.reduceLT, decide_true, Nat.reduceBEq, Nat.reduceAdd, IOp.dst, IOp.isF, IOp.args, coolOp, Nat.reduceSub, hv, hcv, h5, h1, h43, hlt, hpg, hpp, List.length_map, Nat.zero_add, List.nil_append, q0.1, q0.2, applyC, h, h2, hgo, hdo, hpo, and_self, true_or, false_or, or_self, and_false, false_and, true_and, not_true_eq_false, not_false_eq_true, if_true, if_false, applyRet, map_all, ge_iff_le, ne_eq]
    · simp only [↓xP, xQ, xR, flatR, eqCells_ok, eqSh, eqBs, Nat.reduceLT, decide_true, Nat.reduceBEq, Nat.reduceAdd, IOp.dst, IOp.isF, IOp.args, coolOp, Nat.reduceSub, hv, hcv, h5, h1, ho, hpg, List.length_map, Nat.zero_add, List.nil_append, q0.1, q0.2, applyC, h, h2, hgo, hdo, hpo, and_self, true_or, or_true, false_or, not_false_eq_true, if_true, applyRet, map_all, ne_eq]
  by_cases h3 : k = 3
  · subst h3
    simp only [↓xP, xQ, xR, flatR, eqCells_ok, eqSh, eqBs, Nat.reduceLT, decide_true, Nat.reduceBEq, Nat.reduceAdd, IOp.dst, IOp.isF, IOp.args, coolOp, Nat.reduceSub, hv, hcv, h5, h1, h4, hpg, hpd, List.length_map, Nat.zero_add, List.nil_append, q0.1, q0.2, applyC, h, h2, hgo, hdo, hpo, and_self, true_or, false_or, or_self, false_and, not_false_eq_true, if_true, if_false, applyRet, map_all]
  · by_cases hlt : old < 0
    · by_cases h8 : (8 : Int) ≤ (l.length : Int)
      · have h8' : 8 ≤ l.length := by omega
        simp only [↓xP, xQ, xR, flatR, eqCells_ok, eqSh, eqBs, Nat.reduceLT, decide_true, Nat.reduceBEq, Nat.reduceAdd, IOp.dst, IOp.isF, IOp.args, coolOp, Nat.reduceSub, hv, hcv, h5, h1, h4, h3, hlt, h8, h8', hpg, List.length_map, Nat.zero_add, List.nil_append, q0.1, q0.2, applyC, h, h2, hgo, hdo, hpo, and_self, true_or, false_or, or_self, and_false, false_and, true_and, not_true_eq_false, not_false_eq_true, if_true, if_false, applyRet, map_all, ge_iff_le, ne_eq]
      · have h8' : ¬ 8 ≤ l.length := by omega
        simp only [↓xP, xQ, xR, flatR, eqCells_ok, eqSh, eqBs, Nat.reduceLT, decide_true, Nat.reduceBEq, Nat.reduceAdd, IOp.dst, IOp.isF, IOp.args, coolOp, Nat.reduceSub, hv, hcv, h5, h1, h4, h3, hlt, h8, h8', hpg, hpp, List.length_map, Nat.zero_add, List.nil_append, q0.1, q0.2, applyC, h, h2, hgo, hdo, hpo, and_self, true_or, false_or, or_self, and_false, false_and, true_and, not_true_eq_false, not_false_eq_true, if_true, if_false, applyRet, map_all, ge_iff_le, ne_eq]
    · simp only [↓xP, xQ, xR, flatR, eqCells_ok, eqSh, eqBs, Nat.reduceLT, decide_true, Nat.reduceBEq, Nat.reduceAdd, IOp.dst, IOp.isF, IOp.args, coolOp, Nat.reduceSub, hv, hcv, h5, h1, h4, h3, hlt, hpg, hpp, List.length_map, Nat.zero_add, List.nil_append, q0.1, q0.2, applyC, h, h2, hgo, hdo, hpo, and_self, true_or, false_or, or_self, and_false, false_and, true_and, not_true_eq_false, not_false_eq_true, if_true, if_false, applyRet, map_all, ge_iff_le, ne_eq]
theorem pairDrop_len {l : List Pair} (key : Str) (h : l.length ≤ 49) : (pairDrop l key).1.length ≤ 49 := by
  unfold pairDrop
  split
  · split
    · rename_i hs
      cases hh : hit key l with
      | none => rw [hh] at hs; cases hs
      | some p =>
        have := (List.getElem?_eq_some_iff.1 (hit_some hh).1).1
        rw [rep_len (by omega)]
        simp; omega
    · exact h
  · simp
theorem applyC_len {l : List Pair} (c : Command) (h : l.length ≤ 49) : (applyC l c).1.length ≤ 49 := by
  unfold applyC
  split
  · split
    · exact h
    · split
      · exact pairDrop_len _ h
      · split
        · exact h
        · have := pairPut_len l c.key c.value
          dsimp only; omega
  · simp
theorem pairPut_impl (l : List Pair) (key : Str) (v : Int) (hn : l.length ≤ 1048576) : EE F 181 [L 2 (l.map Pair.u), S key, I v] [] = listRet Pair.u 2 (pairPut l key v) := by
  rw [R181, b181]
  have hv := pairsValid_impl l
  cases h : pairsValid l
  · rw [h] at hv
    simp only [↓xP, xQ, xR, flatR, eqCells_ok, eqSh, eqBs, Nat.reduceLT, decide_true, Nat.reduceBEq, Nat.reduceAdd, IOp.dst, IOp.isF, IOp.args, coolOp, Nat.reduceSub, hv, pairPut, h, Bool.false_eq_true, false_and, if_false, listRet, List.map_nil, List.length_nil]
  rw [h] at hv
  have hl48 := pairsValid_len h
  have hkv := keyValid_impl key
  cases hk : keyValid key
  · rw [hk] at hkv
    simp only [↓xP, xQ, xR, flatR, eqCells_ok, eqSh, eqBs, Nat.reduceLT, decide_true, Nat.reduceBEq, Nat.reduceAdd, IOp.dst, IOp.isF, IOp.args, coolOp, Nat.reduceSub, hv, hkv, pairPut, hk, Bool.false_eq_true, false_and, and_false, if_false, listRet, List.map_nil, List.length_nil]
  rw [hk] at hkv
  cases hr : inR v 0 999
  · simp only [↓xP, xQ, xR, flatR, eqCells_ok, eqSh, eqBs, Nat.reduceLT, decide_true, Nat.reduceBEq, Nat.reduceAdd, IOp.dst, IOp.isF, IOp.args, coolOp, Nat.reduceSub, hv, hkv, valueValid_ok, hr, pairPut, Bool.false_eq_true, false_and, and_false, if_false, listRet, List.map_nil, List.length_nil]
  have hpl := pairPlace_ok l key (asc_of h) (by omega)
  have hple := place_le key l
  rw [hit_found] at hpl
  have e0 : ((0 : Nat) : Int) = 0 := rfl
  have e1 : ((1 : Nat) : Int) = 1 := rfl
  have hmap : [[U.str key, U.int .i64 v]] = List.map Pair.u [⟨key, v⟩] := rfl
  cases hh : hit key l with
  | some p =>
    have h1 := (hit_some hh).1
    have hlt := (List.getElem?_eq_some_iff.1 h1).1
    have hre := replaced_Pair l [⟨key, v⟩] (place key l) 1 (by omega) (by simp only [List.length_cons, List.length_nil]; omega)
    rw [e1, ← hmap] at hre
    have hpp : pairPut l key v = (rep l (place key l) 1 [⟨key, v⟩], true) := by simp only [pairPut, h, hk, hr, hh, Option.isSome_some, and_self, if_true]
    rw [hh, Option.isSome_some] at hpl
    simp only [↓xP, xQ, xR, flatR, eqCells_ok, eqSh, eqBs, Nat.reduceLT, decide_true, Nat.reduceBEq, Nat.reduceAdd, IOp.dst, IOp.isF, IOp.args, coolOp, Nat.reduceSub, hv, hkv, valueValid_ok, hr, hpl, hre, hpp, listRet]
  | none =>
    rw [hh, Option.isSome_none] at hpl
    by_cases h48 : 48 ≤ l.length
    · have h48' : (48 : Int) ≤ (l.length : Int) := by omega
      have hc := copyOf_Pair l (by omega)
      have hpp : pairPut l key v = (l, false) := by simp only [pairPut, h, hk, hr, hh, Option.isSome_none, Bool.false_eq_true, if_false, h48, and_self, if_true]
      simp only [↓xP, xQ, xR, flatR, eqCells_ok, eqSh, eqBs, Nat.reduceLT, decide_true, Nat.reduceBEq, Nat.reduceAdd, IOp.dst, IOp.isF, IOp.args, coolOp, Nat.reduceSub, hv, hkv, valueValid_ok, hr, hpl, List.length_map, ge_iff_le, h48', hc, hpp, listRet]
    · have h48' : ¬ (48 : Int) ≤ (l.length : Int) := by omega
      have hre := replaced_Pair l [⟨key, v⟩] (place key l) 0 (by omega) (by simp only [List.length_cons, List.length_nil]; omega)
      rw [e0, ← hmap] at hre
      have hpp : pairPut l key v = (rep l (place key l) 0 [⟨key, v⟩], true) := by simp only [pairPut, h, hk, hr, hh, Option.isSome_none, Bool.false_eq_true, if_false, h48, and_self, if_true]
      simp only [↓xP, xQ, xR, flatR, eqCells_ok, eqSh, eqBs, Nat.reduceLT, decide_true, Nat.reduceBEq, Nat.reduceAdd, IOp.dst, IOp.isF, IOp.args, coolOp, Nat.reduceSub, hv, hkv, valueValid_ok, hr, hpl, List.length_map, ge_iff_le, h48', hre, hpp, listRet]
theorem pairDrop_impl (l : List Pair) (key : Str) (hn : l.length ≤ 1048576) : EE F 180 [L 2 (l.map Pair.u), S key] [] = listRet Pair.u 2 (pairDrop l key) := by
  rw [R180, b180]
  have hv := pairsValid_impl l
  cases h : pairsValid l
  · rw [h] at hv
    simp only [↓xP, xQ, xR, flatR, eqCells_ok, eqSh, eqBs, Nat.reduceLT, decide_true, Nat.reduceBEq, Nat.reduceAdd, IOp.dst, IOp.isF, IOp.args, coolOp, Nat.reduceSub, hv, pairDrop, h, Bool.false_eq_true, false_and, if_false, listRet, List.map_nil, List.length_nil]
  rw [h] at hv
  have hl48 := pairsValid_len h
  have hpl := pairPlace_ok l key (asc_of h) (by omega)
  have hple := place_le key l
  rw [hit_found] at hpl
  have e1 : ((1 : Nat) : Int) = 1 := rfl
  cases hh : hit key l with
  | some p =>
    have h1 := (hit_some hh).1
    have hlt := (List.getElem?_eq_some_iff.1 h1).1
    have hre := replaced_Pair l [] (place key l) 1 (by omega) (by simp only [List.length_nil]; omega)
    rw [e1, List.map_nil] at hre
    have hpp : pairDrop l key = (rep l (place key l) 1 [], true) := by simp only [pairDrop, h, hh, Option.isSome_some, if_true]
    rw [hh, Option.isSome_some] at hpl
    simp only [↓xP, xQ, xR, flatR, eqCells_ok, eqSh, eqBs, Nat.reduceLT, decide_true, Nat.reduceBEq, Nat.reduceAdd, IOp.dst, IOp.isF, IOp.args, coolOp, Nat.reduceSub, hv, hpl, hre, hpp, listRet]
  | none =>
    rw [hh, Option.isSome_none] at hpl
    have hc := copyOf_Pair l (by omega)
    have hpp : pairDrop l key = (l, false) := by simp only [pairDrop, h, hh, Option.isSome_none, Bool.false_eq_true, if_false, if_true]
    simp only [↓xP, xQ, xR, flatR, eqCells_ok, eqSh, eqBs, Nat.reduceLT, decide_true, Nat.reduceBEq, Nat.reduceAdd, IOp.dst, IOp.isF, IOp.args, coolOp, Nat.reduceSub, hv, hpl, hc, hpp, listRet]
/-- What one answer makes of the pairs; none if it cannot be right. -/
def oneA (l : List Pair) (a : Answer) : Option (List Pair) :=
  if a.reply = -2 then some l
  else if a.reply = pairGet l a.asked.cmd.key then
    (if a.asked.cmd.kind = 3 then some (pairDrop l a.asked.cmd.key).1
     else if a.asked.cmd.kind = 2 ∨ (a.asked.cmd.kind = 4 ∧ a.asked.cmd.old = pairGet l a.asked.cmd.key) then
       (if (pairPut l a.asked.cmd.key a.asked.cmd.value).2 = true then some (pairPut l a.asked.cmd.key a.asked.cmd.value).1 else none)
     else some l)
  else none
def okA (a : Answer) : Bool := entryValid a.asked && !decide (a.asked.cmd.kind = 5)
def runA : List Answer → List Pair → Option (List Pair)
  | [], l => some l
  | a :: as', l => if okA a = true then (oneA l a).bind (runA as') else none
def hist (l : List Answer) : Option (List Pair) := if l.length ≤ 200 then runA l [] else none
def histRet (x : Option (List Pair)) : Option Ret := match x with
  | some p => some ⟨[L 2 (p.map Pair.u), B true], [], []⟩
  | none => some ⟨[L 2 [], B false], [], []⟩
theorem oneA_len {l l' : List Pair} {a : Answer} (h : oneA l a = some l') (hl : l.length ≤ 48) : l'.length ≤ 48 := by
  unfold oneA at h
  split at h
  · cases h; exact hl
  · split at h
    · split at h
      · cases h
        unfold pairDrop
        split
        · split
          · rename_i hs
            cases hh : hit a.asked.cmd.key l with
            | none => rw [hh] at hs; cases hs
            | some p =>
              have := (List.getElem?_eq_some_iff.1 (hit_some hh).1).1
              rw [rep_len (by omega)]
              simp; omega
          · exact hl
        · simp
      · split at h
        · split at h
          · cases h; exact pairPut_len _ _ _
          · cases h
        · cases h; exact hl
    · cases h
theorem oneA_eq (l : List Pair) (c s k : Int) (key : Str) (v o : Int) (r : Int) : oneA l ⟨⟨c, s, ⟨k, key, v, o⟩⟩, r⟩ = if r = -2 then some l else if r = pairGet l key then (if k = 3 then some (pairDrop l key).1 else if k = 2 ∨ (k = 4 ∧ o = pairGet l key) then (if (pairPut l key v).2 = true then some (pairPut l key v).1 else none) else some l) else none := rfl
theorem mapAfter_ok (l : List Pair) (c s k : Int) (key : Str) (v o : Int) (r : Int) (hn : l.length ≤ 1048576) (hk : 1 ≤ k ∧ k ≤ 4) (hr : ¬ r = -2) : ∃ q : List Pair, EE F 112 [L 2 (l.map Pair.u), .ag [.u (.int .i64 k), .u (.str key), .u (.int .i64 v), .u (.int .i64 o)], I r] [] = some ⟨[L 2 (q.map Pair.u), B (oneA l ⟨⟨c, s, ⟨k, key, v, o⟩⟩, r⟩).isSome], [], []⟩ ∧ ∀ p, oneA l ⟨⟨c, s, ⟨k, key, v, o⟩⟩, r⟩ = some p → q = p := by
  have hpg := pairGet_impl l key
  have hpd := pairDrop_impl l key hn
  have hpp := pairPut_impl l key v hn
  rw [oneA_eq]
  simp only [hr, if_false]
  by_cases hrg : r = pairGet l key
  case neg =>
    refine ⟨[], ?_, fun p h => by rw [if_neg hrg] at h; cases h⟩
    rw [R112, b112]
    simp only [↓xP, xQ, xR, flatR, eqCells_ok, eqSh, eqBs, Nat.reduceLT, decide_true, Nat.reduceBEq, Nat.reduceAdd, IOp.dst, IOp.isF, IOp.args, coolOp, Nat.reduceSub, hpg, hrg, ne_eq, not_false_eq_true, if_false, Option.isSome_none, List.map_nil]
  rw [if_pos hrg]
  rw [← hrg] at hpg ⊢
  generalize pairDrop l key = dr at *
  generalize pairPut l key v = pu at *
  obtain ⟨dl, db⟩ := dr
  obtain ⟨pl, pb⟩ := pu
  simp only [listRet] at hpd hpp
  rcases (show k = 1 ∨ k = 2 ∨ k = 3 ∨ k = 4 by omega) with rfl | rfl | rfl | rfl
  · refine ⟨l, ?_, fun p h => by simpa using h⟩
    rw [R112, b112]
    simp only [↓xP, xQ, xR, flatR, eqCells_ok, eqSh, eqBs, Nat.reduceLT, decide_true, Nat.reduceBEq, Nat.reduceAdd, IOp.dst, IOp.isF, IOp.args, coolOp, Nat.reduceSub, hpg, ne_eq, not_true_eq_false]
    all_goals rfl
  · refine ⟨pl, ?_, fun p h => by cases pb <;> simp at h; exact h⟩
    rw [R112, b112]
    simp only [↓xP, xQ, xR, flatR, eqCells_ok, eqSh, eqBs, Nat.reduceLT, decide_true, Nat.reduceBEq, Nat.reduceAdd, IOp.dst, IOp.isF, IOp.args, coolOp, Nat.reduceSub, hpg, hpp, ne_eq, not_true_eq_false, map_all]
    cases pb <;> rfl
  · refine ⟨dl, ?_, fun p h => by simpa using h⟩
    rw [R112, b112]
    simp only [↓xP, xQ, xR, flatR, eqCells_ok, eqSh, eqBs, Nat.reduceLT, decide_true, Nat.reduceBEq, Nat.reduceAdd, IOp.dst, IOp.isF, IOp.args, coolOp, Nat.reduceSub, hpg, hpd, ne_eq, not_true_eq_false, map_all]
    all_goals rfl
  · have h43 : ¬ (4 : Int) = 3 := by omega
    have h42 : ¬ (4 : Int) = 2 := by omega
    by_cases ho : o = r
    · refine ⟨pl, ?_, fun p h => by cases pb <;> simp [ho] at h; exact h⟩
      rw [R112, b112]
      simp only [↓xP, xQ, xR, flatR, eqCells_ok, eqSh, eqBs, Nat.reduceLT, decide_true, Nat.reduceBEq, Nat.reduceAdd, IOp.dst, IOp.isF, IOp.args, coolOp, Nat.reduceSub, hpg, hpp, ho, ne_eq, not_true_eq_false, map_all]
      cases pb <;> rfl
    · refine ⟨l, ?_, fun p h => by simpa [ho] using h⟩
      rw [R112, b112]
      simp only [↓xP, xQ, xR, flatR, eqCells_ok, eqSh, eqBs, Nat.reduceLT, decide_true, Nat.reduceBEq, Nat.reduceAdd, IOp.dst, IOp.isF, IOp.args, coolOp, Nat.reduceSub, hpg, ho, h43, h42, ne_eq, not_true_eq_false, map_all]
      all_goals simp
theorem l29one_ok (l : List Pair) (c s k : Int) (key : Str) (v o : Int) (r : Int) (hn : l.length ≤ 1048576) (hk : 1 ≤ k ∧ k ≤ 4) : ∃ q : List Pair, EE F 109 [L 2 (l.map Pair.u), .ag [.u (.int .i64 c), .u (.int .i64 s), .u (.int .i64 k), .u (.str key), .u (.int .i64 v), .u (.int .i64 o), .u (.int .i64 r)]] [] = some ⟨[L 2 (q.map Pair.u), B (oneA l ⟨⟨c, s, ⟨k, key, v, o⟩⟩, r⟩).isSome], [], []⟩ ∧ ∀ p, oneA l ⟨⟨c, s, ⟨k, key, v, o⟩⟩, r⟩ = some p → q = p := by
  have hpg := pairGet_spec l key (by omega)
  have hpd := pairDrop_spec l key hn
  have hpp := pairPut_spec l key v hn
  rw [oneA_eq]
  by_cases hr : r = -2
  · refine ⟨l, ?_, fun p h => by simpa [hr] using h⟩
    rw [R109, b109]
    simp only [↓xP, xQ, xR, flatR, eqCells_ok, eqSh, eqBs, Nat.reduceLT, decide_true, Nat.reduceBEq, Nat.reduceAdd, IOp.dst, IOp.isF, IOp.args, coolOp, Nat.reduceSub, hpg, hr]
    all_goals rfl
  simp only [hr, if_false]
  by_cases hrg : r = pairGet l key
  case neg =>
    refine ⟨l, ?_, fun p h => by rw [if_neg hrg] at h; cases h⟩
    rw [R109, b109]
    simp only [↓xP, xQ, xR, flatR, eqCells_ok, eqSh, eqBs, Nat.reduceLT, decide_true, Nat.reduceBEq, Nat.reduceAdd, IOp.dst, IOp.isF, IOp.args, coolOp, Nat.reduceSub, hpg, hr, hrg, ne_eq, not_false_eq_true, if_false, Option.isSome_none, List.map_nil]
  rw [if_pos hrg]
  rw [← hrg] at hpg ⊢
  generalize pairDrop l key = dr at *
  generalize pairPut l key v = pu at *
  obtain ⟨dl, db⟩ := dr
  obtain ⟨pl, pb⟩ := pu
  simp only [listRet] at hpd hpp
  rcases (show k = 1 ∨ k = 2 ∨ k = 3 ∨ k = 4 by omega) with rfl | rfl | rfl | rfl
  · refine ⟨l, ?_, fun p h => by simpa using h⟩
    rw [R109, b109]
    simp only [↓xP, xQ, xR, flatR, eqCells_ok, eqSh, eqBs, Nat.reduceLT, decide_true, Nat.reduceBEq, Nat.reduceAdd, IOp.dst, IOp.isF, IOp.args, coolOp, Nat.reduceSub, hpg, hr, ne_eq, not_true_eq_false]
    all_goals rfl
  · refine ⟨pl, ?_, fun p h => by cases pb <;> simp at h; exact h⟩
    rw [R109, b109]
    simp only [↓xP, xQ, xR, flatR, eqCells_ok, eqSh, eqBs, Nat.reduceLT, decide_true, Nat.reduceBEq, Nat.reduceAdd, IOp.dst, IOp.isF, IOp.args, coolOp, Nat.reduceSub, hpg, hpp, hr, ne_eq, not_true_eq_false, map_all]
    cases pb <;> rfl
  · refine ⟨dl, ?_, fun p h => by simpa using h⟩
    rw [R109, b109]
    simp only [↓xP, xQ, xR, flatR, eqCells_ok, eqSh, eqBs, Nat.reduceLT, decide_true, Nat.reduceBEq, Nat.reduceAdd, IOp.dst, IOp.isF, IOp.args, coolOp, Nat.reduceSub, hpg, hpd, hr, ne_eq, not_true_eq_false, map_all]
    all_goals rfl
  · have h43 : ¬ (4 : Int) = 3 := by omega
    have h42 : ¬ (4 : Int) = 2 := by omega
    by_cases ho : o = r
    · refine ⟨pl, ?_, fun p h => by cases pb <;> simp [ho] at h; exact h⟩
      rw [R109, b109]
      simp only [↓xP, xQ, xR, flatR, eqCells_ok, eqSh, eqBs, Nat.reduceLT, decide_true, Nat.reduceBEq, Nat.reduceAdd, IOp.dst, IOp.isF, IOp.args, coolOp, Nat.reduceSub, hpg, hpp, hr, ho, ne_eq, not_true_eq_false, map_all]
      cases pb <;> rfl
    · refine ⟨l, ?_, fun p h => by simpa [ho] using h⟩
      rw [R109, b109]
      simp only [↓xP, xQ, xR, flatR, eqCells_ok, eqSh, eqBs, Nat.reduceLT, decide_true, Nat.reduceBEq, Nat.reduceAdd, IOp.dst, IOp.isF, IOp.args, coolOp, Nat.reduceSub, hpg, hr, ho, h43, h42, ne_eq, not_false_eq_true, not_true_eq_false, map_all]
      all_goals simp
theorem okA_kind {a : Answer} (h : okA a = true) : 1 ≤ a.asked.cmd.kind ∧ a.asked.cmd.kind ≤ 4 ∧ keyValid a.asked.cmd.key = true := by
  simp only [okA, entryValid, Bool.and_eq_true, Bool.not_eq_true', decide_eq_false_iff_not] at h
  obtain ⟨⟨_, hc⟩, h5⟩ := h
  simp only [commandValid, Bool.and_eq_true, Bool.or_eq_true, decide_eq_true_eq] at hc
  obtain ⟨h1, h2⟩ := hc
  refine ⟨?_, ?_, ?_⟩
  · rcases h2 with (⟨⟨h2, _⟩, _⟩ | ⟨⟨h2, _⟩, _⟩) | ⟨⟨h2, _⟩, _⟩
    · rcases h2 with (h2 | h2) | h2 <;> omega
    · omega
    · omega
  · rcases h2 with (⟨⟨h2, _⟩, _⟩ | ⟨⟨h2, _⟩, _⟩) | ⟨⟨h2, _⟩, _⟩
    · rcases h2 with (h2 | h2) | h2
      · omega
      · omega
      · exact absurd h2 h5
    · omega
    · omega
  · rcases h1 with h1 | h1
    · exact h1
    · exact absurd h1.1 h5
theorem runA_snoc : ∀ (m : List Answer) (a : Answer) (l : List Pair), runA (m ++ [a]) l = (runA m l).bind fun p => if okA a = true then oneA p a else none
  | [], a, l => by
    simp only [List.nil_append, runA, Option.bind_some]
    split
    · cases oneA l a <;> rfl
    · rfl
  | b :: m, a, l => by
    simp only [List.cons_append, runA]
    split
    · cases oneA l b with
      | none => rfl
      | some p => exact runA_snoc m a p
    · rfl
def fcD (p : List Pair) : Bool → D
  | false => .t (.sc (.own (.loc 4 0) 0))
  | true => DU (.sl 2 (p.map Pair.u))
def fcO (st : St) (p : List Pair) : Bool → Prop
  | false => st.o (.loc 4 0) = some (.row 2 []) ∧ p = []
  | true => True
theorem okA_eq (c s k : Int) (key : Str) (v o r : Int) : okA ⟨⟨c, s, ⟨k, key, v, o⟩⟩, r⟩ = (entryValid ⟨c, s, ⟨k, key, v, o⟩⟩ && !decide (k = 5)) := rfl
theorem runA_cons (a : Answer) (m : List Answer) (p : List Pair) : runA (a :: m) p = if okA a = true then (oneA p a).bind (runA m) else none := rfl
theorem runA_bad {a : Answer} (h : okA a = false) : ∀ (l : List Answer) (p : List Pair), a ∈ l → runA l p = none
  | [], p, hm => by cases hm
  | b :: l, p, hm => by
    rw [runA_cons]
    split
    · rename_i hb
      rcases List.mem_cons.1 hm with rfl | hm
      · rw [h] at hb; cases hb
      · cases oneA p b with
        | none => rfl
        | some q => exact runA_bad h l q hm
    · rfl
theorem runHistory_impl (l : List Answer) (hn : l.length ≤ 1048576) : EE F 42 [L 7 (l.map Answer.u)] [] = histRet (hist l) := by
  rw [R42, b42]
  by_cases h200 : (200 : Int) < (l.length : Int)
  · have : ¬ l.length ≤ 200 := by omega
    simp only [↓xP, xQ, xR, flatR, eqCells_ok, eqSh, eqBs, Nat.reduceLT, decide_true, Nat.reduceBEq, Nat.reduceAdd, IOp.dst, IOp.isF, IOp.args, coolOp, Nat.reduceSub, List.length_map, gt_iff_lt, h200, hist, this, if_false, histRet, List.map_nil]
  have h200' : l.length ≤ 200 := by omega
  simp only [↓xP, xQ, xR, flatR, eqCells_ok, eqSh, eqBs, Nat.reduceLT, decide_true, Nat.reduceBEq, Nat.reduceAdd, IOp.dst, IOp.isF, IOp.args, coolOp, Nat.reduceSub, List.length_map, gt_iff_lt, h200, hist, h200', if_true]
  refine (loop_ind (fun (a : Nat × Bool × List Pair) st => a.1 ≤ l.length ∧ a.2.2.length ≤ 48 ∧ st.s 11 = DU (.sl 7 (l.map Answer.u)) ∧ st.s 12 = DI l.length ∧ st.s 13 = DI a.1 ∧ st.s 4 = fcD a.2.2 a.2.1 ∧ fcO st a.2.2 a.2.1) (fun a => l.length - a.1) (fun a => histRet (runA (l.drop a.1) a.2.2)) ?_ (0, false, []) ⟨by simp, by simp, by simp only [↓xP, xQ, xR, flatR, eqCells_ok, eqSh, eqBs, Nat.reduceLT, decide_true, Nat.reduceBEq, Nat.reduceAdd, IOp.dst, IOp.isF, IOp.args, coolOp, Nat.reduceSub], by simp only [↓xP, xQ, xR, flatR, eqCells_ok, eqSh, eqBs, Nat.reduceLT, decide_true, Nat.reduceBEq, Nat.reduceAdd, IOp.dst, IOp.isF, IOp.args, coolOp, Nat.reduceSub, List.length_map], by simp only [↓xP, xQ, xR, flatR, eqCells_ok, eqSh, eqBs, Nat.reduceLT, decide_true, Nat.reduceBEq, Nat.reduceAdd, IOp.dst, IOp.isF, IOp.args, coolOp, Nat.reduceSub]; rfl, by simp only [↓xP, xQ, xR, flatR, eqCells_ok, eqSh, eqBs, Nat.reduceLT, decide_true, Nat.reduceBEq, Nat.reduceAdd, IOp.dst, IOp.isF, IOp.args, coolOp, Nat.reduceSub, fcD], by simp only [fcO]; exact ⟨by simp only [↓xP, xQ, xR, flatR, eqCells_ok, eqSh, eqBs, Nat.reduceLT, decide_true, Nat.reduceBEq, Nat.reduceAdd, IOp.dst, IOp.isF, IOp.args, coolOp, Nat.reduceSub], trivial⟩⟩).trans (by simp)
  rintro ⟨i, b, p⟩ st ⟨hle, hp48, h11, h12, h13, h4, ho⟩ ih
  dsimp only at *
  by_cases hi : i < l.length
  · obtain ⟨⟨⟨c, s, ⟨k, key, v, o⟩⟩, r⟩, hx⟩ : ∃ a, l[i]? = some a := ⟨_, List.getElem?_eq_getElem hi⟩
    have hw := w_succ (i := i) (by omega)
    have hd : l.drop i = ⟨⟨c, s, ⟨k, key, v, o⟩⟩, r⟩ :: l.drop (i + 1) := by rw [List.drop_eq_getElem_cons hi, (List.getElem?_eq_some_iff.1 hx).2]
    rw [hd, runA_cons]
    have hev := entryValid_impl c s k key v o
    by_cases hok : okA ⟨⟨c, s, ⟨k, key, v, o⟩⟩, r⟩ = true
    case neg =>
      rw [if_neg hok]
      rw [okA_eq] at hok
      cases he : entryValid ⟨c, s, ⟨k, key, v, o⟩⟩
      · rw [he] at hev
        simp only [↓xP, xQ, xR, flatR, eqCells_ok, eqSh, eqBs, Nat.reduceLT, decide_true, Nat.reduceBEq, Nat.reduceAdd, IOp.dst, IOp.isF, IOp.args, coolOp, Nat.reduceSub, h11, h12, h13, hi, hx, Answer.u, hev, histRet, List.map_nil]
      · rw [he] at hev hok
        have h5 : k = 5 := by simpa using hok
        subst h5
        simp only [↓xP, xQ, xR, flatR, eqCells_ok, eqSh, eqBs, Nat.reduceLT, decide_true, Nat.reduceBEq, Nat.reduceAdd, IOp.dst, IOp.isF, IOp.args, coolOp, Nat.reduceSub, h11, h12, h13, hi, hx, Answer.u, hev, histRet, List.map_nil]
    rw [if_pos hok]
    obtain ⟨hk1, hk4, _⟩ := okA_kind hok
    dsimp only at hk1 hk4
    have hok' := hok
    rw [okA_eq, Bool.and_eq_true] at hok'
    have hk5 : ¬ k = 5 := by omega
    rw [hok'.1] at hev
    by_cases hr : r = -2
    · have ho1 : oneA p ⟨⟨c, s, ⟨k, key, v, o⟩⟩, r⟩ = some p := by rw [oneA_eq, if_pos hr]
      rw [ho1, Option.bind_some]
      cases b <;> simp only [fcD, fcO] at h4 ho
      · obtain ⟨ho, rfl⟩ := ho
        simp only [↓xP, xQ, xR, flatR, eqCells_ok, eqSh, eqBs, Nat.reduceLT, decide_true, Nat.reduceBEq, Nat.reduceAdd, IOp.dst, IOp.isF, IOp.args, coolOp, Nat.reduceSub, h11, h12, h13, h4, ho, hi, hx, Answer.u, hev, hk5, hr, hw]
        exact ih (i + 1, false, []) _ (by dsimp only; omega) ⟨by dsimp only; omega, hp48, by simp only [↓xP, xQ, xR, flatR, eqCells_ok, eqSh, eqBs, Nat.reduceLT, decide_true, Nat.reduceBEq, Nat.reduceAdd, IOp.dst, IOp.isF, IOp.args, coolOp, Nat.reduceSub, h11], by simp only [↓xP, xQ, xR, flatR, eqCells_ok, eqSh, eqBs, Nat.reduceLT, decide_true, Nat.reduceBEq, Nat.reduceAdd, IOp.dst, IOp.isF, IOp.args, coolOp, Nat.reduceSub, h12], by simp only [↓xP, xQ, xR, flatR, eqCells_ok, eqSh, eqBs, Nat.reduceLT, decide_true, Nat.reduceBEq, Nat.reduceAdd, IOp.dst, IOp.isF, IOp.args, coolOp, Nat.reduceSub, hw], by simp only [↓xP, xQ, xR, flatR, eqCells_ok, eqSh, eqBs, Nat.reduceLT, decide_true, Nat.reduceBEq, Nat.reduceAdd, IOp.dst, IOp.isF, IOp.args, coolOp, Nat.reduceSub, h4, fcD], by simp only [fcO]; exact ⟨by simp only [↓xP, xQ, xR, flatR, eqCells_ok, eqSh, eqBs, Nat.reduceLT, decide_true, Nat.reduceBEq, Nat.reduceAdd, IOp.dst, IOp.isF, IOp.args, coolOp, Nat.reduceSub, ho], trivial⟩⟩
      · simp only [↓xP, xQ, xR, flatR, eqCells_ok, eqSh, eqBs, Nat.reduceLT, decide_true, Nat.reduceBEq, Nat.reduceAdd, IOp.dst, IOp.isF, IOp.args, coolOp, Nat.reduceSub, h11, h12, h13, h4, hi, hx, Answer.u, hev, hk5, hr, hw]
        exact ih (i + 1, true, p) _ (by dsimp only; omega) ⟨by dsimp only; omega, hp48, by simp only [↓xP, xQ, xR, flatR, eqCells_ok, eqSh, eqBs, Nat.reduceLT, decide_true, Nat.reduceBEq, Nat.reduceAdd, IOp.dst, IOp.isF, IOp.args, coolOp, Nat.reduceSub, h11], by simp only [↓xP, xQ, xR, flatR, eqCells_ok, eqSh, eqBs, Nat.reduceLT, decide_true, Nat.reduceBEq, Nat.reduceAdd, IOp.dst, IOp.isF, IOp.args, coolOp, Nat.reduceSub, h12], by simp only [↓xP, xQ, xR, flatR, eqCells_ok, eqSh, eqBs, Nat.reduceLT, decide_true, Nat.reduceBEq, Nat.reduceAdd, IOp.dst, IOp.isF, IOp.args, coolOp, Nat.reduceSub, hw], by simp only [↓xP, xQ, xR, flatR, eqCells_ok, eqSh, eqBs, Nat.reduceLT, decide_true, Nat.reduceBEq, Nat.reduceAdd, IOp.dst, IOp.isF, IOp.args, coolOp, Nat.reduceSub, h4, fcD], trivial⟩
    · obtain ⟨q, hq, hqp⟩ := mapAfter_ok p c s k key v o r (by omega) ⟨hk1, hk4⟩ hr
      have hl48 := fun p' => oneA_len (l := p) (l' := p') (a := ⟨⟨c, s, ⟨k, key, v, o⟩⟩, r⟩)
      cases ho1 : oneA p ⟨⟨c, s, ⟨k, key, v, o⟩⟩, r⟩ with
      | none =>
        rw [ho1, Option.isSome_none] at hq
        rw [Option.bind_none]
        cases b <;> simp only [fcD, fcO] at h4 ho
        · obtain ⟨ho, rfl⟩ := ho
          rw [List.map_nil] at hq
          cases hE : (List.map Pair.u q).isEmpty <;> simp only [↓xP, xQ, xR, flatR, eqCells_ok, eqSh, eqBs, Nat.reduceLT, decide_true, Nat.reduceBEq, Nat.reduceAdd, IOp.dst, IOp.isF, IOp.args, coolOp, Nat.reduceSub, rdx2, hE, h11, h12, h13, h4, ho, hi, hx, Answer.u, hev, hk5, hr, hq, histRet, List.map_nil, List.take_nil]
        · simp only [↓xP, xQ, xR, flatR, eqCells_ok, eqSh, eqBs, Nat.reduceLT, decide_true, Nat.reduceBEq, Nat.reduceAdd, IOp.dst, IOp.isF, IOp.args, coolOp, Nat.reduceSub, rdx2, h11, h12, h13, h4, hi, hx, Answer.u, hev, hk5, hr, hq, histRet, List.map_nil]
      | some p' =>
        have hqe := hqp p' ho1
        subst hqe
        have hq48 := hl48 q ho1 hp48
        rw [ho1, Option.isSome_some] at hq
        rw [Option.bind_some]
        cases b <;> simp only [fcD, fcO] at h4 ho
        · obtain ⟨ho, rfl⟩ := ho
          rw [List.map_nil] at hq
          cases hE : (List.map Pair.u q).isEmpty
          all_goals
            simp only [↓xP, xQ, xR, flatR, eqCells_ok, eqSh, eqBs, Nat.reduceLT, decide_true, Nat.reduceBEq, Nat.reduceAdd, IOp.dst, IOp.isF, IOp.args, coolOp, Nat.reduceSub, rdx2, hE, h11, h12, h13, h4, ho, hi, hx, Answer.u, hev, hk5, hr, hq, hw, List.take_nil]
            exact ih (i + 1, true, q) _ (by dsimp only; omega) ⟨by dsimp only; omega, hq48, by simp only [↓xP, xQ, xR, flatR, eqCells_ok, eqSh, eqBs, Nat.reduceLT, decide_true, Nat.reduceBEq, Nat.reduceAdd, IOp.dst, IOp.isF, IOp.args, coolOp, Nat.reduceSub, h11], by simp only [↓xP, xQ, xR, flatR, eqCells_ok, eqSh, eqBs, Nat.reduceLT, decide_true, Nat.reduceBEq, Nat.reduceAdd, IOp.dst, IOp.isF, IOp.args, coolOp, Nat.reduceSub, h12], by simp only [↓xP, xQ, xR, flatR, eqCells_ok, eqSh, eqBs, Nat.reduceLT, decide_true, Nat.reduceBEq, Nat.reduceAdd, IOp.dst, IOp.isF, IOp.args, coolOp, Nat.reduceSub, hw], by simp only [↓xP, xQ, xR, flatR, eqCells_ok, eqSh, eqBs, Nat.reduceLT, decide_true, Nat.reduceBEq, Nat.reduceAdd, IOp.dst, IOp.isF, IOp.args, coolOp, Nat.reduceSub, fcD], trivial⟩
        · simp only [↓xP, xQ, xR, flatR, eqCells_ok, eqSh, eqBs, Nat.reduceLT, decide_true, Nat.reduceBEq, Nat.reduceAdd, IOp.dst, IOp.isF, IOp.args, coolOp, Nat.reduceSub, rdx2, h11, h12, h13, h4, hi, hx, Answer.u, hev, hk5, hr, hq, hw]
          exact ih (i + 1, true, q) _ (by dsimp only; omega) ⟨by dsimp only; omega, hq48, by simp only [↓xP, xQ, xR, flatR, eqCells_ok, eqSh, eqBs, Nat.reduceLT, decide_true, Nat.reduceBEq, Nat.reduceAdd, IOp.dst, IOp.isF, IOp.args, coolOp, Nat.reduceSub, h11], by simp only [↓xP, xQ, xR, flatR, eqCells_ok, eqSh, eqBs, Nat.reduceLT, decide_true, Nat.reduceBEq, Nat.reduceAdd, IOp.dst, IOp.isF, IOp.args, coolOp, Nat.reduceSub, h12], by simp only [↓xP, xQ, xR, flatR, eqCells_ok, eqSh, eqBs, Nat.reduceLT, decide_true, Nat.reduceBEq, Nat.reduceAdd, IOp.dst, IOp.isF, IOp.args, coolOp, Nat.reduceSub, hw], by simp only [↓xP, xQ, xR, flatR, eqCells_ok, eqSh, eqBs, Nat.reduceLT, decide_true, Nat.reduceBEq, Nat.reduceAdd, IOp.dst, IOp.isF, IOp.args, coolOp, Nat.reduceSub, fcD], trivial⟩
  · rw [List.drop_of_length_le (by omega)]
    cases b <;> simp only [fcD, fcO] at h4 ho
    · obtain ⟨ho, rfl⟩ := ho
      simp only [↓xP, xQ, xR, flatR, eqCells_ok, eqSh, eqBs, Nat.reduceLT, decide_true, Nat.reduceBEq, Nat.reduceAdd, IOp.dst, IOp.isF, IOp.args, coolOp, Nat.reduceSub, h11, h12, h13, h4, ho, hi, runA, histRet, List.map_nil, List.take_nil]
    · simp only [↓xP, xQ, xR, flatR, eqCells_ok, eqSh, eqBs, Nat.reduceLT, decide_true, Nat.reduceBEq, Nat.reduceAdd, IOp.dst, IOp.isF, IOp.args, coolOp, Nat.reduceSub, h11, h12, h13, h4, hi, runA, histRet]
def scD (p : List Pair) : Bool → D
  | false => .t (.sc (.own (.loc 9 0) 0))
  | true => DU (.sl 2 (p.map Pair.u))
def scO (st : St) (p : List Pair) : Bool → Prop
  | false => st.o (.loc 9 0) = some (.row 2 []) ∧ p = []
  | true => True
theorem runHistory_spec (l : List Answer) (hn : l.length ≤ 1048576) : EE F 40 [L 7 (l.map Answer.u)] [] = histRet (hist l) := by
  rw [R40, b40]
  simp only [↓xP, xQ, xR, flatR, eqCells_ok, eqSh, eqBs, Nat.reduceLT, decide_true, Nat.reduceBEq, Nat.reduceAdd, IOp.dst, IOp.isF, IOp.args, coolOp, Nat.reduceSub]
  refine (loop_ind (fun (i : Nat) st => i ≤ l.length ∧ i ≤ 200 ∧ (∀ j a, j < i → l[j]? = some a → okA a = true) ∧ st.s 0 = DU (.sl 7 (l.map Answer.u)) ∧ st.s 5 = DI i ∧ st.s 4 = .t (.sc (.own (.loc 9 0) 0)) ∧ st.o (.loc 9 0) = some (.row 2 [])) (fun i => l.length - i) (fun i => histRet (hist l)) ?_ 0 ⟨by omega, by omega, fun j a h => by omega, (by and_intros <;> first | omega | rfl | (simp only [↓xP, xQ, xR, flatR, eqCells_ok, eqSh, eqBs, Nat.reduceLT, decide_true, Nat.reduceBEq, Nat.reduceAdd, IOp.dst, IOp.isF, IOp.args, coolOp, Nat.reduceSub]; done) | (simp only [↓xP, xQ, xR, flatR, eqCells_ok, eqSh, eqBs, Nat.reduceLT, decide_true, Nat.reduceBEq, Nat.reduceAdd, IOp.dst, IOp.isF, IOp.args, coolOp, Nat.reduceSub]; rfl) | (simp only [↓xP, xQ, xR, flatR, eqCells_ok, eqSh, eqBs, Nat.reduceLT, decide_true, Nat.reduceBEq, Nat.reduceAdd, IOp.dst, IOp.isF, IOp.args, coolOp, Nat.reduceSub]; omega))⟩).trans rfl
  rintro i st ⟨hle, hle2, hall, h0, h5, h4, ho⟩ ih
  by_cases hi : i < l.length
  · obtain ⟨⟨⟨c, s, ⟨k, key, v, o⟩⟩, r⟩, hx⟩ : ∃ a, l[i]? = some a := ⟨_, List.getElem?_eq_getElem hi⟩
    have hw := w_succ (i := i) (by omega)
    have hev := entryValid_spec c s k key v o
    by_cases h200 : (200 : Int) ≤ (i : Int)
    · have hh : hist l = none := by unfold hist; rw [if_neg (by omega)]
      rw [hh]
      simp only [↓xP, xQ, xR, flatR, eqCells_ok, eqSh, eqBs, Nat.reduceLT, decide_true, Nat.reduceBEq, Nat.reduceAdd, IOp.dst, IOp.isF, IOp.args, coolOp, Nat.reduceSub, h0, h5, h4, ho, List.length_map, hi, ge_iff_le, h200, histRet, List.map_nil]
    have hbad : okA ⟨⟨c, s, ⟨k, key, v, o⟩⟩, r⟩ = false → hist l = none := fun h => by
      unfold hist
      split
      · exact runA_bad h l [] (List.mem_of_getElem? hx)
      · rfl
    rw [okA_eq] at hbad
    cases he : entryValid ⟨c, s, ⟨k, key, v, o⟩⟩
    · rw [hbad (by rw [he]; rfl)]
      rw [he] at hev
      simp only [↓xP, xQ, xR, flatR, eqCells_ok, eqSh, eqBs, Nat.reduceLT, decide_true, Nat.reduceBEq, Nat.reduceAdd, IOp.dst, IOp.isF, IOp.args, coolOp, Nat.reduceSub, h0, h5, h4, ho, List.length_map, hi, ge_iff_le, h200, hx, Answer.u, hev, histRet, List.map_nil]
    rw [he] at hev
    by_cases hk5 : k = 5
    · rw [hbad (by rw [he, hk5]; rfl)]
      subst hk5
      simp only [↓xP, xQ, xR, flatR, eqCells_ok, eqSh, eqBs, Nat.reduceLT, decide_true, Nat.reduceBEq, Nat.reduceAdd, IOp.dst, IOp.isF, IOp.args, coolOp, Nat.reduceSub, h0, h5, h4, ho, List.length_map, hi, ge_iff_le, h200, hx, Answer.u, hev, histRet, List.map_nil]
    simp only [↓xP, xQ, xR, flatR, eqCells_ok, eqSh, eqBs, Nat.reduceLT, decide_true, Nat.reduceBEq, Nat.reduceAdd, IOp.dst, IOp.isF, IOp.args, coolOp, Nat.reduceSub, h0, h5, h4, ho, List.length_map, hi, ge_iff_le, h200, hx, Answer.u, hev, hk5, hw]
    exact ih (i + 1) _ (by omega) ⟨by omega, by omega, fun j a hj ha => by
      by_cases e : j = i
      · subst e; rw [hx] at ha; cases ha; rw [okA_eq, he]; simp [hk5]
      · exact hall j a (by omega) ha, (by and_intros <;> first | omega | rfl | (simp only [↓xP, xQ, xR, flatR, eqCells_ok, eqSh, eqBs, Nat.reduceLT, decide_true, Nat.reduceBEq, Nat.reduceAdd, IOp.dst, IOp.isF, IOp.args, coolOp, Nat.reduceSub, h0, h5, h4, ho, hw]; done) | (simp only [↓xP, xQ, xR, flatR, eqCells_ok, eqSh, eqBs, Nat.reduceLT, decide_true, Nat.reduceBEq, Nat.reduceAdd, IOp.dst, IOp.isF, IOp.args, coolOp, Nat.reduceSub, h0, h5, h4, ho, hw]; rfl) | (simp only [↓xP, xQ, xR, flatR, eqCells_ok, eqSh, eqBs, Nat.reduceLT, decide_true, Nat.reduceBEq, Nat.reduceAdd, IOp.dst, IOp.isF, IOp.args, coolOp, Nat.reduceSub, h0, h5, h4, ho, hw]; omega))⟩
  have hl : hist l = runA l [] := by unfold hist; rw [if_pos (by omega)]
  have hall' : ∀ (j : Nat) a, l[j]? = some a → okA a = true := fun j a ha => hall j a (by have := (List.getElem?_eq_some_iff.1 ha).1; omega) ha
  rw [hl]
  simp only [↓xP, xQ, xR, flatR, eqCells_ok, eqSh, eqBs, Nat.reduceLT, decide_true, Nat.reduceBEq, Nat.reduceAdd, IOp.dst, IOp.isF, IOp.args, coolOp, Nat.reduceSub, h0, h5, h4, ho, List.length_map, hi]
  clear ih
  refine (loop_ind (fun (a : Nat × Bool × List Pair) st => a.1 ≤ l.length ∧ a.2.2.length ≤ 48 ∧ st.s 0 = DU (.sl 7 (l.map Answer.u)) ∧ st.s 6 = DI a.1 ∧ st.s 4 = scD a.2.2 a.2.1 ∧ scO st a.2.2 a.2.1) (fun a => l.length - a.1) (fun a => histRet (runA (l.drop a.1) a.2.2)) ?_ (0, false, []) ⟨by simp, by simp, by simp only [↓xP, xQ, xR, flatR, eqCells_ok, eqSh, eqBs, Nat.reduceLT, decide_true, Nat.reduceBEq, Nat.reduceAdd, IOp.dst, IOp.isF, IOp.args, coolOp, Nat.reduceSub, h0], by simp only [↓xP, xQ, xR, flatR, eqCells_ok, eqSh, eqBs, Nat.reduceLT, decide_true, Nat.reduceBEq, Nat.reduceAdd, IOp.dst, IOp.isF, IOp.args, coolOp, Nat.reduceSub]; rfl, by simp only [↓xP, xQ, xR, flatR, eqCells_ok, eqSh, eqBs, Nat.reduceLT, decide_true, Nat.reduceBEq, Nat.reduceAdd, IOp.dst, IOp.isF, IOp.args, coolOp, Nat.reduceSub, scD, h4], by simp only [scO]; exact ⟨by simp only [↓xP, xQ, xR, flatR, eqCells_ok, eqSh, eqBs, Nat.reduceLT, decide_true, Nat.reduceBEq, Nat.reduceAdd, IOp.dst, IOp.isF, IOp.args, coolOp, Nat.reduceSub, ho], trivial⟩⟩).trans (by simp)
  clear h0 h5 h4 ho hi hle hle2 hall
  rintro ⟨i, b, p⟩ st ⟨hle, hp48, h0, h6, h4, ho⟩ ih
  dsimp only at *
  by_cases hi : i < l.length
  · obtain ⟨⟨⟨c, s, ⟨k, key, v, o⟩⟩, r⟩, hx⟩ : ∃ a, l[i]? = some a := ⟨_, List.getElem?_eq_getElem hi⟩
    have hw := w_succ (i := i) (by omega)
    have hd : l.drop i = ⟨⟨c, s, ⟨k, key, v, o⟩⟩, r⟩ :: l.drop (i + 1) := by rw [List.drop_eq_getElem_cons hi, (List.getElem?_eq_some_iff.1 hx).2]
    have hok := hall' i _ hx
    rw [hd, runA_cons, if_pos hok]
    obtain ⟨hk1, hk4, _⟩ := okA_kind hok
    dsimp only at hk1 hk4
    obtain ⟨q, hq, hqp⟩ := l29one_ok p c s k key v o r (by omega) ⟨hk1, hk4⟩
    have hl48 := fun p' => oneA_len (l := p) (l' := p') (a := ⟨⟨c, s, ⟨k, key, v, o⟩⟩, r⟩)
    cases ho1 : oneA p ⟨⟨c, s, ⟨k, key, v, o⟩⟩, r⟩ with
    | none =>
      rw [ho1, Option.isSome_none] at hq
      rw [Option.bind_none]
      cases b <;> simp only [scD, scO] at h4 ho
      · obtain ⟨ho, rfl⟩ := ho
        rw [List.map_nil] at hq
        cases hE : (List.map Pair.u q).isEmpty <;> simp only [↓xP, xQ, xR, flatR, eqCells_ok, eqSh, eqBs, Nat.reduceLT, decide_true, Nat.reduceBEq, Nat.reduceAdd, IOp.dst, IOp.isF, IOp.args, coolOp, Nat.reduceSub, rdx2, hE, h0, h6, h4, ho, List.length_map, hi, hx, Answer.u, hq, histRet, List.map_nil, List.take_nil]
      · simp only [↓xP, xQ, xR, flatR, eqCells_ok, eqSh, eqBs, Nat.reduceLT, decide_true, Nat.reduceBEq, Nat.reduceAdd, IOp.dst, IOp.isF, IOp.args, coolOp, Nat.reduceSub, rdx2, h0, h6, h4, List.length_map, hi, hx, Answer.u, hq, histRet, List.map_nil]
    | some p' =>
      have hqe := hqp p' ho1
      subst hqe
      have hq48 := hl48 q ho1 hp48
      rw [ho1, Option.isSome_some] at hq
      rw [Option.bind_some]
      cases b <;> simp only [scD, scO] at h4 ho
      · obtain ⟨ho, rfl⟩ := ho
        rw [List.map_nil] at hq
        cases hE : (List.map Pair.u q).isEmpty
        all_goals
          simp only [↓xP, xQ, xR, flatR, eqCells_ok, eqSh, eqBs, Nat.reduceLT, decide_true, Nat.reduceBEq, Nat.reduceAdd, IOp.dst, IOp.isF, IOp.args, coolOp, Nat.reduceSub, rdx2, hE, h0, h6, h4, ho, List.length_map, hi, hx, Answer.u, hq, hw, List.take_nil]
          exact ih (i + 1, true, q) _ (by dsimp only; omega) ⟨by dsimp only; omega, hq48, by simp only [↓xP, xQ, xR, flatR, eqCells_ok, eqSh, eqBs, Nat.reduceLT, decide_true, Nat.reduceBEq, Nat.reduceAdd, IOp.dst, IOp.isF, IOp.args, coolOp, Nat.reduceSub, h0], by simp only [↓xP, xQ, xR, flatR, eqCells_ok, eqSh, eqBs, Nat.reduceLT, decide_true, Nat.reduceBEq, Nat.reduceAdd, IOp.dst, IOp.isF, IOp.args, coolOp, Nat.reduceSub, hw], by simp only [↓xP, xQ, xR, flatR, eqCells_ok, eqSh, eqBs, Nat.reduceLT, decide_true, Nat.reduceBEq, Nat.reduceAdd, IOp.dst, IOp.isF, IOp.args, coolOp, Nat.reduceSub, scD], trivial⟩
      · simp only [↓xP, xQ, xR, flatR, eqCells_ok, eqSh, eqBs, Nat.reduceLT, decide_true, Nat.reduceBEq, Nat.reduceAdd, IOp.dst, IOp.isF, IOp.args, coolOp, Nat.reduceSub, rdx2, h0, h6, h4, List.length_map, hi, hx, Answer.u, hq, hw]
        exact ih (i + 1, true, q) _ (by dsimp only; omega) ⟨by dsimp only; omega, hq48, by simp only [↓xP, xQ, xR, flatR, eqCells_ok, eqSh, eqBs, Nat.reduceLT, decide_true, Nat.reduceBEq, Nat.reduceAdd, IOp.dst, IOp.isF, IOp.args, coolOp, Nat.reduceSub, h0], by simp only [↓xP, xQ, xR, flatR, eqCells_ok, eqSh, eqBs, Nat.reduceLT, decide_true, Nat.reduceBEq, Nat.reduceAdd, IOp.dst, IOp.isF, IOp.args, coolOp, Nat.reduceSub, hw], by simp only [↓xP, xQ, xR, flatR, eqCells_ok, eqSh, eqBs, Nat.reduceLT, decide_true, Nat.reduceBEq, Nat.reduceAdd, IOp.dst, IOp.isF, IOp.args, coolOp, Nat.reduceSub, scD], trivial⟩
  · rw [List.drop_of_length_le (by omega)]
    cases b <;> simp only [scD, scO] at h4 ho
    · obtain ⟨ho, rfl⟩ := ho
      simp only [↓xP, xQ, xR, flatR, eqCells_ok, eqSh, eqBs, Nat.reduceLT, decide_true, Nat.reduceBEq, Nat.reduceAdd, IOp.dst, IOp.isF, IOp.args, coolOp, Nat.reduceSub, h0, h6, h4, ho, List.length_map, hi, runA, histRet, List.map_nil, List.take_nil]
    · simp only [↓xP, xQ, xR, flatR, eqCells_ok, eqSh, eqBs, Nat.reduceLT, decide_true, Nat.reduceBEq, Nat.reduceAdd, IOp.dst, IOp.isF, IOp.args, coolOp, Nat.reduceSub, h0, h6, h4, List.length_map, hi, runA, histRet]
/-- What a drawn command is, and a drawn entry. -/
def IsCmd (t : T) : Prop := ∃ (k : Int) (key : Str) (v o : Int), t = .ag [.u (.int .i64 k), .u (.str key), .u (.int .i64 v), .u (.int .i64 o)]
def IsEntry (t : T) : Prop := ∃ (c s k : Int) (key : Str) (v o : Int), t = .ag [.u (.int .i64 c), .u (.int .i64 s), .u (.int .i64 k), .u (.str key), .u (.int .i64 v), .u (.int .i64 o)]
/-- Literals of slices in drawn regions. -/
def fxl1 (d n k : Nat) (ok : Bool) (ids : List Id) (r : Option (List (List U))) : Option Fx := if ok = true ∧ ids = [] then r.map fun r => ⟨some d, .t (.sc (.own (.loc d 0) n)), [(.loc d 0, .row k r)], []⟩ else none
theorem fxLit : (∀ (E : CallE) (st : St) d n zero ps, fx E st (.lit d n zero ps) = fxl1 d n zero.length (st.dead d 1) (st.partIds ps) (st.fillRows zero.length (List.replicate n zero) ps)) ∧
  (∀ d n k r, fxl1 d n k true [] (some r) = some ⟨some d, .t (.sc (.own (.loc d 0) n)), [(.loc d 0, .row k r)], []⟩) := by
  refine ⟨fun E st d n zero ps => ?_, fun d n k r => rfl⟩
  simp only [fx, fxl1]
set_option maxHeartbeats 4000000 in
theorem l20Cmd_ok {bs : List Int} (hb : Bytes bs) (p : Nat) (n : Int) (hn : n ≤ 1048576) (hp : p ≤ 10000000) : Gd bs p 20 (fun r m => m = [] ∧ ∃ t, r = [t] ∧ IsCmd t) (EE F 116 [RP0, I n] [rd bs p]) := by
  refine Gd.run (fn := i116) (by kernel_rfl) rfl ?_
  simp only [i116, b116, argSt, insSt]
  have one : ∀ (k : Int) (key : Str) (v o : Int) (q : Nat), p ≤ q → q ≤ p + 20 → Gd bs p 20 (fun r m => m = [] ∧ ∃ t, r = [t] ∧ IsCmd t) (some ⟨[.ag [.u (.int .i64 k), .u (.str key), .u (.int .i64 v), .u (.int .i64 o)]], [], [rd bs q]⟩) := fun k key v o q h1 h2 => ⟨_, _, q, rfl, h1, h2, rfl, _, rfl, k, key, v, o, rfl⟩
  obtain ⟨b, q, ho, hq1, hq2, _⟩ := odd_ok hb p n (by omega) hn
  cases b with
  | true =>
    obtain ⟨v, hv, hvl⟩ := pk hb q 10 (by omega) (by omega)
    rcases (show v = 0 ∨ v = 1 ∨ v = 2 ∨ v = 3 ∨ v = 4 ∨ v = 5 ∨ v = 6 ∨ v = 7 ∨ v = 8 ∨ v = 9 by omega) with rfl | rfl | rfl | rfl | rfl | rfl | rfl | rfl | rfl | rfl <;> simp only [↓xP, xQ, xR, flatR, eqCells_ok, eqSh, eqBs, Nat.reduceLT, decide_true, Nat.reduceBEq, Nat.reduceAdd, IOp.dst, IOp.isF, IOp.args, coolOp, Nat.reduceSub, rdx, ho, hv] <;> exact one _ _ _ _ (q + 1) (by omega) (by omega)
  | false =>
    obtain ⟨r1, n1, q1, h1, hq1, hq1', rfl, key0, rfl, _⟩ := l20Key_ok hb q 0 (by omega) (by omega)
    obtain ⟨v2, hv2, _⟩ := pk hb q1 2 (by omega) (by omega)
    obtain ⟨v4, hv4, hvl4⟩ := pk hb (q1 + 1) 4 (by omega) (by omega)
    have h1000 : ¬ (1000 : Int) = 0 := by omega
    have n10 : ¬ (1 : Int) = 0 := by omega
    have n20 : ¬ (2 : Int) = 0 := by omega
    have n21 : ¬ (2 : Int) = 1 := by omega
    obtain ⟨Q, hc⟩ : ∃ Q, ((v2 : Int) = 0 ∧ Q = q1 + 1 + 1) ∨ (¬ (v2 : Int) = 0 ∧ Q = q1 + 1) := by
      by_cases e : (v2 : Int) = 0
      · exact ⟨_, .inl ⟨e, rfl⟩⟩
      · exact ⟨_, .inr ⟨e, rfl⟩⟩
    have hQ : q1 + 1 ≤ Q ∧ Q ≤ q1 + 2 := by omega
    obtain ⟨v8, hv8, _⟩ := pk hb Q 8 (by omega) (by omega)
    obtain ⟨a1, ha1, _⟩ := pk hb (Q + 1) 5 (by omega) (by omega)
    obtain ⟨a2, ha2, _⟩ := pk hb (Q + 1 + 1) 5 (by omega) (by omega)
    obtain ⟨r3, n3, q3, h3, hq3, hq3', rfl, vv, rfl, _, _⟩ := l20Value_ok hb (Q + 1) 0 (by omega) (by omega)
    rcases hc with ⟨e2, rfl⟩ | ⟨e2, rfl⟩
    · rcases (show v4 = 0 ∨ v4 = 1 ∨ v4 = 2 ∨ v4 = 3 by omega) with rfl | rfl | rfl | rfl
      all_goals
        by_cases e0 : (v8 : Int) = 0
        · simp only [↓xP, xQ, xR, flatR, eqCells_ok, eqSh, eqBs, Nat.reduceLT, decide_true, Nat.reduceBEq, Nat.reduceAdd, IOp.dst, IOp.isF, IOp.args, coolOp, Nat.reduceSub, rdx, ho, h1, hv2, e2, hv4, hv8, e0]
          exact one _ _ _ _ _ (by omega) (by omega)
        by_cases e1 : (v8 : Int) = 1
        · simp only [↓xP, xQ, xR, flatR, eqCells_ok, eqSh, eqBs, Nat.reduceLT, decide_true, Nat.reduceBEq, Nat.reduceAdd, IOp.dst, IOp.isF, IOp.args, coolOp, Nat.reduceSub, rdx, ho, h1, hv2, e2, hv4, hv8, e1, n10]
          exact one _ _ _ _ _ (by omega) (by omega)
        by_cases e2' : (v8 : Int) = 2
        · simp only [↓xP, xQ, xR, flatR, eqCells_ok, eqSh, eqBs, Nat.reduceLT, decide_true, Nat.reduceBEq, Nat.reduceAdd, IOp.dst, IOp.isF, IOp.args, coolOp, Nat.reduceSub, rdx, ho, h1, hv2, e2, hv4, hv8, e2', n20, n21, ha1, ha2]
          exact one _ _ _ _ _ (by omega) (by omega)
        · simp only [↓xP, xQ, xR, flatR, eqCells_ok, eqSh, eqBs, Nat.reduceLT, decide_true, Nat.reduceBEq, Nat.reduceAdd, IOp.dst, IOp.isF, IOp.args, coolOp, Nat.reduceSub, rdx, ho, h1, hv2, e2, hv4, hv8, e0, e1, e2', h3, h1000]
          exact one _ _ _ _ _ (by omega) (by omega)
    · by_cases e0 : (v8 : Int) = 0
      · simp only [↓xP, xQ, xR, flatR, eqCells_ok, eqSh, eqBs, Nat.reduceLT, decide_true, Nat.reduceBEq, Nat.reduceAdd, IOp.dst, IOp.isF, IOp.args, coolOp, Nat.reduceSub, rdx, ho, h1, hv2, e2, hv8, e0]
        exact one _ _ _ _ _ (by omega) (by omega)
      by_cases e1 : (v8 : Int) = 1
      · simp only [↓xP, xQ, xR, flatR, eqCells_ok, eqSh, eqBs, Nat.reduceLT, decide_true, Nat.reduceBEq, Nat.reduceAdd, IOp.dst, IOp.isF, IOp.args, coolOp, Nat.reduceSub, rdx, ho, h1, hv2, e2, hv8, e1, n10]
        exact one _ _ _ _ _ (by omega) (by omega)
      by_cases e2' : (v8 : Int) = 2
      · simp only [↓xP, xQ, xR, flatR, eqCells_ok, eqSh, eqBs, Nat.reduceLT, decide_true, Nat.reduceBEq, Nat.reduceAdd, IOp.dst, IOp.isF, IOp.args, coolOp, Nat.reduceSub, rdx, ho, h1, hv2, e2, hv8, e2', n20, n21, ha1, ha2]
        exact one _ _ _ _ _ (by omega) (by omega)
      · simp only [↓xP, xQ, xR, flatR, eqCells_ok, eqSh, eqBs, Nat.reduceLT, decide_true, Nat.reduceBEq, Nat.reduceAdd, IOp.dst, IOp.isF, IOp.args, coolOp, Nat.reduceSub, rdx, ho, h1, hv2, e2, hv8, e0, e1, e2', h3, h1000]
        exact one _ _ _ _ _ (by omega) (by omega)
theorem l20Any_ok {bs : List Int} (hb : Bytes bs) (p : Nat) (n : Int) (hn : n ≤ 1048576) (hp : p ≤ 1000000) : Gd bs p 40 (fun r m => m = [] ∧ ∃ t, r = [t] ∧ IsCmd t) (EE F 183 [RP0, I n] [rd bs p]) := by
  refine Gd.run (fn := i183) (by kernel_rfl) rfl ?_
  simp only [i183, b183, argSt, insSt]
  have one : ∀ (k : Int) (key : Str) (v o : Int) (q : Nat), p ≤ q → q ≤ p + 40 → Gd bs p 40 (fun r m => m = [] ∧ ∃ t, r = [t] ∧ IsCmd t) (some ⟨[.ag [.u (.int .i64 k), .u (.str key), .u (.int .i64 v), .u (.int .i64 o)]], [], [rd bs q]⟩) := fun k key v o q h1 h2 => ⟨_, _, q, rfl, h1, h2, rfl, _, rfl, k, key, v, o, rfl⟩
  obtain ⟨r1, n1, q1, h1, hq1, hq1', rfl, _, rfl, k, key, v, o, rfl⟩ := l20Cmd_ok hb p n hn (by omega)
  obtain ⟨v5, hv5, _⟩ := pk hb q1 5 (by omega) (by omega)
  by_cases e5 : (v5 : Int) = 0
  · obtain ⟨r2, n2, q2, h2, hq2, hq2', rfl, key2, rfl, _⟩ := l20Key_ok hb (q1 + 1) 0 (by omega) (by omega)
    obtain ⟨w, hw, hwl⟩ := pk hb q2 4 (by omega) (by omega)
    rcases (show w = 0 ∨ w = 1 ∨ w = 2 ∨ w = 3 by omega) with rfl | rfl | rfl | rfl <;> simp only [↓xP, xQ, xR, flatR, eqCells_ok, eqSh, eqBs, Nat.reduceLT, decide_true, Nat.reduceBEq, Nat.reduceAdd, IOp.dst, IOp.isF, IOp.args, coolOp, Nat.reduceSub, rdx, h1, hv5, e5, h2, hw] <;> exact one _ _ _ _ _ (by omega) (by omega)
  · simp only [↓xP, xQ, xR, flatR, eqCells_ok, eqSh, eqBs, Nat.reduceLT, decide_true, Nat.reduceBEq, Nat.reduceAdd, IOp.dst, IOp.isF, IOp.args, coolOp, Nat.reduceSub, rdx, h1, hv5, e5]
    exact one _ _ _ _ _ (by omega) (by omega)
theorem l20Entry_ok {bs : List Int} (hb : Bytes bs) (p : Nat) (n : Int) (hn : n ≤ 1048576) (hp : p ≤ 100000) : Gd bs p 60 (fun r m => m = [] ∧ ∃ t, r = [t] ∧ IsEntry t) (EE F 118 [RP0, I n] [rd bs p]) := by
  refine Gd.run (fn := i118) (by kernel_rfl) rfl ?_
  simp only [i118, b118, argSt, insSt]
  have one : ∀ (c s k : Int) (key : Str) (v o : Int) (q : Nat), p ≤ q → q ≤ p + 60 → Gd bs p 60 (fun r m => m = [] ∧ ∃ t, r = [t] ∧ IsEntry t) (some ⟨[.ag [.u (.int .i64 c), .u (.int .i64 s), .u (.int .i64 k), .u (.str key), .u (.int .i64 v), .u (.int .i64 o)]], [], [rd bs q]⟩) := fun c s k key v o q h1 h2 => ⟨_, _, q, rfl, h1, h2, rfl, _, rfl, c, s, k, key, v, o, rfl⟩
  obtain ⟨v4, hv4, _⟩ := pk hb p 4 (by omega) (by omega)
  obtain ⟨v6, hv6, _⟩ := pk hb (p + 1) 6 (by omega) (by omega)
  obtain ⟨r1, n1, q1, h1, hq1, hq1', rfl, _, rfl, k, key, v, o, rfl⟩ := l20Any_ok hb (p + 1 + 1) 0 (by omega) (by omega)
  obtain ⟨b, q, ho, hq2, hq2', _⟩ := odd_ok hb q1 n (by omega) hn
  cases b with
  | true =>
    obtain ⟨w, hw, hwl⟩ := pk hb q 6 (by omega) (by omega)
    rcases (show w = 0 ∨ w = 1 ∨ w = 2 ∨ w = 3 ∨ w = 4 ∨ w = 5 by omega) with rfl | rfl | rfl | rfl | rfl | rfl <;> simp only [↓xP, xQ, xR, flatR, eqCells_ok, eqSh, eqBs, Nat.reduceLT, decide_true, Nat.reduceBEq, Nat.reduceAdd, IOp.dst, IOp.isF, IOp.args, coolOp, Nat.reduceSub, rdx, fxLit, hv4, hv6, h1, ho, hw] <;> exact one _ _ _ _ _ _ (q + 1) (by omega) (by omega)
  | false =>
    simp only [↓xP, xQ, xR, flatR, eqCells_ok, eqSh, eqBs, Nat.reduceLT, decide_true, Nat.reduceBEq, Nat.reduceAdd, IOp.dst, IOp.isF, IOp.args, coolOp, Nat.reduceSub, rdx, hv4, hv6, h1, ho]
    exact one _ _ _ _ _ _ _ (by omega) (by omega)
theorem l20Reply_ok {bs : List Int} (hb : Bytes bs) (p : Nat) (n : Int) (hn : n ≤ 1048576) (hp : p ≤ 1000000) : Gd bs p 4 (fun r m => m = [] ∧ ∃ v : Int, r = [I v]) (EE F 119 [RP0, I n] [rd bs p]) := by
  refine Gd.run (fn := i119) (by kernel_rfl) rfl ?_
  simp only [i119, b119, argSt, insSt]
  have one : ∀ (v : Int) (q : Nat), p ≤ q → q ≤ p + 4 → Gd bs p 4 (fun r m => m = [] ∧ ∃ v : Int, r = [I v]) (some ⟨[I v], [], [rd bs q]⟩) := fun v q h1 h2 => ⟨_, _, q, rfl, h1, h2, rfl, v, rfl⟩
  obtain ⟨b, q, ho, hq1, hq2, _⟩ := odd_ok hb p n (by omega) hn
  cases b with
  | true =>
    obtain ⟨v, hv, hvl⟩ := pk hb q 2 (by omega) (by omega)
    rcases (show v = 0 ∨ v = 1 by omega) with rfl | rfl <;> simp only [↓xP, xQ, xR, flatR, eqCells_ok, eqSh, eqBs, Nat.reduceLT, decide_true, Nat.reduceBEq, Nat.reduceAdd, IOp.dst, IOp.isF, IOp.args, coolOp, Nat.reduceSub, rdx, ho, hv] <;> exact one _ _ (by omega) (by omega)
  | false =>
    obtain ⟨v, hv, hvl⟩ := pk hb q 256 (by omega) (by omega)
    obtain ⟨w, hw, hwl⟩ := pk hb (q + 1) 7 (by omega) (by omega)
    rcases (show w = 0 ∨ w = 1 ∨ w = 2 ∨ w = 3 ∨ w = 4 ∨ w = 5 ∨ w = 6 by omega) with rfl | rfl | rfl | rfl | rfl | rfl | rfl <;> simp only [↓xP, xQ, xR, flatR, eqCells_ok, eqSh, eqBs, Nat.reduceLT, decide_true, Nat.reduceBEq, Nat.reduceAdd, IOp.dst, IOp.isF, IOp.args, coolOp, Nat.reduceSub, rdx, ho, hv, hw] <;> exact one _ _ (by omega) (by omega)
set_option maxHeartbeats 4000000 in
theorem drawRunHistory_ok (code : List Int) (hc : Code code) : Ok (fun r => ∃ l : List Answer, r = ⟨[L 7 (l.map Answer.u)], [], []⟩ ∧ l.length ≤ 300) (EE F 48 [L 1 (code.map yU)] []) := by
  refine Ok.run (fn := i48) (by kernel_rfl) rfl ?_
  simp only [i48, b48, argSt, insSt]
  obtain ⟨bs, ho, hb⟩ := open_ok code hc
  obtain ⟨k0, hk0, hkl⟩ := pk hb 0 12 (by omega) (by omega)
  have app7 : ∀ (l : List Answer) c s k key v o r, l.map Answer.u ++ [[.int .i64 c, .int .i64 s, .int .i64 k, .str key, .int .i64 v, .int .i64 o, .int .i64 r]] = (l ++ [(⟨⟨c, s, ⟨k, key, v, o⟩⟩, r⟩ : Answer)]).map Answer.u := fun l c s k key v o r => by simp [Answer.u]
  have htk : ∀ (l : List Answer) x, List.take (l.length + 1) (List.map Answer.u (l ++ [x])) = List.map Answer.u (l ++ [x]) := fun l x => List.take_of_length_le (by simp)
  have q64 : ∀ l : List Answer, l.length ≤ 300 → l.length + 1 ≤ maxLen ∧ (l.length + 1) * 64 ≤ 140737488355328 := fun l h => small_max (by omega) (by omega)
  simp only [↓xP, xQ, xR, flatR, eqCells_ok, eqSh, eqBs, Nat.reduceLT, decide_true, Nat.reduceBEq, Nat.reduceAdd, IOp.dst, IOp.isF, IOp.args, coolOp, Nat.reduceSub, rdx, rdx2, ho, hk0]
  refine loop_pred (fun (a : Nat × Nat × Bool × List Pair × List Answer) st => a.2.1 + 21 * a.1 ≤ 300 ∧ a.2.2.2.1.length ≤ 49 ∧ a.2.2.2.2.length + a.1 ≤ 11 ∧ st.s 3 = .t (.sc (.ptr (.loc 12 0) 0 0)) ∧ st.o (.loc 12 0) = some (rd bs a.2.1) ∧ st.s 4 = .t (.sc (.own (.loc 13 0) a.2.2.2.2.length)) ∧ st.o (.loc 13 0) = some (.row 7 (a.2.2.2.2.map Answer.u)) ∧
    st.s 5 = .t (.sc (.own (wid (.loc 14 0) (.loc 32 0) a.2.2.1) a.2.2.2.1.length)) ∧ st.o (wid (.loc 14 0) (.loc 32 0) a.2.2.1) = some (.row 2 (a.2.2.2.1.map Pair.u)) ∧ st.s 6 = DI a.1) (fun a => a.1) ?_ (k0, 1, false, [], []) ⟨by dsimp only; omega, by simp, by simp; omega, (by and_intros <;> first | omega | rfl | (simp only [↓xP, xQ, xR, flatR, eqCells_ok, eqSh, eqBs, Nat.reduceLT, decide_true, Nat.reduceBEq, Nat.reduceAdd, IOp.dst, IOp.isF, IOp.args, coolOp, Nat.reduceSub, rdx, rdx2, wid]; done) | (simp only [↓xP, xQ, xR, flatR, eqCells_ok, eqSh, eqBs, Nat.reduceLT, decide_true, Nat.reduceBEq, Nat.reduceAdd, IOp.dst, IOp.isF, IOp.args, coolOp, Nat.reduceSub, rdx, rdx2, wid]; rfl) | (simp only [↓xP, xQ, xR, flatR, eqCells_ok, eqSh, eqBs, Nat.reduceLT, decide_true, Nat.reduceBEq, Nat.reduceAdd, IOp.dst, IOp.isF, IOp.args, coolOp, Nat.reduceSub, rdx, rdx2, wid]; omega))⟩
  rintro ⟨k, q, b, p, m⟩ st ⟨hq, hp49, hm, h3, hr, h4, ho4, h5, ho5, h6⟩ ih
  dsimp only at *
  cases k with
  | succ k =>
    have hk : (0 : Int) < ((k + 1 : Nat) : Int) := by omega
    have hwk := w_pred (i := k) (by omega)
    obtain ⟨v3, hv3, _⟩ := pk hb q 3 (by omega) (by omega)
    obtain ⟨r1, n1, q1, h1, hq1, hq1', rfl, _, rfl, ck, key, v, o, rfl⟩ := l20Cmd_ok hb (q + 1) 0 (by omega) (by omega)
    have hac := applyCommand_spec p ck key v o (by omega)
    have hal := applyC_len ⟨ck, key, v, o⟩ hp49
    generalize applyC p ⟨ck, key, v, o⟩ = ac at hac hal
    obtain ⟨p1, old⟩ := ac
    simp only [applyRet] at hac
    dsimp only at hal
    have q5 := q64 m (by omega)
    cases b
    · simp only [wid] at *
      simp only [↓xP, xQ, xR, flatR, eqCells_ok, eqSh, eqBs, Nat.reduceLT, decide_true, Nat.reduceBEq, Nat.reduceAdd, IOp.dst, IOp.isF, IOp.args, coolOp, Nat.reduceSub, rdx, rdx2, h3, hr, h4, ho4, h5, ho5, h6, gt_iff_lt, hk, hv3, h1, hac, hwk, map_all, List.length_map, q5.1, q5.2, app7]
      exact ih (k, q1, true, p1, m ++ [⟨⟨IntKind.i64.wrap (1 + (v3 : Int)), ((k + 1 : Nat) : Int), ⟨ck, key, v, o⟩⟩, old⟩]) _ (by dsimp only; omega) ⟨by dsimp only; omega, by dsimp only; omega, by simp; omega, (by and_intros <;> first | omega | rfl | (simp only [↓xP, xQ, xR, flatR, eqCells_ok, eqSh, eqBs, Nat.reduceLT, decide_true, Nat.reduceBEq, Nat.reduceAdd, IOp.dst, IOp.isF, IOp.args, coolOp, Nat.reduceSub, rdx, wid, h3, hr, h4, ho4, h5, ho5, h6, hwk, List.length_append, List.length_cons, List.length_nil, Nat.zero_add, app7]; done) | (simp only [↓xP, xQ, xR, flatR, eqCells_ok, eqSh, eqBs, Nat.reduceLT, decide_true, Nat.reduceBEq, Nat.reduceAdd, IOp.dst, IOp.isF, IOp.args, coolOp, Nat.reduceSub, rdx, wid, h3, hr, h4, ho4, h5, ho5, h6, hwk, List.length_append, List.length_cons, List.length_nil, Nat.zero_add, app7]; rfl) | (simp only [↓xP, xQ, xR, flatR, eqCells_ok, eqSh, eqBs, Nat.reduceLT, decide_true, Nat.reduceBEq, Nat.reduceAdd, IOp.dst, IOp.isF, IOp.args, coolOp, Nat.reduceSub, rdx, wid, h3, hr, h4, ho4, h5, ho5, h6, hwk, List.length_append, List.length_cons, List.length_nil, Nat.zero_add, app7]; omega))⟩
    · simp only [wid] at *
      simp only [↓xP, xQ, xR, flatR, eqCells_ok, eqSh, eqBs, Nat.reduceLT, decide_true, Nat.reduceBEq, Nat.reduceAdd, IOp.dst, IOp.isF, IOp.args, coolOp, Nat.reduceSub, rdx, rdx2, h3, hr, h4, ho4, h5, ho5, h6, gt_iff_lt, hk, hv3, h1, hac, hwk, map_all, List.length_map, q5.1, q5.2, app7]
      exact ih (k, q1, true, p1, m ++ [⟨⟨IntKind.i64.wrap (1 + (v3 : Int)), ((k + 1 : Nat) : Int), ⟨ck, key, v, o⟩⟩, old⟩]) _ (by dsimp only; omega) ⟨by dsimp only; omega, by dsimp only; omega, by simp; omega, (by and_intros <;> first | omega | rfl | (simp only [↓xP, xQ, xR, flatR, eqCells_ok, eqSh, eqBs, Nat.reduceLT, decide_true, Nat.reduceBEq, Nat.reduceAdd, IOp.dst, IOp.isF, IOp.args, coolOp, Nat.reduceSub, rdx, wid, h3, hr, h4, ho4, h5, ho5, h6, hwk, List.length_append, List.length_cons, List.length_nil, Nat.zero_add, app7]; done) | (simp only [↓xP, xQ, xR, flatR, eqCells_ok, eqSh, eqBs, Nat.reduceLT, decide_true, Nat.reduceBEq, Nat.reduceAdd, IOp.dst, IOp.isF, IOp.args, coolOp, Nat.reduceSub, rdx, wid, h3, hr, h4, ho4, h5, ho5, h6, hwk, List.length_append, List.length_cons, List.length_nil, Nat.zero_add, app7]; rfl) | (simp only [↓xP, xQ, xR, flatR, eqCells_ok, eqSh, eqBs, Nat.reduceLT, decide_true, Nat.reduceBEq, Nat.reduceAdd, IOp.dst, IOp.isF, IOp.args, coolOp, Nat.reduceSub, rdx, wid, h3, hr, h4, ho4, h5, ho5, h6, hwk, List.length_append, List.length_cons, List.length_nil, Nat.zero_add, app7]; omega))⟩
  | zero =>
    have hk : ¬ (0 : Int) < ((0 : Nat) : Int) := by omega
    clear ih
    obtain ⟨v9, hv9, _⟩ := pk hb q 9 (by omega) (by omega)
    have q5 := q64 m (by omega)
    have n10 : ¬ (1 : Int) = 0 := by omega
    have n20 : ¬ (2 : Int) = 0 := by omega
    have n21 : ¬ (2 : Int) = 1 := by omega
    have n30 : ¬ (3 : Int) = 0 := by omega
    have n31 : ¬ (3 : Int) = 1 := by omega
    have n32 : ¬ (3 : Int) = 2 := by omega
    by_cases e0 : (v9 : Int) = 0
    · obtain ⟨r1, s1, q1, h1, hq1, hq1', rfl, _, rfl, c, s, ck, key, v, o, rfl⟩ := l20Entry_ok hb (q + 1) 3 (by omega) (by omega)
      obtain ⟨r2, s2, q2, h2, hq2, hq2', rfl, re, rfl⟩ := l20Reply_ok hb q1 2 (by omega) (by omega)
      simp only [↓xP, xQ, xR, flatR, eqCells_ok, eqSh, eqBs, Nat.reduceLT, decide_true, Nat.reduceBEq, Nat.reduceAdd, IOp.dst, IOp.isF, IOp.args, coolOp, Nat.reduceSub, rdx, rdx2, h3, hr, h4, ho4, h6, gt_iff_lt, hk, hv9, e0, h1, h2, List.length_map, q5.1, q5.2, app7, htk, List.length_append, List.length_cons, List.length_nil, Nat.zero_add, Nat.le_refl]
      exact ⟨_, rfl, m ++ [⟨⟨c, s, ⟨ck, key, v, o⟩⟩, re⟩], rfl, by simp; omega⟩
    by_cases e1 : (v9 : Int) = 1
    · simp only [↓xP, xQ, xR, flatR, eqCells_ok, eqSh, eqBs, Nat.reduceLT, decide_true, Nat.reduceBEq, Nat.reduceAdd, IOp.dst, IOp.isF, IOp.args, coolOp, Nat.reduceSub, rdx, rdx2, h3, hr, h4, ho4, h6, gt_iff_lt, hk, hv9, e1, n10, List.length_map, q5.1, q5.2, app7, htk, List.length_append, List.length_cons, List.length_nil, Nat.zero_add, Nat.le_refl]
      exact ⟨_, rfl, m ++ [⟨⟨1, 1, ⟨5, [], 0, 0⟩⟩, 0⟩], rfl, by simp; omega⟩
    by_cases e2 : (v9 : Int) = 2
    · simp only [↓xP, xQ, xR, flatR, eqCells_ok, eqSh, eqBs, Nat.reduceLT, decide_true, Nat.reduceBEq, Nat.reduceAdd, IOp.dst, IOp.isF, IOp.args, coolOp, Nat.reduceSub, rdx, rdx2, h3, hr, h4, ho4, h6, gt_iff_lt, hk, hv9, e2, n20, n21]
      refine loop_pred (fun (m : List Answer) st => m.length ≤ 201 ∧ st.s 4 = .t (.sc (.own (.loc 13 0) m.length)) ∧ st.o (.loc 13 0) = some (.row 7 (m.map Answer.u))) (fun m => 201 - m.length) ?_ m ⟨by omega, (by and_intros <;> first | omega | rfl | (simp only [↓xP, xQ, xR, flatR, eqCells_ok, eqSh, eqBs, Nat.reduceLT, decide_true, Nat.reduceBEq, Nat.reduceAdd, IOp.dst, IOp.isF, IOp.args, coolOp, Nat.reduceSub, h4, ho4]; done) | (simp only [↓xP, xQ, xR, flatR, eqCells_ok, eqSh, eqBs, Nat.reduceLT, decide_true, Nat.reduceBEq, Nat.reduceAdd, IOp.dst, IOp.isF, IOp.args, coolOp, Nat.reduceSub, h4, ho4]; rfl) | (simp only [↓xP, xQ, xR, flatR, eqCells_ok, eqSh, eqBs, Nat.reduceLT, decide_true, Nat.reduceBEq, Nat.reduceAdd, IOp.dst, IOp.isF, IOp.args, coolOp, Nat.reduceSub, h4, ho4]; omega))⟩
      rintro m st ⟨hm, h4, ho4⟩ ih
      have q5 := q64 m (by omega)
      by_cases hl : (m.length : Int) ≤ 200
      · simp only [↓xP, xQ, xR, flatR, eqCells_ok, eqSh, eqBs, Nat.reduceLT, decide_true, Nat.reduceBEq, Nat.reduceAdd, IOp.dst, IOp.isF, IOp.args, coolOp, Nat.reduceSub, h4, ho4, List.length_map, hl, q5.1, q5.2, app7]
        exact ih (m ++ [⟨⟨1, 1, ⟨1, [122, 122, 122, 122], 0, 0⟩⟩, -1⟩]) _ (by simp; omega) ⟨by simp; omega, (by and_intros <;> first | omega | rfl | (simp only [↓xP, xQ, xR, flatR, eqCells_ok, eqSh, eqBs, Nat.reduceLT, decide_true, Nat.reduceBEq, Nat.reduceAdd, IOp.dst, IOp.isF, IOp.args, coolOp, Nat.reduceSub, h4, ho4, List.length_append, List.length_cons, List.length_nil, Nat.zero_add, app7]; done) | (simp only [↓xP, xQ, xR, flatR, eqCells_ok, eqSh, eqBs, Nat.reduceLT, decide_true, Nat.reduceBEq, Nat.reduceAdd, IOp.dst, IOp.isF, IOp.args, coolOp, Nat.reduceSub, h4, ho4, List.length_append, List.length_cons, List.length_nil, Nat.zero_add, app7]; rfl) | (simp only [↓xP, xQ, xR, flatR, eqCells_ok, eqSh, eqBs, Nat.reduceLT, decide_true, Nat.reduceBEq, Nat.reduceAdd, IOp.dst, IOp.isF, IOp.args, coolOp, Nat.reduceSub, h4, ho4, List.length_append, List.length_cons, List.length_nil, Nat.zero_add, app7]; omega))⟩
      · simp only [↓xP, xQ, xR, flatR, eqCells_ok, eqSh, eqBs, Nat.reduceLT, decide_true, Nat.reduceBEq, Nat.reduceAdd, IOp.dst, IOp.isF, IOp.args, coolOp, Nat.reduceSub, h4, ho4, List.length_map, hl, map_all]
        exact ⟨_, rfl, m, rfl, by omega⟩
    by_cases e3 : (v9 : Int) = 3
    · simp only [↓xP, xQ, xR, flatR, eqCells_ok, eqSh, eqBs, Nat.reduceLT, decide_true, Nat.reduceBEq, Nat.reduceAdd, IOp.dst, IOp.isF, IOp.args, coolOp, Nat.reduceSub, rdx, rdx2, h3, hr, h4, ho4, h6, gt_iff_lt, hk, hv9, e3, n30, n31, n32]
      refine loop_pred (fun (a : Nat × Nat × List Answer) st => a.1 ≤ 49 ∧ a.2.1 ≤ 400 + a.1 ∧ a.2.2.length ≤ 11 + a.1 ∧ st.s 3 = .t (.sc (.ptr (.loc 12 0) 0 0)) ∧ st.o (.loc 12 0) = some (rd bs a.2.1) ∧ st.s 4 = .t (.sc (.own (.loc 13 0) a.2.2.length)) ∧ st.o (.loc 13 0) = some (.row 7 (a.2.2.map Answer.u)) ∧ st.s 10 = DI a.1) (fun a => 50 - a.1) ?_ (0, q + 1, m) ⟨by simp, by dsimp only; omega, by dsimp only; omega, (by and_intros <;> first | omega | rfl | (simp only [↓xP, xQ, xR, flatR, eqCells_ok, eqSh, eqBs, Nat.reduceLT, decide_true, Nat.reduceBEq, Nat.reduceAdd, IOp.dst, IOp.isF, IOp.args, coolOp, Nat.reduceSub, rdx, h3, hr, h4, ho4]; done) | (simp only [↓xP, xQ, xR, flatR, eqCells_ok, eqSh, eqBs, Nat.reduceLT, decide_true, Nat.reduceBEq, Nat.reduceAdd, IOp.dst, IOp.isF, IOp.args, coolOp, Nat.reduceSub, rdx, h3, hr, h4, ho4]; rfl) | (simp only [↓xP, xQ, xR, flatR, eqCells_ok, eqSh, eqBs, Nat.reduceLT, decide_true, Nat.reduceBEq, Nat.reduceAdd, IOp.dst, IOp.isF, IOp.args, coolOp, Nat.reduceSub, rdx, h3, hr, h4, ho4]; omega))⟩
      clear h3 hr h4 ho4 h6
      rintro ⟨j, q, m⟩ st ⟨hj, hq, hm, h3, hr, h4, ho4, h10⟩ ih
      dsimp only at *
      have q5 := q64 m (by omega)
      obtain ⟨w, hw, hwl⟩ := pk hb q 2 (by omega) (by omega)
      have hw48 : IntKind.i64.wrap (48 + (w : Int)) = 48 + (w : Int) := by rw [w64 (by omega) (by omega)]
      by_cases hlt : (j : Int) < 48 + (w : Int)
      · have hwj := w_succ (i := j) (by omega)
        obtain ⟨r, hka, s, rfl, hls⟩ := keyAt_some (IntKind.i64.wrap (100 + (j : Int)))
        simp only [↓xP, xQ, xR, flatR, eqCells_ok, eqSh, eqBs, Nat.reduceLT, decide_true, Nat.reduceBEq, Nat.reduceAdd, IOp.dst, IOp.isF, IOp.args, coolOp, Nat.reduceSub, rdx, rdx2, h3, hr, h4, ho4, h10, hw, hw48, hlt, hka, List.length_map, q5.1, q5.2, app7, hwj]
        exact ih (j + 1, q + 1, m ++ [⟨⟨1, 1, ⟨2, s, j, 0⟩⟩, -1⟩]) _ (by dsimp only; omega) ⟨by dsimp only; omega, by dsimp only; omega, by simp; omega, (by and_intros <;> first | omega | rfl | (simp only [↓xP, xQ, xR, flatR, eqCells_ok, eqSh, eqBs, Nat.reduceLT, decide_true, Nat.reduceBEq, Nat.reduceAdd, IOp.dst, IOp.isF, IOp.args, coolOp, Nat.reduceSub, rdx, h3, hr, h4, ho4, h10, hwj, List.length_append, List.length_cons, List.length_nil, Nat.zero_add, app7]; done) | (simp only [↓xP, xQ, xR, flatR, eqCells_ok, eqSh, eqBs, Nat.reduceLT, decide_true, Nat.reduceBEq, Nat.reduceAdd, IOp.dst, IOp.isF, IOp.args, coolOp, Nat.reduceSub, rdx, h3, hr, h4, ho4, h10, hwj, List.length_append, List.length_cons, List.length_nil, Nat.zero_add, app7]; rfl) | (simp only [↓xP, xQ, xR, flatR, eqCells_ok, eqSh, eqBs, Nat.reduceLT, decide_true, Nat.reduceBEq, Nat.reduceAdd, IOp.dst, IOp.isF, IOp.args, coolOp, Nat.reduceSub, rdx, h3, hr, h4, ho4, h10, hwj, List.length_append, List.length_cons, List.length_nil, Nat.zero_add, app7]; omega))⟩
      · simp only [↓xP, xQ, xR, flatR, eqCells_ok, eqSh, eqBs, Nat.reduceLT, decide_true, Nat.reduceBEq, Nat.reduceAdd, IOp.dst, IOp.isF, IOp.args, coolOp, Nat.reduceSub, rdx, rdx2, h3, hr, h4, ho4, h10, hw, hw48, hlt, map_all]
        exact ⟨_, rfl, m, rfl, by omega⟩
    · simp only [↓xP, xQ, xR, flatR, eqCells_ok, eqSh, eqBs, Nat.reduceLT, decide_true, Nat.reduceBEq, Nat.reduceAdd, IOp.dst, IOp.isF, IOp.args, coolOp, Nat.reduceSub, rdx, rdx2, h3, hr, h4, ho4, h6, gt_iff_lt, hk, hv9, e0, e1, e2, e3, map_all]
      exact ⟨_, rfl, m, rfl, by omega⟩
def histRetR (l : List Answer) (x : Option (List Pair)) : Option Ret := match x with
  | some p => some ⟨[L 2 (p.map Pair.u), B true], [], [.row 7 (l.map Answer.u)]⟩
  | none => some ⟨[L 2 [], B false], [], [.row 7 (l.map Answer.u)]⟩
theorem runHistory_own (l : List Answer) (hn : l.length ≤ 1048576) : EE F 42 [.sc (.own (.par 0) l.length)] [.row 7 (l.map Answer.u)] = histRetR l (hist l) := by
  refine (EE_run (fn := i42) (by kernel_rfl) rfl).trans ?_
  simp only [i42, b42, argSt, insSt, List.length_cons, List.length_nil]
  by_cases h200 : (200 : Int) < (l.length : Int)
  · have : ¬ l.length ≤ 200 := by omega
    simp only [↓xP, xQ, xR, flatR, eqCells_ok, eqSh, eqBs, Nat.reduceLT, decide_true, Nat.reduceBEq, Nat.reduceAdd, IOp.dst, IOp.isF, IOp.args, coolOp, Nat.reduceSub, List.length_map, gt_iff_lt, h200, hist, this, if_false, histRetR, List.map_nil, map_all]
  have h200' : l.length ≤ 200 := by omega
  simp only [↓xP, xQ, xR, flatR, eqCells_ok, eqSh, eqBs, Nat.reduceLT, decide_true, Nat.reduceBEq, Nat.reduceAdd, IOp.dst, IOp.isF, IOp.args, coolOp, Nat.reduceSub, List.length_map, gt_iff_lt, h200, hist, h200', if_true]
  refine (loop_ind (fun (a : Nat × Bool × List Pair) st => a.1 ≤ l.length ∧ a.2.2.length ≤ 48 ∧ st.s 11 = .t (.sc (.own (.par 0) l.length)) ∧ st.o (.par 0) = some (.row 7 (l.map Answer.u)) ∧ st.s 12 = DI l.length ∧ st.s 13 = DI a.1 ∧ st.s 4 = fcD a.2.2 a.2.1 ∧ fcO st a.2.2 a.2.1) (fun a => l.length - a.1) (fun a => histRetR l (runA (l.drop a.1) a.2.2)) ?_ (0, false, []) ⟨by simp, by simp, by simp only [↓xP, xQ, xR, flatR, eqCells_ok, eqSh, eqBs, Nat.reduceLT, decide_true, Nat.reduceBEq, Nat.reduceAdd, IOp.dst, IOp.isF, IOp.args, coolOp, Nat.reduceSub], by simp only [↓xP, xQ, xR, flatR, eqCells_ok, eqSh, eqBs, Nat.reduceLT, decide_true, Nat.reduceBEq, Nat.reduceAdd, IOp.dst, IOp.isF, IOp.args, coolOp, Nat.reduceSub], by simp only [↓xP, xQ, xR, flatR, eqCells_ok, eqSh, eqBs, Nat.reduceLT, decide_true, Nat.reduceBEq, Nat.reduceAdd, IOp.dst, IOp.isF, IOp.args, coolOp, Nat.reduceSub, List.length_map], by simp only [↓xP, xQ, xR, flatR, eqCells_ok, eqSh, eqBs, Nat.reduceLT, decide_true, Nat.reduceBEq, Nat.reduceAdd, IOp.dst, IOp.isF, IOp.args, coolOp, Nat.reduceSub]; rfl, by simp only [↓xP, xQ, xR, flatR, eqCells_ok, eqSh, eqBs, Nat.reduceLT, decide_true, Nat.reduceBEq, Nat.reduceAdd, IOp.dst, IOp.isF, IOp.args, coolOp, Nat.reduceSub, fcD], by simp only [fcO]; exact ⟨by simp only [↓xP, xQ, xR, flatR, eqCells_ok, eqSh, eqBs, Nat.reduceLT, decide_true, Nat.reduceBEq, Nat.reduceAdd, IOp.dst, IOp.isF, IOp.args, coolOp, Nat.reduceSub], trivial⟩⟩).trans (by simp)
  rintro ⟨i, b, p⟩ st ⟨hle, hp48, h11, hp0, h12, h13, h4, ho⟩ ih
  dsimp only at *
  by_cases hi : i < l.length
  · obtain ⟨⟨⟨c, s, ⟨k, key, v, o⟩⟩, r⟩, hx⟩ : ∃ a, l[i]? = some a := ⟨_, List.getElem?_eq_getElem hi⟩
    have hw := w_succ (i := i) (by omega)
    have hd : l.drop i = ⟨⟨c, s, ⟨k, key, v, o⟩⟩, r⟩ :: l.drop (i + 1) := by rw [List.drop_eq_getElem_cons hi, (List.getElem?_eq_some_iff.1 hx).2]
    rw [hd, runA_cons]
    have hev := entryValid_impl c s k key v o
    by_cases hok : okA ⟨⟨c, s, ⟨k, key, v, o⟩⟩, r⟩ = true
    case neg =>
      rw [if_neg hok]
      rw [okA_eq] at hok
      cases he : entryValid ⟨c, s, ⟨k, key, v, o⟩⟩
      · rw [he] at hev
        simp only [↓xP, xQ, xR, flatR, eqCells_ok, eqSh, eqBs, Nat.reduceLT, decide_true, Nat.reduceBEq, Nat.reduceAdd, IOp.dst, IOp.isF, IOp.args, coolOp, Nat.reduceSub, h11, hp0, h12, h13, hi, hx, Answer.u, hev, histRetR, List.map_nil, map_all]
      · rw [he] at hev hok
        have h5 : k = 5 := by simpa using hok
        subst h5
        simp only [↓xP, xQ, xR, flatR, eqCells_ok, eqSh, eqBs, Nat.reduceLT, decide_true, Nat.reduceBEq, Nat.reduceAdd, IOp.dst, IOp.isF, IOp.args, coolOp, Nat.reduceSub, h11, hp0, h12, h13, hi, hx, Answer.u, hev, histRetR, List.map_nil, map_all]
    rw [if_pos hok]
    obtain ⟨hk1, hk4, _⟩ := okA_kind hok
    dsimp only at hk1 hk4
    have hok' := hok
    rw [okA_eq, Bool.and_eq_true] at hok'
    have hk5 : ¬ k = 5 := by omega
    rw [hok'.1] at hev
    by_cases hr : r = -2
    · have ho1 : oneA p ⟨⟨c, s, ⟨k, key, v, o⟩⟩, r⟩ = some p := by rw [oneA_eq, if_pos hr]
      rw [ho1, Option.bind_some]
      cases b <;> simp only [fcD, fcO] at h4 ho
      · obtain ⟨ho, rfl⟩ := ho
        simp only [↓xP, xQ, xR, flatR, eqCells_ok, eqSh, eqBs, Nat.reduceLT, decide_true, Nat.reduceBEq, Nat.reduceAdd, IOp.dst, IOp.isF, IOp.args, coolOp, Nat.reduceSub, h11, hp0, h12, h13, h4, ho, hi, hx, Answer.u, hev, hk5, hr, hw]
        exact ih (i + 1, false, []) _ (by dsimp only; omega) ⟨by dsimp only; omega, hp48, by simp only [↓xP, xQ, xR, flatR, eqCells_ok, eqSh, eqBs, Nat.reduceLT, decide_true, Nat.reduceBEq, Nat.reduceAdd, IOp.dst, IOp.isF, IOp.args, coolOp, Nat.reduceSub, h11], by simp only [↓xP, xQ, xR, flatR, eqCells_ok, eqSh, eqBs, Nat.reduceLT, decide_true, Nat.reduceBEq, Nat.reduceAdd, IOp.dst, IOp.isF, IOp.args, coolOp, Nat.reduceSub, hp0], by simp only [↓xP, xQ, xR, flatR, eqCells_ok, eqSh, eqBs, Nat.reduceLT, decide_true, Nat.reduceBEq, Nat.reduceAdd, IOp.dst, IOp.isF, IOp.args, coolOp, Nat.reduceSub, h12], by simp only [↓xP, xQ, xR, flatR, eqCells_ok, eqSh, eqBs, Nat.reduceLT, decide_true, Nat.reduceBEq, Nat.reduceAdd, IOp.dst, IOp.isF, IOp.args, coolOp, Nat.reduceSub, hw], by simp only [↓xP, xQ, xR, flatR, eqCells_ok, eqSh, eqBs, Nat.reduceLT, decide_true, Nat.reduceBEq, Nat.reduceAdd, IOp.dst, IOp.isF, IOp.args, coolOp, Nat.reduceSub, h4, fcD], by simp only [fcO]; exact ⟨by simp only [↓xP, xQ, xR, flatR, eqCells_ok, eqSh, eqBs, Nat.reduceLT, decide_true, Nat.reduceBEq, Nat.reduceAdd, IOp.dst, IOp.isF, IOp.args, coolOp, Nat.reduceSub, ho], trivial⟩⟩
      · simp only [↓xP, xQ, xR, flatR, eqCells_ok, eqSh, eqBs, Nat.reduceLT, decide_true, Nat.reduceBEq, Nat.reduceAdd, IOp.dst, IOp.isF, IOp.args, coolOp, Nat.reduceSub, h11, hp0, h12, h13, h4, hi, hx, Answer.u, hev, hk5, hr, hw]
        exact ih (i + 1, true, p) _ (by dsimp only; omega) ⟨by dsimp only; omega, hp48, by simp only [↓xP, xQ, xR, flatR, eqCells_ok, eqSh, eqBs, Nat.reduceLT, decide_true, Nat.reduceBEq, Nat.reduceAdd, IOp.dst, IOp.isF, IOp.args, coolOp, Nat.reduceSub, h11], by simp only [↓xP, xQ, xR, flatR, eqCells_ok, eqSh, eqBs, Nat.reduceLT, decide_true, Nat.reduceBEq, Nat.reduceAdd, IOp.dst, IOp.isF, IOp.args, coolOp, Nat.reduceSub, hp0], by simp only [↓xP, xQ, xR, flatR, eqCells_ok, eqSh, eqBs, Nat.reduceLT, decide_true, Nat.reduceBEq, Nat.reduceAdd, IOp.dst, IOp.isF, IOp.args, coolOp, Nat.reduceSub, h12], by simp only [↓xP, xQ, xR, flatR, eqCells_ok, eqSh, eqBs, Nat.reduceLT, decide_true, Nat.reduceBEq, Nat.reduceAdd, IOp.dst, IOp.isF, IOp.args, coolOp, Nat.reduceSub, hw], by simp only [↓xP, xQ, xR, flatR, eqCells_ok, eqSh, eqBs, Nat.reduceLT, decide_true, Nat.reduceBEq, Nat.reduceAdd, IOp.dst, IOp.isF, IOp.args, coolOp, Nat.reduceSub, h4, fcD], trivial⟩
    · obtain ⟨q, hq, hqp⟩ := mapAfter_ok p c s k key v o r (by omega) ⟨hk1, hk4⟩ hr
      have hl48 := fun p' => oneA_len (l := p) (l' := p') (a := ⟨⟨c, s, ⟨k, key, v, o⟩⟩, r⟩)
      cases ho1 : oneA p ⟨⟨c, s, ⟨k, key, v, o⟩⟩, r⟩ with
      | none =>
        rw [ho1, Option.isSome_none] at hq
        rw [Option.bind_none]
        cases b <;> simp only [fcD, fcO] at h4 ho
        · obtain ⟨ho, rfl⟩ := ho
          rw [List.map_nil] at hq
          cases hE : (List.map Pair.u q).isEmpty <;> simp only [↓xP, xQ, xR, flatR, eqCells_ok, eqSh, eqBs, Nat.reduceLT, decide_true, Nat.reduceBEq, Nat.reduceAdd, IOp.dst, IOp.isF, IOp.args, coolOp, Nat.reduceSub, rdx2, hE, h11, hp0, h12, h13, h4, ho, hi, hx, Answer.u, hev, hk5, hr, hq, histRetR, List.map_nil, List.take_nil, map_all]
        · simp only [↓xP, xQ, xR, flatR, eqCells_ok, eqSh, eqBs, Nat.reduceLT, decide_true, Nat.reduceBEq, Nat.reduceAdd, IOp.dst, IOp.isF, IOp.args, coolOp, Nat.reduceSub, rdx2, h11, hp0, h12, h13, h4, hi, hx, Answer.u, hev, hk5, hr, hq, histRetR, List.map_nil, map_all]
      | some p' =>
        have hqe := hqp p' ho1
        subst hqe
        have hq48 := hl48 q ho1 hp48
        rw [ho1, Option.isSome_some] at hq
        rw [Option.bind_some]
        cases b <;> simp only [fcD, fcO] at h4 ho
        · obtain ⟨ho, rfl⟩ := ho
          rw [List.map_nil] at hq
          cases hE : (List.map Pair.u q).isEmpty
          all_goals
            simp only [↓xP, xQ, xR, flatR, eqCells_ok, eqSh, eqBs, Nat.reduceLT, decide_true, Nat.reduceBEq, Nat.reduceAdd, IOp.dst, IOp.isF, IOp.args, coolOp, Nat.reduceSub, rdx2, hE, h11, hp0, h12, h13, h4, ho, hi, hx, Answer.u, hev, hk5, hr, hq, hw, List.take_nil]
            exact ih (i + 1, true, q) _ (by dsimp only; omega) ⟨by dsimp only; omega, hq48, by simp only [↓xP, xQ, xR, flatR, eqCells_ok, eqSh, eqBs, Nat.reduceLT, decide_true, Nat.reduceBEq, Nat.reduceAdd, IOp.dst, IOp.isF, IOp.args, coolOp, Nat.reduceSub, h11], by simp only [↓xP, xQ, xR, flatR, eqCells_ok, eqSh, eqBs, Nat.reduceLT, decide_true, Nat.reduceBEq, Nat.reduceAdd, IOp.dst, IOp.isF, IOp.args, coolOp, Nat.reduceSub, hp0], by simp only [↓xP, xQ, xR, flatR, eqCells_ok, eqSh, eqBs, Nat.reduceLT, decide_true, Nat.reduceBEq, Nat.reduceAdd, IOp.dst, IOp.isF, IOp.args, coolOp, Nat.reduceSub, h12], by simp only [↓xP, xQ, xR, flatR, eqCells_ok, eqSh, eqBs, Nat.reduceLT, decide_true, Nat.reduceBEq, Nat.reduceAdd, IOp.dst, IOp.isF, IOp.args, coolOp, Nat.reduceSub, hw], by simp only [↓xP, xQ, xR, flatR, eqCells_ok, eqSh, eqBs, Nat.reduceLT, decide_true, Nat.reduceBEq, Nat.reduceAdd, IOp.dst, IOp.isF, IOp.args, coolOp, Nat.reduceSub, fcD], trivial⟩
        · simp only [↓xP, xQ, xR, flatR, eqCells_ok, eqSh, eqBs, Nat.reduceLT, decide_true, Nat.reduceBEq, Nat.reduceAdd, IOp.dst, IOp.isF, IOp.args, coolOp, Nat.reduceSub, rdx2, h11, hp0, h12, h13, h4, hi, hx, Answer.u, hev, hk5, hr, hq, hw]
          exact ih (i + 1, true, q) _ (by dsimp only; omega) ⟨by dsimp only; omega, hq48, by simp only [↓xP, xQ, xR, flatR, eqCells_ok, eqSh, eqBs, Nat.reduceLT, decide_true, Nat.reduceBEq, Nat.reduceAdd, IOp.dst, IOp.isF, IOp.args, coolOp, Nat.reduceSub, h11], by simp only [↓xP, xQ, xR, flatR, eqCells_ok, eqSh, eqBs, Nat.reduceLT, decide_true, Nat.reduceBEq, Nat.reduceAdd, IOp.dst, IOp.isF, IOp.args, coolOp, Nat.reduceSub, hp0], by simp only [↓xP, xQ, xR, flatR, eqCells_ok, eqSh, eqBs, Nat.reduceLT, decide_true, Nat.reduceBEq, Nat.reduceAdd, IOp.dst, IOp.isF, IOp.args, coolOp, Nat.reduceSub, h12], by simp only [↓xP, xQ, xR, flatR, eqCells_ok, eqSh, eqBs, Nat.reduceLT, decide_true, Nat.reduceBEq, Nat.reduceAdd, IOp.dst, IOp.isF, IOp.args, coolOp, Nat.reduceSub, hw], by simp only [↓xP, xQ, xR, flatR, eqCells_ok, eqSh, eqBs, Nat.reduceLT, decide_true, Nat.reduceBEq, Nat.reduceAdd, IOp.dst, IOp.isF, IOp.args, coolOp, Nat.reduceSub, fcD], trivial⟩
  · rw [List.drop_of_length_le (by omega)]
    cases b <;> simp only [fcD, fcO] at h4 ho
    · obtain ⟨ho, rfl⟩ := ho
      simp only [↓xP, xQ, xR, flatR, eqCells_ok, eqSh, eqBs, Nat.reduceLT, decide_true, Nat.reduceBEq, Nat.reduceAdd, IOp.dst, IOp.isF, IOp.args, coolOp, Nat.reduceSub, h11, hp0, h12, h13, h4, ho, hi, runA, histRetR, List.map_nil, List.take_nil, map_all]
    · simp only [↓xP, xQ, xR, flatR, eqCells_ok, eqSh, eqBs, Nat.reduceLT, decide_true, Nat.reduceBEq, Nat.reduceAdd, IOp.dst, IOp.isF, IOp.args, coolOp, Nat.reduceSub, h11, hp0, h12, h13, h4, hi, runA, histRetR, map_all]
theorem hist_run {l : List Answer} (h : l.length ≤ 200) : hist l = runA l [] := by unfold hist; rw [if_pos h]
theorem hist_len {l : List Answer} {p : List Pair} (h : hist l = some p) : l.length ≤ 200 := by
  unfold hist at h
  split at h
  · assumption
  · cases h
theorem hist_ok {l : List Answer} {p : List Pair} (h : hist l = some p) : ∀ a, a ∈ l → okA a = true := by
  intro a ha
  have hl := hist_len h
  rw [hist_run hl] at h
  cases hq : okA a with
  | true => rfl
  | false => rw [runA_bad hq l [] ha] at h; cases h
theorem hist_init {l : List Answer} {p : List Pair} (h : hist l = some p) (hne : 1 ≤ l.length) : ∃ q, hist (l.take (l.length - 1)) = some q := by
  have hl := hist_len h
  rw [hist_run hl] at h
  have hsplit : l = l.take (l.length - 1) ++ [l[l.length - 1]'(by omega)] := by
    have h1 := List.take_append_drop (l.length - 1) l
    have h2 : l.drop (l.length - 1) = [l[l.length - 1]'(by omega)] := by
      rw [List.drop_eq_getElem_cons (by omega), List.drop_of_length_le (by omega)]
    rw [h2] at h1
    exact h1.symm
  rw [hist_run (by rw [List.length_take]; omega)]
  rw [hsplit, runA_snoc] at h
  cases hq : runA (l.take (l.length - 1)) [] with
  | some q => exact ⟨q, rfl⟩
  | none =>
    exfalso
    have e : (l.take (l.length - 1) ++ [l[l.length - 1]'(by omega)]).take ((l.take (l.length - 1) ++ [l[l.length - 1]'(by omega)]).length - 1) = l.take (l.length - 1) := by rw [← hsplit]
    simp only [hq, Option.bind_none] at h
    cases h
theorem hist_snoc {l : List Answer} {p : List Pair} (h : hist l = some p) (hl : l.length < 200) (a : Answer) : hist (l ++ [a]) = if okA a = true then oneA p a else none := by
  rw [hist_run (by omega)] at h
  rw [hist_run (by simp; omega), runA_snoc, h, Option.bind_some]
theorem pairGet_le (p : List Pair) (key : Str) : pairGet p key ≤ 999 := by
  unfold pairGet
  split
  · rename_i hv
    cases hh : hit key p with
    | none => simp
    | some q =>
      have := (pairsValid_at hv (hit_some hh).1).2
      simp only [inR, Bool.and_eq_true, decide_eq_true_eq] at this
      simpa using this.2
  · omega
theorem runA_len : ∀ (l : List Answer) (p q : List Pair), runA l p = some q → p.length ≤ 48 → q.length ≤ 48
  | [], p, q, h, hp => by cases h; exact hp
  | a :: l, p, q, h, hp => by
    rw [runA_cons] at h
    split at h
    · cases ho : oneA p a with
      | none => rw [ho] at h; cases h
      | some p1 => rw [ho] at h; exact runA_len l p1 q h (oneA_len ho hp)
    · cases h
theorem hist_small {l : List Answer} {p : List Pair} (h : hist l = some p) : p.length ≤ 48 := by
  have hl := hist_len h
  rw [hist_run hl] at h
  exact runA_len l [] p h (by simp)
set_option maxHeartbeats 4000000 in
theorem law_FnRunHistory (u : U) (hu : UT (.sl [.i .u8]) u) : EE F 8 [.sc (.u u)] [] = ok1 (B true) := by
  obtain ⟨code, rfl, hc⟩ := Code.of hu
  rw [R8, b8]
  by_cases hg : (1048576 : Int) < code.length
  · simp only [↓xP, xQ, xR, flatR, eqCells_ok, eqSh, eqBs, Nat.reduceLT, decide_true, Nat.reduceBEq, Nat.reduceAdd, IOp.dst, IOp.isF, IOp.args, coolOp, Nat.reduceSub, List.length_map, gt_iff_lt, hg]
  obtain ⟨r, hr, l, rfl, hl⟩ := drawRunHistory_ok code hc
  have h1 := runHistory_impl l (by omega)
  have h2 := runHistory_spec l (by omega)
  cases hh : hist l with
  | none =>
    rw [hh] at h1 h2
    simp only [histRet] at h1 h2
    have hsp := samePairs_refl [] (by simp)
    rw [List.map_nil] at hsp
    have e00 : ((0 : Nat) : Int) = 0 := rfl
    simp only [↓xP, xQ, xR, flatR, eqCells_ok, eqSh, eqBs, Nat.reduceLT, decide_true, Nat.reduceBEq, Nat.reduceAdd, IOp.dst, IOp.isF, IOp.args, coolOp, Nat.reduceSub, rdx2, List.length_map, gt_iff_lt, hg, hr, h1, h2, hsp, alive_ok, List.length_nil, e00]
  | some p =>
    rw [hh] at h1 h2
    simp only [histRet] at h1 h2
    have hp48 : p.length ≤ 4611686018427387904 := by have := hist_small hh; omega
    have hsp := samePairs_refl p hp48
    by_cases h0 : (l.length : Int) = 0
    · simp only [↓xP, xQ, xR, flatR, eqCells_ok, eqSh, eqBs, Nat.reduceLT, decide_true, Nat.reduceBEq, Nat.reduceAdd, IOp.dst, IOp.isF, IOp.args, coolOp, Nat.reduceSub, rdx2, List.length_map, gt_iff_lt, hg, hr, h1, h2, hsp, h0, alive_ok]
    by_cases h200 : (200 : Int) ≤ (l.length : Int)
    · simp only [↓xP, xQ, xR, flatR, eqCells_ok, eqSh, eqBs, Nat.reduceLT, decide_true, Nat.reduceBEq, Nat.reduceAdd, IOp.dst, IOp.isF, IOp.args, coolOp, Nat.reduceSub, rdx2, List.length_map, gt_iff_lt, hg, hr, h1, h2, hsp, h0, ge_iff_le, h200, alive_ok]
    obtain ⟨q, hq⟩ := hist_init hh (by omega)
    have h3 := runHistory_impl (l.take (l.length - 1)) (by rw [List.length_take]; omega)
    rw [hq] at h3
    simp only [histRet] at h3
    obtain ⟨⟨⟨c, s, ⟨k, key, v, o⟩⟩, re⟩, hx⟩ : ∃ a, l[l.length / 2]? = some a := ⟨_, List.getElem?_eq_getElem (by omega)⟩
    have hkv := (okA_kind (hist_ok hh _ (List.mem_of_getElem? hx))).2.2
    dsimp only at hkv
    have hgk : okA ⟨⟨1, 1, ⟨1, key, 0, 0⟩⟩, pairGet p key⟩ = true := by rw [okA_eq]; simp [entryValid, commandValid, hkv, inR]
    have hgk2 : okA ⟨⟨1, 1, ⟨1, key, 0, 0⟩⟩, 1000⟩ = true := by rw [okA_eq]; simp [entryValid, commandValid, hkv, inR]
    have hm1 : hist (l ++ [⟨⟨1, 1, ⟨1, key, 0, 0⟩⟩, pairGet p key⟩]) = some p := by
      rw [hist_snoc hh (by omega), if_pos hgk, oneA_eq]
      simp
    have hm2 : hist (l ++ [⟨⟨1, 1, ⟨1, key, 0, 0⟩⟩, 1000⟩]) = none := by
      rw [hist_snoc hh (by omega), if_pos hgk2, oneA_eq]
      have := pairGet_le p key
      rw [if_neg (by omega), if_neg (by omega)]
    have h4 := runHistory_own (l ++ [⟨⟨1, 1, ⟨1, key, 0, 0⟩⟩, pairGet p key⟩]) (by simp; omega)
    have h5 := runHistory_own (l ++ [⟨⟨1, 1, ⟨1, key, 0, 0⟩⟩, 1000⟩]) (by simp; omega)
    rw [hm1] at h4
    rw [hm2] at h5
    simp only [histRetR, List.length_append, List.length_cons, List.length_nil, Nat.zero_add] at h4 h5
    have hpg := pairGet_impl p key
    generalize pairGet p key = g at *
    have app7 : ∀ (l : List Answer) c s k key v o r, l.map Answer.u ++ [[.int .i64 c, .int .i64 s, .int .i64 k, .str key, .int .i64 v, .int .i64 o, .int .i64 r]] = (l ++ [(⟨⟨c, s, ⟨k, key, v, o⟩⟩, r⟩ : Answer)]).map Answer.u := fun l c s k key v o r => by simp [Answer.u]
    have htk : ∀ (l : List Answer) x, List.take (l.length + 1) (List.map Answer.u (l ++ [x])) = List.map Answer.u (l ++ [x]) := fun l x => List.take_of_length_le (by simp)
    have q0 : l.length ≤ maxLen ∧ l.length * 64 ≤ 140737488355328 := small_max (by omega) (by omega)
    have q1 : l.length + 1 ≤ maxLen ∧ (l.length + 1) * 64 ≤ 140737488355328 := small_max (by omega) (by omega)
    have hw1 : IntKind.i64.wrap ((l.length : Int) - 1) = ((l.length - 1 : Nat) : Int) := by rw [w64 (by omega) (by omega)]; omega
    have hct := cut_to (n := l.length) (i := l.length - 1) (by omega)
    have htm : List.take (l.length - 1) (List.map Answer.u l) = List.map Answer.u (l.take (l.length - 1)) := by rw [List.map_take]
    have h2d : ((l.length : Int)).tdiv 2 = ((l.length / 2 : Nat) : Int) := rfl
    have hw2 : IntKind.i64.wrap ((l.length / 2 : Nat) : Int) = ((l.length / 2 : Nat) : Int) := by rw [w64 (by omega) (by omega)]
    have h20 : ¬ (2 : Int) = 0 := by omega
    have hlt1 : l.length < l.length + 1 := by omega
    have hga : ∀ a : Answer, (l ++ [a])[l.length]? = some a := fun a => by simp
    have hset : (List.map Answer.u (l ++ [⟨⟨1, 1, ⟨1, key, 0, 0⟩⟩, g⟩])).set l.length [.int .i64 1, .int .i64 1, .int .i64 1, .str key, .int .i64 0, .int .i64 0, .int .i64 1000] = List.map Answer.u (l ++ [⟨⟨1, 1, ⟨1, key, 0, 0⟩⟩, 1000⟩]) := by simp [Answer.u]
    simp only [↓xP, xQ, xR, flatR, eqCells_ok, eqSh, eqBs, Nat.reduceLT, decide_true, Nat.reduceBEq, Nat.reduceAdd, IOp.dst, IOp.isF, IOp.args, coolOp, Nat.reduceSub, rdx2, fxLit, List.length_map, gt_iff_lt, hg, hr, h1, h2, hsp, h0, ge_iff_le, h200, hw1, hct, List.drop_zero, htm, h3, h2d, hw2, h20, hx, Answer.u, Nat.zero_add, List.nil_append, q0.1, q0.2, q1.1, q1.2, hpg, app7, h4, hlt1, hga, hset, h5, htk, List.length_append, List.length_cons, List.length_nil, Nat.le_refl, map_all]
end Go.Proofs.YtdnhamehpdlbgaaV
