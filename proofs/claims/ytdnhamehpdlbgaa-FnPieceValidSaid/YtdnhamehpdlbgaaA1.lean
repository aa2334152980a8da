/- Lemmas of functions that the law FnPieceValid reaches, and that it returns true for all data of its types. No conditions but those that the lemmas state. -/
import Derived.Test.YtdnhamehpdlbgaaT1
import Derived.Test.YtdnhamehpdlbgaaJ
import Derived.Test.YtdnhamehpdlbgaaS7
namespace Go.Proofs.YtdnhamehpdlbgaaV
open Go Go.RowKit
set_option linter.unusedVariables false
set_option linter.unusedSimpArgs false
set_option maxRecDepth 4000
def chkZ (a : Int) (k : Int → Int) : Int := if a < 0 then -1 else k a
def allZ {α : Type} (g : α → Int → Int) : List α → Int → Int
  | [], a => a
  | x :: xs, a => chkZ (g x a) (allZ g xs)
/-- No more is left than was there; what was counted is small. -/
def LeZ (g : Int → Int) (P : Prop) : Prop := ∀ a, 0 ≤ a → a ≤ 1048576 → g a ≤ a ∧ (0 ≤ g a → P)
theorem LeZ.chk {g k : Int → Int} {P Q : Prop} (hg : LeZ g P) (hk : LeZ k Q) : LeZ (fun a => chkZ (g a) k) (P ∧ Q) := by
  intro a h0 h1
  obtain ⟨h2, h3⟩ := hg a h0 h1
  simp only [chkZ]
  split
  · exact ⟨by omega, fun h => by omega⟩
  · obtain ⟨h4, h5⟩ := hk (g a) (by omega) (by omega)
    exact ⟨by omega, fun h => ⟨h3 (by omega), h5 h⟩⟩
theorem LeZ.all {α : Type} {g : α → Int → Int} {P : α → Prop} : ∀ {l : List α}, (∀ x, x ∈ l → LeZ (g x) (P x)) → LeZ (allZ g l) (∀ x, x ∈ l → P x)
  | [], _ => fun a _ _ => ⟨Int.le_refl _, fun _ x h => by cases h⟩
  | x :: xs, h => by
    have h1 := (h x (List.mem_cons_self ..)).chk (LeZ.all (l := xs) (fun y hy => h y (List.mem_cons_of_mem _ hy)))
    intro a h0 h2
    obtain ⟨h3, h4⟩ := h1 a h0 h2
    refine ⟨h3, fun h y hy => ?_⟩
    rcases List.mem_cons.1 hy with rfl | hy
    · exact (h4 h).1
    · exact (h4 h).2 y hy
/-- All from a number on. -/
def allF (n : Nat) (p : Nat → Bool) (i : Nat) : Bool := if i < n then p i && allF n p (i + 1) else true
termination_by n - i
theorem allF_lt {n : Nat} {p : Nat → Bool} {i : Nat} (h : i < n) : allF n p i = (p i && allF n p (i + 1)) := by rw [allF, if_pos h]
theorem allF_ge {n : Nat} {p : Nat → Bool} {i : Nat} (h : ¬ i < n) : allF n p i = true := by rw [allF, if_neg h]
theorem allF_iff {n : Nat} {p : Nat → Bool} : ∀ (k i : Nat), n - i = k → (allF n p i = true ↔ ∀ j, i ≤ j → j < n → p j = true)
  | 0, i, h => by
    rw [allF_ge (by omega)]
    exact ⟨fun _ j h1 h2 => by omega, fun _ => rfl⟩
  | k + 1, i, h => by
    rw [allF_lt (by omega), Bool.and_eq_true, allF_iff k (i + 1) (by omega)]
    refine ⟨fun ⟨h1, h2⟩ j hj hn => ?_, fun h1 => ⟨h1 i (Nat.le_refl _) (by omega), fun j hj hn => h1 j (by omega) hn⟩⟩
    by_cases e : j = i
    · subst e; exact h1
    · exact h2 j (by omega) hn
def inR (n a b : Int) : Bool := decide (a ≤ n) && decide (n ≤ b)
theorem l1In_ok (n a b : Int) : EE F 134 [I n, I a, I b] [] = ok1 (B (inR n a b)) := by
  rw [R134, b134]
  simp only [↓xP, xQ, xR, flatR, eqCells_ok, eqSh, eqBs, Nat.reduceLT, decide_true, Nat.reduceBEq, Nat.reduceAdd, IOp.dst, IOp.isF, IOp.args, coolOp, Nat.reduceSub]
  repeat' (refine sel_split (fun h => ?_) (fun h => ?_))
  all_goals (simp_all [inR] <;> (intros; omega))
theorem valueValid_ok (n : Int) : EE F 138 [I n] [] = ok1 (B (inR n 0 999)) := by
  rw [R138, b138]
  simp only [↓xP, xQ, xR, flatR, eqCells_ok, eqSh, eqBs, Nat.reduceLT, decide_true, Nat.reduceBEq, Nat.reduceAdd, IOp.dst, IOp.isF, IOp.args, coolOp, Nat.reduceSub]
  repeat' (refine sel_split (fun h => ?_) (fun h => ?_))
  all_goals (simp_all [inR] <;> (intros; omega))
def letter (c : UInt8) : Bool := decide (97 ≤ (c.toNat : Int)) && decide ((c.toNat : Int) ≤ 122)
def keyValid (s : Str) : Bool := decide (1 ≤ s.length) && decide (s.length ≤ 4) && s.all letter
theorem cut1 (n : Nat) : vcut (n + 1) (some (DI 1)) none = some (1, n + 1) := by
  have : (1 : Int) ≤ (n : Int) + 1 := by omega
  simp [vcut, D.int?, this]
theorem lettersOnly_ok : ∀ s : Str, EE F 195 [S s] [] = ok1 (B (s.all letter))
  | [] => by
    rw [R195, b195]
    simp only [↓xP, xQ, xR, flatR, eqCells_ok, eqSh, eqBs, Nat.reduceLT, decide_true, Nat.reduceBEq, Nat.reduceAdd, IOp.dst, IOp.isF, IOp.args, coolOp, Nat.reduceSub]
  | c :: s => by
    have h2 : (List.take (s.length + 1) (c :: s)).drop 1 = s := by simp
    rw [R195, b195]
    simp only [↓xP, xQ, xR, flatR, eqCells_ok, eqSh, eqBs, Nat.reduceLT, decide_true, Nat.reduceBEq, Nat.reduceAdd, IOp.dst, IOp.isF, IOp.args, coolOp, Nat.reduceSub, cut1, lettersOnly_ok s, reduceCtorEq, letter, List.take_of_length_le]
    repeat' (refine sel_split (fun h => ?_) (fun h => ?_))
    all_goals (simp_all <;> (intros; omega))
theorem keyValid_impl (s : Str) : EE F 137 [S s] [] = ok1 (B (keyValid s)) := by
  rw [R137, b137]
  simp only [↓xP, xQ, xR, flatR, eqCells_ok, eqSh, eqBs, Nat.reduceLT, decide_true, Nat.reduceBEq, Nat.reduceAdd, IOp.dst, IOp.isF, IOp.args, coolOp, Nat.reduceSub, lettersOnly_ok]
  repeat' (refine sel_split (fun h => ?_) (fun h => ?_))
  all_goals (simp_all [keyValid] <;> (intros; omega))
theorem keyValid_spec (s : Str) : EE F 172 [S s] [] = ok1 (B (keyValid s)) := by
  rw [R172, b172]
  simp only [↓xP, xQ, xR, flatR, eqCells_ok, eqSh, eqBs, Nat.reduceLT, decide_true, Nat.reduceBEq, Nat.reduceAdd, IOp.dst, IOp.isF, IOp.args, coolOp, Nat.reduceSub, l1In_ok]
  refine sel_split (fun h => ?_) (fun h => ?_)
  · simp_all [keyValid, inR]
    omega
  · simp only [Bool.not_eq_false', inR, Bool.and_eq_true, decide_eq_true_eq] at h
    refine (loop_ind (fun (i : Nat) st => i ≤ s.length ∧ st.s 0 = DU (.str s) ∧ st.s 3 = DI i) (fun i => s.length - i) (fun i => ok1 (B ((s.drop i).all letter))) ?_ 0 ⟨by omega, by simp only [↓xP, xQ, Nat.reduceBEq], by simp only [↓xP, xQ, Nat.reduceBEq]; rfl⟩).trans ?_
    · rintro i st ⟨hle, h0, h3⟩ ih
      by_cases hi : i < s.length
      · have hc : s[i]? = some s[i] := List.getElem?_eq_getElem hi
        have hd : s.drop i = s[i] :: s.drop (i + 1) := List.drop_eq_getElem_cons hi
        have hw := w_succ (i := i) (by omega)
        simp only [↓xP, xQ, xR, flatR, eqCells_ok, eqSh, eqBs, Nat.reduceLT, decide_true, Nat.reduceBEq, Nat.reduceAdd, IOp.dst, IOp.isF, IOp.args, coolOp, Nat.reduceSub, h0, h3, hi, hc, hw]
        rw [hd]
        generalize s[i] = c
        repeat' (refine sel_split (fun h => ?_) (fun h => ?_))
        · simp_all [letter]
          omega
        · simp_all [letter]
          omega
        · rw [ih (i + 1) _ (by omega) ⟨by omega, by simp only [↓xP, xQ, Nat.reduceBEq, h0], by simp only [↓xP, xQ, Nat.reduceBEq]⟩]
          simp_all [letter]
      · simp only [↓xP, xQ, xR, flatR, eqCells_ok, eqSh, eqBs, Nat.reduceLT, decide_true, Nat.reduceBEq, Nat.reduceAdd, IOp.dst, IOp.isF, IOp.args, coolOp, Nat.reduceSub, h0, h3, hi]
        rw [List.drop_of_length_le (by omega)]; rfl
    · simp [keyValid]
      omega
theorem lt_nil (s : Str) : strLt [] s = decide (s ≠ []) := by cases s <;> simp [strLt, Op.bytesLess]
theorem lt_nil' (s : Str) : strLt s [] = false := by cases s <;> simp [strLt, Op.bytesLess]
theorem lt_cons (a b : UInt8) (s t : Str) : strLt (a :: s) (b :: t) = (decide (a < b) || (a == b && strLt s t)) := rfl
theorem lt_irrefl : ∀ s : Str, strLt s s = false
  | [] => rfl
  | a :: s => by rw [lt_cons, lt_irrefl s]; simp
theorem lt_trans : ∀ {s t u : Str}, strLt s t = true → strLt t u = true → strLt s u = true
  | _, [], _, h, _ => by rw [lt_nil'] at h; cases h
  | _, b :: t, [], _, h => by rw [lt_nil'] at h; cases h
  | [], b :: t, c :: u, _, _ => by rw [lt_nil]; simp
  | a :: s, b :: t, c :: u, h1, h2 => by
    rw [lt_cons] at h1 h2 ⊢
    simp only [Bool.or_eq_true, Bool.and_eq_true, decide_eq_true_eq, beq_iff_eq] at h1 h2 ⊢
    rcases h1 with h1 | ⟨rfl, h1⟩
    · rcases h2 with h2 | ⟨rfl, h2⟩
      · exact .inl (UInt8.lt_trans h1 h2)
      · exact .inl h1
    · rcases h2 with h2 | ⟨rfl, h2⟩
      · exact .inl h2
      · exact .inr ⟨rfl, lt_trans h1 h2⟩
theorem lt_asymm {s t : Str} (h : strLt s t = true) : strLt t s = false := by
  cases hq : strLt t s with
  | false => rfl
  | true => have := lt_trans h hq; rw [lt_irrefl] at this; cases this
theorem lt_total : ∀ (s t : Str), strLt s t = true ∨ s = t ∨ strLt t s = true
  | [], [] => .inr (.inl rfl)
  | [], b :: t => .inl (by rw [lt_nil]; simp)
  | a :: s, [] => .inr (.inr (by rw [lt_nil]; simp))
  | a :: s, b :: t => by
    rw [lt_cons, lt_cons]
    simp only [Bool.or_eq_true, Bool.and_eq_true, decide_eq_true_eq, beq_iff_eq, List.cons.injEq]
    rcases Nat.lt_trichotomy a.toNat b.toNat with h | h | h
    · exact .inl (.inl (UInt8.lt_iff_toNat_lt.2 h))
    rotate_left
    · exact .inr (.inr (.inl (UInt8.lt_iff_toNat_lt.2 h)))
    · have h := UInt8.toNat_inj.1 h
      subst h
      rcases lt_total s t with h | h | h
      · exact .inl (.inr ⟨rfl, h⟩)
      · exact .inr (.inl ⟨rfl, h⟩)
      · exact .inr (.inr (.inr ⟨rfl, h⟩))
/-- For other strings 'at most' is 'not greater'. -/
theorem le_iff (s t : Str) : (strLt s t || decide (s = t)) = !strLt t s := by
  rcases lt_total s t with h | h | h
  · simp [h, lt_asymm h]
  · subst h; simp [lt_irrefl]
  · have h1 := lt_asymm h
    have h2 : ¬ s = t := fun e => by subst e; rw [lt_irrefl] at h; cases h
    simp [h, h1, h2]
def intervalValid (v : Interval) : Bool := (decide (v.low = []) || keyValid v.low) && (decide (v.high = []) || keyValid v.high) && (decide (v.high = []) || strLt (if v.low = [] then [97] else v.low) v.high)
theorem lowestKey_ok (lo hi : Str) : EE F 171 [.ag [.u (.str lo), .u (.str hi)]] [] = ok1 (S (if lo = [] then [97] else lo)) := by
  rw [R171, b171]
  simp only [↓xP, xQ, xR, flatR, eqCells_ok, eqSh, eqBs, Nat.reduceLT, decide_true, Nat.reduceBEq, Nat.reduceAdd, IOp.dst, IOp.isF, IOp.args, coolOp, Nat.reduceSub]
  repeat' (refine sel_split (fun h => ?_) (fun h => ?_))
  all_goals simp_all
theorem intervalValid_impl (lo hi : Str) : EE F 102 [.ag [.u (.str lo), .u (.str hi)]] [] = ok1 (B (intervalValid ⟨lo, hi⟩)) := by
  rw [R102, b102]
  simp only [↓xP, xQ, xR, flatR, eqCells_ok, eqSh, eqBs, Nat.reduceLT, decide_true, Nat.reduceBEq, Nat.reduceAdd, IOp.dst, IOp.isF, IOp.args, coolOp, Nat.reduceSub, keyValid_impl, lowestKey_ok]
  repeat' (refine sel_split (fun h => ?_) (fun h => ?_))
  all_goals simp_all [intervalValid]
/-- A valid key after "a". -/
theorem lt_a {s : Str} (h : keyValid s = true) : strLt [97] s = decide (s ≠ [97]) := by
  match s, h with
  | [], h => simp [keyValid] at h
  | c :: t, h =>
    simp only [keyValid, letter, List.all_cons, Bool.and_eq_true, decide_eq_true_eq] at h
    have hc : 97 ≤ c.toNat := by omega
    rw [lt_cons, lt_nil]
    by_cases e : c = 97
    · subst e; simp
    · have h1 : (97 : UInt8) < c := by
        rw [UInt8.lt_iff_toNat_lt]
        have : c.toNat ≠ 97 := fun q => e (UInt8.toNat_inj.1 q)
        show 97 < c.toNat
        omega
      simp [h1, e]
theorem intervalValid_spec (lo hi : Str) : EE F 104 [.ag [.u (.str lo), .u (.str hi)]] [] = ok1 (B (intervalValid ⟨lo, hi⟩)) := by
  rw [R104, b104]
  simp only [↓xP, xQ, xR, flatR, eqCells_ok, eqSh, eqBs, Nat.reduceLT, decide_true, Nat.reduceBEq, Nat.reduceAdd, IOp.dst, IOp.isF, IOp.args, coolOp, Nat.reduceSub, keyValid_spec]
  repeat' (refine sel_split (fun h => ?_) (fun h => ?_))
  all_goals simp_all [intervalValid, lt_nil, lt_a]
/-- A key is between the bounds. -/
def inside (v : Interval) (key : Str) : Bool := !strLt key v.low && (decide (v.high = []) || strLt key v.high)
theorem inside_ok (lo hi key : Str) : EE F 103 [.ag [.u (.str lo), .u (.str hi)], S key] [] = ok1 (B (inside ⟨lo, hi⟩ key)) := by
  rw [R103, b103]
  simp only [↓xP, xQ, xR, flatR, eqCells_ok, eqSh, eqBs, Nat.reduceLT, decide_true, Nat.reduceBEq, Nat.reduceAdd, IOp.dst, IOp.isF, IOp.args, coolOp, Nat.reduceSub, le_iff]
  repeat' (refine sel_split (fun h => ?_) (fun h => ?_))
  all_goals simp_all [inside]
def intervalHas (v : Interval) (key : Str) : Bool := intervalValid v && keyValid key && inside v key
theorem intervalHas_spec (lo hi key : Str) : EE F 106 [.ag [.u (.str lo), .u (.str hi)], S key] [] = ok1 (B (intervalHas ⟨lo, hi⟩ key)) := by
  rw [R106, b106]
  simp only [↓xP, xQ, xR, flatR, eqCells_ok, eqSh, eqBs, Nat.reduceLT, decide_true, Nat.reduceBEq, Nat.reduceAdd, IOp.dst, IOp.isF, IOp.args, coolOp, Nat.reduceSub, intervalValid_spec, keyValid_spec]
  repeat' (refine sel_split (fun h => ?_) (fun h => ?_))
  all_goals simp_all [intervalHas, inside]
def pairAt (l : List Pair) (i : Nat) : Bool := match l[i]? with
  | some p => keyValid p.key && inR p.value 0 999 && (decide (i = 0) || (match l[i - 1]? with
    | some q => strLt q.key p.key
    | none => true))
  | none => true
def pairsValid (l : List Pair) : Bool := decide (l.length ≤ 48) && allF l.length (pairAt l) 0
theorem pairsValid_impl (l : List Pair) : EE F 65 [L 2 (l.map Pair.u)] [] = ok1 (B (pairsValid l)) := by
  rw [R65, b65]
  simp only [↓xP, xQ, xR, flatR, eqCells_ok, eqSh, eqBs, Nat.reduceLT, decide_true, Nat.reduceBEq, Nat.reduceAdd, IOp.dst, IOp.isF, IOp.args, coolOp, Nat.reduceSub]
  refine sel_split (fun h => ?_) (fun h => ?_)
  · simp only [decide_eq_true_eq] at h
    simp [pairsValid, show ¬ l.length ≤ 48 by omega]
  · simp only [decide_eq_false_iff_not] at h
    refine (loop_ind (fun (i : Nat) st => st.s 0 = DU (.sl 2 (l.map Pair.u)) ∧ st.s 8 = DU (.sl 2 (l.map Pair.u)) ∧ st.s 9 = DI l.length ∧ st.s 10 = DI i) (fun i => l.length - i) (fun i => ok1 (B (allF l.length (pairAt l) i))) ?_ 0 ⟨by simp only [↓xP, xQ, xR, flatR, eqCells_ok, eqSh, eqBs, Nat.reduceLT, decide_true, Nat.reduceBEq, Nat.reduceAdd, IOp.dst, IOp.isF, IOp.args, coolOp, Nat.reduceSub], by simp only [↓xP, xQ, xR, flatR, eqCells_ok, eqSh, eqBs, Nat.reduceLT, decide_true, Nat.reduceBEq, Nat.reduceAdd, IOp.dst, IOp.isF, IOp.args, coolOp, Nat.reduceSub], by simp only [↓xP, xQ, xR, flatR, eqCells_ok, eqSh, eqBs, Nat.reduceLT, decide_true, Nat.reduceBEq, Nat.reduceAdd, IOp.dst, IOp.isF, IOp.args, coolOp, Nat.reduceSub], by simp only [↓xP, xQ, xR, flatR, eqCells_ok, eqSh, eqBs, Nat.reduceLT, decide_true, Nat.reduceBEq, Nat.reduceAdd, IOp.dst, IOp.isF, IOp.args, coolOp, Nat.reduceSub]; rfl⟩).trans ?_
    · rintro i st ⟨h0, h8, h9, h10⟩ ih
      by_cases hi : i < l.length
      · obtain ⟨⟨pk, pv⟩, hp⟩ : ∃ p, l[i]? = some p := ⟨_, List.getElem?_eq_getElem hi⟩
        have hw := w_succ (i := i) (by omega)
        rw [allF_lt hi]
        by_cases hz : i = 0
        · have h01 : ¬ (0 : Int) < (i : Int) := by omega
          simp only [↓xP, xQ, xR, flatR, eqCells_ok, eqSh, eqBs, Nat.reduceLT, decide_true, Nat.reduceBEq, Nat.reduceAdd, IOp.dst, IOp.isF, IOp.args, coolOp, Nat.reduceSub, h0, h8, h9, h10, hi, hp, hw, h01, Pair.u, keyValid_impl, valueValid_ok]
          repeat' (refine sel_split (fun h => ?_) (fun h => ?_))
          · simp_all [pairAt]
          · simp_all [pairAt]
          · rw [ih (i + 1) _ (by omega) ⟨by simp only [↓xP, xQ, xR, flatR, eqCells_ok, eqSh, eqBs, Nat.reduceLT, decide_true, Nat.reduceBEq, Nat.reduceAdd, IOp.dst, IOp.isF, IOp.args, coolOp, Nat.reduceSub, h0], by simp only [↓xP, xQ, xR, flatR, eqCells_ok, eqSh, eqBs, Nat.reduceLT, decide_true, Nat.reduceBEq, Nat.reduceAdd, IOp.dst, IOp.isF, IOp.args, coolOp, Nat.reduceSub, h8], by simp only [↓xP, xQ, xR, flatR, eqCells_ok, eqSh, eqBs, Nat.reduceLT, decide_true, Nat.reduceBEq, Nat.reduceAdd, IOp.dst, IOp.isF, IOp.args, coolOp, Nat.reduceSub, h9], by simp only [↓xP, xQ, xR, flatR, eqCells_ok, eqSh, eqBs, Nat.reduceLT, decide_true, Nat.reduceBEq, Nat.reduceAdd, IOp.dst, IOp.isF, IOp.args, coolOp, Nat.reduceSub]⟩]
            simp_all [pairAt]
        · obtain ⟨⟨qk, qv⟩, hq⟩ : ∃ q, l[i - 1]? = some q := ⟨_, List.getElem?_eq_getElem (by omega)⟩
          have hw2 : IntKind.i64.wrap ((i : Int) - 1) = ((i - 1 : Nat) : Int) := by rw [w64 (by omega) (by omega)]; omega
          have h01 : (0 : Int) < (i : Int) := by omega
          simp only [↓xP, xQ, xR, flatR, eqCells_ok, eqSh, eqBs, Nat.reduceLT, decide_true, Nat.reduceBEq, Nat.reduceAdd, IOp.dst, IOp.isF, IOp.args, coolOp, Nat.reduceSub, h0, h8, h9, h10, hi, hp, hw, hw2, hq, h01, Pair.u, keyValid_impl, valueValid_ok]
          repeat' (refine sel_split (fun h => ?_) (fun h => ?_))
          · simp_all [pairAt]
          · simp_all [pairAt]
          · simp_all [pairAt]
          · rw [ih (i + 1) _ (by omega) ⟨by simp only [↓xP, xQ, xR, flatR, eqCells_ok, eqSh, eqBs, Nat.reduceLT, decide_true, Nat.reduceBEq, Nat.reduceAdd, IOp.dst, IOp.isF, IOp.args, coolOp, Nat.reduceSub, h0], by simp only [↓xP, xQ, xR, flatR, eqCells_ok, eqSh, eqBs, Nat.reduceLT, decide_true, Nat.reduceBEq, Nat.reduceAdd, IOp.dst, IOp.isF, IOp.args, coolOp, Nat.reduceSub, h8], by simp only [↓xP, xQ, xR, flatR, eqCells_ok, eqSh, eqBs, Nat.reduceLT, decide_true, Nat.reduceBEq, Nat.reduceAdd, IOp.dst, IOp.isF, IOp.args, coolOp, Nat.reduceSub, h9], by simp only [↓xP, xQ, xR, flatR, eqCells_ok, eqSh, eqBs, Nat.reduceLT, decide_true, Nat.reduceBEq, Nat.reduceAdd, IOp.dst, IOp.isF, IOp.args, coolOp, Nat.reduceSub]⟩]
            simp_all [pairAt]
      · simp only [↓xP, xQ, xR, flatR, eqCells_ok, eqSh, eqBs, Nat.reduceLT, decide_true, Nat.reduceBEq, Nat.reduceAdd, IOp.dst, IOp.isF, IOp.args, coolOp, Nat.reduceSub, h0, h8, h9, h10, hi]
        rw [allF_ge hi]
    · simp [pairsValid, show l.length ≤ 48 by omega]
theorem pairsValid_spec (l : List Pair) : EE F 105 [L 2 (l.map Pair.u)] [] = ok1 (B (pairsValid l)) := by
  rw [R105, b105]
  simp only [↓xP, xQ, xR, flatR, eqCells_ok, eqSh, eqBs, Nat.reduceLT, decide_true, Nat.reduceBEq, Nat.reduceAdd, IOp.dst, IOp.isF, IOp.args, coolOp, Nat.reduceSub]
  refine sel_split (fun h => ?_) (fun h => ?_)
  · simp only [decide_eq_true_eq] at h
    simp [pairsValid, show ¬ l.length ≤ 48 by omega]
  · simp only [decide_eq_false_iff_not] at h
    refine (loop_ind (fun (i : Nat) st => st.s 0 = DU (.sl 2 (l.map Pair.u)) ∧ st.s 3 = DI i) (fun i => l.length - i) (fun i => ok1 (B (allF l.length (pairAt l) i))) ?_ 0 ⟨by simp only [↓xP, xQ, xR, flatR, eqCells_ok, eqSh, eqBs, Nat.reduceLT, decide_true, Nat.reduceBEq, Nat.reduceAdd, IOp.dst, IOp.isF, IOp.args, coolOp, Nat.reduceSub], by simp only [↓xP, xQ, xR, flatR, eqCells_ok, eqSh, eqBs, Nat.reduceLT, decide_true, Nat.reduceBEq, Nat.reduceAdd, IOp.dst, IOp.isF, IOp.args, coolOp, Nat.reduceSub]; rfl⟩).trans ?_
    · rintro i st ⟨h0, h3⟩ ih
      by_cases hi : i < l.length
      · obtain ⟨⟨pk, pv⟩, hp⟩ : ∃ p, l[i]? = some p := ⟨_, List.getElem?_eq_getElem hi⟩
        have hw := w_succ (i := i) (by omega)
        rw [allF_lt hi]
        by_cases hz : i = 0
        · have h01 : ¬ (0 : Int) < (i : Int) := by omega
          simp only [↓xP, xQ, xR, flatR, eqCells_ok, eqSh, eqBs, Nat.reduceLT, decide_true, Nat.reduceBEq, Nat.reduceAdd, IOp.dst, IOp.isF, IOp.args, coolOp, Nat.reduceSub, h0, h3, hi, hp, hw, h01, Pair.u, keyValid_spec, l1In_ok]
          repeat' (refine sel_split (fun h => ?_) (fun h => ?_))
          · simp_all [pairAt]
          · simp_all [pairAt]
          · rw [ih (i + 1) _ (by omega) ⟨by simp only [↓xP, xQ, xR, flatR, eqCells_ok, eqSh, eqBs, Nat.reduceLT, decide_true, Nat.reduceBEq, Nat.reduceAdd, IOp.dst, IOp.isF, IOp.args, coolOp, Nat.reduceSub, h0], by simp only [↓xP, xQ, xR, flatR, eqCells_ok, eqSh, eqBs, Nat.reduceLT, decide_true, Nat.reduceBEq, Nat.reduceAdd, IOp.dst, IOp.isF, IOp.args, coolOp, Nat.reduceSub]⟩]
            simp_all [pairAt]
        · obtain ⟨⟨qk, qv⟩, hq⟩ : ∃ q, l[i - 1]? = some q := ⟨_, List.getElem?_eq_getElem (by omega)⟩
          have hw2 : IntKind.i64.wrap ((i : Int) - 1) = ((i - 1 : Nat) : Int) := by rw [w64 (by omega) (by omega)]; omega
          have h01 : (0 : Int) < (i : Int) := by omega
          simp only [↓xP, xQ, xR, flatR, eqCells_ok, eqSh, eqBs, Nat.reduceLT, decide_true, Nat.reduceBEq, Nat.reduceAdd, IOp.dst, IOp.isF, IOp.args, coolOp, Nat.reduceSub, h0, h3, hi, hp, hw, hw2, hq, h01, Pair.u, keyValid_spec, l1In_ok, le_iff]
          repeat' (refine sel_split (fun h => ?_) (fun h => ?_))
          · simp_all [pairAt]
          · simp_all [pairAt]
          · simp_all [pairAt]
          · rw [ih (i + 1) _ (by omega) ⟨by simp only [↓xP, xQ, xR, flatR, eqCells_ok, eqSh, eqBs, Nat.reduceLT, decide_true, Nat.reduceBEq, Nat.reduceAdd, IOp.dst, IOp.isF, IOp.args, coolOp, Nat.reduceSub, h0], by simp only [↓xP, xQ, xR, flatR, eqCells_ok, eqSh, eqBs, Nat.reduceLT, decide_true, Nat.reduceBEq, Nat.reduceAdd, IOp.dst, IOp.isF, IOp.args, coolOp, Nat.reduceSub]⟩]
            simp_all [pairAt]
      · simp only [↓xP, xQ, xR, flatR, eqCells_ok, eqSh, eqBs, Nat.reduceLT, decide_true, Nat.reduceBEq, Nat.reduceAdd, IOp.dst, IOp.isF, IOp.args, coolOp, Nat.reduceSub, h0, h3, hi]
        rw [allF_ge hi]
    · simp [pairsValid, show l.length ≤ 48 by omega]
theorem pairsValid_at {l : List Pair} (h : pairsValid l = true) {i : Nat} {p : Pair} (hp : l[i]? = some p) : keyValid p.key = true ∧ inR p.value 0 999 = true := by
  simp only [pairsValid, Bool.and_eq_true, decide_eq_true_eq] at h
  have := (allF_iff _ 0 rfl).1 h.2 i (by omega) (List.getElem?_eq_some_iff.1 hp).1
  simp only [pairAt, hp, Bool.and_eq_true] at this
  exact this.1
def pieceValid (p : Piece) : Bool := intervalValid p.span && pairsValid p.pairs && p.pairs.all fun q => inside p.span q.key
theorem pieceValid_impl (lo hi : Str) (l : List Pair) : EE F 37 [.ag [.u (.str lo), .u (.str hi), .u (.sl 2 (l.map Pair.u))]] [] = ok1 (B (pieceValid ⟨⟨lo, hi⟩, l⟩)) := by
  rw [R37, b37]
  simp only [↓xP, xQ, xR, flatR, eqCells_ok, eqSh, eqBs, Nat.reduceLT, decide_true, Nat.reduceBEq, Nat.reduceAdd, IOp.dst, IOp.isF, IOp.args, coolOp, Nat.reduceSub, intervalValid_impl, pairsValid_impl]
  refine sel_split (fun h => ?_) (fun h => ?_)
  · simp_all [pieceValid]
  refine sel_split (fun h2 => ?_) (fun h2 => ?_)
  · simp_all [pieceValid]
  simp only [Bool.not_eq_false'] at h h2
  have hlen : l.length ≤ 48 := by simp only [pairsValid, Bool.and_eq_true, decide_eq_true_eq] at h2; exact h2.1
  refine (loop_ind (fun (i : Nat) st => st.s 1 = .t (.sc (.ptr (.loc 1 0) 0 0)) ∧ st.o (.loc 1 0) = some (.box [.u (.str lo), .u (.str hi), .u (.sl 2 (l.map Pair.u))]) ∧ st.s 16 = DU (.sl 2 (l.map Pair.u)) ∧ st.s 17 = DI l.length ∧ st.s 18 = DI i) (fun i => l.length - i) (fun i => ok1 (B ((l.drop i).all fun q => inside ⟨lo, hi⟩ q.key))) ?_ 0 ⟨by simp only [↓xP, xQ, xR, flatR, eqCells_ok, eqSh, eqBs, Nat.reduceLT, decide_true, Nat.reduceBEq, Nat.reduceAdd, IOp.dst, IOp.isF, IOp.args, coolOp, Nat.reduceSub], by simp only [↓xP, xQ, xR, flatR, eqCells_ok, eqSh, eqBs, Nat.reduceLT, decide_true, Nat.reduceBEq, Nat.reduceAdd, IOp.dst, IOp.isF, IOp.args, coolOp, Nat.reduceSub], by simp only [↓xP, xQ, xR, flatR, eqCells_ok, eqSh, eqBs, Nat.reduceLT, decide_true, Nat.reduceBEq, Nat.reduceAdd, IOp.dst, IOp.isF, IOp.args, coolOp, Nat.reduceSub], by simp only [↓xP, xQ, xR, flatR, eqCells_ok, eqSh, eqBs, Nat.reduceLT, decide_true, Nat.reduceBEq, Nat.reduceAdd, IOp.dst, IOp.isF, IOp.args, coolOp, Nat.reduceSub], by simp only [↓xP, xQ, xR, flatR, eqCells_ok, eqSh, eqBs, Nat.reduceLT, decide_true, Nat.reduceBEq, Nat.reduceAdd, IOp.dst, IOp.isF, IOp.args, coolOp, Nat.reduceSub]; rfl⟩).trans ?_
  · rintro i st ⟨h1, ho, h16, h17, h18⟩ ih
    by_cases hi' : i < l.length
    · obtain ⟨⟨pk, pv⟩, hp⟩ : ∃ p, l[i]? = some p := ⟨_, List.getElem?_eq_getElem hi'⟩
      have hd : l.drop i = ⟨pk, pv⟩ :: l.drop (i + 1) := by rw [List.drop_eq_getElem_cons hi', (List.getElem?_eq_some_iff.1 hp).2]
      have hw := w_succ (i := i) (by omega)
      simp only [↓xP, xQ, xR, flatR, eqCells_ok, eqSh, eqBs, Nat.reduceLT, decide_true, Nat.reduceBEq, Nat.reduceAdd, IOp.dst, IOp.isF, IOp.args, coolOp, Nat.reduceSub, h1, ho, h16, h17, h18, hi', hp, hw, Pair.u, inside_ok]
      rw [hd]
      refine sel_split (fun h => ?_) (fun h => ?_)
      · simp_all
      · rw [ih (i + 1) _ (by omega) ⟨by simp only [↓xP, xQ, xR, flatR, eqCells_ok, eqSh, eqBs, Nat.reduceLT, decide_true, Nat.reduceBEq, Nat.reduceAdd, IOp.dst, IOp.isF, IOp.args, coolOp, Nat.reduceSub, h1], by simp only [↓xP, xQ, xR, flatR, eqCells_ok, eqSh, eqBs, Nat.reduceLT, decide_true, Nat.reduceBEq, Nat.reduceAdd, IOp.dst, IOp.isF, IOp.args, coolOp, Nat.reduceSub, ho], by simp only [↓xP, xQ, xR, flatR, eqCells_ok, eqSh, eqBs, Nat.reduceLT, decide_true, Nat.reduceBEq, Nat.reduceAdd, IOp.dst, IOp.isF, IOp.args, coolOp, Nat.reduceSub, h16], by simp only [↓xP, xQ, xR, flatR, eqCells_ok, eqSh, eqBs, Nat.reduceLT, decide_true, Nat.reduceBEq, Nat.reduceAdd, IOp.dst, IOp.isF, IOp.args, coolOp, Nat.reduceSub, h17], by simp only [↓xP, xQ, xR, flatR, eqCells_ok, eqSh, eqBs, Nat.reduceLT, decide_true, Nat.reduceBEq, Nat.reduceAdd, IOp.dst, IOp.isF, IOp.args, coolOp, Nat.reduceSub]⟩]
        simp_all
    · simp only [↓xP, xQ, xR, flatR, eqCells_ok, eqSh, eqBs, Nat.reduceLT, decide_true, Nat.reduceBEq, Nat.reduceAdd, IOp.dst, IOp.isF, IOp.args, coolOp, Nat.reduceSub, h1, ho, h16, h17, h18, hi']
      rw [List.drop_of_length_le (by omega)]; rfl
  · simp [pieceValid, h, h2]
theorem pieceValid_spec (lo hi : Str) (l : List Pair) : EE F 38 [.ag [.u (.str lo), .u (.str hi), .u (.sl 2 (l.map Pair.u))]] [] = ok1 (B (pieceValid ⟨⟨lo, hi⟩, l⟩)) := by
  rw [R38, b38]
  simp only [↓xP, xQ, xR, flatR, eqCells_ok, eqSh, eqBs, Nat.reduceLT, decide_true, Nat.reduceBEq, Nat.reduceAdd, IOp.dst, IOp.isF, IOp.args, coolOp, Nat.reduceSub, intervalValid_spec, pairsValid_spec]
  refine sel_split (fun h => ?_) (fun h => ?_)
  · simp_all [pieceValid]
  refine sel_split (fun h2 => ?_) (fun h2 => ?_)
  · simp_all [pieceValid]
  simp only [Bool.not_eq_false'] at h h2
  have hlen : l.length ≤ 48 := by simp only [pairsValid, Bool.and_eq_true, decide_eq_true_eq] at h2; exact h2.1
  refine (loop_ind (fun (i : Nat) st => st.s 1 = .t (.sc (.ptr (.loc 1 0) 0 0)) ∧ st.o (.loc 1 0) = some (.box [.u (.str lo), .u (.str hi), .u (.sl 2 (l.map Pair.u))]) ∧ st.s 3 = DI i) (fun i => l.length - i) (fun i => ok1 (B ((l.drop i).all fun q => inside ⟨lo, hi⟩ q.key))) ?_ 0 ⟨by simp only [↓xP, xQ, xR, flatR, eqCells_ok, eqSh, eqBs, Nat.reduceLT, decide_true, Nat.reduceBEq, Nat.reduceAdd, IOp.dst, IOp.isF, IOp.args, coolOp, Nat.reduceSub], by simp only [↓xP, xQ, xR, flatR, eqCells_ok, eqSh, eqBs, Nat.reduceLT, decide_true, Nat.reduceBEq, Nat.reduceAdd, IOp.dst, IOp.isF, IOp.args, coolOp, Nat.reduceSub], by simp only [↓xP, xQ, xR, flatR, eqCells_ok, eqSh, eqBs, Nat.reduceLT, decide_true, Nat.reduceBEq, Nat.reduceAdd, IOp.dst, IOp.isF, IOp.args, coolOp, Nat.reduceSub]; rfl⟩).trans ?_
  · rintro i st ⟨h1, ho, h3⟩ ih
    by_cases hi' : i < l.length
    · obtain ⟨⟨pk, pv⟩, hp⟩ : ∃ p, l[i]? = some p := ⟨_, List.getElem?_eq_getElem hi'⟩
      have hd : l.drop i = ⟨pk, pv⟩ :: l.drop (i + 1) := by rw [List.drop_eq_getElem_cons hi', (List.getElem?_eq_some_iff.1 hp).2]
      have hw := w_succ (i := i) (by omega)
      have hk := (pairsValid_at h2 hp).1
      simp only [↓xP, xQ, xR, flatR, eqCells_ok, eqSh, eqBs, Nat.reduceLT, decide_true, Nat.reduceBEq, Nat.reduceAdd, IOp.dst, IOp.isF, IOp.args, coolOp, Nat.reduceSub, h1, ho, h3, hi', hp, hw, Pair.u, intervalHas_spec]
      rw [hd]
      refine sel_split (fun h => ?_) (fun h => ?_)
      · simp_all [intervalHas]
      · rw [ih (i + 1) _ (by omega) ⟨by simp only [↓xP, xQ, xR, flatR, eqCells_ok, eqSh, eqBs, Nat.reduceLT, decide_true, Nat.reduceBEq, Nat.reduceAdd, IOp.dst, IOp.isF, IOp.args, coolOp, Nat.reduceSub, h1], by simp only [↓xP, xQ, xR, flatR, eqCells_ok, eqSh, eqBs, Nat.reduceLT, decide_true, Nat.reduceBEq, Nat.reduceAdd, IOp.dst, IOp.isF, IOp.args, coolOp, Nat.reduceSub, ho], by simp only [↓xP, xQ, xR, flatR, eqCells_ok, eqSh, eqBs, Nat.reduceLT, decide_true, Nat.reduceBEq, Nat.reduceAdd, IOp.dst, IOp.isF, IOp.args, coolOp, Nat.reduceSub]⟩]
        simp_all [intervalHas]
    · simp only [↓xP, xQ, xR, flatR, eqCells_ok, eqSh, eqBs, Nat.reduceLT, decide_true, Nat.reduceBEq, Nat.reduceAdd, IOp.dst, IOp.isF, IOp.args, coolOp, Nat.reduceSub, h1, ho, h3, hi']
      rw [List.drop_of_length_le (by omega)]; rfl
  · simp [pieceValid, h, h2]
def cutOk (v : Interval) (key : Str) : Bool := intervalValid v && keyValid key && intervalValid ⟨v.low, key⟩ && intervalValid ⟨key, v.high⟩
def cutRet (v : Interval) (key : Str) : Option Ret := sel (cutOk v key) (some ⟨[.ag [.u (.str v.low), .u (.str key)], .ag [.u (.str key), .u (.str v.high)], B true], [], []⟩) (some ⟨[.ag [.u (.str []), .u (.str [])], .ag [.u (.str []), .u (.str [])], B false], [], []⟩)
theorem intervalCut_spec (lo hi key : Str) : EE F 190 [.ag [.u (.str lo), .u (.str hi)], S key] [] = cutRet ⟨lo, hi⟩ key := by
  rw [R190, b190]
  simp only [↓xP, xQ, xR, flatR, eqCells_ok, eqSh, eqBs, Nat.reduceLT, decide_true, Nat.reduceBEq, Nat.reduceAdd, IOp.dst, IOp.isF, IOp.args, coolOp, Nat.reduceSub, intervalValid_spec, keyValid_spec]
  repeat' (refine sel_split (fun h => ?_) (fun h => ?_))
  all_goals simp_all [cutOk, cutRet, sel]
def joinOk (a b : Interval) : Bool := intervalValid a && intervalValid b && !decide (a.high = []) && decide (a.high = b.low)
def joinRet (a b : Interval) : Option Ret := sel (joinOk a b) (some ⟨[.ag [.u (.str a.low), .u (.str b.high)], B true], [], []⟩) (some ⟨[.ag [.u (.str []), .u (.str [])], B false], [], []⟩)
theorem intervalJoin_spec (al ah bl bh : Str) : EE F 135 [.ag [.u (.str al), .u (.str ah)], .ag [.u (.str bl), .u (.str bh)]] [] = joinRet ⟨al, ah⟩ ⟨bl, bh⟩ := by
  rw [R135, b135]
  simp only [↓xP, xQ, xR, flatR, eqCells_ok, eqSh, eqBs, Nat.reduceLT, decide_true, Nat.reduceBEq, Nat.reduceAdd, IOp.dst, IOp.isF, IOp.args, coolOp, Nat.reduceSub, intervalValid_spec]
  repeat' (refine sel_split (fun h => ?_) (fun h => ?_))
  all_goals simp_all [joinOk, joinRet, sel]
def sessionAt (l : List Session) (i : Nat) : Bool := match l[i]? with
  | none => true
  | some s => inR s.client 0 3 && inR s.seq 1 999 && inR s.reply (-2) 999 && (decide (i = 0) || (match l[i - 1]? with
    | some r => decide (r.client < s.client)
    | none => true))
def sessionsValid (l : List Session) : Bool := allF l.length (sessionAt l) 0
theorem sessionsValid_spec (l : List Session) (hn : l.length ≤ 4611686018427387904) : EE F 189 [L 3 (l.map Session.u)] [] = ok1 (B (sessionsValid l)) := by
  rw [R189, b189]
  simp only [↓xP, xQ, xR, flatR, eqCells_ok, eqSh, eqBs, Nat.reduceLT, decide_true, Nat.reduceBEq, Nat.reduceAdd, IOp.dst, IOp.isF, IOp.args, coolOp, Nat.reduceSub]
  refine (loop_ind (fun (i : Nat) st => st.s 0 = DU (.sl 3 (l.map Session.u)) ∧ st.s 3 = DI i) (fun i => l.length - i) (fun i => ok1 (B (allF l.length (sessionAt l) i))) ?_ 0 ⟨by simp only [↓xP, xQ, xR, flatR, eqCells_ok, eqSh, eqBs, Nat.reduceLT, decide_true, Nat.reduceBEq, Nat.reduceAdd, IOp.dst, IOp.isF, IOp.args, coolOp, Nat.reduceSub], by simp only [↓xP, xQ, xR, flatR, eqCells_ok, eqSh, eqBs, Nat.reduceLT, decide_true, Nat.reduceBEq, Nat.reduceAdd, IOp.dst, IOp.isF, IOp.args, coolOp, Nat.reduceSub]; rfl⟩).trans ?_
  · rintro i st ⟨h0, h3⟩ ih
    by_cases hi : i < l.length
    · obtain ⟨⟨c, s, r⟩, hp⟩ : ∃ p, l[i]? = some p := ⟨_, List.getElem?_eq_getElem hi⟩
      have hw := w_succ (i := i) (by omega)
      rw [allF_lt hi]
      by_cases hz : i = 0
      · have h01 : ¬ (0 : Int) < (i : Int) := by omega
        simp only [↓xP, xQ, xR, flatR, eqCells_ok, eqSh, eqBs, Nat.reduceLT, decide_true, Nat.reduceBEq, Nat.reduceAdd, IOp.dst, IOp.isF, IOp.args, coolOp, Nat.reduceSub, h0, h3, hi, hp, hw, h01, Session.u, l1In_ok]
        repeat' (refine sel_split (fun h => ?_) (fun h => ?_))
        all_goals first | (rw [ih (i + 1) _ (by omega) ⟨by simp only [↓xP, xQ, xR, flatR, eqCells_ok, eqSh, eqBs, Nat.reduceLT, decide_true, Nat.reduceBEq, Nat.reduceAdd, IOp.dst, IOp.isF, IOp.args, coolOp, Nat.reduceSub, h0], by simp only [↓xP, xQ, xR, flatR, eqCells_ok, eqSh, eqBs, Nat.reduceLT, decide_true, Nat.reduceBEq, Nat.reduceAdd, IOp.dst, IOp.isF, IOp.args, coolOp, Nat.reduceSub]⟩]; simp_all [sessionAt]; done) | (simp_all [sessionAt]; done)
      · obtain ⟨⟨qc, qs, qr⟩, hq⟩ : ∃ q, l[i - 1]? = some q := ⟨_, List.getElem?_eq_getElem (by omega)⟩
        have hw2 : IntKind.i64.wrap ((i : Int) - 1) = ((i - 1 : Nat) : Int) := by rw [w64 (by omega) (by omega)]; omega
        have h01 : (0 : Int) < (i : Int) := by omega
        simp only [↓xP, xQ, xR, flatR, eqCells_ok, eqSh, eqBs, Nat.reduceLT, decide_true, Nat.reduceBEq, Nat.reduceAdd, IOp.dst, IOp.isF, IOp.args, coolOp, Nat.reduceSub, h0, h3, hi, hp, hw, hw2, hq, h01, Session.u, l1In_ok]
        repeat' (refine sel_split (fun h => ?_) (fun h => ?_))
        all_goals first | (rw [ih (i + 1) _ (by omega) ⟨by simp only [↓xP, xQ, xR, flatR, eqCells_ok, eqSh, eqBs, Nat.reduceLT, decide_true, Nat.reduceBEq, Nat.reduceAdd, IOp.dst, IOp.isF, IOp.args, coolOp, Nat.reduceSub, h0], by simp only [↓xP, xQ, xR, flatR, eqCells_ok, eqSh, eqBs, Nat.reduceLT, decide_true, Nat.reduceBEq, Nat.reduceAdd, IOp.dst, IOp.isF, IOp.args, coolOp, Nat.reduceSub]⟩]; simp_all [sessionAt]; done) | (simp_all [sessionAt]; done) | (simp_all [sessionAt] <;> (intros; omega))
    · simp only [↓xP, xQ, xR, flatR, eqCells_ok, eqSh, eqBs, Nat.reduceLT, decide_true, Nat.reduceBEq, Nat.reduceAdd, IOp.dst, IOp.isF, IOp.args, coolOp, Nat.reduceSub, h0, h3, hi]
      rw [allF_ge hi]
  · rfl
def stateValid (s : State) : Bool := intervalValid s.span && pairsValid s.pairs && sessionsValid s.known && (s.pairs.all fun q => inside s.span q.key) && (decide (s.cut = []) || s.sealed && cutOk s.span s.cut)
theorem pairsValid_len {l : List Pair} (h : pairsValid l = true) : l.length ≤ 48 := by
  simp only [pairsValid, Bool.and_eq_true, decide_eq_true_eq] at h; exact h.1
theorem stateValid_spec (lo hi : Str) (l : List Pair) (k : List Session) (se : Bool) (cut : Str) (hn : k.length ≤ 4611686018427387904) : EE F 125 [.ag [.u (.str lo), .u (.str hi), .u (.sl 2 (l.map Pair.u)), .u (.sl 3 (k.map Session.u)), .u (.bool se), .u (.str cut)]] [] = ok1 (B (stateValid ⟨⟨lo, hi⟩, l, k, se, cut⟩)) := by
  rw [R125, b125]
  simp only [↓xP, xQ, xR, flatR, eqCells_ok, eqSh, eqBs, Nat.reduceLT, decide_true, Nat.reduceBEq, Nat.reduceAdd, IOp.dst, IOp.isF, IOp.args, coolOp, Nat.reduceSub, intervalValid_spec, pairsValid_spec, sessionsValid_spec k hn]
  refine sel_split (fun h => ?_) (fun h => ?_)
  · simp_all [stateValid]
  refine sel_split (fun h2 => ?_) (fun h2 => ?_)
  · simp_all [stateValid]
  refine sel_split (fun h3 => ?_) (fun h3 => ?_)
  · simp_all [stateValid]
  simp only [Bool.not_eq_false'] at h h2 h3
  have hlen := pairsValid_len h2
  refine (loop_ind (fun (i : Nat) st => st.s 1 = .t (.sc (.ptr (.loc 1 0) 0 0)) ∧ st.o (.loc 1 0) = some (.box [.u (.str lo), .u (.str hi), .u (.sl 2 (l.map Pair.u)), .u (.sl 3 (k.map Session.u)), .u (.bool se), .u (.str cut)]) ∧ st.s 3 = DI i) (fun i => l.length - i) (fun i => ok1 (B (((l.drop i).all fun q => inside ⟨lo, hi⟩ q.key) && (decide (cut = []) || se && cutOk ⟨lo, hi⟩ cut)))) ?_ 0 ⟨by simp only [↓xP, xQ, xR, flatR, eqCells_ok, eqSh, eqBs, Nat.reduceLT, decide_true, Nat.reduceBEq, Nat.reduceAdd, IOp.dst, IOp.isF, IOp.args, coolOp, Nat.reduceSub], by simp only [↓xP, xQ, xR, flatR, eqCells_ok, eqSh, eqBs, Nat.reduceLT, decide_true, Nat.reduceBEq, Nat.reduceAdd, IOp.dst, IOp.isF, IOp.args, coolOp, Nat.reduceSub], by simp only [↓xP, xQ, xR, flatR, eqCells_ok, eqSh, eqBs, Nat.reduceLT, decide_true, Nat.reduceBEq, Nat.reduceAdd, IOp.dst, IOp.isF, IOp.args, coolOp, Nat.reduceSub]; rfl⟩).trans ?_
  · rintro i st ⟨h1, ho, h3'⟩ ih
    by_cases hi' : i < l.length
    · obtain ⟨⟨pk, pv⟩, hp⟩ : ∃ p, l[i]? = some p := ⟨_, List.getElem?_eq_getElem hi'⟩
      have hd : l.drop i = ⟨pk, pv⟩ :: l.drop (i + 1) := by rw [List.drop_eq_getElem_cons hi', (List.getElem?_eq_some_iff.1 hp).2]
      have hw := w_succ (i := i) (by omega)
      have hk := (pairsValid_at h2 hp).1
      simp only [↓xP, xQ, xR, flatR, eqCells_ok, eqSh, eqBs, Nat.reduceLT, decide_true, Nat.reduceBEq, Nat.reduceAdd, IOp.dst, IOp.isF, IOp.args, coolOp, Nat.reduceSub, h1, ho, h3', hi', hp, hw, Pair.u, intervalHas_spec]
      rw [hd]
      refine sel_split (fun h => ?_) (fun h => ?_)
      · simp_all [intervalHas]
      · rw [ih (i + 1) _ (by omega) ⟨by simp only [↓xP, xQ, xR, flatR, eqCells_ok, eqSh, eqBs, Nat.reduceLT, decide_true, Nat.reduceBEq, Nat.reduceAdd, IOp.dst, IOp.isF, IOp.args, coolOp, Nat.reduceSub, h1], by simp only [↓xP, xQ, xR, flatR, eqCells_ok, eqSh, eqBs, Nat.reduceLT, decide_true, Nat.reduceBEq, Nat.reduceAdd, IOp.dst, IOp.isF, IOp.args, coolOp, Nat.reduceSub, ho], by simp only [↓xP, xQ, xR, flatR, eqCells_ok, eqSh, eqBs, Nat.reduceLT, decide_true, Nat.reduceBEq, Nat.reduceAdd, IOp.dst, IOp.isF, IOp.args, coolOp, Nat.reduceSub]⟩]
        simp_all [intervalHas]
    · simp only [↓xP, xQ, xR, flatR, eqCells_ok, eqSh, eqBs, Nat.reduceLT, decide_true, Nat.reduceBEq, Nat.reduceAdd, IOp.dst, IOp.isF, IOp.args, coolOp, Nat.reduceSub, h1, ho, h3', hi', intervalCut_spec]
      rw [List.drop_of_length_le (by omega)]
      cases hc : cutOk ⟨lo, hi⟩ cut <;> simp only [↓xP, xQ, xR, flatR, eqCells_ok, eqSh, eqBs, Nat.reduceLT, decide_true, Nat.reduceBEq, Nat.reduceAdd, IOp.dst, IOp.isF, IOp.args, coolOp, Nat.reduceSub, cutRet, hc, h1, ho]
      all_goals repeat' (refine sel_split (fun h => ?_) (fun h => ?_))
      all_goals simp_all
  · simp [stateValid, h, h2, h3]
def place (key : Str) : List Pair → Nat
  | [] => 0
  | p :: l => if strLt p.key key = true then place key l + 1 else 0
theorem place_le (key : Str) : ∀ l, place key l ≤ l.length
  | [] => Nat.le_refl _
  | p :: l => by simp only [place]; split; simpa using place_le key l; simp
theorem place_eq (key : Str) : ∀ (l : List Pair) (i : Nat), i ≤ l.length → (∀ t p, t < i → l[t]? = some p → strLt p.key key = true) → (∀ p, l[i]? = some p → strLt p.key key = false) → place key l = i
  | [], i, hi, _, _ => by simp at hi; simp [place, hi]
  | p :: l, 0, _, _, h2 => by simp [place, h2 p rfl]
  | p :: l, i + 1, hi, h1, h2 => by
    have := h1 0 p (by omega) rfl
    simp only [place, this, if_true]
    rw [place_eq key l i (by simpa using hi) (fun t q ht hq => h1 (t + 1) q (by omega) hq) (fun q hq => h2 q hq)]
/-- The keys ascend. -/
def Asc (l : List Pair) : Prop := ∀ (s t : Nat) p q, s < t → l[s]? = some p → l[t]? = some q → strLt p.key q.key = true
theorem asc_of {l : List Pair} (h : pairsValid l = true) : Asc l := by
  have hc : ∀ (t : Nat) p q, l[t]? = some p → l[t + 1]? = some q → strLt p.key q.key = true := by
    intro t p q hp hq
    simp only [pairsValid, Bool.and_eq_true, decide_eq_true_eq] at h
    have := (allF_iff _ 0 rfl).1 h.2 (t + 1) (by omega) (List.getElem?_eq_some_iff.1 hq).1
    simp only [pairAt, hq, Nat.add_sub_cancel, hp] at this
    simp_all
  intro s t p q hst hp hq
  induction t generalizing q with
  | zero => omega
  | succ t ih =>
    obtain ⟨r, hr⟩ : ∃ r, l[t]? = some r := ⟨_, List.getElem?_eq_getElem (by have := (List.getElem?_eq_some_iff.1 hq).1; omega)⟩
    by_cases e : s = t
    · subst e; exact hc _ _ _ hp hq
    · exact lt_trans (ih r (by omega) hr) (hc _ _ _ hr hq)
def pairsIn (l : List Pair) (v : Interval) : List Pair := l.filter fun p => inside v p.key
theorem pairsIn_le (l : List Pair) (v : Interval) : (pairsIn l v).length ≤ l.length := List.length_filter_le ..
def pairsInV (l : List Pair) (v : Interval) : List Pair := if pairsValid l = true ∧ intervalValid v = true then pairsIn l v else []
def meetOf (a b : Interval) : Interval := ⟨if strLt a.low b.low = true then b.low else a.low, if b.high ≠ [] ∧ (a.high = [] ∨ strLt b.high a.high = true) then b.high else a.high⟩
def meetOk (a b : Interval) : Bool := intervalValid a && intervalValid b && intervalValid (meetOf a b)
def meetRet (a b : Interval) : Option Ret := sel (meetOk a b) (some ⟨[.ag [.u (.str (meetOf a b).low), .u (.str (meetOf a b).high)], B true], [], []⟩) (some ⟨[.ag [.u (.str []), .u (.str [])], B false], [], []⟩)
theorem intervalMeet_spec (al ah bl bh : Str) : EE F 124 [.ag [.u (.str al), .u (.str ah)], .ag [.u (.str bl), .u (.str bh)]] [] = meetRet ⟨al, ah⟩ ⟨bl, bh⟩ := by
  rw [R124, b124]
  simp only [↓xP, xQ, xR, flatR, eqCells_ok, eqSh, eqBs, Nat.reduceLT, decide_true, Nat.reduceBEq, Nat.reduceAdd, IOp.dst, IOp.isF, IOp.args, coolOp, Nat.reduceSub, intervalValid_spec]
  repeat' (refine sel_split (fun h => ?_) (fun h => ?_))
  all_goals simp_all [meetOk, meetRet, meetOf, sel, le_iff]
theorem pairsIn_take {l : List Pair} {v : Interval} {k : Nat} {p : Pair} (hp : l[k]? = some p) : pairsIn (l.take (k + 1)) v = pairsIn (l.take k) v ++ (if inside v p.key = true then [p] else []) := by
  have : l.take (k + 1) = l.take k ++ [p] := by rw [List.take_add_one, hp]; rfl
  simp only [pairsIn, this, List.filter_append, List.filter_cons, List.filter_nil]
theorem pairScan_spec (l : List Pair) (lo hi : Str) : EE F 136 [L 2 (l.map Pair.u), .ag [.u (.str lo), .u (.str hi)], I 48] [] = some ⟨[.sc (.own (.par 0) (pairsInV l ⟨lo, hi⟩).length)], [.row 2 ((pairsInV l ⟨lo, hi⟩).map Pair.u)], []⟩ := by
  rw [R136, b136]
  have h48 : inR 48 0 48 = true := by simp [inR]
  simp only [↓xP, xQ, xR, flatR, eqCells_ok, eqSh, eqBs, Nat.reduceLT, decide_true, Nat.reduceBEq, Nat.reduceAdd, IOp.dst, IOp.isF, IOp.args, coolOp, Nat.reduceSub, pairsValid_spec, intervalValid_spec, l1In_ok, h48]
  refine sel_split (fun h => ?_) (fun h => ?_)
  · simp only [Bool.not_eq_true'] at h; simp [pairsInV, h]
  refine sel_split (fun h2 => ?_) (fun h2 => ?_)
  · simp only [Bool.not_eq_true'] at h2; simp [pairsInV, h2]
  simp only [Bool.not_eq_false'] at h h2
  have hl := pairsValid_len h
  have e : pairsInV l ⟨lo, hi⟩ = pairsIn l ⟨lo, hi⟩ := by simp [pairsInV, h, h2]
  rw [e]
  refine (loop_ind (fun (k : Nat) st => k ≤ l.length ∧ st.s 0 = DU (.sl 2 (l.map Pair.u)) ∧ st.s 4 = .t (.sc (.ptr (.loc 4 0) 0 0)) ∧ st.o (.loc 4 0) = some (.box [.u (.str lo), .u (.str hi)]) ∧ st.s 2 = DI 48 ∧ st.s 8 = DI k ∧
    st.s 7 = .t (.sc (.own (.loc 9 0) (pairsIn (l.take k) ⟨lo, hi⟩).length)) ∧ st.o (.loc 9 0) = some (.row 2 ((pairsIn (l.take k) ⟨lo, hi⟩).map Pair.u))) (fun k => l.length - k) (fun k => some ⟨[.sc (.own (.par 0) (pairsIn l ⟨lo, hi⟩).length)], [.row 2 ((pairsIn l ⟨lo, hi⟩).map Pair.u)], []⟩) ?_ 0 ⟨by omega, by simp only [↓xP, xQ, xR, flatR, eqCells_ok, eqSh, eqBs, Nat.reduceLT, decide_true, Nat.reduceBEq, Nat.reduceAdd, IOp.dst, IOp.isF, IOp.args, coolOp, Nat.reduceSub], by simp only [↓xP, xQ, xR, flatR, eqCells_ok, eqSh, eqBs, Nat.reduceLT, decide_true, Nat.reduceBEq, Nat.reduceAdd, IOp.dst, IOp.isF, IOp.args, coolOp, Nat.reduceSub], by simp only [↓xP, xQ, xR, flatR, eqCells_ok, eqSh, eqBs, Nat.reduceLT, decide_true, Nat.reduceBEq, Nat.reduceAdd, IOp.dst, IOp.isF, IOp.args, coolOp, Nat.reduceSub], by simp only [↓xP, xQ, xR, flatR, eqCells_ok, eqSh, eqBs, Nat.reduceLT, decide_true, Nat.reduceBEq, Nat.reduceAdd, IOp.dst, IOp.isF, IOp.args, coolOp, Nat.reduceSub], by simp only [↓xP, xQ, xR, flatR, eqCells_ok, eqSh, eqBs, Nat.reduceLT, decide_true, Nat.reduceBEq, Nat.reduceAdd, IOp.dst, IOp.isF, IOp.args, coolOp, Nat.reduceSub]; rfl, by simp only [↓xP, xQ, xR, flatR, eqCells_ok, eqSh, eqBs, Nat.reduceLT, decide_true, Nat.reduceBEq, Nat.reduceAdd, IOp.dst, IOp.isF, IOp.args, coolOp, Nat.reduceSub]; simp [pairsIn], by simp only [↓xP, xQ, xR, flatR, eqCells_ok, eqSh, eqBs, Nat.reduceLT, decide_true, Nat.reduceBEq, Nat.reduceAdd, IOp.dst, IOp.isF, IOp.args, coolOp, Nat.reduceSub]; simp [pairsIn]⟩).trans rfl
  rintro k st ⟨hle, h0, h4, ho, h2', h8, h7, ho9⟩ ih
  by_cases hi' : k < l.length
  · obtain ⟨⟨pk, pv⟩, hp⟩ : ∃ p, l[k]? = some p := ⟨_, List.getElem?_eq_getElem hi'⟩
    have hw := w_succ (i := k) (by omega)
    have hk := (pairsValid_at h hp).1
    have hq := pairsIn_le (l.take k) ⟨lo, hi⟩
    have hq2 : (l.take k).length = k := by simp; omega
    have h47 : ((pairsIn (l.take k) ⟨lo, hi⟩).length : Int) < 48 := by omega
    have hin : intervalHas ⟨lo, hi⟩ pk = inside ⟨lo, hi⟩ pk := by simp [intervalHas, h2, hk]
    have hm1 : (pairsIn (l.take k) ⟨lo, hi⟩).length + 1 ≤ maxLen := by simp [maxLen]; omega
    have hm2 : ((pairsIn (l.take k) ⟨lo, hi⟩).length + 1) * 24 ≤ 140737488355328 := by omega
    have hnx := pairsIn_take (v := ⟨lo, hi⟩) hp
    by_cases hc : inside ⟨lo, hi⟩ pk = true
    · rw [if_pos hc] at hnx
      simp only [↓xP, xQ, xR, flatR, eqCells_ok, eqSh, eqBs, Nat.reduceLT, decide_true, Nat.reduceBEq, Nat.reduceAdd, IOp.dst, IOp.isF, IOp.args, coolOp, Nat.reduceSub, h0, h4, ho, h2', h8, h7, ho9, hi', hp, hw, h47, Pair.u, intervalHas_spec, hin, hc, hm1, hm2]
      refine ih (k + 1) _ (by omega) ⟨by omega, by simp only [↓xP, xQ, xR, flatR, eqCells_ok, eqSh, eqBs, Nat.reduceLT, decide_true, Nat.reduceBEq, Nat.reduceAdd, IOp.dst, IOp.isF, IOp.args, coolOp, Nat.reduceSub, h0], by simp only [↓xP, xQ, xR, flatR, eqCells_ok, eqSh, eqBs, Nat.reduceLT, decide_true, Nat.reduceBEq, Nat.reduceAdd, IOp.dst, IOp.isF, IOp.args, coolOp, Nat.reduceSub, h4], by simp only [↓xP, xQ, xR, flatR, eqCells_ok, eqSh, eqBs, Nat.reduceLT, decide_true, Nat.reduceBEq, Nat.reduceAdd, IOp.dst, IOp.isF, IOp.args, coolOp, Nat.reduceSub, ho], by simp only [↓xP, xQ, xR, flatR, eqCells_ok, eqSh, eqBs, Nat.reduceLT, decide_true, Nat.reduceBEq, Nat.reduceAdd, IOp.dst, IOp.isF, IOp.args, coolOp, Nat.reduceSub, h2'], by simp only [↓xP, xQ, xR, flatR, eqCells_ok, eqSh, eqBs, Nat.reduceLT, decide_true, Nat.reduceBEq, Nat.reduceAdd, IOp.dst, IOp.isF, IOp.args, coolOp, Nat.reduceSub], ?_, ?_⟩
      · rw [hnx]; simp only [↓xP, xQ, xR, flatR, eqCells_ok, eqSh, eqBs, Nat.reduceLT, decide_true, Nat.reduceBEq, Nat.reduceAdd, IOp.dst, IOp.isF, IOp.args, coolOp, Nat.reduceSub, List.length_append]
      · rw [hnx]; simp only [↓xP, xQ, xR, flatR, eqCells_ok, eqSh, eqBs, Nat.reduceLT, decide_true, Nat.reduceBEq, Nat.reduceAdd, IOp.dst, IOp.isF, IOp.args, coolOp, Nat.reduceSub, List.map_append]; rfl
    · rw [if_neg hc, List.append_nil] at hnx
      simp only [Bool.not_eq_true] at hc
      simp only [↓xP, xQ, xR, flatR, eqCells_ok, eqSh, eqBs, Nat.reduceLT, decide_true, Nat.reduceBEq, Nat.reduceAdd, IOp.dst, IOp.isF, IOp.args, coolOp, Nat.reduceSub, h0, h4, ho, h2', h8, h7, ho9, hi', hp, hw, h47, Pair.u, intervalHas_spec, hin, hc]
      exact ih (k + 1) _ (by omega) ⟨by omega, by simp only [↓xP, xQ, xR, flatR, eqCells_ok, eqSh, eqBs, Nat.reduceLT, decide_true, Nat.reduceBEq, Nat.reduceAdd, IOp.dst, IOp.isF, IOp.args, coolOp, Nat.reduceSub, h0], by simp only [↓xP, xQ, xR, flatR, eqCells_ok, eqSh, eqBs, Nat.reduceLT, decide_true, Nat.reduceBEq, Nat.reduceAdd, IOp.dst, IOp.isF, IOp.args, coolOp, Nat.reduceSub, h4], by simp only [↓xP, xQ, xR, flatR, eqCells_ok, eqSh, eqBs, Nat.reduceLT, decide_true, Nat.reduceBEq, Nat.reduceAdd, IOp.dst, IOp.isF, IOp.args, coolOp, Nat.reduceSub, ho], by simp only [↓xP, xQ, xR, flatR, eqCells_ok, eqSh, eqBs, Nat.reduceLT, decide_true, Nat.reduceBEq, Nat.reduceAdd, IOp.dst, IOp.isF, IOp.args, coolOp, Nat.reduceSub, h2'], by simp only [↓xP, xQ, xR, flatR, eqCells_ok, eqSh, eqBs, Nat.reduceLT, decide_true, Nat.reduceBEq, Nat.reduceAdd, IOp.dst, IOp.isF, IOp.args, coolOp, Nat.reduceSub], by rw [hnx]; simp only [↓xP, xQ, xR, flatR, eqCells_ok, eqSh, eqBs, Nat.reduceLT, decide_true, Nat.reduceBEq, Nat.reduceAdd, IOp.dst, IOp.isF, IOp.args, coolOp, Nat.reduceSub, h7], by rw [hnx]; simp only [↓xP, xQ, xR, flatR, eqCells_ok, eqSh, eqBs, Nat.reduceLT, decide_true, Nat.reduceBEq, Nat.reduceAdd, IOp.dst, IOp.isF, IOp.args, coolOp, Nat.reduceSub, ho9]⟩
  · have : k = l.length := by omega
    subst this
    rw [List.take_length] at h7 ho9
    simp only [↓xP, xQ, xR, flatR, eqCells_ok, eqSh, eqBs, Nat.reduceLT, decide_true, Nat.reduceBEq, Nat.reduceAdd, IOp.dst, IOp.isF, IOp.args, coolOp, Nat.reduceSub, h0, h4, ho, h2', h8, h7, ho9, hi']
theorem pairsIn_spec (l : List Pair) (lo hi : Str) : EE F 126 [L 2 (l.map Pair.u), .ag [.u (.str lo), .u (.str hi)]] [] = some ⟨[.sc (.own (.par 0) (pairsInV l ⟨lo, hi⟩).length)], [.row 2 ((pairsInV l ⟨lo, hi⟩).map Pair.u)], []⟩ := by
  rw [R126, b126]
  simp only [↓xP, xQ, xR, flatR, eqCells_ok, eqSh, eqBs, Nat.reduceLT, decide_true, Nat.reduceBEq, Nat.reduceAdd, IOp.dst, IOp.isF, IOp.args, coolOp, Nat.reduceSub, pairScan_spec]
def scanOk (s : State) (v : Interval) : Bool := stateValid s && meetOk s.span v
def scanRet (s : State) (v : Interval) : Option Ret := sel (scanOk s v)
  (some ⟨[.ag [.u (.str (meetOf s.span v).low), .u (.str (meetOf s.span v).high), .own (.par 0) (pairsInV s.pairs (meetOf s.span v)).length], B true], [.row 2 ((pairsInV s.pairs (meetOf s.span v)).map Pair.u)], []⟩)
  (some ⟨[.ag [.u (.str []), .u (.str []), .u (.sl 2 [])], B false], [], []⟩)
theorem scanPiece_spec (lo hi : Str) (l : List Pair) (k : List Session) (se : Bool) (cut : Str) (hn : k.length ≤ 4611686018427387904) (vl vh : Str) : EE F 53 [.ag [.u (.str lo), .u (.str hi), .u (.sl 2 (l.map Pair.u)), .u (.sl 3 (k.map Session.u)), .u (.bool se), .u (.str cut)], .ag [.u (.str vl), .u (.str vh)]] [] = scanRet ⟨⟨lo, hi⟩, l, k, se, cut⟩ ⟨vl, vh⟩ := by
  rw [R53, b53]
  cases hm : meetOk ⟨lo, hi⟩ ⟨vl, vh⟩ <;> cases hs : stateValid ⟨⟨lo, hi⟩, l, k, se, cut⟩ <;> simp only [↓xP, xQ, xR, flatR, eqCells_ok, eqSh, eqBs, Nat.reduceLT, decide_true, Nat.reduceBEq, Nat.reduceAdd, IOp.dst, IOp.isF, IOp.args, coolOp, Nat.reduceSub, stateValid_spec lo hi l k se cut hn, intervalMeet_spec, meetRet, hm, hs, scanRet, scanOk, pairsIn_spec]
theorem cut_to {n : Nat} {i : Nat} (h : i ≤ n) : vcut n none (some (DI (i : Int))) = some (0, i) := by
  simp [vcut, D.int?]
  omega
theorem small_max {n k : Nat} (h : n ≤ 1048576) (hk : k ≤ 100000000) : n ≤ maxLen ∧ n * k ≤ 140737488355328 := by
  refine ⟨by simp [maxLen]; omega, ?_⟩
  have := Nat.mul_le_mul h hk
  omega
def rep {α : Type} (l : List α) (a m : Nat) (b : List α) : List α := l.take a ++ b ++ l.drop (a + m)
theorem rep_len {α : Type} {l : List α} {a m : Nat} {b : List α} (h : a + m ≤ l.length) : (rep l a m b).length = l.length - m + b.length := by
  simp [rep]; omega
theorem cut_from {n i : Nat} (h : i ≤ n) : vcut n (some (DI (i : Int))) none = some (i, n) := by
  simp [vcut, D.int?]
  omega
theorem map_all {α β : Type} (f : α → β) (l : List α) : List.take l.length (List.map f l) = List.map f l := List.take_of_length_le (by simp)
def wid (a b : Id) : Bool → Id
  | false => a
  | true => b
def hit (key : Str) (l : List Pair) : Option Pair := match l[place key l]? with
  | some p => if p.key = key then some p else none
  | none => none
def pairPut (l : List Pair) (key : Str) (v : Int) : List Pair × Bool :=
  if pairsValid l = true ∧ keyValid key = true ∧ inR v 0 999 = true then
    (if (hit key l).isSome = true then (rep l (place key l) 1 [⟨key, v⟩], true) else if 48 ≤ l.length then (l, false) else (rep l (place key l) 0 [⟨key, v⟩], true))
  else ([], false)
def listRet (u : Pair → List U) (sz : Nat) (r : List Pair × Bool) : Option Ret := some ⟨[.sc (.own (.par 0) r.1.length), B r.2], [.row sz (r.1.map u)], []⟩
theorem hit_some {key : Str} {l : List Pair} {p : Pair} (h : hit key l = some p) : l[place key l]? = some p ∧ p.key = key := by
  unfold hit at h
  split at h
  · rename_i q hq
    split at h
    · rename_i hk; cases h; exact ⟨hq, hk⟩
    · cases h
  · cases h
theorem hit_none {key : Str} {l : List Pair} (h : hit key l = none) : ∀ p, l[place key l]? = some p → p.key ≠ key := by
  intro p hp
  unfold hit at h
  rw [hp] at h
  simp only at h
  split at h
  · cases h
  · assumption
theorem l4Place_ok (l : List Pair) (key : Str) (hn : l.length ≤ 4611686018427387904) : EE F 210 [L 2 (l.map Pair.u), S key] [] = ok1 (I (place key l)) := by
  rw [R210, b210]
  simp only [↓xP, xQ, xR, flatR, eqCells_ok, eqSh, eqBs, Nat.reduceLT, decide_true, Nat.reduceBEq, Nat.reduceAdd, IOp.dst, IOp.isF, IOp.args, coolOp, Nat.reduceSub]
  refine (loop_ind (fun (i : Nat) st => i ≤ l.length ∧ (∀ t p, t < i → l[t]? = some p → strLt p.key key = true) ∧ st.s 0 = DU (.sl 2 (l.map Pair.u)) ∧ st.s 1 = DS key ∧ st.s 5 = DI i) (fun i => l.length - i) (fun i => ok1 (I (place key l))) ?_ 0 ⟨by omega, fun t p ht => by omega, (by and_intros <;> first | omega | rfl | (simp only [↓xP, xQ, xR, flatR, eqCells_ok, eqSh, eqBs, Nat.reduceLT, decide_true, Nat.reduceBEq, Nat.reduceAdd, IOp.dst, IOp.isF, IOp.args, coolOp, Nat.reduceSub]; done) | (simp only [↓xP, xQ, xR, flatR, eqCells_ok, eqSh, eqBs, Nat.reduceLT, decide_true, Nat.reduceBEq, Nat.reduceAdd, IOp.dst, IOp.isF, IOp.args, coolOp, Nat.reduceSub]; rfl) | (simp only [↓xP, xQ, xR, flatR, eqCells_ok, eqSh, eqBs, Nat.reduceLT, decide_true, Nat.reduceBEq, Nat.reduceAdd, IOp.dst, IOp.isF, IOp.args, coolOp, Nat.reduceSub]; omega))⟩).trans rfl
  rintro i st ⟨hle, hlo, h0, h1, h5⟩ ih
  by_cases hi : i < l.length
  · obtain ⟨⟨pk, pv⟩, hp⟩ : ∃ p, l[i]? = some p := ⟨_, List.getElem?_eq_getElem hi⟩
    have hw := w_succ (i := i) (by omega)
    simp only [↓xP, xQ, xR, flatR, eqCells_ok, eqSh, eqBs, Nat.reduceLT, decide_true, Nat.reduceBEq, Nat.reduceAdd, IOp.dst, IOp.isF, IOp.args, coolOp, Nat.reduceSub, h0, h1, h5, hi, hp, Pair.u]
    refine sel_split (fun h => ?_) (fun h => ?_)
    · simp only [↓xP, xQ, xR, flatR, eqCells_ok, eqSh, eqBs, Nat.reduceLT, decide_true, Nat.reduceBEq, Nat.reduceAdd, IOp.dst, IOp.isF, IOp.args, coolOp, Nat.reduceSub, h0, h1, h5, hw]
      exact ih (i + 1) _ (by omega) ⟨by omega, fun t p ht hq => by
        by_cases e : t = i
        · subst e; rw [hp] at hq; cases hq; exact h
        · exact hlo t p (by omega) hq, (by and_intros <;> first | omega | rfl | (simp only [↓xP, xQ, xR, flatR, eqCells_ok, eqSh, eqBs, Nat.reduceLT, decide_true, Nat.reduceBEq, Nat.reduceAdd, IOp.dst, IOp.isF, IOp.args, coolOp, Nat.reduceSub, h0, h1]; done) | (simp only [↓xP, xQ, xR, flatR, eqCells_ok, eqSh, eqBs, Nat.reduceLT, decide_true, Nat.reduceBEq, Nat.reduceAdd, IOp.dst, IOp.isF, IOp.args, coolOp, Nat.reduceSub, h0, h1]; rfl) | (simp only [↓xP, xQ, xR, flatR, eqCells_ok, eqSh, eqBs, Nat.reduceLT, decide_true, Nat.reduceBEq, Nat.reduceAdd, IOp.dst, IOp.isF, IOp.args, coolOp, Nat.reduceSub, h0, h1]; omega))⟩
    · have : place key l = i := place_eq key l i (by omega) hlo (fun p hq => by rw [hp] at hq; cases hq; exact h)
      simp only [↓xP, xQ, xR, flatR, eqCells_ok, eqSh, eqBs, Nat.reduceLT, decide_true, Nat.reduceBEq, Nat.reduceAdd, IOp.dst, IOp.isF, IOp.args, coolOp, Nat.reduceSub, h0, h1, h5, this]
  · have : place key l = i := place_eq key l i (by omega) hlo (fun p hq => by have := (List.getElem?_eq_some_iff.1 hq).1; omega)
    simp only [↓xP, xQ, xR, flatR, eqCells_ok, eqSh, eqBs, Nat.reduceLT, decide_true, Nat.reduceBEq, Nat.reduceAdd, IOp.dst, IOp.isF, IOp.args, coolOp, Nat.reduceSub, h0, h1, h5, hi, this]
def yU (n : Int) : List U := [.int .u8 n]
/-- A reader: its bytes, and how many numbers it drew. -/
def rd (bs : List Int) (p : Nat) : Obj := .box [.u (.sl 1 (bs.map yU)), .u (.int .i64 p)]
abbrev RP0 : T := .sc (.ptr (.par 0) 0 0)
def Bytes (bs : List Int) : Prop := bs.length ≤ 2000 ∧ ∀ b, b ∈ bs → 0 ≤ b ∧ b ≤ 255
theorem xor_nonneg {a b : Int} (ha : 0 ≤ a) (ha' : a < 4611686018427387904) (hb : 0 ≤ b) (hb' : b < 4611686018427387904) : 0 ≤ Go.bits .xor .i64 a b := by
  obtain ⟨m, rfl⟩ := Int.eq_ofNat_of_zero_le ha
  obtain ⟨n, rfl⟩ := Int.eq_ofNat_of_zero_le hb
  have h62 : (4611686018427387904 : Nat) = 2 ^ 62 := by decide
  have e1 : (BitVec.ofInt IntKind.i64.bits (m : Int)).toNat = m := by
    rw [BitVec.toNat_ofInt]
    show (((m : Int) % ((2 ^ 64 : Nat) : Int)).toNat) = m
    omega
  have e2 : (BitVec.ofInt IntKind.i64.bits (n : Int)).toNat = n := by
    rw [BitVec.toNat_ofInt]
    show (((n : Int) % ((2 ^ 64 : Nat) : Int)).toNat) = n
    omega
  have hx : m ^^^ n < 2 ^ 62 := Nat.xor_lt_two_pow (by omega) (by omega)
  have key : Go.bits .xor .i64 (m : Int) (n : Int) = IntKind.i64.wrap (((m ^^^ n : Nat)) : Int) := by
    show IntKind.i64.wrap (((BitVec.ofInt IntKind.i64.bits (m : Int) ^^^ BitVec.ofInt IntKind.i64.bits (n : Int)).toNat : Nat) : Int) = _
    rw [BitVec.toNat_xor, e1, e2]
  rw [key, IntKind.wrap_i64]
  omega
theorem pick_ok {bs : List Int} (hb : Bytes bs) (p : Nat) (n : Int) (hp : p ≤ 1099511627776) : ∃ v, EE F 92 [RP0, I n] [rd bs p] = some ⟨[I v], [], [rd bs (p + 1)]⟩ ∧ 0 ≤ v ∧ (1 ≤ n → v < n) := by
  have e1 := w_succ (i := p) (by omega)
  have e2 : IntKind.i64.wrap (((p + 1 : Nat) : Int) - 1) = (p : Int) := by rw [w64 (by omega) (by omega)]; omega
  by_cases hn : n < 1
  · refine ⟨0, (EE_run (fn := i92) (by kernel_rfl) rfl).trans ?_, by omega, fun h => by omega⟩
    simp only [i92, b92, argSt, insSt, List.length_cons, List.length_nil]
    simp only [↓xP, xQ, xR, flatR, eqCells_ok, eqSh, eqBs, Nat.reduceLT, decide_true, Nat.reduceBEq, Nat.reduceAdd, IOp.dst, IOp.isF, IOp.args, coolOp, Nat.reduceSub, rd, e1, hn]
  have hn0 : ¬ n = 0 := by omega
  by_cases hl : bs.length = 0
  · have hl' : ((bs.length : Nat) : Int) = 0 := by omega
    refine ⟨0, (EE_run (fn := i92) (by kernel_rfl) rfl).trans ?_, by omega, fun h => by omega⟩
    simp only [i92, b92, argSt, insSt, List.length_cons, List.length_nil]
    simp only [↓xP, xQ, xR, flatR, eqCells_ok, eqSh, eqBs, Nat.reduceLT, decide_true, Nat.reduceBEq, Nat.reduceAdd, IOp.dst, IOp.isF, IOp.args, coolOp, Nat.reduceSub, rd, e1, hn, List.length_map, hl']
  have hl' : ¬ ((bs.length : Nat) : Int) = 0 := by omega
  by_cases hlt : p < bs.length
  · obtain ⟨b, hx⟩ : ∃ b, bs[p]? = some b := ⟨_, List.getElem?_eq_getElem hlt⟩
    have hb2 := hb.2 b (List.mem_of_getElem? hx)
    have hlt' : (p : Int) < ((bs.length : Nat) : Int) := by omega
    have hwb : IntKind.i64.wrap b = b := by rw [w64 (by omega) (by omega)]
    refine ⟨b.tmod n, (EE_run (fn := i92) (by kernel_rfl) rfl).trans ?_, Int.tmod_nonneg _ hb2.1, fun h => Int.tmod_lt_of_pos _ (by omega)⟩
    simp only [i92, b92, argSt, insSt, List.length_cons, List.length_nil]
    simp only [↓xP, xQ, xR, flatR, eqCells_ok, eqSh, eqBs, Nat.reduceLT, decide_true, Nat.reduceBEq, Nat.reduceAdd, IOp.dst, IOp.isF, IOp.args, coolOp, Nat.reduceSub, rd, e1, e2, hn, hn0, List.length_map, hl', hlt, hx, yU, hwb]
    done
  · have hlt' : ¬ (p : Int) < ((bs.length : Nat) : Int) := by omega
    have t1 : (p : Int).tmod ((bs.length : Nat) : Int) = ((p % bs.length : Nat) : Int) := rfl
    have t2 : (((p * 7 + 3 : Nat)) : Int).tmod ((bs.length : Nat) : Int) = (((p * 7 + 3) % bs.length : Nat) : Int) := rfl
    have t3 : (p : Int).tdiv ((bs.length : Nat) : Int) = ((p / bs.length : Nat) : Int) := rfl
    have w1 : IntKind.i64.wrap ((p : Int) * 7) = (p : Int) * 7 := by rw [w64 (by omega) (by omega)]
    have w2 : IntKind.i64.wrap ((p : Int) * 7 + 3) = ((p * 7 + 3 : Nat) : Int) := by rw [w64 (by omega) (by omega)]; omega
    obtain ⟨a, ha⟩ : ∃ a, bs[p % bs.length]? = some a := ⟨_, List.getElem?_eq_getElem (Nat.mod_lt _ (by omega))⟩
    obtain ⟨b, hx⟩ : ∃ b, bs[(p * 7 + 3) % bs.length]? = some b := ⟨_, List.getElem?_eq_getElem (Nat.mod_lt _ (by omega))⟩
    have ha2 := hb.2 a (List.mem_of_getElem? ha)
    have hb2 := hb.2 b (List.mem_of_getElem? hx)
    have hwa : IntKind.i64.wrap a = a := by rw [w64 (by omega) (by omega)]
    have hwb : IntKind.i64.wrap b = b := by rw [w64 (by omega) (by omega)]
    have hq : p / bs.length ≤ p := Nat.div_le_self ..
    generalize p / bs.length = q at t3 hq
    have hwq : IntKind.i64.wrap (q : Int) = (q : Int) := by rw [w64 (by omega) (by omega)]
    have v1 : IntKind.i64.wrap (a * 131) = a * 131 := by rw [w64 (by omega) (by omega)]
    have v2 : IntKind.i64.wrap (b * 1117) = b * 1117 := by rw [w64 (by omega) (by omega)]
    have v3 : IntKind.i64.wrap (a * 131 + b * 1117) = a * 131 + b * 1117 := by rw [w64 (by omega) (by omega)]
    have v4 : IntKind.i64.wrap ((p : Int) * 29) = (p : Int) * 29 := by rw [w64 (by omega) (by omega)]
    have v5 : IntKind.i64.wrap (a * 131 + b * 1117 + (p : Int) * 29) = a * 131 + b * 1117 + (p : Int) * 29 := by rw [w64 (by omega) (by omega)]
    have v6 : IntKind.i64.wrap ((q : Int) * 53) = (q : Int) * 53 := by rw [w64 (by omega) (by omega)]
    obtain ⟨A, hA⟩ : ∃ A, A = a * 131 + b * 1117 + (p : Int) * 29 + (q : Int) * 53 := ⟨_, rfl⟩
    have v7 : IntKind.i64.wrap (a * 131 + b * 1117 + (p : Int) * 29 + (q : Int) * 53) = A := by rw [w64 (by omega) (by omega), hA]
    have hA0 : 0 ≤ A := by omega
    have hA1 : A < 4611686018427387904 := by omega
    have hB : 0 ≤ A.tdiv 64 := Int.tdiv_nonneg hA0 (by omega)
    have hB' : A.tdiv 64 ≤ A := Int.tdiv_le_self _ hA0
    have v8 : IntKind.i64.wrap (A.tdiv 64) = A.tdiv 64 := by rw [w64 (by omega) (by omega)]
    have h64 : ¬ (64 : Int) = 0 := by omega
    refine ⟨(Go.bits .xor .i64 A (A.tdiv 64)).tmod n, (EE_run (fn := i92) (by kernel_rfl) rfl).trans ?_, Int.tmod_nonneg _ (xor_nonneg hA0 hA1 hB (by omega)), fun h => Int.tmod_lt_of_pos _ (by omega)⟩
    simp only [i92, b92, argSt, insSt, List.length_cons, List.length_nil]
    simp only [↓xP, xQ, xR, flatR, eqCells_ok, eqSh, eqBs, Nat.reduceLT, decide_true, Nat.reduceBEq, Nat.reduceAdd, IOp.dst, IOp.isF, IOp.args, coolOp, Nat.reduceSub, rd, e1, e2, hn, hn0, List.length_map, hl', hlt, t1, t2, t3, w1, w2, ha, hx, yU, hwa, hwb, hwq, v1, v2, v3, v4, v5, v6, v7, v8, h64]
    done
theorem odd_ok {bs : List Int} (hb : Bytes bs) (p : Nat) (n : Int) (hp : p ≤ 1099511627776) (hn : n ≤ 1048576) : ∃ b q, EE F 166 [RP0, I n] [rd bs p] = some ⟨[B b], [], [rd bs q]⟩ ∧ p ≤ q ∧ q ≤ p + 1 ∧ (n ≤ 0 → b = false) := by
  by_cases hn0 : 0 < n
  · obtain ⟨v, h1, h2, h3⟩ := pick_ok hb p n hp
    have hw : IntKind.i64.wrap (n - 1) = n - 1 := by rw [w64 (by omega) (by omega)]
    refine ⟨decide (v = n - 1), p + 1, (EE_run (fn := i166) (by kernel_rfl) rfl).trans ?_, by omega, by omega, fun h => by omega⟩
    simp only [i166, b166, argSt, insSt, List.length_cons, List.length_nil]
    have h1' := h1
    simp only [rd] at h1'
    simp only [↓xP, xQ, xR, flatR, eqCells_ok, eqSh, eqBs, Nat.reduceLT, decide_true, Nat.reduceBEq, Nat.reduceAdd, IOp.dst, IOp.isF, IOp.args, coolOp, Nat.reduceSub, rd, hn0, h1', hw, gt_iff_lt]
    done
  · refine ⟨false, p, (EE_run (fn := i166) (by kernel_rfl) rfl).trans ?_, by omega, by omega, fun h => rfl⟩
    simp only [i166, b166, argSt, insSt, List.length_cons, List.length_nil]
    simp only [↓xP, xQ, xR, flatR, eqCells_ok, eqSh, eqBs, Nat.reduceLT, decide_true, Nat.reduceBEq, Nat.reduceAdd, IOp.dst, IOp.isF, IOp.args, coolOp, Nat.reduceSub, rd, hn0, gt_iff_lt]
    done
theorem open_ok (code : List Int) (hc : code.length ≤ 9223372036854775807 ∧ ∀ b, b ∈ code → 0 ≤ b ∧ b ≤ 255) : ∃ bs, EE F 88 [L 1 (code.map yU)] [] = some ⟨[RP0], [rd bs 0], []⟩ ∧ Bytes bs := by
  by_cases h : 2000 < code.length
  · have h' : (2000 : Int) < ((code.length : Nat) : Int) := by omega
    have hct := cut_to (n := code.length) (i := 2000) (by omega)
    refine ⟨code.take 2000, ?_, by simp; omega, fun b hb => hc.2 b (List.mem_of_mem_take hb)⟩
    rw [R88, b88]
    have hct' : vcut code.length none (some (DI 2000)) = some (0, 2000) := hct
    simp only [↓xP, xQ, xR, flatR, eqCells_ok, eqSh, eqBs, Nat.reduceLT, decide_true, Nat.reduceBEq, Nat.reduceAdd, IOp.dst, IOp.isF, IOp.args, coolOp, Nat.reduceSub, List.length_map, h', hct', gt_iff_lt, List.drop_zero, ← List.map_take, rd]
    rfl
  · have h' : ¬ (2000 : Int) < ((code.length : Nat) : Int) := by omega
    refine ⟨code, ?_, by omega, hc.2⟩
    rw [R88, b88]
    simp only [↓xP, xQ, xR, flatR, eqCells_ok, eqSh, eqBs, Nat.reduceLT, decide_true, Nat.reduceBEq, Nat.reduceAdd, IOp.dst, IOp.isF, IOp.args, coolOp, Nat.reduceSub, List.length_map, h', gt_iff_lt, rd]
    rfl
/-- What some rounds tell. -/
theorem EE_at {f : Nat} {a : List T} {i : List Obj} {r : Ret} (k : Nat) (h : callOf F (evalC F k) f a i = some r) : EE F f a i = some r := (EE_lim F f a i).eq.symm.trans (lim_of (EE_lim F f a i).mono (k := k) h)
theorem alive_ok : EE F 28 [] [] = ok1 (B true) := EE_at 120 (by kernel_rfl)
/-- What a function that draws comes to: results of a kind; the reader went on by at most so many. -/
def Gd (bs : List Int) (p c : Nat) (R : List T → List Obj → Prop) (x : Option Ret) : Prop := ∃ r n q, x = some ⟨r, n, [rd bs q]⟩ ∧ p ≤ q ∧ q ≤ p + c ∧ R r n
theorem loop_pred {fin : St → Option Ret} {is : List IItem} {c : IC} {α : Type} {G : Option Ret → Prop} (Inv : α → St → Prop) (μ : α → Nat)
    (h : ∀ a st, Inv a st → (∀ a' st', μ a' < μ a → Inv a' st' → G (KK F fin (.inLoop c :: is) st')) → G (KK F fin (.code c :: .inLoop c :: is) st)) {st : St} (a : α) (hI : Inv a st) : G (KK F fin (.code (.loop c) :: is) st) := by
  rw [KK_loop]
  have all : ∀ n a st, μ a < n → Inv a st → G (KK F fin (.inLoop c :: is) st) := by
    intro n
    induction n with
    | zero => intro a st h0; omega
    | succ n ih =>
      intro a st hn hI
      rw [KK_inLoop]
      exact h a st hI (fun a' st' hm hI' => ih a' st' (by omega) hI')
  exact all (μ a + 1) a st (by omega) hI
theorem sel_pred {x : Bool} {a b : Option Ret} {G : Option Ret → Prop} (ht : x = true → G a) (hf : x = false → G b) : G (sel x a b) := by
  cases x
  · exact hf rfl
  · exact ht rfl
theorem rdx : (∀ bs p, (rd bs p).data = true) ∧ (∀ bs p q, sameKind (some (rd bs p)) (rd bs q) = true) ∧ (∀ id bs p, Obj.mapC (C.kill id) (rd bs p) = rd bs p) ∧ (∀ st id bs p, Obj.mapC (St.coolC st id) (rd bs p) = rd bs p) := by
  refine ⟨fun _ _ => rfl, fun _ _ _ => rfl, fun _ _ _ => rfl, fun st id bs p => ?_⟩
  have h : ∀ u, st.coolC id (.u u) = .u u := by
    intro u
    unfold St.coolC
    cases st.o id with
    | none => rfl
    | some ob => cases ob <;> rfl
  simp [rd, Obj.mapC, h]
theorem Gd.run {f : Nat} {a : List T} {bs : List Int} {p c : Nat} {R : List T → List Obj → Prop} {fn : IFn} (hF : Go.Proofs.YtdnhamehpdlbgaaV.F f = some fn) (hn : a.length = fn.np) (h : Gd bs p c R (KK F (FF fn.res 1) [.code fn.body] (argSt 0 a (insSt 0 [rd bs p] S0)))) : Gd bs p c R (EE F f a [rd bs p]) := by
  rw [EE_run hF hn]; exact h
theorem w_pred {i : Nat} (h : i ≤ 1048576) : IntKind.i64.wrap (((i + 1 : Nat) : Int) - 1) = (i : Int) := by rw [w64 (by omega) (by omega)]; omega
theorem rdx2 : (∀ bs p, Obj.flat (rd bs p) = (bs.map yU).isEmpty) ∧ (∀ bs p, Obj.data (rd bs p) = true) ∧ (∀ (x : Bool) (a : List Id), sel x a a = a) := by
  refine ⟨fun bs p => ?_, fun bs p => rfl, fun x a => by cases x <;> rfl⟩
  simp [rd, Obj.flat, C.isSl, U.flat]
def Code (code : List Int) : Prop := code.length ≤ 9223372036854775807 ∧ ∀ b, b ∈ code → 0 ≤ b ∧ b ≤ 255
/-- A property of a call's end. -/
def Ok (R : Ret → Prop) (x : Option Ret) : Prop := ∃ r, x = some r ∧ R r
theorem Ok.run {f : Nat} {a : List T} {R : Ret → Prop} {fn : IFn} (hF : Go.Proofs.YtdnhamehpdlbgaaV.F f = some fn) (hn : a.length = fn.np) (h : Ok R (KK F (FF fn.res 0) [.code fn.body] (argSt 0 a (insSt 0 [] S0)))) : Ok R (EE F f a []) := by
  rw [EE_run hF hn]; exact h
/-- A node is better than the best one so far. -/
abbrev lessP (loads : List Int) (up : List Bool) (but : List Int) (k : Nat) (b : Int) : Prop := up[k]? = some true ∧ ((k : Int) ∉ but) ∧ (b < 0 ∨ loads.getD k 0 < loads.getD b.toNat 0)
def lst (loads : List Int) (up : List Bool) (but : List Int) : Nat → Nat → Int → Int
  | 0, k, b => b
  | n + 1, k, b => lst loads up but n (k + 1) (if lessP loads up but k b then (k : Int) else b)
def least (loads : List Int) (up : List Bool) (but : List Int) : Int := lst loads up but 5 0 (-1)
theorem yU_of (us : List U) (hl : us.length = 1) (ht : ∀ (j : Nat) ty u, [Ty.i .u8][j]? = some ty → us[j]? = some u → UT ty u) : ∃ x, us = yU x ∧ (0 ≤ x ∧ x ≤ 255) := by
  match us, hl with
  | [a], _ => obtain ⟨n, rfl, h⟩ := (ht 0 _ a rfl rfl).u8_of; exact ⟨n, rfl, h⟩
theorem Code.of {u : U} (hu : UT (.sl [.i .u8]) u) : ∃ code : List Int, u = .sl 1 (code.map yU) ∧ Code code := by
  obtain ⟨code, rfl, hl, hb⟩ := hu.sl_of yU_of
  exact ⟨code, rfl, hl, hb⟩
theorem pk {bs : List Int} (hb : Bytes bs) (p : Nat) (n : Int) (hp : p ≤ 1000000000000) (hn : 1 ≤ n) : ∃ v : Nat, EE F 92 [RP0, I n] [rd bs p] = some ⟨[I (v : Int)], [], [rd bs (p + 1)]⟩ ∧ (v : Int) < n := by
  obtain ⟨v, h1, h2, h3⟩ := pick_ok hb p n (by omega)
  have := h3 hn
  obtain ⟨k, rfl⟩ := Int.eq_ofNat_of_zero_le h2
  exact ⟨k, h1, this⟩
theorem l20Key_ok {bs : List Int} (hb : Bytes bs) (p : Nat) (n : Int) (hn : n ≤ 1048576) (hp : p ≤ 1000000000) : Gd bs p 6 (fun r m => m = [] ∧ ∃ s : Str, r = [.sc (.u (.str s))] ∧ s.length ≤ 5) (EE F 141 [RP0, I n] [rd bs p]) := by
  refine Gd.run (fn := i141) (by kernel_rfl) rfl ?_
  simp only [i141, b141, argSt, insSt]
  obtain ⟨b, q, ho, hq1, hq2, _⟩ := odd_ok hb p n (by omega) hn
  cases b with
  | true =>
    obtain ⟨v, hv, hvl⟩ := pk hb q 6 (by omega) (by omega)
    rcases (show v = 0 ∨ v = 1 ∨ v = 2 ∨ v = 3 ∨ v = 4 ∨ v = 5 by omega) with rfl | rfl | rfl | rfl | rfl | rfl <;> simp only [↓xP, xQ, xR, flatR, eqCells_ok, eqSh, eqBs, Nat.reduceLT, decide_true, Nat.reduceBEq, Nat.reduceAdd, IOp.dst, IOp.isF, IOp.args, coolOp, Nat.reduceSub, rdx, ho, hv] <;> exact ⟨_, _, q + 1, rfl, by omega, by omega, rfl, _, rfl, by simp⟩
  | false =>
    obtain ⟨v, hv, hvl⟩ := pk hb q 12 (by omega) (by omega)
    by_cases h11 : (v : Int) = 11
    · obtain ⟨w, hw, hwl⟩ := pk hb (q + 1) 5 (by omega) (by omega)
      rcases (show w = 0 ∨ w = 1 ∨ w = 2 ∨ w = 3 ∨ w = 4 by omega) with rfl | rfl | rfl | rfl | rfl <;> simp only [↓xP, xQ, xR, flatR, eqCells_ok, eqSh, eqBs, Nat.reduceLT, decide_true, Nat.reduceBEq, Nat.reduceAdd, IOp.dst, IOp.isF, IOp.args, coolOp, Nat.reduceSub, rdx, ho, hv, h11, hw] <;> exact ⟨_, _, q + 2, rfl, by omega, by omega, rfl, _, rfl, by simp⟩
    · obtain ⟨w, hw, hwl⟩ := pk hb (q + 1) 2 (by omega) (by omega)
      have hw1 : IntKind.i64.wrap (1 + (w : Int)) = ((1 + w : Nat) : Int) := by rw [w64 (by omega) (by omega)]; omega
      simp only [↓xP, xQ, xR, flatR, eqCells_ok, eqSh, eqBs, Nat.reduceLT, decide_true, Nat.reduceBEq, Nat.reduceAdd, IOp.dst, IOp.isF, IOp.args, coolOp, Nat.reduceSub, rdx, ho, hv, h11, hw, hw1]
      refine loop_pred (fun (a : Nat × Nat × Str) st => a.1 + a.2.2.length ≤ 2 ∧ q + 2 ≤ a.2.1 ∧ a.2.1 + a.1 ≤ q + 4 ∧ st.s 0 = .t RP0 ∧ st.s 5 = DS a.2.2 ∧ st.s 6 = DI a.1 ∧ st.o (.par 0) = some (rd bs a.2.1)) (fun a => a.1) ?_ (1 + w, q + 1 + 1, []) ⟨by simp; omega, by simp, by dsimp only; omega, (by and_intros <;> first | omega | rfl | (simp only [↓xP, xQ, xR, flatR, eqCells_ok, eqSh, eqBs, Nat.reduceLT, decide_true, Nat.reduceBEq, Nat.reduceAdd, IOp.dst, IOp.isF, IOp.args, coolOp, Nat.reduceSub, rdx]; done) | (simp only [↓xP, xQ, xR, flatR, eqCells_ok, eqSh, eqBs, Nat.reduceLT, decide_true, Nat.reduceBEq, Nat.reduceAdd, IOp.dst, IOp.isF, IOp.args, coolOp, Nat.reduceSub, rdx]; rfl) | (simp only [↓xP, xQ, xR, flatR, eqCells_ok, eqSh, eqBs, Nat.reduceLT, decide_true, Nat.reduceBEq, Nat.reduceAdd, IOp.dst, IOp.isF, IOp.args, coolOp, Nat.reduceSub, rdx]; omega))⟩
      rintro ⟨k, q1, s⟩ st ⟨hl, hq, hq', h0, h5, h6, hr⟩ ih
      dsimp only at *
      cases k with
      | zero =>
        have hk : ¬ (0 : Int) < ((0 : Nat) : Int) := by omega
        simp only [↓xP, xQ, xR, flatR, eqCells_ok, eqSh, eqBs, Nat.reduceLT, decide_true, Nat.reduceBEq, Nat.reduceAdd, IOp.dst, IOp.isF, IOp.args, coolOp, Nat.reduceSub, rdx, h0, h5, h6, hr, gt_iff_lt, hk]
        exact ⟨_, _, q1, rfl, by omega, by omega, rfl, s, rfl, by omega⟩
      | succ k =>
        have hk : (0 : Int) < ((k + 1 : Nat) : Int) := by omega
        have hwk := w_pred (i := k) (by omega)
        obtain ⟨v2, hv2, hvl2⟩ := pk hb q1 4 (by omega) (by omega)
        have hs1 : s.length + 1 ≤ 9223372036854775807 := by omega
        simp only [↓xP, xQ, xR, flatR, eqCells_ok, eqSh, eqBs, Nat.reduceLT, decide_true, Nat.reduceBEq, Nat.reduceAdd, IOp.dst, IOp.isF, IOp.args, coolOp, Nat.reduceSub, rdx, h0, h5, h6, hr, gt_iff_lt, hk, hv2, hwk, hs1]
        exact ih (k, q1 + 1, s ++ [UInt8.ofNat (IntKind.u8.wrap (IntKind.i64.wrap (97 + (v2 : Int)))).toNat]) _ (by dsimp only; omega) ⟨by simp; omega, by dsimp only; omega, by dsimp only; omega, (by and_intros <;> first | omega | rfl | (simp only [↓xP, xQ, xR, flatR, eqCells_ok, eqSh, eqBs, Nat.reduceLT, decide_true, Nat.reduceBEq, Nat.reduceAdd, IOp.dst, IOp.isF, IOp.args, coolOp, Nat.reduceSub, rdx, h0, h5, h6, hr, hwk]; done) | (simp only [↓xP, xQ, xR, flatR, eqCells_ok, eqSh, eqBs, Nat.reduceLT, decide_true, Nat.reduceBEq, Nat.reduceAdd, IOp.dst, IOp.isF, IOp.args, coolOp, Nat.reduceSub, rdx, h0, h5, h6, hr, hwk]; rfl) | (simp only [↓xP, xQ, xR, flatR, eqCells_ok, eqSh, eqBs, Nat.reduceLT, decide_true, Nat.reduceBEq, Nat.reduceAdd, IOp.dst, IOp.isF, IOp.args, coolOp, Nat.reduceSub, rdx, h0, h5, h6, hr, hwk]; omega))⟩
theorem l20Value_ok {bs : List Int} (hb : Bytes bs) (p : Nat) (n : Int) (hn : n ≤ 1048576) (hp : p ≤ 1000000000) : Gd bs p 3 (fun r m => m = [] ∧ ∃ v : Int, r = [I v] ∧ -1 ≤ v ∧ v ≤ 1000) (EE F 170 [RP0, I n] [rd bs p]) := by
  refine Gd.run (fn := i170) (by kernel_rfl) rfl ?_
  simp only [i170, b170, argSt, insSt]
  obtain ⟨b, q, ho, hq1, hq2, _⟩ := odd_ok hb p n (by omega) hn
  cases b with
  | true =>
    obtain ⟨v, hv, hvl⟩ := pk hb q 2 (by omega) (by omega)
    rcases (show v = 0 ∨ v = 1 by omega) with rfl | rfl <;> simp only [↓xP, xQ, xR, flatR, eqCells_ok, eqSh, eqBs, Nat.reduceLT, decide_true, Nat.reduceBEq, Nat.reduceAdd, IOp.dst, IOp.isF, IOp.args, coolOp, Nat.reduceSub, rdx, ho, hv] <;> exact ⟨_, _, q + 1, rfl, by omega, by omega, rfl, _, rfl, by omega, by omega⟩
  | false =>
    obtain ⟨v, hv, hvl⟩ := pk hb q 20 (by omega) (by omega)
    obtain ⟨w, hw, hwl⟩ := pk hb (q + 1) 9 (by omega) (by omega)
    have h80 : ¬ (8 : Int) = 0 := by omega
    have e00 : IntKind.i64.wrap ((0 : Nat) : Int) = ((0 : Nat) : Int) := by rw [w64 (by omega) (by omega)]
    have e11 : IntKind.i64.wrap ((1 : Nat) : Int) = ((1 : Nat) : Int) := by rw [w64 (by omega) (by omega)]
    have h8 : ((w : Int)).tdiv 8 = ((w / 8 : Nat) : Int) := rfl
    by_cases h0 : w / 8 = 0
    · simp only [↓xP, xQ, xR, flatR, eqCells_ok, eqSh, eqBs, Nat.reduceLT, decide_true, Nat.reduceBEq, Nat.reduceAdd, IOp.dst, IOp.isF, IOp.args, coolOp, Nat.reduceSub, rdx, ho, hv, hw, h8, h0, h80, e00]
      exact ⟨_, _, q + 2, rfl, by omega, by omega, rfl, (v : Int), rfl, by omega, by omega⟩
    · have h1 : w / 8 = 1 := by omega
      simp only [↓xP, xQ, xR, flatR, eqCells_ok, eqSh, eqBs, Nat.reduceLT, decide_true, Nat.reduceBEq, Nat.reduceAdd, IOp.dst, IOp.isF, IOp.args, coolOp, Nat.reduceSub, rdx, ho, hv, hw, h8, h1, h80, e11]
      exact ⟨_, _, q + 2, rfl, by omega, by omega, rfl, (999 : Int), rfl, by omega, by omega⟩
theorem l20Span_ok {bs : List Int} (hb : Bytes bs) (p : Nat) (n : Int) (hn : n ≤ 1048576) (hp : p ≤ 100000000) : Gd bs p 20 (fun r m => m = [] ∧ ∃ a b : Str, r = [.ag [.u (.str a), .u (.str b)]] ∧ a.length ≤ 5 ∧ b.length ≤ 5) (EE F 100 [RP0, I n] [rd bs p]) := by
  refine Gd.run (fn := i100) (by kernel_rfl) rfl ?_
  simp only [i100, b100, argSt, insSt]
  obtain ⟨b, q, ho, hq1, hq2, _⟩ := odd_ok hb p n (by omega) hn
  cases b with
  | true =>
    obtain ⟨v, hv, hvl⟩ := pk hb q 5 (by omega) (by omega)
    rcases (show v = 0 ∨ v = 1 ∨ v = 2 ∨ v = 3 ∨ v = 4 by omega) with rfl | rfl | rfl | rfl | rfl <;> simp only [↓xP, xQ, xR, flatR, eqCells_ok, eqSh, eqBs, Nat.reduceLT, decide_true, Nat.reduceBEq, Nat.reduceAdd, IOp.dst, IOp.isF, IOp.args, coolOp, Nat.reduceSub, rdx, ho, hv] <;> exact ⟨_, _, q + 1, rfl, by omega, by omega, rfl, _, _, rfl, by simp, by simp⟩
  | false =>
    obtain ⟨r1, n1, q1, h1, hq1, hq1', rfl, a, rfl, hla⟩ := l20Key_ok hb q 0 (by omega) (by omega)
    obtain ⟨r2, n2, q2, h2, hq2, hq2', rfl, b, rfl, hlb⟩ := l20Key_ok hb q1 0 (by omega) (by omega)
    obtain ⟨v, hv, hvl⟩ := pk hb q2 6 (by omega) (by omega)
    have hab : ∀ x y : Str, x.length ≤ 5 → y.length ≤ 5 → Gd bs p 20 (fun r m => m = [] ∧ ∃ a b : Str, r = [.ag [.u (.str a), .u (.str b)]] ∧ a.length ≤ 5 ∧ b.length ≤ 5) (some ⟨[.ag [.u (.str x), .u (.str y)]], [], [rd bs (q2 + 1)]⟩) := fun x y hx hy => ⟨_, _, q2 + 1, rfl, by omega, by omega, rfl, x, y, rfl, hx, hy⟩
    by_cases e0 : (v : Int) = 0
    · simp only [↓xP, xQ, xR, flatR, eqCells_ok, eqSh, eqBs, Nat.reduceLT, decide_true, Nat.reduceBEq, Nat.reduceAdd, IOp.dst, IOp.isF, IOp.args, coolOp, Nat.reduceSub, rdx, ho, h1, h2, hv, e0]
      exact hab _ _ (by simp) (by simp)
    by_cases e1 : (v : Int) = 1
    · have e10 : ¬ (1 : Int) = 0 := by omega
      simp only [↓xP, xQ, xR, flatR, eqCells_ok, eqSh, eqBs, Nat.reduceLT, decide_true, Nat.reduceBEq, Nat.reduceAdd, IOp.dst, IOp.isF, IOp.args, coolOp, Nat.reduceSub, rdx, ho, h1, h2, hv, e1, e10]
      exact hab _ _ hla (by simp)
    by_cases e2 : (v : Int) = 2
    · have e20 : ¬ (2 : Int) = 0 := by omega
      have e21 : ¬ (2 : Int) = 1 := by omega
      by_cases hba : b = [97]
      · subst hba
        simp only [↓xP, xQ, xR, flatR, eqCells_ok, eqSh, eqBs, Nat.reduceLT, decide_true, Nat.reduceBEq, Nat.reduceAdd, IOp.dst, IOp.isF, IOp.args, coolOp, Nat.reduceSub, rdx, ho, h1, h2, hv, e2, e20, e21, ne_eq, not_true_eq_false]
        refine sel_pred (fun _ => hab _ _ hla hlb) (fun _ => sel_pred (fun _ => hab _ _ hlb hla) (fun _ => hab _ _ hla (by simp)))
      · simp only [↓xP, xQ, xR, flatR, eqCells_ok, eqSh, eqBs, Nat.reduceLT, decide_true, Nat.reduceBEq, Nat.reduceAdd, IOp.dst, IOp.isF, IOp.args, coolOp, Nat.reduceSub, rdx, ho, h1, h2, hv, e2, e20, e21, hba, ne_eq, not_false_eq_true]
        exact hab _ _ (by simp) hlb
    · simp only [↓xP, xQ, xR, flatR, eqCells_ok, eqSh, eqBs, Nat.reduceLT, decide_true, Nat.reduceBEq, Nat.reduceAdd, IOp.dst, IOp.isF, IOp.args, coolOp, Nat.reduceSub, rdx, ho, h1, h2, hv, e0, e1, e2]
      refine sel_pred (fun _ => hab _ _ hla hlb) (fun _ => sel_pred (fun _ => hab _ _ hlb hla) (fun _ => hab _ _ hla (by simp)))
theorem set_rep {l : List Pair} {i : Nat} {p q : Pair} (h : l[i]? = some p) : (l.map Pair.u).set i (Pair.u q) = (rep l i 1 [q]).map Pair.u := by
  obtain ⟨hi, _⟩ := List.getElem?_eq_some_iff.1 h
  rw [← List.map_set]
  congr 1
  rw [List.set_eq_take_append_cons_drop, if_pos hi]
  simp [rep]
theorem rep1_len {l : List Pair} {i : Nat} {p q : Pair} (h : l[i]? = some p) : (rep l i 1 [q]).length = l.length := by
  obtain ⟨hi, _⟩ := List.getElem?_eq_some_iff.1 h
  rw [rep_len (by omega)]
  simp; omega
theorem pairPut_spec (l : List Pair) (key : Str) (v : Int) (hn : l.length ≤ 1048576) : EE F 169 [L 2 (l.map Pair.u), S key, I v] [] = listRet Pair.u 2 (pairPut l key v) := by
  rw [R169, b169]
  have hpl := place_le key l
  have hv := pairsValid_spec l
  cases h : pairsValid l
  · rw [h] at hv
    simp only [↓xP, xQ, xR, flatR, eqCells_ok, eqSh, eqBs, Nat.reduceLT, decide_true, Nat.reduceBEq, Nat.reduceAdd, IOp.dst, IOp.isF, IOp.args, coolOp, Nat.reduceSub, hv, pairPut, h, Bool.false_eq_true, false_and, if_false, listRet, List.map_nil, List.length_nil]
  rw [h] at hv
  have hl48 := pairsValid_len h
  have hkv := keyValid_spec key
  cases hk : keyValid key
  · rw [hk] at hkv
    simp only [↓xP, xQ, xR, flatR, eqCells_ok, eqSh, eqBs, Nat.reduceLT, decide_true, Nat.reduceBEq, Nat.reduceAdd, IOp.dst, IOp.isF, IOp.args, coolOp, Nat.reduceSub, hv, hkv, pairPut, hk, Bool.false_eq_true, false_and, and_false, if_false, listRet, List.map_nil, List.length_nil]
  rw [hk] at hkv
  cases hr : inR v 0 999
  · simp only [↓xP, xQ, xR, flatR, eqCells_ok, eqSh, eqBs, Nat.reduceLT, decide_true, Nat.reduceBEq, Nat.reduceAdd, IOp.dst, IOp.isF, IOp.args, coolOp, Nat.reduceSub, hv, hkv, l1In_ok, hr, pairPut, Bool.false_eq_true, false_and, and_false, if_false, listRet, List.map_nil, List.length_nil]
  have q0 : l.length ≤ maxLen ∧ l.length * 24 ≤ 140737488355328 := small_max hn (by omega)
  have hpl4 := l4Place_ok l key (by omega)
  cases hh : hit key l with
  | some p =>
    obtain ⟨pk, pv⟩ := p
    obtain ⟨h1, h2⟩ := hit_some hh
    dsimp only at h2
    subst h2
    have hlt := (List.getElem?_eq_some_iff.1 h1).1
    have hli : ((place pk l : Nat) : Int) < (l.length : Int) := by omega
    have hset := set_rep (q := ⟨pk, v⟩) h1
    have hrl := rep1_len (q := ⟨pk, v⟩) h1
    simp only [Pair.u] at hset
    have hpp : pairPut l pk v = (rep l (place pk l) 1 [⟨pk, v⟩], true) := by simp only [pairPut, h, hk, hr, hh, Option.isSome_some, and_self, if_true]
    rw [hpp]
    simp only [↓xP, xQ, xR, flatR, eqCells_ok, eqSh, eqBs, Nat.reduceLT, decide_true, Nat.reduceBEq, Nat.reduceAdd, IOp.dst, IOp.isF, IOp.args, coolOp, Nat.reduceSub, hv, hkv, l1In_ok, hr, hpl4, List.length_map, Nat.zero_add, List.nil_append, hli, h1, Pair.u, q0.1, q0.2, hset, hlt]
    simp [sel, hrl, listRet]
  | none =>
    have hno := hit_none hh
    have hmin : min (place key l) l.length = place key l := by omega
    have hct := cut_to (n := l.length) (i := place key l) (by omega)
    have hcf := cut_from (n := l.length) (i := place key l) (by omega)
    have q1 : place key l ≤ maxLen ∧ place key l * 24 ≤ 140737488355328 := small_max (by omega) (by omega)
    have q2 : place key l + 1 ≤ maxLen ∧ (place key l + 1) * 24 ≤ 140737488355328 := small_max (by omega) (by omega)
    have q3 : place key l + 1 + (l.length - place key l) ≤ maxLen ∧ (place key l + 1 + (l.length - place key l)) * 24 ≤ 140737488355328 := small_max (by omega) (by omega)
    have hlen : (rep l (place key l) 0 [⟨key, v⟩]).length = place key l + 1 + (l.length - place key l) := by rw [rep_len (by omega)]; simp; omega
    have her : List.take (place key l) (l.map Pair.u) ++ [[U.str key, U.int .i64 v]] ++ List.drop (place key l) (l.map Pair.u) = (rep l (place key l) 0 [⟨key, v⟩]).map Pair.u := by simp [rep, List.map_take, List.map_drop, Pair.u]
    by_cases hge : (48 : Int) ≤ (l.length : Int)
    · have hge' : 48 ≤ l.length := by omega
      have hpp : pairPut l key v = (l, false) := by simp only [pairPut, h, hk, hr, hh, Option.isSome_none, Bool.false_eq_true, if_false, hge', and_self, if_true]
      rw [hpp]
      by_cases hlt : place key l < l.length
      · obtain ⟨⟨pk, pv⟩, hp⟩ : ∃ p, l[place key l]? = some p := ⟨_, List.getElem?_eq_getElem (by omega)⟩
        have hli : ((place key l : Nat) : Int) < (l.length : Int) := by omega
        have hne : ¬ pk = key := hno _ hp
        simp only [↓xP, xQ, xR, flatR, eqCells_ok, eqSh, eqBs, Nat.reduceLT, decide_true, Nat.reduceBEq, Nat.reduceAdd, IOp.dst, IOp.isF, IOp.args, coolOp, Nat.reduceSub, hv, hkv, l1In_ok, hr, hpl4, List.length_map, Nat.zero_add, List.nil_append, hli, hp, Pair.u, hne, q0.1, q0.2, ge_iff_le, hge, listRet, map_all]
      · have hli : ¬ ((place key l : Nat) : Int) < (l.length : Int) := by omega
        simp only [↓xP, xQ, xR, flatR, eqCells_ok, eqSh, eqBs, Nat.reduceLT, decide_true, Nat.reduceBEq, Nat.reduceAdd, IOp.dst, IOp.isF, IOp.args, coolOp, Nat.reduceSub, hv, hkv, l1In_ok, hr, hpl4, List.length_map, Nat.zero_add, List.nil_append, hli, Pair.u, q0.1, q0.2, ge_iff_le, hge, listRet, map_all]
    · have hge' : ¬ 48 ≤ l.length := by omega
      have hpp : pairPut l key v = (rep l (place key l) 0 [⟨key, v⟩], true) := by simp only [pairPut, h, hk, hr, hh, Option.isSome_none, Bool.false_eq_true, if_false, hge', and_self, if_true]
      rw [hpp]
      by_cases hlt : place key l < l.length
      · obtain ⟨⟨pk, pv⟩, hp⟩ : ∃ p, l[place key l]? = some p := ⟨_, List.getElem?_eq_getElem (by omega)⟩
        have hli : ((place key l : Nat) : Int) < (l.length : Int) := by omega
        have hne : ¬ pk = key := hno _ hp
        simp only [↓xP, xQ, xR, flatR, eqCells_ok, eqSh, eqBs, Nat.reduceLT, decide_true, Nat.reduceBEq, Nat.reduceAdd, IOp.dst, IOp.isF, IOp.args, coolOp, Nat.reduceSub, hv, hkv, l1In_ok, hr, hpl4, List.length_map, List.length_take, List.length_drop, Nat.zero_add, List.nil_append, hli, hp, Pair.u, hne, q1.1, q1.2, q2.1, q2.2, q3.1, q3.2, ge_iff_le, hge, listRet, map_all, hct, hcf, hmin, hlen, her, List.drop_zero, List.length_append, List.length_cons, List.length_nil]
      · have hli : ¬ ((place key l : Nat) : Int) < (l.length : Int) := by omega
        simp only [↓xP, xQ, xR, flatR, eqCells_ok, eqSh, eqBs, Nat.reduceLT, decide_true, Nat.reduceBEq, Nat.reduceAdd, IOp.dst, IOp.isF, IOp.args, coolOp, Nat.reduceSub, hv, hkv, l1In_ok, hr, hpl4, List.length_map, List.length_take, List.length_drop, Nat.zero_add, List.nil_append, hli, Pair.u, q1.1, q1.2, q2.1, q2.2, q3.1, q3.2, ge_iff_le, hge, listRet, map_all, hct, hcf, hmin, hlen, her, List.drop_zero, List.length_append, List.length_cons, List.length_nil]
theorem weight_ok {i : Nat} (h : i < 4) : ∃ w : Int, EE F 184 [I (i : Int)] [] = ok1 (I w) ∧ ¬ w = 0 := by
  rcases (show i = 0 ∨ i = 1 ∨ i = 2 ∨ i = 3 by omega) with rfl | rfl | rfl | rfl
  · exact ⟨18279, EE_at 60 (by kernel_rfl), by omega⟩
  · exact ⟨703, EE_at 60 (by kernel_rfl), by omega⟩
  · exact ⟨27, EE_at 60 (by kernel_rfl), by omega⟩
  · exact ⟨1, EE_at 60 (by kernel_rfl), by omega⟩
theorem keyAt_some (n : Int) : Ok (fun r => ∃ s : Str, r = ⟨[S s], [], []⟩ ∧ s.length ≤ 4) (EE F 120 [I n] []) := by
  refine Ok.run (fn := i120) (by kernel_rfl) rfl ?_
  simp only [i120, b120, argSt, insSt]
  cases hin : inR n 0 475253
  · simp only [↓xP, xQ, xR, flatR, eqCells_ok, eqSh, eqBs, Nat.reduceLT, decide_true, Nat.reduceBEq, Nat.reduceAdd, IOp.dst, IOp.isF, IOp.args, coolOp, Nat.reduceSub, l1In_ok, hin]
    exact ⟨_, rfl, [], rfl, by simp⟩
  simp only [↓xP, xQ, xR, flatR, eqCells_ok, eqSh, eqBs, Nat.reduceLT, decide_true, Nat.reduceBEq, Nat.reduceAdd, IOp.dst, IOp.isF, IOp.args, coolOp, Nat.reduceSub, l1In_ok, hin]
  refine loop_pred (fun (a : Nat × Int × Str) st => a.1 ≤ 4 ∧ a.2.2.length = a.1 ∧ st.s 0 = DI a.2.1 ∧ st.s 3 = DS a.2.2 ∧ st.s 4 = DI a.1) (fun a => 4 - a.1) ?_ (0, n, []) ⟨by simp, rfl, (by and_intros <;> first | omega | rfl | (simp only [↓xP, xQ, xR, flatR, eqCells_ok, eqSh, eqBs, Nat.reduceLT, decide_true, Nat.reduceBEq, Nat.reduceAdd, IOp.dst, IOp.isF, IOp.args, coolOp, Nat.reduceSub]; done) | (simp only [↓xP, xQ, xR, flatR, eqCells_ok, eqSh, eqBs, Nat.reduceLT, decide_true, Nat.reduceBEq, Nat.reduceAdd, IOp.dst, IOp.isF, IOp.args, coolOp, Nat.reduceSub]; rfl) | (simp only [↓xP, xQ, xR, flatR, eqCells_ok, eqSh, eqBs, Nat.reduceLT, decide_true, Nat.reduceBEq, Nat.reduceAdd, IOp.dst, IOp.isF, IOp.args, coolOp, Nat.reduceSub]; omega))⟩
  rintro ⟨i, m, s⟩ st ⟨hle, hl, h0, h3, h4⟩ ih
  dsimp only at *
  by_cases hi : i < 4
  · have hi' : (i : Int) < 4 := by omega
    have hw := w_succ (i := i) (by omega)
    obtain ⟨w, hwt, hw0⟩ := weight_ok hi
    have hs1 : s.length + 1 ≤ 9223372036854775807 := by omega
    simp only [↓xP, xQ, xR, flatR, eqCells_ok, eqSh, eqBs, Nat.reduceLT, decide_true, Nat.reduceBEq, Nat.reduceAdd, IOp.dst, IOp.isF, IOp.args, coolOp, Nat.reduceSub, h0, h3, h4, hi', hwt, hw0, hs1]
    refine sel_pred (fun h => ?_) (fun h => ?_)
    · exact ⟨_, rfl, _, rfl, by simp; omega⟩
    · simp only [↓xP, xQ, xR, flatR, eqCells_ok, eqSh, eqBs, Nat.reduceLT, decide_true, Nat.reduceBEq, Nat.reduceAdd, IOp.dst, IOp.isF, IOp.args, coolOp, Nat.reduceSub, h0, h3, h4, hi', hwt, hw0, hs1, hw]
      refine ih (i + 1, _, _) _ (by dsimp only; omega) ⟨by dsimp only; omega, ?_, (by and_intros <;> first | omega | rfl | (simp only [↓xP, xQ, xR, flatR, eqCells_ok, eqSh, eqBs, Nat.reduceLT, decide_true, Nat.reduceBEq, Nat.reduceAdd, IOp.dst, IOp.isF, IOp.args, coolOp, Nat.reduceSub, h0, h3, h4, hw]; done) | (simp only [↓xP, xQ, xR, flatR, eqCells_ok, eqSh, eqBs, Nat.reduceLT, decide_true, Nat.reduceBEq, Nat.reduceAdd, IOp.dst, IOp.isF, IOp.args, coolOp, Nat.reduceSub, h0, h3, h4, hw]; rfl) | (simp only [↓xP, xQ, xR, flatR, eqCells_ok, eqSh, eqBs, Nat.reduceLT, decide_true, Nat.reduceBEq, Nat.reduceAdd, IOp.dst, IOp.isF, IOp.args, coolOp, Nat.reduceSub, h0, h3, h4, hw]; omega))⟩
      simp [hl]
  · have hi' : ¬ (i : Int) < 4 := by omega
    simp only [↓xP, xQ, xR, flatR, eqCells_ok, eqSh, eqBs, Nat.reduceLT, decide_true, Nat.reduceBEq, Nat.reduceAdd, IOp.dst, IOp.isF, IOp.args, coolOp, Nat.reduceSub, h0, h3, h4, hi']
    exact ⟨_, rfl, s, rfl, by omega⟩
theorem pairPut_len (l : List Pair) (key : Str) (v : Int) : (pairPut l key v).1.length ≤ 48 := by
  unfold pairPut
  split
  · rename_i h
    have hl := pairsValid_len h.1
    split
    · rename_i hs
      cases hh : hit key l with
      | none => rw [hh] at hs; cases hs
      | some p => rw [rep1_len (hit_some hh).1]; exact hl
    · split
      · exact hl
      · have := place_le key l
        rw [rep_len (by omega)]
        simp; omega
  · simp
set_option maxHeartbeats 1000000 in
theorem l20Pairs_ok {bs : List Int} (hb : Bytes bs) (p : Nat) (n : Int) (hn : n ≤ 1048576) (hp : p ≤ 100000000) : Gd bs p 120 (fun r m => m = [] ∧ ∃ l : List Pair, r = [L 2 (l.map Pair.u)] ∧ l.length ≤ 49) (EE F 101 [RP0, I n] [rd bs p]) := by
  refine Gd.run (fn := i101) (by kernel_rfl) rfl ?_
  simp only [i101, b101, argSt, insSt]
  obtain ⟨k0, hk0, hkl⟩ := pk hb p 9 (by omega) (by omega)
  simp only [↓xP, xQ, xR, flatR, eqCells_ok, eqSh, eqBs, Nat.reduceLT, decide_true, Nat.reduceBEq, Nat.reduceAdd, IOp.dst, IOp.isF, IOp.args, coolOp, Nat.reduceSub, rdx, hk0]
  refine loop_pred (fun (a : Nat × Nat × Bool × List Pair) st => a.1 ≤ 8 ∧ p + 1 ≤ a.2.1 ∧ a.2.1 + 9 * a.1 ≤ p + 73 ∧ a.2.2.2.length ≤ 48 ∧ st.s 0 = .t RP0 ∧ st.s 1 = DI n ∧ st.o (.par 0) = some (rd bs a.2.1) ∧ st.s 5 = .t (.sc (.own (wid (.loc 12 0) (.loc 25 0) a.2.2.1) a.2.2.2.length)) ∧ st.o (wid (.loc 12 0) (.loc 25 0) a.2.2.1) = some (.row 2 (a.2.2.2.map Pair.u)) ∧ st.s 6 = DI a.1) (fun a => a.1) ?_ (k0, p + 1, false, []) ⟨by dsimp only; omega, by dsimp only; omega, by dsimp only; omega, by simp, (by and_intros <;> first | omega | rfl | (simp only [↓xP, xQ, xR, flatR, eqCells_ok, eqSh, eqBs, Nat.reduceLT, decide_true, Nat.reduceBEq, Nat.reduceAdd, IOp.dst, IOp.isF, IOp.args, coolOp, Nat.reduceSub, rdx, wid]; done) | (simp only [↓xP, xQ, xR, flatR, eqCells_ok, eqSh, eqBs, Nat.reduceLT, decide_true, Nat.reduceBEq, Nat.reduceAdd, IOp.dst, IOp.isF, IOp.args, coolOp, Nat.reduceSub, rdx, wid]; rfl) | (simp only [↓xP, xQ, xR, flatR, eqCells_ok, eqSh, eqBs, Nat.reduceLT, decide_true, Nat.reduceBEq, Nat.reduceAdd, IOp.dst, IOp.isF, IOp.args, coolOp, Nat.reduceSub, rdx, wid]; omega))⟩
  rintro ⟨k, q, b, l⟩ st ⟨hle, hq, hq', hl, h0, h1, hr, h5, ho5, h6⟩ ih
  dsimp only at *
  cases k with
  | succ k =>
    have hk : (0 : Int) < ((k + 1 : Nat) : Int) := by omega
    have hwk := w_pred (i := k) (by omega)
    obtain ⟨r1, n1, q1, h1', hq1, hq1', rfl, s, rfl, hls⟩ := l20Key_ok hb q 0 (by omega) (by omega)
    obtain ⟨r2, n2, q2, h2', hq2, hq2', rfl, v, rfl, hv1, hv2⟩ := l20Value_ok hb q1 0 (by omega) (by omega)
    have hpp := pairPut_spec l s v (by omega)
    have hpl := pairPut_len l s v
    generalize pairPut l s v = pp at hpp hpl
    obtain ⟨l', ok⟩ := pp
    simp only [listRet] at hpp
    dsimp only at hpl
    cases b
    · simp only [wid] at *
      simp only [↓xP, xQ, xR, flatR, eqCells_ok, eqSh, eqBs, Nat.reduceLT, decide_true, Nat.reduceBEq, Nat.reduceAdd, IOp.dst, IOp.isF, IOp.args, coolOp, Nat.reduceSub, rdx, h0, h1, hr, h5, ho5, h6, gt_iff_lt, hk, h1', h2', hpp, hwk, map_all]
      exact ih (k, q2, true, l') _ (by dsimp only; omega) ⟨by dsimp only; omega, by dsimp only; omega, by dsimp only; omega, hpl, (by and_intros <;> first | omega | rfl | (simp only [↓xP, xQ, xR, flatR, eqCells_ok, eqSh, eqBs, Nat.reduceLT, decide_true, Nat.reduceBEq, Nat.reduceAdd, IOp.dst, IOp.isF, IOp.args, coolOp, Nat.reduceSub, rdx, wid, h0, h1, hr, h5, ho5, h6, hwk]; done) | (simp only [↓xP, xQ, xR, flatR, eqCells_ok, eqSh, eqBs, Nat.reduceLT, decide_true, Nat.reduceBEq, Nat.reduceAdd, IOp.dst, IOp.isF, IOp.args, coolOp, Nat.reduceSub, rdx, wid, h0, h1, hr, h5, ho5, h6, hwk]; rfl) | (simp only [↓xP, xQ, xR, flatR, eqCells_ok, eqSh, eqBs, Nat.reduceLT, decide_true, Nat.reduceBEq, Nat.reduceAdd, IOp.dst, IOp.isF, IOp.args, coolOp, Nat.reduceSub, rdx, wid, h0, h1, hr, h5, ho5, h6, hwk]; omega))⟩
    · simp only [wid] at *
      simp only [↓xP, xQ, xR, flatR, eqCells_ok, eqSh, eqBs, Nat.reduceLT, decide_true, Nat.reduceBEq, Nat.reduceAdd, IOp.dst, IOp.isF, IOp.args, coolOp, Nat.reduceSub, rdx, h0, h1, hr, h5, ho5, h6, gt_iff_lt, hk, h1', h2', hpp, hwk, map_all]
      exact ih (k, q2, true, l') _ (by dsimp only; omega) ⟨by dsimp only; omega, by dsimp only; omega, by dsimp only; omega, hpl, (by and_intros <;> first | omega | rfl | (simp only [↓xP, xQ, xR, flatR, eqCells_ok, eqSh, eqBs, Nat.reduceLT, decide_true, Nat.reduceBEq, Nat.reduceAdd, IOp.dst, IOp.isF, IOp.args, coolOp, Nat.reduceSub, rdx, wid, h0, h1, hr, h5, ho5, h6, hwk]; done) | (simp only [↓xP, xQ, xR, flatR, eqCells_ok, eqSh, eqBs, Nat.reduceLT, decide_true, Nat.reduceBEq, Nat.reduceAdd, IOp.dst, IOp.isF, IOp.args, coolOp, Nat.reduceSub, rdx, wid, h0, h1, hr, h5, ho5, h6, hwk]; rfl) | (simp only [↓xP, xQ, xR, flatR, eqCells_ok, eqSh, eqBs, Nat.reduceLT, decide_true, Nat.reduceBEq, Nat.reduceAdd, IOp.dst, IOp.isF, IOp.args, coolOp, Nat.reduceSub, rdx, wid, h0, h1, hr, h5, ho5, h6, hwk]; omega))⟩
  | zero =>
    have hk : ¬ (0 : Int) < ((0 : Nat) : Int) := by omega
    obtain ⟨v0, hv0, hvl0⟩ := pk hb q 16 (by omega) (by omega)
    have app1 : ∀ (l : List Pair) a b, l.map Pair.u ++ [[.str a, .int .i64 b]] = (l ++ [(⟨a, b⟩ : Pair)]).map Pair.u := fun l a b => by simp [Pair.u]
    have htk : ∀ (l : List Pair) x, List.take (l.length + 1) (List.map Pair.u (l ++ [x])) = List.map Pair.u (l ++ [x]) := fun l x => List.take_of_length_le (by simp)
    have q49 : ∀ l : List Pair, l.length ≤ 48 → l.length + 1 ≤ maxLen ∧ (l.length + 1) * 24 ≤ 140737488355328 := fun l h => small_max (by omega) (by omega)
    by_cases h15 : (v0 : Int) = 15
    case neg =>
      obtain ⟨bo, q4, hod, hq4, hq4', _⟩ := odd_ok hb (q + 1) n (by omega) hn
      obtain ⟨w, hw, hwl⟩ := pk hb q4 5 (by omega) (by omega)
      have q5 := q49 l hl
      cases b <;> cases bo
      all_goals simp only [wid] at *
      · simp only [↓xP, xQ, xR, flatR, eqCells_ok, eqSh, eqBs, Nat.reduceLT, decide_true, Nat.reduceBEq, Nat.reduceAdd, IOp.dst, IOp.isF, IOp.args, coolOp, Nat.reduceSub, rdx, h0, h1, hr, h5, ho5, h6, gt_iff_lt, hk, hv0, h15, hod, map_all]
        exact ⟨_, _, q4, rfl, by omega, by omega, rfl, l, rfl, by omega⟩
      · rcases (show w = 0 ∨ w = 1 ∨ w = 2 ∨ w = 3 ∨ w = 4 by omega) with rfl | rfl | rfl | rfl | rfl <;> simp only [↓xP, xQ, xR, flatR, eqCells_ok, eqSh, eqBs, Nat.reduceLT, decide_true, Nat.reduceBEq, Nat.reduceAdd, IOp.dst, IOp.isF, IOp.args, coolOp, Nat.reduceSub, rdx, h0, h1, hr, h5, ho5, h6, gt_iff_lt, hk, hv0, h15, hod, hw, List.length_map, q5.1, q5.2, app1, htk, List.length_append, List.length_cons, List.length_nil, Nat.zero_add, Nat.le_refl] <;> (refine ⟨_, _, q4 + 1, rfl, by omega, by omega, rfl, _, rfl, ?_⟩; simp only [List.length_append, List.length_cons, List.length_nil]; omega)
      · simp only [↓xP, xQ, xR, flatR, eqCells_ok, eqSh, eqBs, Nat.reduceLT, decide_true, Nat.reduceBEq, Nat.reduceAdd, IOp.dst, IOp.isF, IOp.args, coolOp, Nat.reduceSub, rdx, h0, h1, hr, h5, ho5, h6, gt_iff_lt, hk, hv0, h15, hod, map_all]
        exact ⟨_, _, q4, rfl, by omega, by omega, rfl, l, rfl, by omega⟩
      · rcases (show w = 0 ∨ w = 1 ∨ w = 2 ∨ w = 3 ∨ w = 4 by omega) with rfl | rfl | rfl | rfl | rfl <;> simp only [↓xP, xQ, xR, flatR, eqCells_ok, eqSh, eqBs, Nat.reduceLT, decide_true, Nat.reduceBEq, Nat.reduceAdd, IOp.dst, IOp.isF, IOp.args, coolOp, Nat.reduceSub, rdx, h0, h1, hr, h5, ho5, h6, gt_iff_lt, hk, hv0, h15, hod, hw, List.length_map, q5.1, q5.2, app1, htk, List.length_append, List.length_cons, List.length_nil, Nat.zero_add, Nat.le_refl] <;> (refine ⟨_, _, q4 + 1, rfl, by omega, by omega, rfl, _, rfl, ?_⟩; simp only [List.length_append, List.length_cons, List.length_nil]; omega)
    clear ih
    cases b
    · simp only [wid] at *
      simp only [↓xP, xQ, xR, flatR, eqCells_ok, eqSh, eqBs, Nat.reduceLT, decide_true, Nat.reduceBEq, Nat.reduceAdd, IOp.dst, IOp.isF, IOp.args, coolOp, Nat.reduceSub, rdx, h0, h1, hr, h5, ho5, h6, gt_iff_lt, hk, hv0, h15]
      refine loop_pred (fun (a : Nat × Bool × List Pair) st => a.1 ≤ 200 ∧ a.2.2.length ≤ 48 ∧ st.s 0 = .t RP0 ∧ st.s 1 = DI n ∧ st.o (.par 0) = some (rd bs (q + 1)) ∧ st.s 5 = .t (.sc (.own (wid (.loc 12 0) (.loc 47 0) a.2.1) a.2.2.length)) ∧ st.o (wid (.loc 12 0) (.loc 47 0) a.2.1) = some (.row 2 (a.2.2.map Pair.u)) ∧ st.s 9 = DI a.1) (fun a => 200 - a.1) ?_ (0, false, l) ⟨by simp, hl, (by and_intros <;> first | omega | rfl | (simp only [↓xP, xQ, xR, flatR, eqCells_ok, eqSh, eqBs, Nat.reduceLT, decide_true, Nat.reduceBEq, Nat.reduceAdd, IOp.dst, IOp.isF, IOp.args, coolOp, Nat.reduceSub, rdx, wid, h0, h1, hr, h5, ho5, h6]; done) | (simp only [↓xP, xQ, xR, flatR, eqCells_ok, eqSh, eqBs, Nat.reduceLT, decide_true, Nat.reduceBEq, Nat.reduceAdd, IOp.dst, IOp.isF, IOp.args, coolOp, Nat.reduceSub, rdx, wid, h0, h1, hr, h5, ho5, h6]; rfl) | (simp only [↓xP, xQ, xR, flatR, eqCells_ok, eqSh, eqBs, Nat.reduceLT, decide_true, Nat.reduceBEq, Nat.reduceAdd, IOp.dst, IOp.isF, IOp.args, coolOp, Nat.reduceSub, rdx, wid, h0, h1, hr, h5, ho5, h6]; omega))⟩
      clear h0 h1 hr h5 ho5 h6 hl
      rintro ⟨k, b, l⟩ st ⟨hle, hl, h0, h1, hr, h5, ho5, h9⟩ ih
      dsimp only at *
      obtain ⟨bo, q4, hod, hq4, hq4', _⟩ := odd_ok hb (q + 1) n (by omega) hn
      obtain ⟨w, hw, hwl⟩ := pk hb q4 5 (by omega) (by omega)
      have q5 := q49 l hl
      by_cases h48 : (l.length : Int) < 48
      · by_cases h200 : (k : Int) < 200
        · have hwk := w_succ (i := k) (by omega)
          obtain ⟨r, hka, s, rfl, hls⟩ := keyAt_some (IntKind.i64.wrap ((k : Int) * 9))
          have hpp := pairPut_spec l s k (by omega)
          have hpl := pairPut_len l s k
          generalize pairPut l s k = pp at hpp hpl
          obtain ⟨l', ok⟩ := pp
          simp only [listRet] at hpp
          dsimp only at hpl
          cases b
          all_goals
            simp only [wid] at *
            simp only [↓xP, xQ, xR, flatR, eqCells_ok, eqSh, eqBs, Nat.reduceLT, decide_true, Nat.reduceBEq, Nat.reduceAdd, IOp.dst, IOp.isF, IOp.args, coolOp, Nat.reduceSub, rdx, h0, h1, hr, h5, ho5, h9, List.length_map, h48, h200, hka, hpp, hwk, map_all]
            exact ih (k + 1, true, l') _ (by dsimp only; omega) ⟨by dsimp only; omega, hpl, (by and_intros <;> first | omega | rfl | (simp only [↓xP, xQ, xR, flatR, eqCells_ok, eqSh, eqBs, Nat.reduceLT, decide_true, Nat.reduceBEq, Nat.reduceAdd, IOp.dst, IOp.isF, IOp.args, coolOp, Nat.reduceSub, rdx, wid, h0, h1, hr, h5, ho5, h9, hwk]; done) | (simp only [↓xP, xQ, xR, flatR, eqCells_ok, eqSh, eqBs, Nat.reduceLT, decide_true, Nat.reduceBEq, Nat.reduceAdd, IOp.dst, IOp.isF, IOp.args, coolOp, Nat.reduceSub, rdx, wid, h0, h1, hr, h5, ho5, h9, hwk]; rfl) | (simp only [↓xP, xQ, xR, flatR, eqCells_ok, eqSh, eqBs, Nat.reduceLT, decide_true, Nat.reduceBEq, Nat.reduceAdd, IOp.dst, IOp.isF, IOp.args, coolOp, Nat.reduceSub, rdx, wid, h0, h1, hr, h5, ho5, h9, hwk]; omega))⟩
        · cases b <;> cases bo
          all_goals simp only [wid] at *
          · simp only [↓xP, xQ, xR, flatR, eqCells_ok, eqSh, eqBs, Nat.reduceLT, decide_true, Nat.reduceBEq, Nat.reduceAdd, IOp.dst, IOp.isF, IOp.args, coolOp, Nat.reduceSub, rdx, h0, h1, hr, h5, ho5, h9, List.length_map, h48, h200, hod, map_all]
            exact ⟨_, _, q4, rfl, by omega, by omega, rfl, l, rfl, by omega⟩
          · rcases (show w = 0 ∨ w = 1 ∨ w = 2 ∨ w = 3 ∨ w = 4 by omega) with rfl | rfl | rfl | rfl | rfl <;> simp only [↓xP, xQ, xR, flatR, eqCells_ok, eqSh, eqBs, Nat.reduceLT, decide_true, Nat.reduceBEq, Nat.reduceAdd, IOp.dst, IOp.isF, IOp.args, coolOp, Nat.reduceSub, rdx, h0, h1, hr, h5, ho5, h9, List.length_map, h48, h200, hod, hw, q5.1, q5.2, app1, htk, List.length_append, List.length_cons, List.length_nil, Nat.zero_add, Nat.le_refl] <;> (refine ⟨_, _, q4 + 1, rfl, by omega, by omega, rfl, _, rfl, ?_⟩; simp only [List.length_append, List.length_cons, List.length_nil]; omega)
          · simp only [↓xP, xQ, xR, flatR, eqCells_ok, eqSh, eqBs, Nat.reduceLT, decide_true, Nat.reduceBEq, Nat.reduceAdd, IOp.dst, IOp.isF, IOp.args, coolOp, Nat.reduceSub, rdx, h0, h1, hr, h5, ho5, h9, List.length_map, h48, h200, hod, map_all]
            exact ⟨_, _, q4, rfl, by omega, by omega, rfl, l, rfl, by omega⟩
          · rcases (show w = 0 ∨ w = 1 ∨ w = 2 ∨ w = 3 ∨ w = 4 by omega) with rfl | rfl | rfl | rfl | rfl <;> simp only [↓xP, xQ, xR, flatR, eqCells_ok, eqSh, eqBs, Nat.reduceLT, decide_true, Nat.reduceBEq, Nat.reduceAdd, IOp.dst, IOp.isF, IOp.args, coolOp, Nat.reduceSub, rdx, h0, h1, hr, h5, ho5, h9, List.length_map, h48, h200, hod, hw, q5.1, q5.2, app1, htk, List.length_append, List.length_cons, List.length_nil, Nat.zero_add, Nat.le_refl] <;> (refine ⟨_, _, q4 + 1, rfl, by omega, by omega, rfl, _, rfl, ?_⟩; simp only [List.length_append, List.length_cons, List.length_nil]; omega)
      · cases b <;> cases bo
        all_goals simp only [wid] at *
        · simp only [↓xP, xQ, xR, flatR, eqCells_ok, eqSh, eqBs, Nat.reduceLT, decide_true, Nat.reduceBEq, Nat.reduceAdd, IOp.dst, IOp.isF, IOp.args, coolOp, Nat.reduceSub, rdx, h0, h1, hr, h5, ho5, h9, List.length_map, h48, hod, map_all]
          exact ⟨_, _, q4, rfl, by omega, by omega, rfl, l, rfl, by omega⟩
        · rcases (show w = 0 ∨ w = 1 ∨ w = 2 ∨ w = 3 ∨ w = 4 by omega) with rfl | rfl | rfl | rfl | rfl <;> simp only [↓xP, xQ, xR, flatR, eqCells_ok, eqSh, eqBs, Nat.reduceLT, decide_true, Nat.reduceBEq, Nat.reduceAdd, IOp.dst, IOp.isF, IOp.args, coolOp, Nat.reduceSub, rdx, h0, h1, hr, h5, ho5, h9, List.length_map, h48, hod, hw, q5.1, q5.2, app1, htk, List.length_append, List.length_cons, List.length_nil, Nat.zero_add, Nat.le_refl] <;> (refine ⟨_, _, q4 + 1, rfl, by omega, by omega, rfl, _, rfl, ?_⟩; simp only [List.length_append, List.length_cons, List.length_nil]; omega)
        · simp only [↓xP, xQ, xR, flatR, eqCells_ok, eqSh, eqBs, Nat.reduceLT, decide_true, Nat.reduceBEq, Nat.reduceAdd, IOp.dst, IOp.isF, IOp.args, coolOp, Nat.reduceSub, rdx, h0, h1, hr, h5, ho5, h9, List.length_map, h48, hod, map_all]
          exact ⟨_, _, q4, rfl, by omega, by omega, rfl, l, rfl, by omega⟩
        · rcases (show w = 0 ∨ w = 1 ∨ w = 2 ∨ w = 3 ∨ w = 4 by omega) with rfl | rfl | rfl | rfl | rfl <;> simp only [↓xP, xQ, xR, flatR, eqCells_ok, eqSh, eqBs, Nat.reduceLT, decide_true, Nat.reduceBEq, Nat.reduceAdd, IOp.dst, IOp.isF, IOp.args, coolOp, Nat.reduceSub, rdx, h0, h1, hr, h5, ho5, h9, List.length_map, h48, hod, hw, q5.1, q5.2, app1, htk, List.length_append, List.length_cons, List.length_nil, Nat.zero_add, Nat.le_refl] <;> (refine ⟨_, _, q4 + 1, rfl, by omega, by omega, rfl, _, rfl, ?_⟩; simp only [List.length_append, List.length_cons, List.length_nil]; omega)
    · simp only [wid] at *
      simp only [↓xP, xQ, xR, flatR, eqCells_ok, eqSh, eqBs, Nat.reduceLT, decide_true, Nat.reduceBEq, Nat.reduceAdd, IOp.dst, IOp.isF, IOp.args, coolOp, Nat.reduceSub, rdx, h0, h1, hr, h5, ho5, h6, gt_iff_lt, hk, hv0, h15]
      refine loop_pred (fun (a : Nat × Bool × List Pair) st => a.1 ≤ 200 ∧ a.2.2.length ≤ 48 ∧ st.s 0 = .t RP0 ∧ st.s 1 = DI n ∧ st.o (.par 0) = some (rd bs (q + 1)) ∧ st.s 5 = .t (.sc (.own (wid (.loc 25 0) (.loc 47 0) a.2.1) a.2.2.length)) ∧ st.o (wid (.loc 25 0) (.loc 47 0) a.2.1) = some (.row 2 (a.2.2.map Pair.u)) ∧ st.s 9 = DI a.1) (fun a => 200 - a.1) ?_ (0, false, l) ⟨by simp, hl, (by and_intros <;> first | omega | rfl | (simp only [↓xP, xQ, xR, flatR, eqCells_ok, eqSh, eqBs, Nat.reduceLT, decide_true, Nat.reduceBEq, Nat.reduceAdd, IOp.dst, IOp.isF, IOp.args, coolOp, Nat.reduceSub, rdx, wid, h0, h1, hr, h5, ho5, h6]; done) | (simp only [↓xP, xQ, xR, flatR, eqCells_ok, eqSh, eqBs, Nat.reduceLT, decide_true, Nat.reduceBEq, Nat.reduceAdd, IOp.dst, IOp.isF, IOp.args, coolOp, Nat.reduceSub, rdx, wid, h0, h1, hr, h5, ho5, h6]; rfl) | (simp only [↓xP, xQ, xR, flatR, eqCells_ok, eqSh, eqBs, Nat.reduceLT, decide_true, Nat.reduceBEq, Nat.reduceAdd, IOp.dst, IOp.isF, IOp.args, coolOp, Nat.reduceSub, rdx, wid, h0, h1, hr, h5, ho5, h6]; omega))⟩
      clear h0 h1 hr h5 ho5 h6 hl
      rintro ⟨k, b, l⟩ st ⟨hle, hl, h0, h1, hr, h5, ho5, h9⟩ ih
      dsimp only at *
      obtain ⟨bo, q4, hod, hq4, hq4', _⟩ := odd_ok hb (q + 1) n (by omega) hn
      obtain ⟨w, hw, hwl⟩ := pk hb q4 5 (by omega) (by omega)
      have q5 := q49 l hl
      by_cases h48 : (l.length : Int) < 48
      · by_cases h200 : (k : Int) < 200
        · have hwk := w_succ (i := k) (by omega)
          obtain ⟨r, hka, s, rfl, hls⟩ := keyAt_some (IntKind.i64.wrap ((k : Int) * 9))
          have hpp := pairPut_spec l s k (by omega)
          have hpl := pairPut_len l s k
          generalize pairPut l s k = pp at hpp hpl
          obtain ⟨l', ok⟩ := pp
          simp only [listRet] at hpp
          dsimp only at hpl
          cases b
          all_goals
            simp only [wid] at *
            simp only [↓xP, xQ, xR, flatR, eqCells_ok, eqSh, eqBs, Nat.reduceLT, decide_true, Nat.reduceBEq, Nat.reduceAdd, IOp.dst, IOp.isF, IOp.args, coolOp, Nat.reduceSub, rdx, h0, h1, hr, h5, ho5, h9, List.length_map, h48, h200, hka, hpp, hwk, map_all]
            exact ih (k + 1, true, l') _ (by dsimp only; omega) ⟨by dsimp only; omega, hpl, (by and_intros <;> first | omega | rfl | (simp only [↓xP, xQ, xR, flatR, eqCells_ok, eqSh, eqBs, Nat.reduceLT, decide_true, Nat.reduceBEq, Nat.reduceAdd, IOp.dst, IOp.isF, IOp.args, coolOp, Nat.reduceSub, rdx, wid, h0, h1, hr, h5, ho5, h9, hwk]; done) | (simp only [↓xP, xQ, xR, flatR, eqCells_ok, eqSh, eqBs, Nat.reduceLT, decide_true, Nat.reduceBEq, Nat.reduceAdd, IOp.dst, IOp.isF, IOp.args, coolOp, Nat.reduceSub, rdx, wid, h0, h1, hr, h5, ho5, h9, hwk]; rfl) | (simp only [↓xP, xQ, xR, flatR, eqCells_ok, eqSh, eqBs, Nat.reduceLT, decide_true, Nat.reduceBEq, Nat.reduceAdd, IOp.dst, IOp.isF, IOp.args, coolOp, Nat.reduceSub, rdx, wid, h0, h1, hr, h5, ho5, h9, hwk]; omega))⟩
        · cases b <;> cases bo
          all_goals simp only [wid] at *
          · simp only [↓xP, xQ, xR, flatR, eqCells_ok, eqSh, eqBs, Nat.reduceLT, decide_true, Nat.reduceBEq, Nat.reduceAdd, IOp.dst, IOp.isF, IOp.args, coolOp, Nat.reduceSub, rdx, h0, h1, hr, h5, ho5, h9, List.length_map, h48, h200, hod, map_all]
            exact ⟨_, _, q4, rfl, by omega, by omega, rfl, l, rfl, by omega⟩
          · rcases (show w = 0 ∨ w = 1 ∨ w = 2 ∨ w = 3 ∨ w = 4 by omega) with rfl | rfl | rfl | rfl | rfl <;> simp only [↓xP, xQ, xR, flatR, eqCells_ok, eqSh, eqBs, Nat.reduceLT, decide_true, Nat.reduceBEq, Nat.reduceAdd, IOp.dst, IOp.isF, IOp.args, coolOp, Nat.reduceSub, rdx, h0, h1, hr, h5, ho5, h9, List.length_map, h48, h200, hod, hw, q5.1, q5.2, app1, htk, List.length_append, List.length_cons, List.length_nil, Nat.zero_add, Nat.le_refl] <;> (refine ⟨_, _, q4 + 1, rfl, by omega, by omega, rfl, _, rfl, ?_⟩; simp only [List.length_append, List.length_cons, List.length_nil]; omega)
          · simp only [↓xP, xQ, xR, flatR, eqCells_ok, eqSh, eqBs, Nat.reduceLT, decide_true, Nat.reduceBEq, Nat.reduceAdd, IOp.dst, IOp.isF, IOp.args, coolOp, Nat.reduceSub, rdx, h0, h1, hr, h5, ho5, h9, List.length_map, h48, h200, hod, map_all]
            exact ⟨_, _, q4, rfl, by omega, by omega, rfl, l, rfl, by omega⟩
          · rcases (show w = 0 ∨ w = 1 ∨ w = 2 ∨ w = 3 ∨ w = 4 by omega) with rfl | rfl | rfl | rfl | rfl <;> simp only [↓xP, xQ, xR, flatR, eqCells_ok, eqSh, eqBs, Nat.reduceLT, decide_true, Nat.reduceBEq, Nat.reduceAdd, IOp.dst, IOp.isF, IOp.args, coolOp, Nat.reduceSub, rdx, h0, h1, hr, h5, ho5, h9, List.length_map, h48, h200, hod, hw, q5.1, q5.2, app1, htk, List.length_append, List.length_cons, List.length_nil, Nat.zero_add, Nat.le_refl] <;> (refine ⟨_, _, q4 + 1, rfl, by omega, by omega, rfl, _, rfl, ?_⟩; simp only [List.length_append, List.length_cons, List.length_nil]; omega)
      · cases b <;> cases bo
        all_goals simp only [wid] at *
        · simp only [↓xP, xQ, xR, flatR, eqCells_ok, eqSh, eqBs, Nat.reduceLT, decide_true, Nat.reduceBEq, Nat.reduceAdd, IOp.dst, IOp.isF, IOp.args, coolOp, Nat.reduceSub, rdx, h0, h1, hr, h5, ho5, h9, List.length_map, h48, hod, map_all]
          exact ⟨_, _, q4, rfl, by omega, by omega, rfl, l, rfl, by omega⟩
        · rcases (show w = 0 ∨ w = 1 ∨ w = 2 ∨ w = 3 ∨ w = 4 by omega) with rfl | rfl | rfl | rfl | rfl <;> simp only [↓xP, xQ, xR, flatR, eqCells_ok, eqSh, eqBs, Nat.reduceLT, decide_true, Nat.reduceBEq, Nat.reduceAdd, IOp.dst, IOp.isF, IOp.args, coolOp, Nat.reduceSub, rdx, h0, h1, hr, h5, ho5, h9, List.length_map, h48, hod, hw, q5.1, q5.2, app1, htk, List.length_append, List.length_cons, List.length_nil, Nat.zero_add, Nat.le_refl] <;> (refine ⟨_, _, q4 + 1, rfl, by omega, by omega, rfl, _, rfl, ?_⟩; simp only [List.length_append, List.length_cons, List.length_nil]; omega)
        · simp only [↓xP, xQ, xR, flatR, eqCells_ok, eqSh, eqBs, Nat.reduceLT, decide_true, Nat.reduceBEq, Nat.reduceAdd, IOp.dst, IOp.isF, IOp.args, coolOp, Nat.reduceSub, rdx, h0, h1, hr, h5, ho5, h9, List.length_map, h48, hod, map_all]
          exact ⟨_, _, q4, rfl, by omega, by omega, rfl, l, rfl, by omega⟩
        · rcases (show w = 0 ∨ w = 1 ∨ w = 2 ∨ w = 3 ∨ w = 4 by omega) with rfl | rfl | rfl | rfl | rfl <;> simp only [↓xP, xQ, xR, flatR, eqCells_ok, eqSh, eqBs, Nat.reduceLT, decide_true, Nat.reduceBEq, Nat.reduceAdd, IOp.dst, IOp.isF, IOp.args, coolOp, Nat.reduceSub, rdx, h0, h1, hr, h5, ho5, h9, List.length_map, h48, hod, hw, q5.1, q5.2, app1, htk, List.length_append, List.length_cons, List.length_nil, Nat.zero_add, Nat.le_refl] <;> (refine ⟨_, _, q4 + 1, rfl, by omega, by omega, rfl, _, rfl, ?_⟩; simp only [List.length_append, List.length_cons, List.length_nil]; omega)
def PairFit (p : Pair) : Prop := keyValid p.key = true ∧ inR p.value 0 999 = true
def Up (a b : Pair) : Prop := strLt a.key b.key = true
theorem pairsValid_iff (l : List Pair) : pairsValid l = true ↔ l.length ≤ 48 ∧ (∀ p, p ∈ l → PairFit p) ∧ l.Pairwise Up := by
  constructor
  · intro h
    refine ⟨pairsValid_len h, fun p hp => ?_, ?_⟩
    · obtain ⟨i, hi⟩ := List.mem_iff_getElem?.1 hp
      exact pairsValid_at h hi
    · rw [List.pairwise_iff_getElem]
      intro i j hi hj hij
      exact asc_of h i j _ _ hij (List.getElem?_eq_getElem hi) (List.getElem?_eq_getElem hj)
  · rintro ⟨h1, h2, h3⟩
    simp only [pairsValid, Bool.and_eq_true, decide_eq_true_eq]
    refine ⟨h1, (allF_iff _ 0 rfl).2 fun j _ hj => ?_⟩
    obtain ⟨p, hp⟩ : ∃ p, l[j]? = some p := ⟨_, List.getElem?_eq_getElem hj⟩
    have hf := h2 p (List.mem_of_getElem? hp)
    simp only [pairAt, hp, hf.1, hf.2, Bool.and_true, Bool.true_and, Bool.or_eq_true, decide_eq_true_eq]
    by_cases h0 : j = 0
    · exact .inl h0
    · right
      obtain ⟨q, hq⟩ : ∃ q, l[j - 1]? = some q := ⟨_, List.getElem?_eq_getElem (by omega)⟩
      rw [hq]
      have := List.pairwise_iff_getElem.1 h3 (j - 1) j (by omega) hj (by omega)
      rw [(List.getElem?_eq_some_iff.1 hq).2, (List.getElem?_eq_some_iff.1 hp).2] at this
      exact this
theorem pairsValid_filter {l : List Pair} (h : pairsValid l = true) (f : Pair → Bool) : pairsValid (l.filter f) = true := by
  obtain ⟨h1, h2, h3⟩ := (pairsValid_iff l).1 h
  exact (pairsValid_iff _).2 ⟨Nat.le_trans (List.length_filter_le ..) h1, fun p hp => h2 p (List.mem_filter.1 hp).1, h3.filter f⟩
theorem pairsIn_valid {l : List Pair} (h : pairsValid l = true) (v : Interval) : pairsValid (pairsIn l v) = true := pairsValid_filter h _
theorem pairsIn_inside (l : List Pair) (v : Interval) : (pairsIn l v).all (fun q => inside v q.key) = true := by
  rw [List.all_eq_true]
  exact fun p hp => (List.mem_filter.1 hp).2
/-- What lies in the place where two intervals meet lies in both. -/
theorem inside_meet (a b : Interval) (x : Str) : inside (meetOf a b) x = (inside a x && inside b x) := by
  have key : ∀ lo1 lo2 : Str, (!strLt x (if strLt lo1 lo2 = true then lo2 else lo1)) = (!strLt x lo1 && !strLt x lo2) := by
    intro lo1 lo2
    split
    · rename_i h
      cases h2 : strLt x lo1
      · simp
      · simp [lt_trans h2 h]
    · rename_i h
      cases h2 : strLt x lo2
      · simp
      · cases h3 : strLt x lo1
        · rcases lt_total lo1 lo2 with q | q | q
          · exact absurd q h
          · subst q; rw [h2] at h3; cases h3
          · rw [lt_trans h2 q] at h3; cases h3
        · simp
  have key2 : ∀ h1 h2 : Str, (decide ((if h2 ≠ [] ∧ (h1 = [] ∨ strLt h2 h1 = true) then h2 else h1) = []) || strLt x (if h2 ≠ [] ∧ (h1 = [] ∨ strLt h2 h1 = true) then h2 else h1)) = ((decide (h1 = []) || strLt x h1) && (decide (h2 = []) || strLt x h2)) := by
    intro h1 h2
    by_cases e2 : h2 = []
    · subst e2; simp
    by_cases e1 : h1 = []
    · subst e1; simp [e2]
    cases q : strLt h2 h1
    · simp only [e2, e1, q, ne_eq, not_false_eq_true, true_and, false_or, Bool.false_eq_true, if_false, decide_false, Bool.false_or]
      cases q1 : strLt x h1
      · rfl
      · rcases lt_total h1 h2 with t | t | t
        · rw [lt_trans q1 t]; rfl
        · subst t; rw [q1]; rfl
        · rw [t] at q; cases q
    · simp only [e2, e1, q, ne_eq, not_false_eq_true, true_and, false_or, if_true, decide_false, Bool.false_or]
      cases q1 : strLt x h2
      · simp
      · simp [lt_trans q1 q]
  have k1 := key a.low b.low
  have k2 := key2 a.high b.high
  show ((!strLt x (meetOf a b).low) && (decide ((meetOf a b).high = []) || strLt x (meetOf a b).high)) = ((!strLt x a.low && (decide (a.high = []) || strLt x a.high)) && (!strLt x b.low && (decide (b.high = []) || strLt x b.high)))
  have e1 : (!strLt x (meetOf a b).low) = (!strLt x a.low && !strLt x b.low) := k1
  have e2 : (decide ((meetOf a b).high = []) || strLt x (meetOf a b).high) = ((decide (a.high = []) || strLt x a.high) && (decide (b.high = []) || strLt x b.high)) := k2
  rw [e1, e2]
  generalize (decide (a.high = []) || strLt x a.high) = p
  generalize (decide (b.high = []) || strLt x b.high) = q
  generalize (!strLt x a.low) = r
  generalize (!strLt x b.low) = s
  cases p <;> cases q <;> cases r <;> cases s <;> rfl
theorem key_least {s : Str} (h : keyValid s = true) : s ≠ [] ∧ strLt s [97] = false := by
  simp only [keyValid, Bool.and_eq_true, decide_eq_true_eq] at h
  obtain ⟨⟨h1, _⟩, h2⟩ := h
  cases s with
  | nil => simp at h1
  | cons c t =>
    refine ⟨by simp, ?_⟩
    simp only [List.all_cons, Bool.and_eq_true] at h2
    have hc := h2.1
    simp only [letter, Bool.and_eq_true, decide_eq_true_eq] at hc
    rw [lt_cons, lt_nil']
    have hn : ¬ c < 97 := by
      have h97 : (97 : UInt8).toNat = 97 := rfl
      have := hc.1
      rw [UInt8.lt_iff_toNat_lt, h97]
      omega
    simp [hn]
theorem le_lt {a b c : Str} (h1 : strLt b a = false) (h2 : strLt b c = true) : strLt a c = true := by
  rcases lt_total a b with h | h | h
  · exact lt_trans h h2
  · subst h; exact h2
  · rw [h] at h1; cases h1
/-- The letters of a number, by the weights of the places. -/
def keyW : List Nat → Nat → Str
  | [], n => []
  | w :: ws, n => UInt8.ofNat (97 + n / w) :: (if n % w = 0 then [] else keyW ws (n % w - 1))
def keyAt (n : Nat) : Str := keyW [18279, 703, 27, 1] n
theorem ofNat_lt {a b : Nat} (ha : a < 256) (hb : b < 256) : UInt8.ofNat a < UInt8.ofNat b ↔ a < b := by
  rw [UInt8.lt_iff_toNat_lt]
  simp [UInt8.toNat_ofNat', Nat.mod_eq_of_lt hb, Nat.mod_eq_of_lt ha]
theorem keyW_step {w : Nat} {ws : List Nat} {M : Nat} (hw : 0 < w) (hM : M / w ≤ 25) (hrec : ∀ n m, n < m → m ≤ w - 2 → strLt (keyW ws n) (keyW ws m) = true) (hne : ∀ n, keyW ws n ≠ [] ∨ w = 1) {n m : Nat} (h : n < m) (hm : m ≤ M) : strLt (keyW (w :: ws) n) (keyW (w :: ws) m) = true := by
  simp only [keyW]
  rw [lt_cons]
  have h1 : n / w ≤ m / w := Nat.div_le_div_right (by omega)
  have h2 : m / w ≤ M / w := Nat.div_le_div_right hm
  have en := Nat.div_add_mod n w
  have em := Nat.div_add_mod m w
  have ln := Nat.mod_lt n hw
  have lm := Nat.mod_lt m hw
  by_cases hd : n / w < m / w
  · have : UInt8.ofNat (97 + n / w) < UInt8.ofNat (97 + m / w) := by
      rw [ofNat_lt (by omega) (by omega)]
      omega
    simp only [this, decide_true, Bool.true_or]
  · have he : n / w = m / w := by omega
    rw [he]
    have hr : n % w < m % w := by
      rw [he] at en
      omega
    have hm0 : ¬ m % w = 0 := by omega
    rw [if_neg hm0]
    by_cases hn0 : n % w = 0
    · rw [if_pos hn0, lt_nil]
      have : keyW ws (m % w - 1) ≠ [] := by
        rcases hne (m % w - 1) with h | h
        · exact h
        · omega
      simp [this]
    · rw [if_neg hn0]
      have := hrec (n % w - 1) (m % w - 1) (by omega) (by omega)
      simp [this]
theorem keyW_ne (w : Nat) (ws : List Nat) (n : Nat) : keyW (w :: ws) n ≠ [] := by simp [keyW]
theorem keyAt_lt {n m : Nat} (h : n < m) (hm : m ≤ 475253) : strLt (keyAt n) (keyAt m) = true := by
  have h1 : ∀ n m, n < m → m ≤ 27 - 2 → strLt (keyW [1] n) (keyW [1] m) = true := fun n m h hm => keyW_step (M := 25) (by omega) (by omega) (fun n m h hm => by omega) (fun _ => .inr rfl) h (by omega)
  have h2 : ∀ n m, n < m → m ≤ 703 - 2 → strLt (keyW [27, 1] n) (keyW [27, 1] m) = true := fun n m h hm => keyW_step (M := 701) (by omega) (by omega) h1 (fun n => .inl (keyW_ne _ _ n)) h (by omega)
  have h3 : ∀ n m, n < m → m ≤ 18279 - 2 → strLt (keyW [703, 27, 1] n) (keyW [703, 27, 1] m) = true := fun n m h hm => keyW_step (M := 18277) (by omega) (by omega) h2 (fun n => .inl (keyW_ne _ _ n)) h (by omega)
  exact keyW_step (M := 475253) (by omega) (by omega) h3 (fun n => .inl (keyW_ne _ _ n)) h hm
theorem letter_ofNat {d : Nat} (h : d ≤ 25) : letter (UInt8.ofNat (97 + d)) = true := by
  have : (UInt8.ofNat (97 + d)).toNat = 97 + d := by simp [UInt8.toNat_ofNat']; omega
  simp only [letter, this, Bool.and_eq_true, decide_eq_true_eq]
  omega
theorem keyW_fit : ∀ (w : Nat) (ws : List Nat) (n : Nat), 0 < w → n / w ≤ 25 → (∀ m, m ≤ w - 2 → (keyW ws m).all letter = true) → (keyW (w :: ws) n).all letter = true
  | w, ws, n, hw, hn, hrec => by
    simp only [keyW, List.all_cons, letter_ofNat hn, Bool.true_and]
    split
    · rfl
    · have := Nat.mod_lt n hw
      exact hrec _ (by omega)
theorem keyW_len : ∀ (ws : List Nat) (n : Nat), (keyW ws n).length ≤ ws.length
  | [], n => by simp [keyW]
  | w :: ws, n => by
    simp only [keyW, List.length_cons]
    split
    · simp
    · have := keyW_len ws (n % w - 1); omega
theorem keyAt_valid {n : Nat} (h : n ≤ 475253) : keyValid (keyAt n) = true := by
  have h1 : ∀ m, m ≤ 27 - 2 → (keyW [1] m).all letter = true := fun m hm => keyW_fit 1 [] m (by omega) (by omega) (fun m hm => by simp [keyW])
  have h2 : ∀ m, m ≤ 703 - 2 → (keyW [27, 1] m).all letter = true := fun m hm => keyW_fit 27 [1] m (by omega) (by omega) h1
  have h3 : ∀ m, m ≤ 18279 - 2 → (keyW [703, 27, 1] m).all letter = true := fun m hm => keyW_fit 703 [27, 1] m (by omega) (by omega) h2
  have h4 := keyW_fit 18279 [703, 27, 1] n (by omega) (by omega) h3
  have hl := keyW_len [18279, 703, 27, 1] n
  have hne := keyW_ne 18279 [703, 27, 1] n
  have hl1 : 1 ≤ (keyAt n).length := by
    cases hk : keyAt n with
    | nil => exact absurd hk hne
    | cons a t => simp
  have hl4 : (keyAt n).length ≤ 4 := hl
  have h4' : (keyAt n).all letter = true := h4
  simp only [keyValid, h4', hl1, hl4, decide_true, Bool.and_self]
def wtV : Nat → Nat
  | 0 => 18279
  | 1 => 703
  | 2 => 27
  | _ => 1
def bndV : Nat → Nat
  | 0 => 475253
  | 1 => 18277
  | 2 => 701
  | _ => 25
theorem weight_eq {i : Nat} (h : i < 4) : EE F 184 [I (i : Int)] [] = ok1 (I (wtV i : Nat)) := by
  rcases (show i = 0 ∨ i = 1 ∨ i = 2 ∨ i = 3 by omega) with rfl | rfl | rfl | rfl
  · exact EE_at 60 (by kernel_rfl)
  · exact EE_at 60 (by kernel_rfl)
  · exact EE_at 60 (by kernel_rfl)
  · exact EE_at 60 (by kernel_rfl)
theorem keyW_cons {i : Nat} (h : i < 4) (m : Nat) : keyW ([18279, 703, 27, 1].drop i) m = UInt8.ofNat (97 + m / wtV i) :: (if m % wtV i = 0 then [] else keyW ([18279, 703, 27, 1].drop (i + 1)) (m % wtV i - 1)) := by
  rcases (show i = 0 ∨ i = 1 ∨ i = 2 ∨ i = 3 by omega) with rfl | rfl | rfl | rfl <;> rfl
theorem wt_bnd {i m : Nat} (h : i < 4) (hm : m ≤ bndV i) : 0 < wtV i ∧ m / wtV i ≤ 25 ∧ (¬ m % wtV i = 0 → i < 3 ∧ m % wtV i - 1 ≤ bndV (i + 1)) := by
  rcases (show i = 0 ∨ i = 1 ∨ i = 2 ∨ i = 3 by omega) with rfl | rfl | rfl | rfl <;> simp only [wtV, bndV] at * <;> omega
theorem keyAt_ok (n : Nat) (hn : n ≤ 475253) : EE F 120 [I (n : Int)] [] = ok1 (S (keyAt n)) := by
  rw [R120, b120]
  have hin : inR (n : Int) 0 475253 = true := by simp [inR]; omega
  simp only [↓xP, xQ, xR, flatR, eqCells_ok, eqSh, eqBs, Nat.reduceLT, decide_true, Nat.reduceBEq, Nat.reduceAdd, IOp.dst, IOp.isF, IOp.args, coolOp, Nat.reduceSub, l1In_ok, hin]
  refine (loop_ind (fun (a : Nat × Nat × Str) st => a.1 < 4 ∧ a.2.1 ≤ bndV a.1 ∧ a.2.2.length ≤ 4 ∧ a.2.2.length = a.1 ∧ st.s 0 = DI a.2.1 ∧ st.s 3 = DS a.2.2 ∧ st.s 4 = DI a.1) (fun a => 4 - a.1) (fun a => ok1 (S (a.2.2 ++ keyW ([18279, 703, 27, 1].drop a.1) a.2.1))) ?_ (0, n, []) ⟨by simp, hn, by simp, rfl, (by and_intros <;> first | omega | rfl | (simp only [↓xP, xQ, xR, flatR, eqCells_ok, eqSh, eqBs, Nat.reduceLT, decide_true, Nat.reduceBEq, Nat.reduceAdd, IOp.dst, IOp.isF, IOp.args, coolOp, Nat.reduceSub]; done) | (simp only [↓xP, xQ, xR, flatR, eqCells_ok, eqSh, eqBs, Nat.reduceLT, decide_true, Nat.reduceBEq, Nat.reduceAdd, IOp.dst, IOp.isF, IOp.args, coolOp, Nat.reduceSub]; rfl) | (simp only [↓xP, xQ, xR, flatR, eqCells_ok, eqSh, eqBs, Nat.reduceLT, decide_true, Nat.reduceBEq, Nat.reduceAdd, IOp.dst, IOp.isF, IOp.args, coolOp, Nat.reduceSub]; omega))⟩).trans rfl
  rintro ⟨i, m, s⟩ st ⟨hi, hm, hs4, hl, h0, h3, h4⟩ ih
  dsimp only at *
  have hi' : (i : Int) < 4 := by omega
  have hw := w_succ (i := i) (by omega)
  have hwt := weight_eq hi
  obtain ⟨hw0, hdig, hnext⟩ := wt_bnd hi hm
  have hb : m ≤ 475253 := by
    have : bndV i ≤ 475253 := by rcases (show i = 0 ∨ i = 1 ∨ i = 2 ∨ i = 3 by omega) with rfl | rfl | rfl | rfl <;> simp [bndV]
    omega
  rw [keyW_cons hi]
  generalize wtV i = w at *
  have hwn0 : ¬ ((w : Nat) : Int) = 0 := by omega
  have hs1 : s.length + 1 ≤ 9223372036854775807 := by omega
  have t1 : (m : Int).tdiv ((w : Nat) : Int) = ((m / w : Nat) : Int) := rfl
  have t2 : (m : Int).tmod ((w : Nat) : Int) = ((m % w : Nat) : Int) := rfl
  have hmw : m % w ≤ m := Nat.mod_le _ _
  generalize m / w = D at *
  generalize m % w = R at *
  have w1 : IntKind.i64.wrap (D : Int) = (D : Int) := by rw [w64 (by omega) (by omega)]
  have w2 : IntKind.i64.wrap (97 + (D : Int)) = ((97 + D : Nat) : Int) := by rw [w64 (by omega) (by omega)]; omega
  have w3 : IntKind.u8.wrap ((97 + D : Nat) : Int) = ((97 + D : Nat) : Int) := by rw [IntKind.wrap_u8]; omega
  by_cases hr : R = 0
  · rw [if_pos hr]
    have hr' : (R : Int) = 0 := by omega
    simp only [↓xP, xQ, xR, flatR, eqCells_ok, eqSh, eqBs, Nat.reduceLT, decide_true, Nat.reduceBEq, Nat.reduceAdd, IOp.dst, IOp.isF, IOp.args, coolOp, Nat.reduceSub, h0, h3, h4, hi', hwt, hwn0, t1, t2, w1, w2, w3, hs1, hr', Int.toNat_natCast]
  · obtain ⟨hi3, hm'⟩ := hnext hr
    rw [if_neg hr]
    have hr' : ¬ (R : Int) = 0 := by omega
    have w5 : IntKind.i64.wrap ((R : Int) - 1) = ((R - 1 : Nat) : Int) := by rw [w64 (by omega) (by omega)]; omega
    simp only [↓xP, xQ, xR, flatR, eqCells_ok, eqSh, eqBs, Nat.reduceLT, decide_true, Nat.reduceBEq, Nat.reduceAdd, IOp.dst, IOp.isF, IOp.args, coolOp, Nat.reduceSub, h0, h3, h4, hi', hwt, hwn0, t1, t2, w1, w2, w3, w5, hs1, hr', hw, Int.toNat_natCast]
    rw [ih (i + 1, R - 1, s ++ [UInt8.ofNat (97 + D)]) _ (by dsimp only; omega) ⟨by dsimp only; omega, hm', by simp; omega, by simp [hl], (by and_intros <;> first | omega | rfl | (simp only [↓xP, xQ, xR, flatR, eqCells_ok, eqSh, eqBs, Nat.reduceLT, decide_true, Nat.reduceBEq, Nat.reduceAdd, IOp.dst, IOp.isF, IOp.args, coolOp, Nat.reduceSub, h0, h3, h4, hw, w5]; done) | (simp only [↓xP, xQ, xR, flatR, eqCells_ok, eqSh, eqBs, Nat.reduceLT, decide_true, Nat.reduceBEq, Nat.reduceAdd, IOp.dst, IOp.isF, IOp.args, coolOp, Nat.reduceSub, h0, h3, h4, hw, w5]; rfl) | (simp only [↓xP, xQ, xR, flatR, eqCells_ok, eqSh, eqBs, Nat.reduceLT, decide_true, Nat.reduceBEq, Nat.reduceAdd, IOp.dst, IOp.isF, IOp.args, coolOp, Nat.reduceSub, h0, h3, h4, hw, w5]; omega))⟩]
    simp
def partsOf : Str → List Str → List Interval
  | lo, [] => [⟨lo, []⟩]
  | lo, b :: bs => ⟨lo, b⟩ :: partsOf b bs
def lastB : Str → List Str → Str
  | lo, [] => lo
  | lo, b :: bs => lastB b bs
theorem partsOf_len : ∀ (l : List Str) (lo : Str), (partsOf lo l).length = l.length + 1
  | [], lo => rfl
  | b :: l, lo => by simp [partsOf, partsOf_len l b]
theorem partsOf_last : ∀ (l : List Str) (lo : Str), (partsOf lo l)[l.length]? = some ⟨lastB lo l, []⟩
  | [], lo => rfl
  | b :: l, lo => by simp [partsOf, lastB, partsOf_last l b]
theorem partsOf_snoc : ∀ (l : List Str) (lo b : Str), partsOf lo (l ++ [b]) = (partsOf lo l).set l.length ⟨lastB lo l, b⟩ ++ [⟨b, []⟩]
  | [], lo, b => rfl
  | c :: l, lo, b => by simp [partsOf, lastB, partsOf_snoc l c b]
/-- Bounds that rise: valid keys, each greater than the one ahead of it, and greater than the least key. -/
def Rise : Str → List Str → Prop
  | _, [] => True
  | lo, b :: bs => keyValid b = true ∧ strLt (if lo = [] then [97] else lo) b = true ∧ Rise b bs
theorem rise_valid : ∀ (l : List Str) (lo : Str), (lo = [] ∨ keyValid lo = true) → Rise lo l → ∀ v, v ∈ partsOf lo l → intervalValid v = true
  | [], lo, hlo, _, v, hv => by
    simp only [partsOf, List.mem_singleton] at hv
    subst hv
    simp only [intervalValid, Bool.and_eq_true, Bool.or_eq_true, decide_eq_true_eq]
    exact ⟨⟨hlo, .inl trivial⟩, .inl trivial⟩
  | b :: l, lo, hlo, hr, v, hv => by
    obtain ⟨h1, h2, h3⟩ := hr
    simp only [partsOf, List.mem_cons] at hv
    rcases hv with rfl | hv
    · simp only [intervalValid, Bool.and_eq_true, Bool.or_eq_true, decide_eq_true_eq]
      exact ⟨⟨hlo, .inr h1⟩, .inr h2⟩
    · exact rise_valid l b (.inr h1) h3 v hv
theorem rise_join : ∀ (l : List Str) (lo : Str) (j : Nat) (a b : Interval), (lo = [] ∨ keyValid lo = true) → Rise lo l → (partsOf lo l)[j]? = some a → (partsOf lo l)[j + 1]? = some b → a.high = b.low ∧ a.high ≠ []
  | [], lo, j, a, b, _, _, ha, hb => by simp [partsOf] at hb
  | c :: l, lo, 0, a, b, _, hr, ha, hb => by
    simp only [partsOf, List.getElem?_cons_zero, Option.some.injEq] at ha
    subst ha
    obtain ⟨h1, _, _⟩ := hr
    have hc : c ≠ [] := by intro e; subst e; simp [keyValid] at h1
    cases l with
    | nil => simp [partsOf] at hb; subst hb; exact ⟨rfl, hc⟩
    | cons d l => simp [partsOf] at hb; subst hb; exact ⟨rfl, hc⟩
  | c :: l, lo, j + 1, a, b, _, hr, ha, hb => by
    simp only [partsOf, List.getElem?_cons_succ] at ha hb
    exact rise_join l c j a b (.inr hr.1) hr.2.2 ha hb
/-- Some part holds a key. -/
theorem parts_cover (x : Str) : ∀ (l : List Str) (lo : Str), strLt x lo = false → ∃ v, v ∈ partsOf lo l ∧ inside v x = true
  | [], lo, h => ⟨⟨lo, []⟩, by simp [partsOf], by simp [inside, h]⟩
  | b :: l, lo, h => by
    cases hb : strLt x b
    · obtain ⟨v, hv, hi⟩ := parts_cover x l b hb
      exact ⟨v, by simp [partsOf, hv], hi⟩
    · exact ⟨⟨lo, b⟩, by simp [partsOf], by simp [inside, h, hb]⟩
theorem partitionValid_true (l : List Interval) (h1 : 1 ≤ l.length) (h6 : l.length ≤ 6) (hv : ∀ v, v ∈ l → intervalValid v = true) (hj : ∀ j a b, l[j]? = some a → l[j + 1]? = some b → a.high = b.low ∧ a.high ≠ []) (h0 : ∀ a, l[0]? = some a → a.low = []) (hl : ∀ a, l[l.length - 1]? = some a → a.high = []) : EE F 233 [L 2 (l.map Interval.u)] [] = ok1 (B true) := by
  rw [R233, b233]
  have hin : inR (l.length : Int) 1 6 = true := by simp [inR]; omega
  obtain ⟨⟨alo, ahi⟩, ha⟩ : ∃ a, l[0]? = some a := ⟨_, List.getElem?_eq_getElem (by omega)⟩
  obtain ⟨⟨blo, bhi⟩, hb⟩ : ∃ a, l[l.length - 1]? = some a := ⟨_, List.getElem?_eq_getElem (by omega)⟩
  have e1 := h0 _ ha
  have e2 := hl _ hb
  dsimp only at e1 e2
  subst e1 e2
  have hva := intervalValid_spec [] ahi
  rw [hv _ (List.mem_of_getElem? ha)] at hva
  have hw1 : IntKind.i64.wrap ((l.length : Int) - 1) = ((l.length - 1 : Nat) : Int) := by rw [w64 (by omega) (by omega)]; omega
  have e00 : (0 : Int) = ((0 : Nat) : Int) := rfl
  simp only [↓xP, xQ, xR, flatR, eqCells_ok, eqSh, eqBs, Nat.reduceLT, decide_true, Nat.reduceBEq, Nat.reduceAdd, IOp.dst, IOp.isF, IOp.args, coolOp, Nat.reduceSub, List.length_map, l1In_ok, hin, ha, hb, hva, Interval.u, hw1, ne_eq, not_true_eq_false]
  refine (loop_ind (fun (i : Nat) st => 1 ≤ i ∧ i ≤ l.length ∧ st.s 0 = DU (.sl 2 (l.map Interval.u)) ∧ st.s 3 = DI i) (fun i => l.length - i) (fun i => ok1 (B true)) ?_ 1 ⟨by omega, h1, (by and_intros <;> first | omega | rfl | (simp only [↓xP, xQ, xR, flatR, eqCells_ok, eqSh, eqBs, Nat.reduceLT, decide_true, Nat.reduceBEq, Nat.reduceAdd, IOp.dst, IOp.isF, IOp.args, coolOp, Nat.reduceSub]; done) | (simp only [↓xP, xQ, xR, flatR, eqCells_ok, eqSh, eqBs, Nat.reduceLT, decide_true, Nat.reduceBEq, Nat.reduceAdd, IOp.dst, IOp.isF, IOp.args, coolOp, Nat.reduceSub]; rfl) | (simp only [↓xP, xQ, xR, flatR, eqCells_ok, eqSh, eqBs, Nat.reduceLT, decide_true, Nat.reduceBEq, Nat.reduceAdd, IOp.dst, IOp.isF, IOp.args, coolOp, Nat.reduceSub]; omega))⟩).trans rfl
  rintro i st ⟨hi1, hle, hs0, hs3⟩ ih
  by_cases hi : i < l.length
  · obtain ⟨i, rfl⟩ : ∃ k, i = k + 1 := ⟨i - 1, by omega⟩
    obtain ⟨⟨clo, chi⟩, hc⟩ : ∃ a, l[i]? = some a := ⟨_, List.getElem?_eq_getElem (by omega)⟩
    obtain ⟨⟨dlo, dhi⟩, hd⟩ : ∃ a, l[i + 1]? = some a := ⟨_, List.getElem?_eq_getElem (by omega)⟩
    have hw := w_succ (i := i + 1) (by omega)
    have hp := w_pred (i := i) (by omega)
    have hjo := intervalJoin_spec clo chi dlo dhi
    obtain ⟨q1, q2⟩ := hj i _ _ hc hd
    dsimp only at q1 q2
    have hjok : joinOk ⟨clo, chi⟩ ⟨dlo, dhi⟩ = true := by
      simp only [joinOk, hv _ (List.mem_of_getElem? hc), hv _ (List.mem_of_getElem? hd), Bool.true_and, Bool.and_eq_true, Bool.not_eq_true', decide_eq_true_eq, decide_eq_false_iff_not]
      exact ⟨q2, q1⟩
    simp only [joinRet, hjok, ↓xP, xQ, xR, flatR, eqCells_ok, eqSh, eqBs, Nat.reduceLT, decide_true, Nat.reduceBEq, Nat.reduceAdd, IOp.dst, IOp.isF, IOp.args, coolOp, Nat.reduceSub] at hjo
    simp only [↓xP, xQ, xR, flatR, eqCells_ok, eqSh, eqBs, Nat.reduceLT, decide_true, Nat.reduceBEq, Nat.reduceAdd, IOp.dst, IOp.isF, IOp.args, coolOp, Nat.reduceSub, rdx2, hs0, hs3, List.length_map, hi, hp, hc, hd, Interval.u, hjo, hw]
    exact ih (i + 1 + 1) _ (by omega) ⟨by omega, by omega, (by and_intros <;> first | omega | rfl | (simp only [↓xP, xQ, xR, flatR, eqCells_ok, eqSh, eqBs, Nat.reduceLT, decide_true, Nat.reduceBEq, Nat.reduceAdd, IOp.dst, IOp.isF, IOp.args, coolOp, Nat.reduceSub, hs0, hs3, hw]; done) | (simp only [↓xP, xQ, xR, flatR, eqCells_ok, eqSh, eqBs, Nat.reduceLT, decide_true, Nat.reduceBEq, Nat.reduceAdd, IOp.dst, IOp.isF, IOp.args, coolOp, Nat.reduceSub, hs0, hs3, hw]; rfl) | (simp only [↓xP, xQ, xR, flatR, eqCells_ok, eqSh, eqBs, Nat.reduceLT, decide_true, Nat.reduceBEq, Nat.reduceAdd, IOp.dst, IOp.isF, IOp.args, coolOp, Nat.reduceSub, hs0, hs3, hw]; omega))⟩
  · simp only [↓xP, xQ, xR, flatR, eqCells_ok, eqSh, eqBs, Nat.reduceLT, decide_true, Nat.reduceBEq, Nat.reduceAdd, IOp.dst, IOp.isF, IOp.args, coolOp, Nat.reduceSub, hs0, hs3, List.length_map, hi]
theorem partitionOf_ok (l : List Str) (h5 : l.length ≤ 5) (hr : Rise [] l) : EE F 208 [L 1 (l.map sU)] [] = some ⟨[.sc (.own (.par 0) (partsOf [] l).length), B true], [.row 2 ((partsOf [] l).map Interval.u)], []⟩ := by
  rw [R208, b208]
  have hpv := partitionValid_true (partsOf [] l) (by rw [partsOf_len]; omega) (by rw [partsOf_len]; omega) (rise_valid l [] (.inl rfl) hr) (fun j a b ha hb => rise_join l [] j a b (.inl rfl) hr ha hb)
    (fun a ha => by cases l <;> simp [partsOf] at ha <;> subst ha <;> rfl) (fun a ha => by rw [partsOf_len, Nat.add_sub_cancel, partsOf_last] at ha; cases ha; rfl)
  simp only [↓xP, xQ, xR, flatR, eqCells_ok, eqSh, eqBs, Nat.reduceLT, decide_true, Nat.reduceBEq, Nat.reduceAdd, IOp.dst, IOp.isF, IOp.args, coolOp, Nat.reduceSub]
  refine (loop_ind (fun (k : Nat) st => k ≤ l.length ∧ st.s 0 = DU (.sl 1 (l.map sU)) ∧ st.s 5 = DI k ∧ st.s 4 = .t (.sc (.own (.loc 7 0) (k + 1))) ∧ st.o (.loc 7 0) = some (.row 2 ((partsOf [] (l.take k)).map Interval.u))) (fun k => l.length - k) (fun k => some ⟨[.sc (.own (.par 0) (partsOf [] l).length), B true], [.row 2 ((partsOf [] l).map Interval.u)], []⟩) ?_ 0 ⟨by omega, (by and_intros <;> first | omega | rfl | (simp only [↓xP, xQ, xR, flatR, eqCells_ok, eqSh, eqBs, Nat.reduceLT, decide_true, Nat.reduceBEq, Nat.reduceAdd, IOp.dst, IOp.isF, IOp.args, coolOp, Nat.reduceSub, List.take_zero, partsOf, List.map_cons, List.map_nil, Interval.u]; done) | (simp only [↓xP, xQ, xR, flatR, eqCells_ok, eqSh, eqBs, Nat.reduceLT, decide_true, Nat.reduceBEq, Nat.reduceAdd, IOp.dst, IOp.isF, IOp.args, coolOp, Nat.reduceSub, List.take_zero, partsOf, List.map_cons, List.map_nil, Interval.u]; rfl) | (simp only [↓xP, xQ, xR, flatR, eqCells_ok, eqSh, eqBs, Nat.reduceLT, decide_true, Nat.reduceBEq, Nat.reduceAdd, IOp.dst, IOp.isF, IOp.args, coolOp, Nat.reduceSub, List.take_zero, partsOf, List.map_cons, List.map_nil, Interval.u]; omega))⟩).trans rfl
  rintro k st ⟨hk, h0, h5s, h4, ho⟩ ih
  have hpl := partsOf_len (l.take k) []
  rw [List.length_take, Nat.min_eq_left hk] at hpl
  by_cases hi : k < l.length
  · obtain ⟨b, hb⟩ : ∃ b, l[k]? = some b := ⟨_, List.getElem?_eq_getElem hi⟩
    have hw := w_succ (i := k) (by omega)
    have hp := w_pred (i := k) (by omega)
    have h6 : ((k + 1 : Nat) : Int) ≤ 6 := by omega
    have hlast := partsOf_last (l.take k) []
    rw [List.length_take, Nat.min_eq_left hk] at hlast
    have hsn := partsOf_snoc (l.take k) [] b
    rw [List.length_take, Nat.min_eq_left hk] at hsn
    have htk : l.take (k + 1) = l.take k ++ [b] := by rw [List.take_add_one, hb]; rfl
    rw [← htk] at hsn
    have hset : ((partsOf [] (l.take k)).map Interval.u).set k [.str (lastB [] (l.take k)), .str b] ++ [[.str b, .str []]] = (partsOf [] (l.take (k + 1))).map Interval.u := by
      rw [hsn, List.map_append, List.map_set]; rfl
    have hlen2 : (((partsOf [] (l.take k)).map Interval.u).set k [.str (lastB [] (l.take k)), .str b]).length = k + 1 := by simp [hpl]
    have q1 : k + 1 + 1 ≤ maxLen ∧ (k + 1 + 1) * 32 ≤ 140737488355328 := small_max (by omega) (by omega)
    have hk1 : k < k + 1 := by omega
    simp only [↓xP, xQ, xR, flatR, eqCells_ok, eqSh, eqBs, Nat.reduceLT, decide_true, Nat.reduceBEq, Nat.reduceAdd, IOp.dst, IOp.isF, IOp.args, coolOp, Nat.reduceSub, h0, h5s, h4, ho, List.length_map, hi, h6, hp, hb, sU, hlast, Interval.u, hlen2, hset, q1.1, q1.2, hw, hk1]
    exact ih (k + 1) _ (by omega) ⟨by omega, (by and_intros <;> first | omega | rfl | (simp only [↓xP, xQ, xR, flatR, eqCells_ok, eqSh, eqBs, Nat.reduceLT, decide_true, Nat.reduceBEq, Nat.reduceAdd, IOp.dst, IOp.isF, IOp.args, coolOp, Nat.reduceSub, h0, h5s, h4, ho, hw, hset]; done) | (simp only [↓xP, xQ, xR, flatR, eqCells_ok, eqSh, eqBs, Nat.reduceLT, decide_true, Nat.reduceBEq, Nat.reduceAdd, IOp.dst, IOp.isF, IOp.args, coolOp, Nat.reduceSub, h0, h5s, h4, ho, hw, hset]; rfl) | (simp only [↓xP, xQ, xR, flatR, eqCells_ok, eqSh, eqBs, Nat.reduceLT, decide_true, Nat.reduceBEq, Nat.reduceAdd, IOp.dst, IOp.isF, IOp.args, coolOp, Nat.reduceSub, h0, h5s, h4, ho, hw, hset]; omega))⟩
  · have hkl : k = l.length := by omega
    subst hkl
    rw [List.take_length] at ho hpl
    have hm : List.take (l.length + 1) ((partsOf [] l).map Interval.u) = (partsOf [] l).map Interval.u := List.take_of_length_le (by simp [hpl])
    simp only [↓xP, xQ, xR, flatR, eqCells_ok, eqSh, eqBs, Nat.reduceLT, decide_true, Nat.reduceBEq, Nat.reduceAdd, IOp.dst, IOp.isF, IOp.args, coolOp, Nat.reduceSub, h0, h5s, h4, ho, List.length_map, hi, hm, hpv, hpl]
theorem l20Key_valid {bs : List Int} (hb : Bytes bs) (p : Nat) (hp : p ≤ 1000000000) : Gd bs p 6 (fun r m => m = [] ∧ ∃ s : Str, r = [.sc (.u (.str s))] ∧ keyValid s = true) (EE F 141 [RP0, I 0] [rd bs p]) := by
  refine Gd.run (fn := i141) (by kernel_rfl) rfl ?_
  simp only [i141, b141, argSt, insSt]
  obtain ⟨b, q, ho, hq1, hq2, hb0⟩ := odd_ok hb p 0 (by omega) (by omega)
  obtain rfl := hb0 (by omega)
  obtain ⟨v, hv, hvl⟩ := pk hb q 12 (by omega) (by omega)
  by_cases h11 : (v : Int) = 11
  · obtain ⟨w, hw, hwl⟩ := pk hb (q + 1) 5 (by omega) (by omega)
    rcases (show w = 0 ∨ w = 1 ∨ w = 2 ∨ w = 3 ∨ w = 4 by omega) with rfl | rfl | rfl | rfl | rfl <;> simp only [↓xP, xQ, xR, flatR, eqCells_ok, eqSh, eqBs, Nat.reduceLT, decide_true, Nat.reduceBEq, Nat.reduceAdd, IOp.dst, IOp.isF, IOp.args, coolOp, Nat.reduceSub, rdx, ho, hv, h11, hw] <;> exact ⟨_, _, q + 2, rfl, by omega, by omega, rfl, _, rfl, by decide⟩
  · obtain ⟨w, hw, hwl⟩ := pk hb (q + 1) 2 (by omega) (by omega)
    have hw1 : IntKind.i64.wrap (1 + (w : Int)) = ((1 + w : Nat) : Int) := by rw [w64 (by omega) (by omega)]; omega
    simp only [↓xP, xQ, xR, flatR, eqCells_ok, eqSh, eqBs, Nat.reduceLT, decide_true, Nat.reduceBEq, Nat.reduceAdd, IOp.dst, IOp.isF, IOp.args, coolOp, Nat.reduceSub, rdx, ho, hv, h11, hw, hw1]
    refine loop_pred (fun (a : Nat × Nat × Str) st => a.1 + a.2.2.length ≤ 2 ∧ 1 ≤ a.1 + a.2.2.length ∧ a.2.2.all letter = true ∧ q + 2 ≤ a.2.1 ∧ a.2.1 + a.1 ≤ q + 4 ∧ st.s 0 = .t RP0 ∧ st.s 5 = DS a.2.2 ∧ st.s 6 = DI a.1 ∧ st.o (.par 0) = some (rd bs a.2.1)) (fun a => a.1) ?_ (1 + w, q + 1 + 1, []) ⟨by simp; omega, by simp, by rfl, by simp, by dsimp only; omega, (by and_intros <;> first | omega | rfl | (simp only [↓xP, xQ, xR, flatR, eqCells_ok, eqSh, eqBs, Nat.reduceLT, decide_true, Nat.reduceBEq, Nat.reduceAdd, IOp.dst, IOp.isF, IOp.args, coolOp, Nat.reduceSub, rdx]; done) | (simp only [↓xP, xQ, xR, flatR, eqCells_ok, eqSh, eqBs, Nat.reduceLT, decide_true, Nat.reduceBEq, Nat.reduceAdd, IOp.dst, IOp.isF, IOp.args, coolOp, Nat.reduceSub, rdx]; rfl) | (simp only [↓xP, xQ, xR, flatR, eqCells_ok, eqSh, eqBs, Nat.reduceLT, decide_true, Nat.reduceBEq, Nat.reduceAdd, IOp.dst, IOp.isF, IOp.args, coolOp, Nat.reduceSub, rdx]; omega))⟩
    rintro ⟨k, q1, s⟩ st ⟨hl, hl1, hlet, hq, hq', h0, h5, h6, hr⟩ ih
    dsimp only at *
    cases k with
    | zero =>
      have hk : ¬ (0 : Int) < ((0 : Nat) : Int) := by omega
      simp only [↓xP, xQ, xR, flatR, eqCells_ok, eqSh, eqBs, Nat.reduceLT, decide_true, Nat.reduceBEq, Nat.reduceAdd, IOp.dst, IOp.isF, IOp.args, coolOp, Nat.reduceSub, rdx, h0, h5, h6, hr, gt_iff_lt, hk]
      refine ⟨_, _, q1, rfl, by omega, by omega, rfl, s, rfl, ?_⟩
      have g1 : 1 ≤ s.length := by omega
      have g2 : s.length ≤ 4 := by omega
      simp only [keyValid, hlet, g1, g2, decide_true, Bool.and_self]
    | succ k =>
      have hk : (0 : Int) < ((k + 1 : Nat) : Int) := by omega
      have hwk := w_pred (i := k) (by omega)
      obtain ⟨v2, hv2, hvl2⟩ := pk hb q1 4 (by omega) (by omega)
      have hs1 : s.length + 1 ≤ 9223372036854775807 := by omega
      have w1 : IntKind.i64.wrap (97 + (v2 : Int)) = ((97 + v2 : Nat) : Int) := by rw [w64 (by omega) (by omega)]; omega
      have w2 : IntKind.u8.wrap ((97 + v2 : Nat) : Int) = ((97 + v2 : Nat) : Int) := by rw [IntKind.wrap_u8]; omega
      simp only [↓xP, xQ, xR, flatR, eqCells_ok, eqSh, eqBs, Nat.reduceLT, decide_true, Nat.reduceBEq, Nat.reduceAdd, IOp.dst, IOp.isF, IOp.args, coolOp, Nat.reduceSub, rdx, h0, h5, h6, hr, gt_iff_lt, hk, hv2, hwk, hs1, w1, w2, Int.toNat_natCast]
      exact ih (k, q1 + 1, s ++ [UInt8.ofNat (97 + v2)]) _ (by dsimp only; omega) ⟨by simp; omega, by simp; omega, by rw [List.all_append, hlet, List.all_cons, letter_ofNat (show v2 ≤ 25 by omega)]; rfl, by dsimp only; omega, by dsimp only; omega, (by and_intros <;> first | omega | rfl | (simp only [↓xP, xQ, xR, flatR, eqCells_ok, eqSh, eqBs, Nat.reduceLT, decide_true, Nat.reduceBEq, Nat.reduceAdd, IOp.dst, IOp.isF, IOp.args, coolOp, Nat.reduceSub, rdx, h0, h5, h6, hr, hwk]; done) | (simp only [↓xP, xQ, xR, flatR, eqCells_ok, eqSh, eqBs, Nat.reduceLT, decide_true, Nat.reduceBEq, Nat.reduceAdd, IOp.dst, IOp.isF, IOp.args, coolOp, Nat.reduceSub, rdx, h0, h5, h6, hr, hwk]; rfl) | (simp only [↓xP, xQ, xR, flatR, eqCells_ok, eqSh, eqBs, Nat.reduceLT, decide_true, Nat.reduceBEq, Nat.reduceAdd, IOp.dst, IOp.isF, IOp.args, coolOp, Nat.reduceSub, rdx, h0, h5, h6, hr, hwk]; omega))⟩
theorem l20Span_valid {bs : List Int} (hb : Bytes bs) (p : Nat) (hp : p ≤ 100000000) : Gd bs p 20 (fun r m => m = [] ∧ ∃ a b : Str, r = [.ag [.u (.str a), .u (.str b)]] ∧ intervalValid ⟨a, b⟩ = true) (EE F 100 [RP0, I 0] [rd bs p]) := by
  refine Gd.run (fn := i100) (by kernel_rfl) rfl ?_
  simp only [i100, b100, argSt, insSt]
  obtain ⟨b, q, ho, hq1, hq2, hb0⟩ := odd_ok hb p 0 (by omega) (by omega)
  obtain rfl := hb0 (by omega)
  obtain ⟨r1, n1, q1, h1, hq1, hq1', rfl, a, rfl, hla⟩ := l20Key_valid hb q (by omega)
  obtain ⟨r2, n2, q2, h2, hq2, hq2', rfl, b, rfl, hlb⟩ := l20Key_valid hb q1 (by omega)
  obtain ⟨v, hv, hvl⟩ := pk hb q2 6 (by omega) (by omega)
  have hab : ∀ x y : Str, intervalValid ⟨x, y⟩ = true → Gd bs p 20 (fun r m => m = [] ∧ ∃ a b : Str, r = [.ag [.u (.str a), .u (.str b)]] ∧ intervalValid ⟨a, b⟩ = true) (some ⟨[.ag [.u (.str x), .u (.str y)]], [], [rd bs (q2 + 1)]⟩) := fun x y hx => ⟨_, _, q2 + 1, rfl, by omega, by omega, rfl, x, y, rfl, hx⟩
  have i0 : intervalValid ⟨[], []⟩ = true := by decide
  have i1 : ∀ x, keyValid x = true → intervalValid ⟨x, []⟩ = true := fun x h => by simp [intervalValid, h]
  have i2 : ∀ x, keyValid x = true → x ≠ [97] → intervalValid ⟨[], x⟩ = true := fun x h hne => by
    have h1 := (key_least h).2
    have : strLt [97] x = true := by
      rcases lt_total [97] x with t | t | t
      · exact t
      · exact absurd t.symm hne
      · rw [h1] at t; cases t
    simp [intervalValid, h, this]
  have i3 : ∀ x y, keyValid x = true → keyValid y = true → strLt x y = true → intervalValid ⟨x, y⟩ = true := fun x y h1 h2 h3 => by
    have := (key_least h1).1
    simp [intervalValid, h1, h2, h3, this]
  by_cases e0 : (v : Int) = 0
  · simp only [↓xP, xQ, xR, flatR, eqCells_ok, eqSh, eqBs, Nat.reduceLT, decide_true, Nat.reduceBEq, Nat.reduceAdd, IOp.dst, IOp.isF, IOp.args, coolOp, Nat.reduceSub, rdx, ho, h1, h2, hv, e0]
    exact hab _ _ i0
  by_cases e1 : (v : Int) = 1
  · have e10 : ¬ (1 : Int) = 0 := by omega
    simp only [↓xP, xQ, xR, flatR, eqCells_ok, eqSh, eqBs, Nat.reduceLT, decide_true, Nat.reduceBEq, Nat.reduceAdd, IOp.dst, IOp.isF, IOp.args, coolOp, Nat.reduceSub, rdx, ho, h1, h2, hv, e1, e10]
    exact hab _ _ (i1 a hla)
  by_cases e2 : (v : Int) = 2
  · have e20 : ¬ (2 : Int) = 0 := by omega
    have e21 : ¬ (2 : Int) = 1 := by omega
    by_cases hba : b = [97]
    · subst hba
      simp only [↓xP, xQ, xR, flatR, eqCells_ok, eqSh, eqBs, Nat.reduceLT, decide_true, Nat.reduceBEq, Nat.reduceAdd, IOp.dst, IOp.isF, IOp.args, coolOp, Nat.reduceSub, rdx, ho, h1, h2, hv, e2, e20, e21, ne_eq, not_true_eq_false]
      refine sel_pred (fun h => hab _ _ (i3 _ _ hla hlb h)) (fun _ => sel_pred (fun h => hab _ _ (i3 _ _ hlb hla h)) (fun _ => hab _ _ (i1 a hla)))
    · simp only [↓xP, xQ, xR, flatR, eqCells_ok, eqSh, eqBs, Nat.reduceLT, decide_true, Nat.reduceBEq, Nat.reduceAdd, IOp.dst, IOp.isF, IOp.args, coolOp, Nat.reduceSub, rdx, ho, h1, h2, hv, e2, e20, e21, hba, ne_eq, not_false_eq_true]
      exact hab _ _ (i2 b hlb hba)
  · simp only [↓xP, xQ, xR, flatR, eqCells_ok, eqSh, eqBs, Nat.reduceLT, decide_true, Nat.reduceBEq, Nat.reduceAdd, IOp.dst, IOp.isF, IOp.args, coolOp, Nat.reduceSub, rdx, ho, h1, h2, hv, e0, e1, e2]
    refine sel_pred (fun h => hab _ _ (i3 _ _ hla hlb h)) (fun _ => sel_pred (fun h => hab _ _ (i3 _ _ hlb hla h)) (fun _ => hab _ _ (i1 a hla)))
theorem rise_snoc : ∀ (l : List Str) (lo x y : Str), Rise lo (l ++ [x]) → keyValid y = true → strLt x y = true → Rise lo (l ++ [x] ++ [y])
  | [], lo, x, y, h, hy, hxy => by
    obtain ⟨h1, h2, _⟩ := h
    have hx := (key_least h1).1
    exact ⟨h1, h2, hy, by rw [if_neg hx]; exact hxy, trivial⟩
  | b :: l, lo, x, y, h, hy, hxy => ⟨h.1, h.2.1, rise_snoc l b x y h.2.2 hy hxy⟩
theorem rise_init : ∀ (l : List Str) (lo x : Str), Rise lo (l ++ [x]) → Rise lo l
  | [], lo, x, h => trivial
  | b :: l, lo, x, h => ⟨h.1, h.2.1, rise_init l b x h.2.2⟩
theorem l20Bounds_ok {bs : List Int} (hb : Bytes bs) (p : Nat) (hp : p ≤ 100000000) : Gd bs p 20 (fun r m => m = [] ∧ ∃ l : List Str, r = [L 1 (l.map sU)] ∧ l.length ≤ 5 ∧ Rise [] l) (EE F 209 [RP0, I 0] [rd bs p]) := by
  refine Gd.run (fn := i209) (by kernel_rfl) rfl ?_
  simp only [i209, b209, argSt, insSt]
  obtain ⟨v0, hv0, hvl0⟩ := pk hb p 200 (by omega) (by omega)
  obtain ⟨k0, hk0, hkl0⟩ := pk hb (p + 1) 6 (by omega) (by omega)
  have hw1 : IntKind.i64.wrap (1 + (v0 : Int)) = ((1 + v0 : Nat) : Int) := by rw [w64 (by omega) (by omega)]; omega
  have app1 : ∀ (l : List Str) x, l.map sU ++ [[.str x]] = (l ++ [x]).map sU := fun l x => by simp [sU]
  have ka0 : keyAt 0 = [97] := by decide
  simp only [↓xP, xQ, xR, flatR, eqCells_ok, eqSh, eqBs, Nat.reduceLT, decide_true, Nat.reduceBEq, Nat.reduceAdd, IOp.dst, IOp.isF, IOp.args, coolOp, Nat.reduceSub, rdx, hv0, hw1, hk0]
  refine loop_pred (fun (a : Nat × Nat × Nat × List Str) st => a.1 + a.2.2.2.length ≤ 5 ∧ p + 2 ≤ a.2.1 ∧ a.2.1 + 2 * a.1 ≤ p + 12 ∧ a.2.2.1 + 65026 * a.1 ≤ 400000 ∧ Rise [] (a.2.2.2 ++ [keyAt a.2.2.1]) ∧ st.s 0 = .t RP0 ∧ st.s 1 = DI 0 ∧ st.o (.par 0) = some (rd bs a.2.1) ∧ st.s 5 = .t (.sc (.own (.loc 8 0) a.2.2.2.length)) ∧ st.o (.loc 8 0) = some (.row 1 (a.2.2.2.map sU)) ∧ st.s 6 = DI a.2.2.1 ∧ st.s 7 = DI a.1) (fun a => a.1) ?_ (k0, p + 1 + 1, 1 + v0, []) ⟨by simp; omega, by dsimp only; omega, by dsimp only; omega, by dsimp only; omega, ⟨keyAt_valid (by dsimp only; omega), by rw [if_pos rfl, ← ka0]; exact keyAt_lt (by dsimp only; omega) (by dsimp only; omega), trivial⟩, (by and_intros <;> first | omega | rfl | (simp only [↓xP, xQ, xR, flatR, eqCells_ok, eqSh, eqBs, Nat.reduceLT, decide_true, Nat.reduceBEq, Nat.reduceAdd, IOp.dst, IOp.isF, IOp.args, coolOp, Nat.reduceSub, rdx]; done) | (simp only [↓xP, xQ, xR, flatR, eqCells_ok, eqSh, eqBs, Nat.reduceLT, decide_true, Nat.reduceBEq, Nat.reduceAdd, IOp.dst, IOp.isF, IOp.args, coolOp, Nat.reduceSub, rdx]; rfl) | (simp only [↓xP, xQ, xR, flatR, eqCells_ok, eqSh, eqBs, Nat.reduceLT, decide_true, Nat.reduceBEq, Nat.reduceAdd, IOp.dst, IOp.isF, IOp.args, coolOp, Nat.reduceSub, rdx]; omega))⟩
  rintro ⟨k, q, at_, l⟩ st ⟨hl, hq, hq', hat, hri, h0, h1, hr, h5, ho5, h6, h7⟩ ih
  dsimp only at *
  cases k with
  | zero =>
    have hk : ¬ (0 : Int) < ((0 : Nat) : Int) := by omega
    obtain ⟨b, q4, hod, hq4, hq4', hb0⟩ := odd_ok hb q 0 (by omega) (by omega)
    obtain rfl := hb0 (by omega)
    simp only [↓xP, xQ, xR, flatR, eqCells_ok, eqSh, eqBs, Nat.reduceLT, decide_true, Nat.reduceBEq, Nat.reduceAdd, IOp.dst, IOp.isF, IOp.args, coolOp, Nat.reduceSub, rdx, h0, h1, hr, h5, ho5, h6, h7, gt_iff_lt, hk, hod, map_all]
    exact ⟨_, _, q4, rfl, by omega, by omega, rfl, l, rfl, by omega, rise_init l [] _ hri⟩
  | succ k =>
    have hk : (0 : Int) < ((k + 1 : Nat) : Int) := by omega
    have hwk := w_pred (i := k) (by omega)
    have hka := keyAt_ok at_ (by omega)
    obtain ⟨a1, ha1, hal1⟩ := pk hb q 256 (by omega) (by omega)
    obtain ⟨a2, ha2, hal2⟩ := pk hb (q + 1) 256 (by omega) (by omega)
    have hmul : a1 * a2 ≤ 255 * 255 := Nat.mul_le_mul (by omega) (by omega)
    have m1 : IntKind.i64.wrap ((a1 : Int) * (a2 : Int)) = ((a1 * a2 : Nat) : Int) := by
      rw [show ((a1 : Int) * (a2 : Int)) = ((a1 * a2 : Nat) : Int) by simp, w64 (by omega) (by omega)]
    generalize a1 * a2 = mm at *
    have m2 : IntKind.i64.wrap ((at_ : Int) + 1) = ((at_ + 1 : Nat) : Int) := by rw [w64 (by omega) (by omega)]; omega
    have m3 : IntKind.i64.wrap (((at_ + 1 : Nat) : Int) + (mm : Int)) = ((at_ + 1 + mm : Nat) : Int) := by rw [w64 (by omega) (by omega)]; omega
    have hmm : mm ≤ 65025 := hmul
    have hri2 := rise_snoc l [] (keyAt at_) (keyAt (at_ + 1 + mm)) hri (keyAt_valid (by omega)) (keyAt_lt (by omega) (by omega))
    have q1 : l.length + 1 ≤ maxLen ∧ (l.length + 1) * 16 ≤ 140737488355328 := small_max (by omega) (by omega)
    simp only [↓xP, xQ, xR, flatR, eqCells_ok, eqSh, eqBs, Nat.reduceLT, decide_true, Nat.reduceBEq, Nat.reduceAdd, IOp.dst, IOp.isF, IOp.args, coolOp, Nat.reduceSub, rdx, h0, h1, hr, h5, ho5, h6, h7, gt_iff_lt, hk, hka, ha1, ha2, m1, m2, m3, hwk, List.length_map, q1.1, q1.2, app1]
    exact ih (k, q + 1 + 1, at_ + 1 + mm, l ++ [keyAt at_]) _ (by dsimp only; omega) ⟨by simp; omega, by dsimp only; omega, by dsimp only; omega, by dsimp only; omega, hri2, (by and_intros <;> first | omega | rfl | (simp only [↓xP, xQ, xR, flatR, eqCells_ok, eqSh, eqBs, Nat.reduceLT, decide_true, Nat.reduceBEq, Nat.reduceAdd, IOp.dst, IOp.isF, IOp.args, coolOp, Nat.reduceSub, rdx, h0, h1, hr, h5, ho5, h6, h7, hwk, m3, List.length_append, List.length_cons, List.length_nil, Nat.zero_add, app1]; done) | (simp only [↓xP, xQ, xR, flatR, eqCells_ok, eqSh, eqBs, Nat.reduceLT, decide_true, Nat.reduceBEq, Nat.reduceAdd, IOp.dst, IOp.isF, IOp.args, coolOp, Nat.reduceSub, rdx, h0, h1, hr, h5, ho5, h6, h7, hwk, m3, List.length_append, List.length_cons, List.length_nil, Nat.zero_add, app1]; rfl) | (simp only [↓xP, xQ, xR, flatR, eqCells_ok, eqSh, eqBs, Nat.reduceLT, decide_true, Nat.reduceBEq, Nat.reduceAdd, IOp.dst, IOp.isF, IOp.args, coolOp, Nat.reduceSub, rdx, h0, h1, hr, h5, ho5, h6, h7, hwk, m3, List.length_append, List.length_cons, List.length_nil, Nat.zero_add, app1]; omega))⟩
theorem l20Parts_ok {bs : List Int} (hb : Bytes bs) (p : Nat) (hp : p ≤ 10000000) : Gd bs p 30 (fun r m => m = [] ∧ ∃ l : List Str, r = [L 2 ((partsOf [] l).map Interval.u)] ∧ l.length ≤ 5 ∧ Rise [] l) (EE F 168 [RP0, I 0] [rd bs p]) := by
  refine Gd.run (fn := i168) (by kernel_rfl) rfl ?_
  simp only [i168, b168, argSt, insSt]
  obtain ⟨r1, n1, q1, h1, hq1, hq1', rfl, l, rfl, hl5, hri⟩ := l20Bounds_ok hb p (by omega)
  have hpo := partitionOf_ok l hl5 hri
  obtain ⟨b, q4, hod, hq4, hq4', hb0⟩ := odd_ok hb q1 0 (by omega) (by omega)
  obtain rfl := hb0 (by omega)
  simp only [↓xP, xQ, xR, flatR, eqCells_ok, eqSh, eqBs, Nat.reduceLT, decide_true, Nat.reduceBEq, Nat.reduceAdd, IOp.dst, IOp.isF, IOp.args, coolOp, Nat.reduceSub, rdx, rdx2, h1, hpo, hod, map_all]
  exact ⟨_, _, q4, rfl, by omega, by omega, rfl, l, rfl, hl5, hri⟩
theorem meet_valid {a b : Interval} {x : Str} (ha : intervalValid a = true) (hb : intervalValid b = true) (hxa : inside a x = true) (hxb : inside b x = true) (hx : strLt x [97] = false) : intervalValid (meetOf a b) = true := by
  have hin := inside_meet a b x
  rw [hxa, hxb, Bool.and_self] at hin
  simp only [inside, Bool.and_eq_true, Bool.not_eq_true', Bool.or_eq_true, decide_eq_true_eq] at hin
  simp only [intervalValid, Bool.and_eq_true, Bool.or_eq_true, decide_eq_true_eq] at ha hb ⊢
  refine ⟨⟨?_, ?_⟩, ?_⟩
  · simp only [meetOf]; split; exact hb.1.1; exact ha.1.1
  · simp only [meetOf]; split; exact hb.1.2; exact ha.1.2
  · rcases hin.2 with h | h
    · exact .inl h
    · right
      split
      · exact le_lt hx h
      · exact le_lt hin.1 h
theorem cover_ok {v : Interval} (hv : intervalValid v = true) (l : List Pair) {bs : List Str} (hr : Rise [] bs) : ∃ p, p ∈ partsOf [] bs ∧ scanOk ⟨p, pairsInV l p, [], false, []⟩ v = true := by
  obtain ⟨x, hx⟩ : ∃ x, x = if v.low = [] then [97] else v.low := ⟨_, rfl⟩
  have hv' := hv
  simp only [intervalValid, Bool.and_eq_true, Bool.or_eq_true, decide_eq_true_eq] at hv'
  rw [← hx] at hv'
  have hxv : inside v x = true := by
    simp only [inside, Bool.and_eq_true, Bool.not_eq_true', Bool.or_eq_true, decide_eq_true_eq]
    refine ⟨?_, hv'.2⟩
    by_cases e : v.low = []
    · rw [e, lt_nil']
    · rw [hx, if_neg e, lt_irrefl]
  have hx97 : strLt x [97] = false := by
    by_cases e : v.low = []
    · rw [hx, if_pos e, lt_irrefl]
    · rw [hx, if_neg e]
      rcases hv'.1.1 with h | h
      · exact absurd h e
      · exact (key_least h).2
  obtain ⟨p, hp, hpx⟩ := parts_cover x bs [] (lt_nil' x)
  have hpv := rise_valid bs [] (.inl rfl) hr p hp
  refine ⟨p, hp, ?_⟩
  have hm := meet_valid hpv hv hpx hxv hx97
  have hs : sessionsValid [] = true := by unfold sessionsValid; rw [allF_ge (by simp)]; try rfl
  have h2 : pairsValid (pairsInV l p) = true ∧ ((pairsInV l p).all fun q => inside p q.key) = true := by
    unfold pairsInV
    split
    · rename_i h; exact ⟨pairsIn_valid h.1 p, pairsIn_inside l p⟩
    · exact ⟨(pairsValid_iff []).2 ⟨by simp, by simp, by simp⟩, rfl⟩
  simp only [scanOk, stateValid, meetOk, hpv, hv, hm, hs, h2.1, h2.2, decide_true, Bool.true_or, Bool.and_self]
set_option maxHeartbeats 4000000 in
theorem l20Pieces_ok {bs : List Int} (hb : Bytes bs) (p : Nat) (hp : p ≤ 100000) : Gd bs p 300 (fun r m => m = [] ∧ ∃ (o : List Piece) (lo hi : Str), r = [L 3 (o.map Piece.u), .ag [.u (.str lo), .u (.str hi)]] ∧ 1 ≤ o.length ∧ o.length ≤ 6) (EE F 99 [RP0, I 0] [rd bs p]) := by
  refine Gd.run (fn := i99) (by kernel_rfl) rfl ?_
  simp only [i99, b99, argSt, insSt]
  obtain ⟨r1, n1, q1, h1, hq1, hq1', rfl, lo, hi, rfl, hiv⟩ := l20Span_valid hb p (by omega)
  obtain ⟨r2, n2, q2, h2, hq2, hq2', rfl, l, rfl, hl⟩ := l20Pairs_ok hb q1 0 (by omega) (by omega)
  obtain ⟨r3, n3, q3, h3, hq3, hq3', rfl, bds, rfl, hl5, hri⟩ := l20Parts_ok hb q2 (by omega)
  obtain ⟨pc0, hpc0, hscan0⟩ := cover_ok hiv l hri
  obtain ⟨j0, hj0⟩ := List.mem_iff_getElem?.1 hpc0
  have hpl := partsOf_len bds []
  generalize partsOf [] bds = parts at *
  have app3 : ∀ (l : List Piece) a b c, l.map Piece.u ++ [[.str a, .str b, .sl 2 (List.map Pair.u c)]] = (l ++ [(⟨⟨a, b⟩, c⟩ : Piece)]).map Piece.u := fun l a b c => by simp [Piece.u]
  simp only [↓xP, xQ, xR, flatR, eqCells_ok, eqSh, eqBs, Nat.reduceLT, decide_true, Nat.reduceBEq, Nat.reduceAdd, IOp.dst, IOp.isF, IOp.args, coolOp, Nat.reduceSub, rdx, rdx2, h1, h2, h3]
  refine loop_pred (fun (a : Nat × List Piece) st => a.1 ≤ parts.length ∧ a.2.length ≤ a.1 ∧ (a.2 ≠ [] ∨ a.1 ≤ j0) ∧ st.s 0 = .t RP0 ∧ st.s 1 = DI 0 ∧ st.o (.par 0) = some (rd bs q3) ∧ st.s 5 = .t (.sc (.ptr (.loc 5 0) 0 0)) ∧ st.o (.loc 5 0) = some (.box [.u (.str []), .u (.str [])]) ∧ st.s 6 = .t (.sc (.ptr (.loc 6 0) 0 0)) ∧ st.o (.loc 6 0) = some (.box [.u (.str lo), .u (.str hi)]) ∧
    st.s 7 = DU (.sl 2 (l.map Pair.u)) ∧ st.s 8 = DU (.sl 2 (parts.map Interval.u)) ∧ st.s 9 = .t (.sc (.own (.loc 19 0) a.2.length)) ∧ st.o (.loc 19 0) = some (.row 3 (a.2.map Piece.u)) ∧ st.s 10 = DI a.1) (fun a => parts.length - a.1) ?_ (0, []) ⟨by simp, by simp, .inr (by simp), (by and_intros <;> first | omega | rfl | (simp only [↓xP, xQ, xR, flatR, eqCells_ok, eqSh, eqBs, Nat.reduceLT, decide_true, Nat.reduceBEq, Nat.reduceAdd, IOp.dst, IOp.isF, IOp.args, coolOp, Nat.reduceSub, rdx, rdx2]; done) | (simp only [↓xP, xQ, xR, flatR, eqCells_ok, eqSh, eqBs, Nat.reduceLT, decide_true, Nat.reduceBEq, Nat.reduceAdd, IOp.dst, IOp.isF, IOp.args, coolOp, Nat.reduceSub, rdx, rdx2]; rfl) | (simp only [↓xP, xQ, xR, flatR, eqCells_ok, eqSh, eqBs, Nat.reduceLT, decide_true, Nat.reduceBEq, Nat.reduceAdd, IOp.dst, IOp.isF, IOp.args, coolOp, Nat.reduceSub, rdx, rdx2]; omega))⟩
  rintro ⟨k, o⟩ st ⟨hk, hol, hne, hs0, hs1, hr, hs5, ho5, hs6, ho6, hs7, hs8, hs9, ho9, hs10⟩ ih
  dsimp only at *
  by_cases hkl : k < parts.length
  · obtain ⟨⟨plo, phi⟩, hx⟩ : ∃ a, parts[k]? = some a := ⟨_, List.getElem?_eq_getElem hkl⟩
    have hw := w_succ (i := k) (by omega)
    have hpi := pairsIn_spec l plo phi
    have hsp := scanPiece_spec plo phi (pairsInV l ⟨plo, phi⟩) [] false [] (by simp) lo hi
    rw [List.map_nil] at hsp
    have q1 : o.length + 1 ≤ maxLen ∧ (o.length + 1) * 56 ≤ 140737488355328 := small_max (by omega) (by omega)
    cases hok : scanOk ⟨⟨plo, phi⟩, pairsInV l ⟨plo, phi⟩, [], false, []⟩ ⟨lo, hi⟩
    · have hne' : o ≠ [] ∨ k + 1 ≤ j0 := by
        rcases hne with h | h
        · exact .inl h
        · right
          by_cases e : k = j0
          · subst e; rw [hx] at hj0; cases hj0; rw [hok] at hscan0; cases hscan0
          · omega
      simp only [scanRet, hok, ↓xP, xQ, xR, flatR, eqCells_ok, eqSh, eqBs, Nat.reduceLT, decide_true, Nat.reduceBEq, Nat.reduceAdd, IOp.dst, IOp.isF, IOp.args, coolOp, Nat.reduceSub] at hsp
      simp only [↓xP, xQ, xR, flatR, eqCells_ok, eqSh, eqBs, Nat.reduceLT, decide_true, Nat.reduceBEq, Nat.reduceAdd, IOp.dst, IOp.isF, IOp.args, coolOp, Nat.reduceSub, rdx, rdx2, hs0, hs1, hr, hs5, ho5, hs6, ho6, hs7, hs8, hs9, ho9, hs10, List.length_map, hkl, hx, Interval.u, hpi, hsp, hw, map_all]
      exact ih (k + 1, o) _ (by dsimp only; omega) ⟨by dsimp only; omega, by dsimp only; omega, hne', (by and_intros <;> first | omega | rfl | (simp only [↓xP, xQ, xR, flatR, eqCells_ok, eqSh, eqBs, Nat.reduceLT, decide_true, Nat.reduceBEq, Nat.reduceAdd, IOp.dst, IOp.isF, IOp.args, coolOp, Nat.reduceSub, rdx, rdx2, hs0, hs1, hr, hs5, ho5, hs6, ho6, hs7, hs8, hs9, ho9, hs10, hw]; done) | (simp only [↓xP, xQ, xR, flatR, eqCells_ok, eqSh, eqBs, Nat.reduceLT, decide_true, Nat.reduceBEq, Nat.reduceAdd, IOp.dst, IOp.isF, IOp.args, coolOp, Nat.reduceSub, rdx, rdx2, hs0, hs1, hr, hs5, ho5, hs6, ho6, hs7, hs8, hs9, ho9, hs10, hw]; rfl) | (simp only [↓xP, xQ, xR, flatR, eqCells_ok, eqSh, eqBs, Nat.reduceLT, decide_true, Nat.reduceBEq, Nat.reduceAdd, IOp.dst, IOp.isF, IOp.args, coolOp, Nat.reduceSub, rdx, rdx2, hs0, hs1, hr, hs5, ho5, hs6, ho6, hs7, hs8, hs9, ho9, hs10, hw]; omega))⟩
    · simp only [scanRet, hok, ↓xP, xQ, xR, flatR, eqCells_ok, eqSh, eqBs, Nat.reduceLT, decide_true, Nat.reduceBEq, Nat.reduceAdd, IOp.dst, IOp.isF, IOp.args, coolOp, Nat.reduceSub] at hsp
      simp only [↓xP, xQ, xR, flatR, eqCells_ok, eqSh, eqBs, Nat.reduceLT, decide_true, Nat.reduceBEq, Nat.reduceAdd, IOp.dst, IOp.isF, IOp.args, coolOp, Nat.reduceSub, rdx, rdx2, hs0, hs1, hr, hs5, ho5, hs6, ho6, hs7, hs8, hs9, ho9, hs10, List.length_map, hkl, hx, Interval.u, hpi, hsp, hw, map_all, q1.1, q1.2, app3]
      exact ih (k + 1, o ++ [⟨⟨_, _⟩, _⟩]) _ (by dsimp only; omega) ⟨by dsimp only; omega, by simp; omega, .inl (by simp), (by and_intros <;> first | omega | rfl | (simp only [↓xP, xQ, xR, flatR, eqCells_ok, eqSh, eqBs, Nat.reduceLT, decide_true, Nat.reduceBEq, Nat.reduceAdd, IOp.dst, IOp.isF, IOp.args, coolOp, Nat.reduceSub, rdx, rdx2, hs0, hs1, hr, hs5, ho5, hs6, ho6, hs7, hs8, hs9, ho9, hs10, hw, List.length_append, List.length_cons, List.length_nil, Nat.zero_add, app3]; done) | (simp only [↓xP, xQ, xR, flatR, eqCells_ok, eqSh, eqBs, Nat.reduceLT, decide_true, Nat.reduceBEq, Nat.reduceAdd, IOp.dst, IOp.isF, IOp.args, coolOp, Nat.reduceSub, rdx, rdx2, hs0, hs1, hr, hs5, ho5, hs6, ho6, hs7, hs8, hs9, ho9, hs10, hw, List.length_append, List.length_cons, List.length_nil, Nat.zero_add, app3]; rfl) | (simp only [↓xP, xQ, xR, flatR, eqCells_ok, eqSh, eqBs, Nat.reduceLT, decide_true, Nat.reduceBEq, Nat.reduceAdd, IOp.dst, IOp.isF, IOp.args, coolOp, Nat.reduceSub, rdx, rdx2, hs0, hs1, hr, hs5, ho5, hs6, ho6, hs7, hs8, hs9, ho9, hs10, hw, List.length_append, List.length_cons, List.length_nil, Nat.zero_add, app3]; omega))⟩
  · have hone : o ≠ [] := by
      rcases hne with h | h
      · exact h
      · have := (List.getElem?_eq_some_iff.1 hj0).1; omega
    have ho1 : 1 ≤ o.length := by cases o; exact absurd rfl hone; simp
    obtain ⟨b, q4, hod, hq4, hq4', hb0⟩ := odd_ok hb q3 0 (by omega) (by omega)
    obtain rfl := hb0 (by omega)
    simp only [↓xP, xQ, xR, flatR, eqCells_ok, eqSh, eqBs, Nat.reduceLT, decide_true, Nat.reduceBEq, Nat.reduceAdd, IOp.dst, IOp.isF, IOp.args, coolOp, Nat.reduceSub, rdx, rdx2, hs0, hs1, hr, hs5, ho5, hs6, ho6, hs7, hs8, hs9, ho9, hs10, List.length_map, hkl, hod, map_all]
    exact ⟨_, _, q4, rfl, by omega, by omega, rfl, o, lo, hi, rfl, ho1, by omega⟩
set_option maxHeartbeats 4000000 in
theorem drawPieceValid_ok (code : List Int) (hc : Code code) : Ok (fun r => ∃ (lo hi : Str) (l : List Pair), r = ⟨[.ag [.u (.str lo), .u (.str hi), .u (.sl 2 (l.map Pair.u))]], [], []⟩) (EE F 36 [L 1 (code.map yU)] []) := by
  refine Ok.run (fn := i36) (by kernel_rfl) rfl ?_
  simp only [i36, b36, argSt, insSt]
  obtain ⟨bs, ho, hb⟩ := open_ok code hc
  obtain ⟨r1, n1, q1, h1, hq1, hq1', rfl, o, lo, hi, rfl, hol, hol6⟩ := l20Pieces_ok hb 0 (by omega)
  obtain ⟨v, hv, hvl⟩ := pk hb q1 (o.length : Int) (by omega) (by omega)
  obtain ⟨⟨⟨plo, phi⟩, pl⟩, hx⟩ : ∃ a, o[v]? = some a := ⟨_, List.getElem?_eq_getElem (by omega)⟩
  obtain ⟨w, hw, _⟩ := pk hb (q1 + 1) 6 (by omega) (by omega)
  obtain ⟨r2, n2, q2, h2, hq2, hq2', rfl, slo, shi, rfl, _⟩ := l20Span_ok hb (q1 + 1 + 1) 2 (by omega) (by omega)
  obtain ⟨r3, n3, q3, h3, hq3, hq3', rfl, l, rfl, hl⟩ := l20Pairs_ok hb (q1 + 1 + 1) 3 (by omega) (by omega)
  have n10 : ¬ (1 : Int) = 0 := by omega
  by_cases e0 : (w : Int) = 0
  · simp only [↓xP, xQ, xR, flatR, eqCells_ok, eqSh, eqBs, Nat.reduceLT, decide_true, Nat.reduceBEq, Nat.reduceAdd, IOp.dst, IOp.isF, IOp.args, coolOp, Nat.reduceSub, rdx, rdx2, ho, h1, List.length_map, hv, hx, Piece.u, hw, e0, h2]
    exact ⟨_, rfl, _, _, _, rfl⟩
  by_cases e1 : (w : Int) = 1
  · simp only [↓xP, xQ, xR, flatR, eqCells_ok, eqSh, eqBs, Nat.reduceLT, decide_true, Nat.reduceBEq, Nat.reduceAdd, IOp.dst, IOp.isF, IOp.args, coolOp, Nat.reduceSub, rdx, rdx2, ho, h1, List.length_map, hv, hx, Piece.u, hw, e1, n10, h3]
    exact ⟨_, rfl, _, _, _, rfl⟩
  · simp only [↓xP, xQ, xR, flatR, eqCells_ok, eqSh, eqBs, Nat.reduceLT, decide_true, Nat.reduceBEq, Nat.reduceAdd, IOp.dst, IOp.isF, IOp.args, coolOp, Nat.reduceSub, rdx, rdx2, ho, h1, List.length_map, hv, hx, Piece.u, hw, e0, e1]
    exact ⟨_, rfl, _, _, _, rfl⟩
theorem law_FnPieceValid (u : U) (hu : UT (.sl [.i .u8]) u) : EE F 6 [.sc (.u u)] [] = ok1 (B true) := by
  obtain ⟨code, rfl, hc⟩ := Code.of hu
  rw [R6, b6]
  by_cases hg : (1048576 : Int) < code.length
  · simp only [↓xP, xQ, xR, flatR, eqCells_ok, eqSh, eqBs, Nat.reduceLT, decide_true, Nat.reduceBEq, Nat.reduceAdd, IOp.dst, IOp.isF, IOp.args, coolOp, Nat.reduceSub, List.length_map, gt_iff_lt, hg]
  obtain ⟨r, hr, lo, hi, l, rfl⟩ := drawPieceValid_ok code hc
  have h1 := pieceValid_impl lo hi l
  have h2 := pieceValid_spec lo hi l
  have h3 := pieceValid_impl lo hi []
  have h4 := pieceValid_impl [98] [99] [⟨[99], 0⟩]
  have hfar : pieceValid ⟨⟨[98], [99]⟩, [⟨[99], 0⟩]⟩ = false := by
    have : inside ⟨[98], [99]⟩ [99] = false := by decide
    simp [pieceValid, this]
  rw [hfar] at h4
  rw [List.map_nil] at h3
  simp only [List.map_cons, List.map_nil, Pair.u] at h4
  cases hv : pieceValid ⟨⟨lo, hi⟩, l⟩
  · rw [hv] at h1 h2
    simp only [↓xP, xQ, xR, flatR, eqCells_ok, eqSh, eqBs, Nat.reduceLT, decide_true, Nat.reduceBEq, Nat.reduceAdd, IOp.dst, IOp.isF, IOp.args, coolOp, Nat.reduceSub, rdx2, List.length_map, gt_iff_lt, hg, hr, h1, h2, h4, alive_ok]
  · rw [hv] at h1 h2
    have hv2 : pieceValid ⟨⟨lo, hi⟩, []⟩ = true := by
      simp only [pieceValid, Bool.and_eq_true] at hv ⊢
      exact ⟨⟨hv.1.1, (pairsValid_iff []).2 ⟨by simp, by simp, by simp⟩⟩, rfl⟩
    rw [hv2] at h3
    simp only [↓xP, xQ, xR, flatR, eqCells_ok, eqSh, eqBs, Nat.reduceLT, decide_true, Nat.reduceBEq, Nat.reduceAdd, IOp.dst, IOp.isF, IOp.args, coolOp, Nat.reduceSub, rdx2, List.length_map, gt_iff_lt, hg, hr, h1, h2, h3, h4, alive_ok]
end Go.Proofs.YtdnhamehpdlbgaaV
