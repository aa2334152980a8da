/- Lemmas of functions that the law FnRepairConfig reaches, and that it returns true for all data of its types. No conditions but those that the lemmas state. -/
import Derived.Test.YtdnhamehpdlbgaaT1
import Derived.Test.YtdnhamehpdlbgaaJ
import Derived.Test.YtdnhamehpdlbgaaS7
namespace Go.Proofs.YtdnhamehpdlbgaaV
open Go Go.RowKit
set_option linter.unusedVariables false
set_option linter.unusedSimpArgs false
set_option maxRecDepth 4000
/-- All from a number on. -/
def allF (n : Nat) (p : Nat → Bool) (i : Nat) : Bool := if i < n then p i && allF n p (i + 1) else true
termination_by n - i
theorem allF_lt {n : Nat} {p : Nat → Bool} {i : Nat} (h : i < n) : allF n p i = (p i && allF n p (i + 1)) := by rw [allF, if_pos h]
theorem allF_ge {n : Nat} {p : Nat → Bool} {i : Nat} (h : ¬ i < n) : allF n p i = true := by rw [allF, if_neg h]
theorem allF_iff {n : Nat} {p : Nat → Bool} : ∀ (k i : Nat), n - i = k → (allF n p i = true ↔ ∀ j, i ≤ j → j < n → p j = true)
  | 0, i, h => by
    rw [allF_ge (by omega)]
    exact ⟨fun _ j h1 h2 => by omega, fun _ => rfl⟩
  | k + 1, i, h => by
    rw [allF_lt (by omega), Bool.and_eq_true, allF_iff k (i + 1) (by omega)]
    refine ⟨fun ⟨h1, h2⟩ j hj hn => ?_, fun h1 => ⟨h1 i (Nat.le_refl _) (by omega), fun j hj hn => h1 j (by omega) hn⟩⟩
    by_cases e : j = i
    · subst e; exact h1
    · exact h2 j (by omega) hn
def inR (n a b : Int) : Bool := decide (a ≤ n) && decide (n ≤ b)
theorem l1In_ok (n a b : Int) : EE F 134 [I n, I a, I b] [] = ok1 (B (inR n a b)) := by
  rw [R134, b134]
  simp only [↓xP, xQ, xR, flatR, eqCells_ok, eqSh, eqBs, Nat.reduceLT, decide_true, Nat.reduceBEq, Nat.reduceAdd, IOp.dst, IOp.isF, IOp.args, coolOp, Nat.reduceSub]
  repeat' (refine sel_split (fun h => ?_) (fun h => ?_))
  all_goals (simp_all [inR] <;> (intros; omega))
theorem nodeValid_ok (n : Int) : EE F 96 [I n] [] = ok1 (B (inR n 0 4)) := by
  rw [R96, b96]
  simp only [↓xP, xQ, xR, flatR, eqCells_ok, eqSh, eqBs, Nat.reduceLT, decide_true, Nat.reduceBEq, Nat.reduceAdd, IOp.dst, IOp.isF, IOp.args, coolOp, Nat.reduceSub]
  repeat' (refine sel_split (fun h => ?_) (fun h => ?_))
  all_goals (simp_all [inR] <;> (intros; omega))
def place (key : Str) : List Pair → Nat
  | [] => 0
  | p :: l => if strLt p.key key = true then place key l + 1 else 0
/-- The place of the first such number, or -1. -/
def idxI (l : List Int) (x : Int) : Int := if x ∈ l then (l.idxOf x : Int) else -1
theorem idxI_eq {x : Int} {l : List Int} : idxI (x :: l) x = 0 := by simp [idxI]
theorem idxI_ne {x y : Int} {l : List Int} (h : y ≠ x) : idxI (y :: l) x = if x ∈ l then idxI l x + 1 else -1 := by
  have h' : x ≠ y := fun e => h e.symm
  simp only [idxI, List.mem_cons, h', false_or]
  by_cases hm : x ∈ l
  · simp only [hm, if_true]
    have : (y == x) = false := by simpa using h
    simp [List.idxOf_cons, this]
  · simp [hm]
theorem idxI_neg {l : List Int} {x : Int} : idxI l x < 0 ↔ x ∉ l := by
  unfold idxI
  split <;> simp_all
theorem idxI_ge {l : List Int} {x : Int} : 0 ≤ idxI l x ↔ x ∈ l := by
  have := idxI_neg (l := l) (x := x)
  constructor
  · intro h; by_cases hm : x ∈ l
    · exact hm
    · have := this.2 hm; omega
  · intro h
    by_cases hq : idxI l x < 0
    · exact absurd h (this.1 hq)
    · omega
/-- From a place on. -/
def idxF (l : List Int) (x : Int) (i : Nat) : Int := if x ∈ l.drop i then (i : Int) + idxI (l.drop i) x else -1
theorem idxF_0 (l : List Int) (x : Int) : idxF l x 0 = idxI l x := by
  simp only [idxF, List.drop_zero, idxI]
  split <;> simp
theorem idxF_end (l : List Int) (x : Int) {i : Nat} (h : ¬ i < l.length) : idxF l x i = -1 := by
  simp [idxF, List.drop_of_length_le (show l.length ≤ i by omega)]
theorem idxF_hit {l : List Int} {x : Int} {i : Nat} (h : l[i]? = some x) : idxF l x i = i := by
  obtain ⟨hi, hx⟩ := List.getElem?_eq_some_iff.1 h
  simp [idxF, List.drop_eq_getElem_cons hi, hx, idxI_eq]
theorem idxF_miss {l : List Int} {x y : Int} {i : Nat} (h : l[i]? = some y) (hn : y ≠ x) : idxF l x i = idxF l x (i + 1) := by
  obtain ⟨hi, hx⟩ := List.getElem?_eq_some_iff.1 h
  have hn' : x ≠ y := fun e => hn e.symm
  simp only [idxF, List.drop_eq_getElem_cons hi, hx, List.mem_cons, hn', false_or, idxI_ne hn]
  by_cases hm : x ∈ l.drop (i + 1)
  · simp only [hm, if_true]; omega
  · simp [hm]
theorem index_int (l : List Int) (x : Int) (hn : l.length ≤ 4611686018427387904) : EE F 162 [L 1 (l.map iU), I x] [] = ok1 (I (idxI l x)) := by
  rw [R162, b162]
  simp only [↓xP, xQ, xR, flatR, eqCells_ok, eqSh, eqBs, Nat.reduceLT, decide_true, Nat.reduceBEq, Nat.reduceAdd, IOp.dst, IOp.isF, IOp.args, coolOp, Nat.reduceSub]
  refine (loop_ind (fun (i : Nat) st => i ≤ l.length ∧ st.s 0 = DU (.sl 1 (l.map iU)) ∧ st.s 1 = DI x ∧ st.s 7 = DI l.length ∧ st.s 8 = DI i) (fun i => l.length - i) (fun i => ok1 (I (idxF l x i))) ?_ 0 (by and_intros <;> first | omega | rfl | (simp only [↓xP, xQ, xR, flatR, eqCells_ok, eqSh, eqBs, Nat.reduceLT, decide_true, Nat.reduceBEq, Nat.reduceAdd, IOp.dst, IOp.isF, IOp.args, coolOp, Nat.reduceSub]; done) | (simp only [↓xP, xQ, xR, flatR, eqCells_ok, eqSh, eqBs, Nat.reduceLT, decide_true, Nat.reduceBEq, Nat.reduceAdd, IOp.dst, IOp.isF, IOp.args, coolOp, Nat.reduceSub]; rfl) | (simp only [↓xP, xQ, xR, flatR, eqCells_ok, eqSh, eqBs, Nat.reduceLT, decide_true, Nat.reduceBEq, Nat.reduceAdd, IOp.dst, IOp.isF, IOp.args, coolOp, Nat.reduceSub]; omega))).trans (by rw [idxF_0])
  rintro i st ⟨hle, h0, h1, h7, h8⟩ ih
  by_cases hi : i < l.length
  · obtain ⟨y, hy⟩ : ∃ y, l[i]? = some y := ⟨_, List.getElem?_eq_getElem hi⟩
    have hw := w_succ (i := i) (by omega)
    simp only [↓xP, xQ, xR, flatR, eqCells_ok, eqSh, eqBs, Nat.reduceLT, decide_true, Nat.reduceBEq, Nat.reduceAdd, IOp.dst, IOp.isF, IOp.args, coolOp, Nat.reduceSub, h0, h1, h7, h8, hi, hy, hw, iU]
    refine sel_split (fun h => ?_) (fun h => ?_)
    · simp only [decide_eq_true_eq] at h
      rw [idxF_hit (by rw [hy, h])]
    · simp only [decide_eq_false_iff_not] at h
      rw [idxF_miss hy (fun e => h e.symm)]
      exact ih (i + 1) _ (by omega) (by and_intros <;> first | omega | rfl | (simp only [↓xP, xQ, xR, flatR, eqCells_ok, eqSh, eqBs, Nat.reduceLT, decide_true, Nat.reduceBEq, Nat.reduceAdd, IOp.dst, IOp.isF, IOp.args, coolOp, Nat.reduceSub, h0, h1, h7]; done) | (simp only [↓xP, xQ, xR, flatR, eqCells_ok, eqSh, eqBs, Nat.reduceLT, decide_true, Nat.reduceBEq, Nat.reduceAdd, IOp.dst, IOp.isF, IOp.args, coolOp, Nat.reduceSub, h0, h1, h7]; rfl) | (simp only [↓xP, xQ, xR, flatR, eqCells_ok, eqSh, eqBs, Nat.reduceLT, decide_true, Nat.reduceBEq, Nat.reduceAdd, IOp.dst, IOp.isF, IOp.args, coolOp, Nat.reduceSub, h0, h1, h7]; omega))
  · simp only [↓xP, xQ, xR, flatR, eqCells_ok, eqSh, eqBs, Nat.reduceLT, decide_true, Nat.reduceBEq, Nat.reduceAdd, IOp.dst, IOp.isF, IOp.args, coolOp, Nat.reduceSub, h0, h1, h7, h8, hi]
    rw [idxF_end l x hi]
theorem contains_int (l : List Int) (x : Int) (hn : l.length ≤ 4611686018427387904) : EE F 85 [L 1 (l.map iU), I x] [] = ok1 (B (decide (x ∈ l))) := by
  rw [R85, b85]
  simp only [↓xP, xQ, xR, flatR, eqCells_ok, eqSh, eqBs, Nat.reduceLT, decide_true, Nat.reduceBEq, Nat.reduceAdd, IOp.dst, IOp.isF, IOp.args, coolOp, Nat.reduceSub, index_int l x hn, ge_iff_le, idxI_ge]
theorem copyOf_int (l : List Int) (hn : l.length ≤ 1048576) : EE F 98 [L 1 (l.map iU)] [] = some ⟨[.sc (.own (.par 0) l.length)], [.row 1 (l.map iU)], []⟩ := by
  rw [R98, b98]
  have h1 : l.length ≤ maxLen := by simp [maxLen]; omega
  have h2 : l.length * 8 ≤ 140737488355328 := by omega
  simp only [↓xP, xQ, xR, flatR, eqCells_ok, eqSh, eqBs, Nat.reduceLT, decide_true, Nat.reduceBEq, Nat.reduceAdd, IOp.dst, IOp.isF, IOp.args, coolOp, Nat.reduceSub, h1, h2]
theorem l16Index_ok (e : Int) (l : List Int) (f : Bool) (x : Int) (hn : l.length ≤ 4611686018427387904) : EE F 94 [.ag [.u (.int .i64 e), .u (.sl 1 (l.map iU)), .u (.bool f)], I x] [] = ok1 (I (idxI l x)) := by
  rw [R94, b94]
  simp only [↓xP, xQ, xR, flatR, eqCells_ok, eqSh, eqBs, Nat.reduceLT, decide_true, Nat.reduceBEq, Nat.reduceAdd, IOp.dst, IOp.isF, IOp.args, coolOp, Nat.reduceSub]
  refine (loop_ind (fun (i : Nat) st => i ≤ l.length ∧ st.s 2 = .t (.sc (.ptr (.loc 2 0) 0 0)) ∧ st.o (.loc 2 0) = some (.box [.u (.int .i64 e), .u (.sl 1 (l.map iU)), .u (.bool f)]) ∧ st.s 1 = DI x ∧ st.s 5 = DI i) (fun i => l.length - i) (fun i => ok1 (I (idxF l x i))) ?_ 0 (by and_intros <;> first | omega | rfl | (simp only [↓xP, xQ, xR, flatR, eqCells_ok, eqSh, eqBs, Nat.reduceLT, decide_true, Nat.reduceBEq, Nat.reduceAdd, IOp.dst, IOp.isF, IOp.args, coolOp, Nat.reduceSub]; done) | (simp only [↓xP, xQ, xR, flatR, eqCells_ok, eqSh, eqBs, Nat.reduceLT, decide_true, Nat.reduceBEq, Nat.reduceAdd, IOp.dst, IOp.isF, IOp.args, coolOp, Nat.reduceSub]; rfl) | (simp only [↓xP, xQ, xR, flatR, eqCells_ok, eqSh, eqBs, Nat.reduceLT, decide_true, Nat.reduceBEq, Nat.reduceAdd, IOp.dst, IOp.isF, IOp.args, coolOp, Nat.reduceSub]; omega))).trans (by rw [idxF_0])
  rintro i st ⟨hle, h2, ho, h1, h5⟩ ih
  by_cases hi : i < l.length
  · obtain ⟨y, hy⟩ : ∃ y, l[i]? = some y := ⟨_, List.getElem?_eq_getElem hi⟩
    have hw := w_succ (i := i) (by omega)
    simp only [↓xP, xQ, xR, flatR, eqCells_ok, eqSh, eqBs, Nat.reduceLT, decide_true, Nat.reduceBEq, Nat.reduceAdd, IOp.dst, IOp.isF, IOp.args, coolOp, Nat.reduceSub, h2, ho, h1, h5, hi, hy, hw, iU]
    refine sel_split (fun h => ?_) (fun h => ?_)
    · simp only [decide_eq_true_eq] at h
      rw [idxF_hit (by rw [hy, h])]
    · simp only [decide_eq_false_iff_not] at h
      rw [idxF_miss hy h]
      exact ih (i + 1) _ (by omega) (by and_intros <;> first | omega | rfl | (simp only [↓xP, xQ, xR, flatR, eqCells_ok, eqSh, eqBs, Nat.reduceLT, decide_true, Nat.reduceBEq, Nat.reduceAdd, IOp.dst, IOp.isF, IOp.args, coolOp, Nat.reduceSub, h2, ho, h1]; done) | (simp only [↓xP, xQ, xR, flatR, eqCells_ok, eqSh, eqBs, Nat.reduceLT, decide_true, Nat.reduceBEq, Nat.reduceAdd, IOp.dst, IOp.isF, IOp.args, coolOp, Nat.reduceSub, h2, ho, h1]; rfl) | (simp only [↓xP, xQ, xR, flatR, eqCells_ok, eqSh, eqBs, Nat.reduceLT, decide_true, Nat.reduceBEq, Nat.reduceAdd, IOp.dst, IOp.isF, IOp.args, coolOp, Nat.reduceSub, h2, ho, h1]; omega))
  · simp only [↓xP, xQ, xR, flatR, eqCells_ok, eqSh, eqBs, Nat.reduceLT, decide_true, Nat.reduceBEq, Nat.reduceAdd, IOp.dst, IOp.isF, IOp.args, coolOp, Nat.reduceSub, h2, ho, h1, h5, hi]
    rw [idxF_end l x hi]
def okAt (l : List Int) (k : Nat) : Bool := match l[k]? with
  | some x => inR x 0 4 && !decide (x ∈ l.take k)
  | none => true
def configValid (c : Config) : Bool := decide (1 ≤ c.epoch) && decide (c.epoch ≤ 60) && decide (1 ≤ c.members.length) && decide (c.members.length ≤ 4) && !(c.fresh && decide (c.members.length < 2)) && allF c.members.length (okAt c.members) 0
theorem okAt_some {l : List Int} {k : Nat} {x : Int} (h : l[k]? = some x) : okAt l k = (inR x 0 4 && !decide (x ∈ l.take k)) := by simp [okAt, h]
theorem configValid_len {c : Config} (h : configValid c = true) : 1 ≤ c.members.length ∧ c.members.length ≤ 4 := by
  simp only [configValid, Bool.and_eq_true, decide_eq_true_eq] at h; exact ⟨h.1.1.1.2, h.1.1.2⟩
theorem cut_to {n : Nat} {i : Nat} (h : i ≤ n) : vcut n none (some (DI (i : Int))) = some (0, i) := by
  simp [vcut, D.int?]
  omega
theorem configValid_impl (e : Int) (l : List Int) (f : Bool) (hn : l.length ≤ 4611686018427387904) : EE F 33 [.ag [.u (.int .i64 e), .u (.sl 1 (l.map iU)), .u (.bool f)]] [] = ok1 (B (configValid ⟨e, l, f⟩)) := by
  rw [R33, b33]
  simp only [↓xP, xQ, xR, flatR, eqCells_ok, eqSh, eqBs, Nat.reduceLT, decide_true, Nat.reduceBEq, Nat.reduceAdd, IOp.dst, IOp.isF, IOp.args, coolOp, Nat.reduceSub]
  by_cases hg : (decide (1 ≤ e) && decide (e ≤ 60) && decide (1 ≤ l.length) && decide (l.length ≤ 4) && !(f && decide (l.length < 2))) = true
  · have e1 : configValid ⟨e, l, f⟩ = allF l.length (okAt l) 0 := by simp only [configValid, hg, Bool.true_and]
    rw [e1]
    simp only [Bool.and_eq_true, decide_eq_true_eq, Bool.not_eq_true', Bool.and_eq_false_iff, decide_eq_false_iff_not] at hg
    obtain ⟨⟨⟨⟨h1, h2⟩, h3⟩, h4⟩, h5⟩ := hg
    have g1 : ¬ e < 1 := by omega
    have g2 : ¬ 60 < e := by omega
    have g3 : ¬ (l.length : Int) < 1 := by omega
    have g4 : ¬ (4 : Int) < (l.length : Int) := by omega
    simp only [g1, g2, g3, g4, gt_iff_lt, decide_false, ↓xP, xQ, xR, flatR, eqCells_ok, eqSh, eqBs, Nat.reduceLT, decide_true, Nat.reduceBEq, Nat.reduceAdd, IOp.dst, IOp.isF, IOp.args, coolOp, Nat.reduceSub]
    repeat' (refine sel_split (fun h => ?_) (fun h => ?_))
    all_goals (try (exfalso; simp only [decide_eq_true_eq] at *; simp_all; omega))
    all_goals
      refine (loop_ind (fun (i : Nat) st => i ≤ l.length ∧ st.s 1 = .t (.sc (.ptr (.loc 1 0) 0 0)) ∧ st.o (.loc 1 0) = some (.box [.u (.int .i64 e), .u (.sl 1 (l.map iU)), .u (.bool f)]) ∧ st.s 34 = DU (.sl 1 (l.map iU)) ∧ st.s 35 = DI l.length ∧ st.s 36 = DI i) (fun i => l.length - i) (fun i => ok1 (B (allF l.length (okAt l) i))) ?_ 0 (by and_intros <;> first | omega | rfl | (simp only [↓xP, xQ, xR, flatR, eqCells_ok, eqSh, eqBs, Nat.reduceLT, decide_true, Nat.reduceBEq, Nat.reduceAdd, IOp.dst, IOp.isF, IOp.args, coolOp, Nat.reduceSub]; done) | (simp only [↓xP, xQ, xR, flatR, eqCells_ok, eqSh, eqBs, Nat.reduceLT, decide_true, Nat.reduceBEq, Nat.reduceAdd, IOp.dst, IOp.isF, IOp.args, coolOp, Nat.reduceSub]; rfl) | (simp only [↓xP, xQ, xR, flatR, eqCells_ok, eqSh, eqBs, Nat.reduceLT, decide_true, Nat.reduceBEq, Nat.reduceAdd, IOp.dst, IOp.isF, IOp.args, coolOp, Nat.reduceSub]; omega))).trans rfl
      rintro i st ⟨hle, hb, ho, h34, h35, h36⟩ ih
      by_cases hi : i < l.length
      · obtain ⟨y, hy⟩ : ∃ y, l[i]? = some y := ⟨_, List.getElem?_eq_getElem hi⟩
        have hw := w_succ (i := i) (by omega)
        have hct := cut_to (n := l.length) hle
        have hlt : (l.take i).length ≤ 4611686018427387904 := by simp; omega
        have hct2 := contains_int (l.take i) y hlt
        simp only [↓xP, xQ, xR, flatR, eqCells_ok, eqSh, eqBs, Nat.reduceLT, decide_true, Nat.reduceBEq, Nat.reduceAdd, IOp.dst, IOp.isF, IOp.args, coolOp, Nat.reduceSub, hb, ho, h34, h35, h36, hi, hy, hw, iU, nodeValid_ok, List.length_map, hct, List.drop_zero, ← List.map_take, hct2]
        rw [allF_lt hi, okAt_some hy]
        repeat' (refine sel_split (fun h => ?_) (fun h => ?_))
        all_goals first
          | (simp_all; done)
          | (rw [ih (i + 1) _ (by omega) (by and_intros <;> first | omega | rfl | (simp only [↓xP, xQ, xR, flatR, eqCells_ok, eqSh, eqBs, Nat.reduceLT, decide_true, Nat.reduceBEq, Nat.reduceAdd, IOp.dst, IOp.isF, IOp.args, coolOp, Nat.reduceSub, hb, ho, h34, h35]; done) | (simp only [↓xP, xQ, xR, flatR, eqCells_ok, eqSh, eqBs, Nat.reduceLT, decide_true, Nat.reduceBEq, Nat.reduceAdd, IOp.dst, IOp.isF, IOp.args, coolOp, Nat.reduceSub, hb, ho, h34, h35]; rfl) | (simp only [↓xP, xQ, xR, flatR, eqCells_ok, eqSh, eqBs, Nat.reduceLT, decide_true, Nat.reduceBEq, Nat.reduceAdd, IOp.dst, IOp.isF, IOp.args, coolOp, Nat.reduceSub, hb, ho, h34, h35]; omega))]; simp_all)
      · simp only [↓xP, xQ, xR, flatR, eqCells_ok, eqSh, eqBs, Nat.reduceLT, decide_true, Nat.reduceBEq, Nat.reduceAdd, IOp.dst, IOp.isF, IOp.args, coolOp, Nat.reduceSub, hb, ho, h34, h35, h36, hi]
        rw [allF_ge hi]
  · have hg2 := hg
    rw [Bool.not_eq_true] at hg2
    have e1 : configValid ⟨e, l, f⟩ = false := by simp only [configValid, hg2, Bool.false_and]
    clear hg2
    rw [e1]
    repeat' (refine sel_split (fun h => ?_) (fun h => ?_))
    all_goals first
      | rfl
      | (exfalso; apply hg; simp only [decide_eq_true_eq, decide_eq_false_iff_not] at *; simp_all; omega)
theorem configValid_spec (e : Int) (l : List Int) (f : Bool) (hn : l.length ≤ 4611686018427387904) : EE F 81 [.ag [.u (.int .i64 e), .u (.sl 1 (l.map iU)), .u (.bool f)]] [] = ok1 (B (configValid ⟨e, l, f⟩)) := by
  rw [R81, b81]
  simp only [↓xP, xQ, xR, flatR, eqCells_ok, eqSh, eqBs, Nat.reduceLT, decide_true, Nat.reduceBEq, Nat.reduceAdd, IOp.dst, IOp.isF, IOp.args, coolOp, Nat.reduceSub, l1In_ok]
  by_cases hg : (decide (1 ≤ e) && decide (e ≤ 60) && decide (1 ≤ l.length) && decide (l.length ≤ 4) && !(f && decide (l.length < 2))) = true
  · have e1 : configValid ⟨e, l, f⟩ = allF l.length (okAt l) 0 := by simp only [configValid, hg, Bool.true_and]
    rw [e1]
    simp only [Bool.and_eq_true, decide_eq_true_eq, Bool.not_eq_true', Bool.and_eq_false_iff, decide_eq_false_iff_not] at hg
    obtain ⟨⟨⟨⟨h1, h2⟩, h3⟩, h4⟩, h5⟩ := hg
    have g1 : inR e 1 60 = true := by simp [inR, h1, h2]
    have g2 : inR (l.length : Int) 1 4 = true := by simp [inR]; omega
    simp only [g1, g2, ↓xP, xQ, xR, flatR, eqCells_ok, eqSh, eqBs, Nat.reduceLT, decide_true, Nat.reduceBEq, Nat.reduceAdd, IOp.dst, IOp.isF, IOp.args, coolOp, Nat.reduceSub]
    repeat' (refine sel_split (fun h => ?_) (fun h => ?_))
    all_goals (try (exfalso; simp only [decide_eq_true_eq] at *; simp_all; omega))
    all_goals
      refine (loop_ind (fun (i : Nat) st => i ≤ l.length ∧ st.s 1 = .t (.sc (.ptr (.loc 1 0) 0 0)) ∧ st.o (.loc 1 0) = some (.box [.u (.int .i64 e), .u (.sl 1 (l.map iU)), .u (.bool f)]) ∧ st.s 3 = DI i) (fun i => l.length - i) (fun i => ok1 (B (allF l.length (okAt l) i))) ?_ 0 (by and_intros <;> first | omega | rfl | (simp only [↓xP, xQ, xR, flatR, eqCells_ok, eqSh, eqBs, Nat.reduceLT, decide_true, Nat.reduceBEq, Nat.reduceAdd, IOp.dst, IOp.isF, IOp.args, coolOp, Nat.reduceSub]; done) | (simp only [↓xP, xQ, xR, flatR, eqCells_ok, eqSh, eqBs, Nat.reduceLT, decide_true, Nat.reduceBEq, Nat.reduceAdd, IOp.dst, IOp.isF, IOp.args, coolOp, Nat.reduceSub]; rfl) | (simp only [↓xP, xQ, xR, flatR, eqCells_ok, eqSh, eqBs, Nat.reduceLT, decide_true, Nat.reduceBEq, Nat.reduceAdd, IOp.dst, IOp.isF, IOp.args, coolOp, Nat.reduceSub]; omega))).trans rfl
      rintro i st ⟨hle, hb, ho, h3⟩ ih
      by_cases hi : i < l.length
      · obtain ⟨y, hy⟩ : ∃ y, l[i]? = some y := ⟨_, List.getElem?_eq_getElem hi⟩
        have hw := w_succ (i := i) (by omega)
        simp only [↓xP, xQ, xR, flatR, eqCells_ok, eqSh, eqBs, Nat.reduceLT, decide_true, Nat.reduceBEq, Nat.reduceAdd, IOp.dst, IOp.isF, IOp.args, coolOp, Nat.reduceSub, hb, ho, h3, hi, hy, iU, l1In_ok]
        rw [allF_lt hi, okAt_some hy]
        refine sel_split (fun h => ?_) (fun h => ?_)
        · simp_all
        refine (loop_ind (fun (j : Nat) st => j ≤ i ∧ st.s 1 = .t (.sc (.ptr (.loc 1 0) 0 0)) ∧ st.o (.loc 1 0) = some (.box [.u (.int .i64 e), .u (.sl 1 (l.map iU)), .u (.bool f)]) ∧ st.s 3 = DI i ∧ st.s 4 = DI j) (fun j => i - j) (fun j => ok1 (B (!decide (y ∈ (l.take i).drop j) && allF l.length (okAt l) (i + 1)))) ?_ 0 (by and_intros <;> first | omega | rfl | (simp only [↓xP, xQ, xR, flatR, eqCells_ok, eqSh, eqBs, Nat.reduceLT, decide_true, Nat.reduceBEq, Nat.reduceAdd, IOp.dst, IOp.isF, IOp.args, coolOp, Nat.reduceSub, hb, ho, h3]; done) | (simp only [↓xP, xQ, xR, flatR, eqCells_ok, eqSh, eqBs, Nat.reduceLT, decide_true, Nat.reduceBEq, Nat.reduceAdd, IOp.dst, IOp.isF, IOp.args, coolOp, Nat.reduceSub, hb, ho, h3]; rfl) | (simp only [↓xP, xQ, xR, flatR, eqCells_ok, eqSh, eqBs, Nat.reduceLT, decide_true, Nat.reduceBEq, Nat.reduceAdd, IOp.dst, IOp.isF, IOp.args, coolOp, Nat.reduceSub, hb, ho, h3]; omega))).trans (by simp_all)
        rintro j st ⟨hlj, hb, ho, h3, h4⟩ ihj
        by_cases hj : j < i
        · obtain ⟨z, hz⟩ : ∃ z, l[j]? = some z := ⟨_, List.getElem?_eq_getElem (by omega)⟩
          have hwj := w_succ (i := j) (by omega)
          have hd : (l.take i).drop j = z :: (l.take i).drop (j + 1) := by
            rw [List.drop_eq_getElem_cons (by simp; omega)]
            simp [(List.getElem?_eq_some_iff.1 hz).2]
          simp only [↓xP, xQ, xR, flatR, eqCells_ok, eqSh, eqBs, Nat.reduceLT, decide_true, Nat.reduceBEq, Nat.reduceAdd, IOp.dst, IOp.isF, IOp.args, coolOp, Nat.reduceSub, hb, ho, h3, h4, hj, hz, hy, iU, hwj]
          rw [hd]
          refine sel_split (fun h => ?_) (fun h => ?_)
          · simp_all
          · rw [ihj (j + 1) _ (by omega) (by and_intros <;> first | omega | rfl | (simp only [↓xP, xQ, xR, flatR, eqCells_ok, eqSh, eqBs, Nat.reduceLT, decide_true, Nat.reduceBEq, Nat.reduceAdd, IOp.dst, IOp.isF, IOp.args, coolOp, Nat.reduceSub, hb, ho, h3]; done) | (simp only [↓xP, xQ, xR, flatR, eqCells_ok, eqSh, eqBs, Nat.reduceLT, decide_true, Nat.reduceBEq, Nat.reduceAdd, IOp.dst, IOp.isF, IOp.args, coolOp, Nat.reduceSub, hb, ho, h3]; rfl) | (simp only [↓xP, xQ, xR, flatR, eqCells_ok, eqSh, eqBs, Nat.reduceLT, decide_true, Nat.reduceBEq, Nat.reduceAdd, IOp.dst, IOp.isF, IOp.args, coolOp, Nat.reduceSub, hb, ho, h3]; omega))]
            simp only [decide_eq_false_iff_not] at h
            have h' : ¬ y = z := fun e => h e.symm
            simp [h']
        · simp only [↓xP, xQ, xR, flatR, eqCells_ok, eqSh, eqBs, Nat.reduceLT, decide_true, Nat.reduceBEq, Nat.reduceAdd, IOp.dst, IOp.isF, IOp.args, coolOp, Nat.reduceSub, hb, ho, h3, h4, hj, hw]
          rw [List.drop_of_length_le (by simp; omega)]
          rw [ih (i + 1) _ (by omega) (by and_intros <;> first | omega | rfl | (simp only [↓xP, xQ, xR, flatR, eqCells_ok, eqSh, eqBs, Nat.reduceLT, decide_true, Nat.reduceBEq, Nat.reduceAdd, IOp.dst, IOp.isF, IOp.args, coolOp, Nat.reduceSub, hb, ho]; done) | (simp only [↓xP, xQ, xR, flatR, eqCells_ok, eqSh, eqBs, Nat.reduceLT, decide_true, Nat.reduceBEq, Nat.reduceAdd, IOp.dst, IOp.isF, IOp.args, coolOp, Nat.reduceSub, hb, ho]; rfl) | (simp only [↓xP, xQ, xR, flatR, eqCells_ok, eqSh, eqBs, Nat.reduceLT, decide_true, Nat.reduceBEq, Nat.reduceAdd, IOp.dst, IOp.isF, IOp.args, coolOp, Nat.reduceSub, hb, ho]; omega))]
          simp
      · simp only [↓xP, xQ, xR, flatR, eqCells_ok, eqSh, eqBs, Nat.reduceLT, decide_true, Nat.reduceBEq, Nat.reduceAdd, IOp.dst, IOp.isF, IOp.args, coolOp, Nat.reduceSub, hb, ho, h3, hi]
        rw [allF_ge hi]
  · have hg2 := hg
    rw [Bool.not_eq_true] at hg2
    have e1 : configValid ⟨e, l, f⟩ = false := by simp only [configValid, hg2, Bool.false_and]
    clear hg2
    rw [e1]
    repeat' (refine sel_split (fun h => ?_) (fun h => ?_))
    all_goals first
      | rfl
      | (exfalso; apply hg; simp only [decide_eq_true_eq, decide_eq_false_iff_not, inR] at *; simp_all; omega)
def cfgRet (c : Config) : Option Ret := some ⟨[.ag [.u (.int .i64 c.epoch), .own (.par 0) c.members.length, .u (.bool c.fresh)]], [.row 1 (c.members.map iU)], []⟩
def cfgRet2 (c : Config) (b : Bool) : Option Ret := some ⟨[.ag [.u (.int .i64 c.epoch), .own (.par 0) c.members.length, .u (.bool c.fresh)], B b], [.row 1 (c.members.map iU)], []⟩
def cfg0 : Option Ret := some ⟨[.ag [.u (.int .i64 0), .u (.sl 1 []), .u (.bool false)]], [], []⟩
def cfg02 : Option Ret := some ⟨[.ag [.u (.int .i64 0), .u (.sl 1 []), .u (.bool false)], B false], [], []⟩
theorem small_max {n k : Nat} (h : n ≤ 1048576) (hk : k ≤ 100000000) : n ≤ maxLen ∧ n * k ≤ 140737488355328 := by
  refine ⟨by simp [maxLen]; omega, ?_⟩
  have := Nat.mul_le_mul h hk
  omega
theorem copyConfig_ok (e : Int) (l : List Int) (f : Bool) (hn : l.length ≤ 1048576) : EE F 84 [.ag [.u (.int .i64 e), .u (.sl 1 (l.map iU)), .u (.bool f)]] [] = cfgRet ⟨e, l, f⟩ := by
  rw [R84, b84]
  simp only [↓xP, xQ, xR, flatR, eqCells_ok, eqSh, eqBs, Nat.reduceLT, decide_true, Nat.reduceBEq, Nat.reduceAdd, IOp.dst, IOp.isF, IOp.args, coolOp, Nat.reduceSub, copyOf_int l hn, cfgRet]
theorem l16Copy_ok (e : Int) (l : List Int) (f : Bool) (hn : l.length ≤ 1048576) : EE F 82 [.ag [.u (.int .i64 e), .u (.sl 1 (l.map iU)), .u (.bool f)]] [] = cfgRet ⟨e, l, f⟩ := by
  rw [R82, b82]
  obtain ⟨h1, h2⟩ := small_max (k := 8) hn (by omega)
  simp only [↓xP, xQ, xR, flatR, eqCells_ok, eqSh, eqBs, Nat.reduceLT, decide_true, Nat.reduceBEq, Nat.reduceAdd, IOp.dst, IOp.isF, IOp.args, coolOp, Nat.reduceSub, cfgRet, h1, h2, List.length_map]
def complete (c : Config) : List Int := if configValid c = true then (if c.fresh = true then c.members.take (c.members.length - 1) else c.members) else []
theorem cut_last {n : Nat} (h1 : 1 ≤ n) (h2 : n ≤ 1048576) : IntKind.i64.wrap ((n : Int) - 1) = ((n - 1 : Nat) : Int) := by rw [w64 (by omega) (by omega)]; omega
theorem completeMembers_spec (e : Int) (l : List Int) (f : Bool) (hn : l.length ≤ 1048576) : EE F 161 [.ag [.u (.int .i64 e), .u (.sl 1 (l.map iU)), .u (.bool f)]] [] = some ⟨[.sc (.own (.par 0) (complete ⟨e, l, f⟩).length)], [.row 1 ((complete ⟨e, l, f⟩).map iU)], []⟩ := by
  rw [R161, b161]
  obtain ⟨h1, h2⟩ := small_max (k := 8) hn (by omega)
  simp only [↓xP, xQ, xR, flatR, eqCells_ok, eqSh, eqBs, Nat.reduceLT, decide_true, Nat.reduceBEq, Nat.reduceAdd, IOp.dst, IOp.isF, IOp.args, coolOp, Nat.reduceSub, configValid_spec e l f (by omega)]
  refine sel_split (fun h => ?_) (fun h => ?_)
  · simp_all [complete]
  simp only [Bool.not_eq_false'] at h
  have hl := configValid_len h
  dsimp only at hl
  have hc := cut_last hl.1 hn
  have hct := cut_to (n := l.length) (i := l.length - 1) (by omega)
  have h3 : l.length - 1 ≤ maxLen := by omega
  have h4 : (l.length - 1) * 8 ≤ 140737488355328 := by omega
  have hm : min (l.length - 1) l.length = l.length - 1 := by omega
  cases f <;> simp only [↓xP, xQ, xR, flatR, eqCells_ok, eqSh, eqBs, Nat.reduceLT, decide_true, Nat.reduceBEq, Nat.reduceAdd, IOp.dst, IOp.isF, IOp.args, coolOp, Nat.reduceSub, h1, h2, h3, h4, List.length_map, List.nil_append, Nat.zero_add, hc, hct, complete, h, List.length_take, List.drop_zero, ← List.map_take, if_true, if_false, Bool.false_eq_true, hm]
  done
def rep {α : Type} (l : List α) (a m : Nat) (b : List α) : List α := l.take a ++ b ++ l.drop (a + m)
def zero_Int : List U := [.int .i64 0]
theorem mk0_ok (st : St) (d c : Nat) (zero : List U) (bytes : Nat) (h : c * bytes ≤ 140737488355328) : stMk st d (DI 0) (DI (c : Int)) zero bytes = some (((st.cool (.loc d 0)).obj (.loc d 0) (some (.row zero.length []))).put d (.t (.sc (.own (.loc d 0) 0)))) := by
  have h0 : (0 : Int) ≤ (c : Int) := by omega
  simp [stMk, D.int?, h, h0]
theorem cut_from {n i : Nat} (h : i ≤ n) : vcut n (some (DI (i : Int))) none = some (i, n) := by
  simp [vcut, D.int?]
  omega
theorem map_all {α β : Type} (f : α → β) (l : List α) : List.take l.length (List.map f l) = List.map f l := List.take_of_length_le (by simp)
theorem replaced_Int (l b : List Int) (a m : Nat) (h : a + m ≤ l.length) (hn : l.length + b.length ≤ 1048576) : EE F 163 [L 1 (l.map iU), I a, I m, L 1 (b.map iU)] [] = some ⟨[.sc (.own (.par 0) (rep l a m b).length)], [.row 1 ((rep l a m b).map iU)], []⟩ := by
  rw [R163, b163]
  have w1 : IntKind.i64.wrap ((l.length : Int) - (m : Int)) = ((l.length - m : Nat) : Int) := by rw [w64 (by omega) (by omega)]; omega
  have w2 : IntKind.i64.wrap (((l.length - m : Nat) : Int) + (b.length : Int)) = ((l.length - m + b.length : Nat) : Int) := by rw [w64 (by omega) (by omega)]; omega
  have w3 : IntKind.i64.wrap ((a : Int) + (m : Int)) = ((a + m : Nat) : Int) := by rw [w64 (by omega) (by omega)]; omega
  have c1 := cut_to (n := l.length) (i := a) (by omega)
  have c2 := cut_from (n := l.length) (i := a + m) h
  have k0 := fun st d => mk0_ok st d (l.length - m + b.length) (Go.Proofs.YtdnhamehpdlbgaaV.zero_Int) 8 (by omega)
  have ha : min a l.length = a := by omega
  have q1 : a ≤ maxLen ∧ a * 8 ≤ 140737488355328 := small_max (by omega) (by omega)
  have q2 : a + b.length ≤ maxLen ∧ (a + b.length) * 8 ≤ 140737488355328 := small_max (by omega) (by omega)
  have q3 : a + b.length + (l.length - (a + m)) ≤ maxLen ∧ (a + b.length + (l.length - (a + m))) * 8 ≤ 140737488355328 := small_max (by omega) (by omega)
  simp only [zero_Int] at k0
  simp only [↓xP, xQ, xR, flatR, eqCells_ok, eqSh, eqBs, Nat.reduceLT, decide_true, Nat.reduceBEq, Nat.reduceAdd, IOp.dst, IOp.isF, IOp.args, coolOp, Nat.reduceSub, w1, w2, w3, k0, c1, c2, List.drop_zero, List.length_map, List.length_take, List.length_drop, List.length_append, List.length_nil, Nat.zero_add, List.nil_append, ha, q1.1, q1.2, q2.1, q2.2, q3.1, q3.2, map_all, rep, List.map_append, List.map_take, List.map_drop]
theorem okAll_iff (l : List Int) : allF l.length (okAt l) 0 = true ↔ (∀ y, y ∈ l → inR y 0 4 = true) ∧ l.Nodup := by
  rw [allF_iff l.length 0 (by omega)]
  constructor
  · intro h
    refine ⟨fun y hy => ?_, List.pairwise_iff_getElem.2 (fun i j hi hj hij => ?_)⟩
    · obtain ⟨k, hk⟩ := List.mem_iff_getElem?.1 hy
      have := h k (by omega) (List.getElem?_eq_some_iff.1 hk).1
      rw [okAt_some hk, Bool.and_eq_true] at this
      exact this.1
    · have := h j (by omega) hj
      rw [okAt_some (List.getElem?_eq_getElem hj), Bool.and_eq_true, Bool.not_eq_true', decide_eq_false_iff_not] at this
      intro e
      apply this.2
      rw [← e]
      exact List.mem_iff_getElem?.2 ⟨i, by rw [List.getElem?_take, if_pos hij]; exact List.getElem?_eq_getElem hi⟩
  · rintro ⟨h1, h2⟩ j _ hj
    rw [okAt_some (List.getElem?_eq_getElem hj), Bool.and_eq_true, Bool.not_eq_true', decide_eq_false_iff_not]
    refine ⟨h1 _ (List.getElem_mem hj), fun hm => ?_⟩
    obtain ⟨i, hi⟩ := List.mem_iff_getElem?.1 hm
    rw [List.getElem?_take] at hi
    split at hi
    · rename_i hij
      obtain ⟨hi2, hi3⟩ := List.getElem?_eq_some_iff.1 hi
      exact List.pairwise_iff_getElem.1 h2 i j hi2 hj hij hi3
    · cases hi
theorem configValid_iff (c : Config) : configValid c = true ↔ 1 ≤ c.epoch ∧ c.epoch ≤ 60 ∧ 1 ≤ c.members.length ∧ c.members.length ≤ 4 ∧ (c.fresh = true → 2 ≤ c.members.length) ∧ (∀ y, y ∈ c.members → inR y 0 4 = true) ∧ c.members.Nodup := by
  simp only [configValid, Bool.and_eq_true, decide_eq_true_eq, okAll_iff, Bool.not_eq_true', Bool.and_eq_false_iff, decide_eq_false_iff_not]
  constructor
  · rintro ⟨⟨⟨⟨⟨h1, h2⟩, h3⟩, h4⟩, h5⟩, h6, h7⟩
    exact ⟨h1, h2, h3, h4, fun hf => by rcases h5 with h | h; rw [hf] at h; cases h; omega, h6, h7⟩
  · rintro ⟨h1, h2, h3, h4, h5, h6, h7⟩
    refine ⟨⟨⟨⟨⟨h1, h2⟩, h3⟩, h4⟩, ?_⟩, h6, h7⟩
    cases hf : c.fresh with
    | false => exact .inl rfl
    | true => have := h5 hf; exact .inr (by omega)
theorem idxI_mem {l : List Int} {x : Int} (h : x ∈ l) : idxI l x = (l.idxOf x : Int) := by simp [idxI, h]
theorem rep_erase {l : List Int} {x : Int} : rep l (l.idxOf x) 1 [] = l.erase x := by
  induction l with
  | nil => rfl
  | cons y l ih =>
    by_cases h : y = x
    · subst h; simp [rep]
    · have h' : (y == x) = false := by simpa using h
      rw [List.erase_cons_tail (by simpa using h'), ← ih]
      simp [rep, List.idxOf_cons, h']
def without1 (c : Config) (x : Int) : Config := ⟨c.epoch + 1, c.members.erase x, c.fresh && decide (c.members.idxOf x + 1 < c.members.length)⟩
def withoutOk (c : Config) (x : Int) : Bool := configValid c && decide (x ∈ c.members) && decide (c.epoch < 60) && configValid (without1 c x)
def without (c : Config) (x : Int) : Config := if withoutOk c x = true then without1 c x else c
def withoutRet (c : Config) (x : Int) : Option Ret := if configValid c = true then cfgRet2 (without c x) (withoutOk c x) else cfg02
theorem without_iff {c : Config} (hv : configValid c = true) (x : Int) : withoutOk c x = true ↔ x ∈ c.members ∧ c.epoch < 60 ∧ ¬ ((complete c).length = 1 ∧ (c.fresh = false ∨ c.members.idxOf x + 1 ≠ c.members.length)) := by
  have hv' := (configValid_iff c).1 hv
  obtain ⟨h1, h2, h3, h4, h5, h6, h7⟩ := hv'
  simp only [withoutOk, hv, Bool.true_and, Bool.and_eq_true, decide_eq_true_eq, and_assoc]
  constructor
  · rintro ⟨hm, he, hw⟩
    refine ⟨hm, he, ?_⟩
    have hw' := (configValid_iff _).1 hw
    simp only [without1, List.length_erase_of_mem hm] at hw'
    have hi : c.members.idxOf x < c.members.length := List.idxOf_lt_length_of_mem hm
    rintro ⟨q1, q2⟩
    simp only [complete, hv, if_true] at q1
    cases hf : c.fresh with
    | false => simp [hf] at q1; omega
    | true =>
      simp only [hf, if_true, List.length_take] at q1
      have := hw'.2.2.2.2.1 (by simp only [hf, Bool.true_and, decide_eq_true_eq]; rcases q2 with q | q; rw [hf] at q; cases q; omega)
      omega
  · rintro ⟨hm, he, hq⟩
    refine ⟨hm, he, (configValid_iff _).2 ?_⟩
    simp only [without1, List.length_erase_of_mem hm]
    have hi : c.members.idxOf x < c.members.length := List.idxOf_lt_length_of_mem hm
    have hc : (complete c).length = if c.fresh = true then c.members.length - 1 else c.members.length := by
      simp only [complete, hv, if_true]
      split <;> simp
    refine ⟨by omega, by omega, ?_, by omega, ?_, fun y hy => h6 y (List.mem_of_mem_erase hy), h7.erase x⟩
    · cases hf : c.fresh with
      | false => simp [hf] at hc; by_cases h : c.members.length = 1; exact absurd ⟨by omega, .inl hf⟩ hq; omega
      | true => have := h5 hf; omega
    · intro hfr
      simp only [Bool.and_eq_true, decide_eq_true_eq] at hfr
      simp only [hfr.1, if_true] at hc
      have := h5 hfr.1
      by_cases h : c.members.length = 2
      · exact absurd ⟨by omega, .inr (by omega)⟩ hq
      · omega
theorem without_valid {c : Config} (hv : configValid c = true) (x : Int) : configValid (without c x) = true := by
  unfold without
  split
  · rename_i h; simp only [withoutOk, Bool.and_eq_true] at h; exact h.2
  · exact hv
theorem withoutMember_impl (e : Int) (l : List Int) (f : Bool) (x : Int) (hn : l.length ≤ 1048576) : EE F 86 [.ag [.u (.int .i64 e), .u (.sl 1 (l.map iU)), .u (.bool f)], I x] [] = withoutRet ⟨e, l, f⟩ x := by
  rw [R86, b86]
  simp only [↓xP, xQ, xR, flatR, eqCells_ok, eqSh, eqBs, Nat.reduceLT, decide_true, Nat.reduceBEq, Nat.reduceAdd, IOp.dst, IOp.isF, IOp.args, coolOp, Nat.reduceSub, configValid_impl e l f (by omega)]
  refine sel_split (fun h => ?_) (fun h => ?_)
  · simp only [Bool.not_eq_true'] at h
    simp [withoutRet, h, cfg02]
  simp only [Bool.not_eq_false'] at h
  have hv := (configValid_iff _).1 h
  dsimp only at hv
  simp only [withoutRet, h, if_true]
  have hcp := copyConfig_ok e l f hn
  simp only [cfgRet] at hcp
  by_cases hm : x ∈ l
  · have hi : l.idxOf x < l.length := List.idxOf_lt_length_of_mem hm
    have ha := idxI_mem hm
    have hneg : ¬ ((l.idxOf x : Nat) : Int) < 0 := by omega
    by_cases he : e < 60
    · have he' : ¬ (60 : Int) ≤ e := by omega
      have hw : IntKind.i64.wrap (e + 1) = e + 1 := by rw [w64 (by omega) (by omega)]
      have hl1 := cut_last hv.2.2.1 hn
      have hr : EE F 163 [L 1 (l.map iU), I (l.idxOf x), I 1, L 1 []] [] = some ⟨[.sc (.own (.par 0) (l.erase x).length)], [.row 1 ((l.erase x).map iU)], []⟩ := by
        have := replaced_Int l [] (l.idxOf x) 1 (by omega) (by simp; omega)
        rw [rep_erase] at this
        exact this
      have hcv := fun g => configValid_impl (e + 1) (l.erase x) g (by rw [List.length_erase_of_mem hm]; omega)
      have hlt : (((l.idxOf x : Nat) : Int) < ((l.length - 1 : Nat) : Int)) ↔ l.idxOf x + 1 < l.length := by omega
      cases f
      · simp only [↓xP, xQ, xR, flatR, eqCells_ok, eqSh, eqBs, Nat.reduceLT, decide_true, Nat.reduceBEq, Nat.reduceAdd, IOp.dst, IOp.isF, IOp.args, coolOp, Nat.reduceSub, index_int l x (by omega), ha, hneg, he', ge_iff_le, hw, hr, hl1, hcv, map_all, hlt]
        refine sel_split (fun h2 => ?_) (fun h2 => ?_)
        · simp only [Bool.not_eq_true'] at h2
          have hno : withoutOk ⟨e, l, false⟩ x = false := by simp only [withoutOk, without1, h, hm, he, decide_true, Bool.true_and, Bool.false_and]; exact h2
          simp only [↓xP, xQ, xR, flatR, eqCells_ok, eqSh, eqBs, Nat.reduceLT, decide_true, Nat.reduceBEq, Nat.reduceAdd, IOp.dst, IOp.isF, IOp.args, coolOp, Nat.reduceSub, hcp, hno, without, cfgRet2, Bool.false_eq_true, if_false]
        · simp only [Bool.not_eq_false'] at h2
          have hok : withoutOk ⟨e, l, false⟩ x = true := by simp only [withoutOk, without1, h, hm, he, decide_true, Bool.true_and, Bool.false_and]; exact h2
          simp only [↓xP, xQ, xR, flatR, eqCells_ok, eqSh, eqBs, Nat.reduceLT, decide_true, Nat.reduceBEq, Nat.reduceAdd, IOp.dst, IOp.isF, IOp.args, coolOp, Nat.reduceSub, hok, without, cfgRet2, if_true, without1, Bool.true_and, Bool.false_and]
      · simp only [↓xP, xQ, xR, flatR, eqCells_ok, eqSh, eqBs, Nat.reduceLT, decide_true, Nat.reduceBEq, Nat.reduceAdd, IOp.dst, IOp.isF, IOp.args, coolOp, Nat.reduceSub, index_int l x (by omega), ha, hneg, he', ge_iff_le, hw, hr, hl1, hcv, map_all, hlt]
        refine sel_split (fun h2 => ?_) (fun h2 => ?_)
        · simp only [Bool.not_eq_true'] at h2
          have hno : withoutOk ⟨e, l, true⟩ x = false := by simp only [withoutOk, without1, h, hm, he, decide_true, Bool.true_and, Bool.false_and]; exact h2
          simp only [↓xP, xQ, xR, flatR, eqCells_ok, eqSh, eqBs, Nat.reduceLT, decide_true, Nat.reduceBEq, Nat.reduceAdd, IOp.dst, IOp.isF, IOp.args, coolOp, Nat.reduceSub, hcp, hno, without, cfgRet2, Bool.false_eq_true, if_false]
        · simp only [Bool.not_eq_false'] at h2
          have hok : withoutOk ⟨e, l, true⟩ x = true := by simp only [withoutOk, without1, h, hm, he, decide_true, Bool.true_and, Bool.false_and]; exact h2
          simp only [↓xP, xQ, xR, flatR, eqCells_ok, eqSh, eqBs, Nat.reduceLT, decide_true, Nat.reduceBEq, Nat.reduceAdd, IOp.dst, IOp.isF, IOp.args, coolOp, Nat.reduceSub, hok, without, cfgRet2, if_true, without1, Bool.true_and, Bool.false_and]
    · have he' : (60 : Int) ≤ e := by omega
      have hno : withoutOk ⟨e, l, f⟩ x = false := by simp [withoutOk, he]
      simp only [↓xP, xQ, xR, flatR, eqCells_ok, eqSh, eqBs, Nat.reduceLT, decide_true, Nat.reduceBEq, Nat.reduceAdd, IOp.dst, IOp.isF, IOp.args, coolOp, Nat.reduceSub, index_int l x (by omega), ha, hneg, he', ge_iff_le, hcp, hno, without, cfgRet2, Bool.false_eq_true, if_false]
  · have hneg : idxI l x < 0 := idxI_neg.2 hm
    have hno : withoutOk ⟨e, l, f⟩ x = false := by simp [withoutOk, hm]
    simp only [↓xP, xQ, xR, flatR, eqCells_ok, eqSh, eqBs, Nat.reduceLT, decide_true, Nat.reduceBEq, Nat.reduceAdd, IOp.dst, IOp.isF, IOp.args, coolOp, Nat.reduceSub, index_int l x (by omega), hneg, hcp, hno, without, cfgRet2, Bool.false_eq_true, if_false]
theorem withoutMember_spec (e : Int) (l : List Int) (f : Bool) (x : Int) (hn : l.length ≤ 1048576) : EE F 83 [.ag [.u (.int .i64 e), .u (.sl 1 (l.map iU)), .u (.bool f)], I x] [] = withoutRet ⟨e, l, f⟩ x := by
  rw [R83, b83]
  simp only [↓xP, xQ, xR, flatR, eqCells_ok, eqSh, eqBs, Nat.reduceLT, decide_true, Nat.reduceBEq, Nat.reduceAdd, IOp.dst, IOp.isF, IOp.args, coolOp, Nat.reduceSub, configValid_spec e l f (by omega)]
  refine sel_split (fun h => ?_) (fun h => ?_)
  · simp only [Bool.not_eq_true'] at h
    simp [withoutRet, h, cfg02]
  simp only [Bool.not_eq_false'] at h
  have hv := (configValid_iff _).1 h
  dsimp only at hv
  simp only [withoutRet, h, if_true]
  have hcp := l16Copy_ok e l f hn
  simp only [cfgRet] at hcp
  have hl1 := cut_last hv.2.2.1 hn
  have hiff := without_iff h x
  dsimp only at hiff
  by_cases hm : x ∈ l
  · have hi : l.idxOf x < l.length := List.idxOf_lt_length_of_mem hm
    have ha := idxI_mem hm
    have hneg : ¬ ((l.idxOf x : Nat) : Int) < 0 := by omega
    have hcm := completeMembers_spec e l f hn
    generalize hcc : (complete ⟨e, l, f⟩).length = cl at hiff hcm
    have hlast : (((l.idxOf x : Nat) : Int) = ((l.length - 1 : Nat) : Int)) ↔ l.idxOf x + 1 = l.length := by omega
    have hc1 : ((cl : Int) = 1) ↔ cl = 1 := by omega
    by_cases he : e = 60
    · subst he
      have hno : withoutOk ⟨60, l, f⟩ x = false := by simp only [withoutOk]; simp
      simp only [↓xP, xQ, xR, flatR, eqCells_ok, eqSh, eqBs, Nat.reduceLT, decide_true, Nat.reduceBEq, Nat.reduceAdd, IOp.dst, IOp.isF, IOp.args, coolOp, Nat.reduceSub, l16Index_ok 60 l f x (by omega), ha, hneg, hl1, hcm, hcp, hno, without, cfgRet2, Bool.false_eq_true, if_false]
    · have hw : IntKind.i64.wrap (e + 1) = e + 1 := by rw [w64 (by omega) (by omega)]
      have hct := cut_to (n := l.length) (i := l.idxOf x) (by omega)
      have hcf := cut_from (n := l.length) (i := l.idxOf x + 1) (by omega)
      have hw2 := w_succ (i := l.idxOf x) (by omega)
      have hmin : min (l.idxOf x) l.length = l.idxOf x := by omega
      have q1 : l.idxOf x ≤ maxLen ∧ l.idxOf x * 8 ≤ 140737488355328 := small_max (by omega) (by omega)
      have q2 : l.idxOf x + (l.length - (l.idxOf x + 1)) ≤ maxLen ∧ (l.idxOf x + (l.length - (l.idxOf x + 1))) * 8 ≤ 140737488355328 := small_max (by omega) (by omega)
      have hlen : l.idxOf x + (l.length - (l.idxOf x + 1)) = (l.erase x).length := by rw [List.length_erase_of_mem hm]; omega
      have q3 : (l.erase x).length ≤ maxLen ∧ (l.erase x).length * 8 ≤ 140737488355328 := small_max (by rw [List.length_erase_of_mem hm]; omega) (by omega)
      have her : List.take (l.idxOf x) (l.map iU) ++ List.drop (l.idxOf x + 1) (l.map iU) = (l.erase x).map iU := by
        rw [← rep_erase]; simp [rep, List.map_take, List.map_drop]
      have ne1 : ∀ {q : Prop}, (l.idxOf x + 1 < l.length) ↔ ¬ (l.idxOf x + 1 = l.length) := by omega
      have hb : (complete ⟨e, l, f⟩).length = cl := hcc
      have h1 : (((cl : Int) = 1) = True ∧ cl = 1) ∨ (((cl : Int) = 1) = False ∧ cl ≠ 1) := by
        by_cases h : cl = 1
        · exact .inl ⟨eq_true (by omega), h⟩
        · exact .inr ⟨eq_false (by omega), h⟩
      have h2 : ((((l.idxOf x : Nat) : Int) = ((l.length - 1 : Nat) : Int)) = True ∧ (l.idxOf x + 1 = l.length) ∧ (l.idxOf x + 1 = l.length) = True) ∨ ((((l.idxOf x : Nat) : Int) = ((l.length - 1 : Nat) : Int)) = False ∧ l.idxOf x + 1 ≠ l.length ∧ (l.idxOf x + 1 = l.length) = False) := by
        by_cases h : l.idxOf x + 1 = l.length
        · exact .inl ⟨eq_true (by omega), h, eq_true h⟩
        · exact .inr ⟨eq_false (by omega), h, eq_false h⟩
      have hk : ∀ g, (l.idxOf x + 1 < l.length) = g ↔ (¬ (l.idxOf x + 1 = l.length)) = g := by
        intro g
        have : (l.idxOf x + 1 < l.length) = (¬ (l.idxOf x + 1 = l.length)) := propext (by omega)
        rw [this]
      have he60 : e < 60 := by omega
      rcases h1 with ⟨h1, k1⟩ | ⟨h1, k1⟩ <;> rcases h2 with ⟨h2, k2, k3⟩ | ⟨h2, k2, k3⟩ <;> cases f
      all_goals
        have hlt : (l.idxOf x + 1 < l.length) = ¬ (l.idxOf x + 1 = l.length) := propext (by omega)
        simp only [hm, he60, k1, k2, true_and, and_true, false_and, and_false, not_true_eq_false, not_false_eq_true, ne_eq, or_true, true_or, or_false, false_or, reduceCtorEq, iff_true, iff_false, Bool.not_eq_true] at hiff
        simp only [↓xP, xQ, xR, flatR, eqCells_ok, eqSh, eqBs, Nat.reduceLT, decide_true, Nat.reduceBEq, Nat.reduceAdd, IOp.dst, IOp.isF, IOp.args, coolOp, Nat.reduceSub, l16Index_ok _ l _ x (by omega), ha, hneg, hl1, hcm, he, hcp, h1, h2, hw, hct, hcf, hw2, hmin, q1.1, q1.2, q2.1, q2.2, q3.1, q3.2, List.length_map, List.length_take, List.length_drop, List.drop_zero, map_all, hlen, her, hiff, without, cfgRet2, without1, hlt, k3, if_true, if_false, Bool.false_eq_true, decide_true, decide_false, Bool.true_and, Bool.false_and, not_true_eq_false, not_false_eq_true, Bool.and_true, Bool.and_false]
  · have hneg : idxI l x < 0 := idxI_neg.2 hm
    have hno : withoutOk ⟨e, l, f⟩ x = false := by simp [withoutOk, hm]
    simp only [↓xP, xQ, xR, flatR, eqCells_ok, eqSh, eqBs, Nat.reduceLT, decide_true, Nat.reduceBEq, Nat.reduceAdd, IOp.dst, IOp.isF, IOp.args, coolOp, Nat.reduceSub, l16Index_ok e l f x (by omega), hneg, completeMembers_spec e l f hn, hcp, hno, without, cfgRet2, Bool.false_eq_true, if_false]
def repStep (nodes : List Int) (c : Config) (x : Int) : Config := if x ∈ nodes then without c x else c
def repair (c : Config) (nodes : List Int) : Config := c.members.foldl (repStep nodes) c
theorem repStep_valid {nodes : List Int} {c : Config} (h : configValid c = true) (x : Int) : configValid (repStep nodes c x) = true := by
  unfold repStep
  split
  · exact without_valid h x
  · exact h
theorem without_twice {c : Config} (h : configValid c = true) (x : Int) : without (without c x) x = without c x := by
  by_cases hw : withoutOk c x = true
  · have e : without c x = without1 c x := by simp [without, hw]
    have hx : x ∉ (without1 c x).members := by
      have := ((configValid_iff c).1 h).2.2.2.2.2.2
      intro hm
      exact (List.Nodup.mem_erase_iff this).1 hm |>.1 rfl
    rw [e]
    have : withoutOk (without1 c x) x = false := by simp [withoutOk, hx]
    simp [without, this]
  · have e : without c x = c := by simp [without, hw]
    rw [e, e]
theorem cfgRet2_eq (c : Config) (b : Bool) : cfgRet2 c b = some ⟨[.ag [.u (.int .i64 c.epoch), .own (.par 0) c.members.length, .u (.bool c.fresh)], B b], [.row 1 (c.members.map iU)], []⟩ := rfl
def wid (a b : Id) : Bool → Id
  | false => a
  | true => b
theorem repairConfig_impl (e : Int) (l : List Int) (f : Bool) (nodes : List Int) (hn : l.length ≤ 1048576) (hm : nodes.length ≤ 1048576) : EE F 19 [.ag [.u (.int .i64 e), .u (.sl 1 (l.map iU)), .u (.bool f)], L 1 (nodes.map iU)] [] = if configValid ⟨e, l, f⟩ = true then cfgRet (repair ⟨e, l, f⟩ nodes) else cfg0 := by
  rw [R19, b19]
  simp only [↓xP, xQ, xR, flatR, eqCells_ok, eqSh, eqBs, Nat.reduceLT, decide_true, Nat.reduceBEq, Nat.reduceAdd, IOp.dst, IOp.isF, IOp.args, coolOp, Nat.reduceSub, configValid_impl e l f (by omega)]
  refine sel_split (fun h => ?_) (fun h => ?_)
  · simp only [Bool.not_eq_true'] at h
    simp [h, cfg0]
  simp only [Bool.not_eq_false'] at h
  have hcp := copyConfig_ok e l f hn
  simp only [cfgRet] at hcp
  simp only [↓xP, xQ, xR, flatR, eqCells_ok, eqSh, eqBs, Nat.reduceLT, decide_true, Nat.reduceBEq, Nat.reduceAdd, IOp.dst, IOp.isF, IOp.args, coolOp, Nat.reduceSub, hcp, h, if_true]
  refine (loop_ind (fun (a : Nat × Bool × Config) st => a.1 ≤ l.length ∧ configValid a.2.2 = true ∧ st.s 1 = DU (.sl 1 (nodes.map iU)) ∧ st.s 15 = DU (.sl 1 (l.map iU)) ∧ st.s 16 = DI l.length ∧ st.s 17 = DI a.1 ∧ st.s 4 = .t (.sc (.ptr (.loc 4 0) 0 0)) ∧ st.o (.loc 4 0) = some (.box [.u (.int .i64 0), .u (.sl 1 []), .u (.bool false)]) ∧
    st.s 5 = .t (.sc (.ptr (.loc 5 0) 0 0)) ∧ st.o (.loc 5 0) = some (.box [.u (.int .i64 a.2.2.epoch), .own (wid (.loc 13 0) (.loc 27 0) a.2.1) a.2.2.members.length, .u (.bool a.2.2.fresh)]) ∧ st.o (wid (.loc 13 0) (.loc 27 0) a.2.1) = some (.row 1 (a.2.2.members.map iU)))
    (fun a => l.length - a.1) (fun a => cfgRet ((l.drop a.1).foldl (repStep nodes) a.2.2)) ?_ (0, false, ⟨e, l, f⟩) ⟨by simp, h, (by and_intros <;> first | omega | rfl | (simp only [↓xP, xQ, xR, flatR, eqCells_ok, eqSh, eqBs, Nat.reduceLT, decide_true, Nat.reduceBEq, Nat.reduceAdd, IOp.dst, IOp.isF, IOp.args, coolOp, Nat.reduceSub, wid]; done) | (simp only [↓xP, xQ, xR, flatR, eqCells_ok, eqSh, eqBs, Nat.reduceLT, decide_true, Nat.reduceBEq, Nat.reduceAdd, IOp.dst, IOp.isF, IOp.args, coolOp, Nat.reduceSub, wid]; rfl) | (simp only [↓xP, xQ, xR, flatR, eqCells_ok, eqSh, eqBs, Nat.reduceLT, decide_true, Nat.reduceBEq, Nat.reduceAdd, IOp.dst, IOp.isF, IOp.args, coolOp, Nat.reduceSub, wid]; omega))⟩).trans (by simp [repair])
  rintro ⟨i, b, c⟩ st ⟨hle, hv, h1, h15, h16, h17, h4, ho4, h5, ho5, hor⟩ ih
  dsimp only at *
  by_cases hi : i < l.length
  · obtain ⟨x, hx⟩ : ∃ x, l[i]? = some x := ⟨_, List.getElem?_eq_getElem hi⟩
    have hw := w_succ (i := i) (by omega)
    have hd : l.drop i = x :: l.drop (i + 1) := by rw [List.drop_eq_getElem_cons hi, (List.getElem?_eq_some_iff.1 hx).2]
    have hct := contains_int nodes x (by omega)
    have hcl : c.members.length ≤ 1048576 := by have := configValid_len hv; omega
    have hwm := withoutMember_impl c.epoch c.members c.fresh x hcl
    have ec : (⟨c.epoch, c.members, c.fresh⟩ : Config) = c := rfl
    rw [ec] at hwm
    simp only [withoutRet, hv, if_true, cfgRet2_eq] at hwm
    rw [hd, List.foldl_cons]
    cases b
    · simp only [wid] at *
      simp only [↓xP, xQ, xR, flatR, eqCells_ok, eqSh, eqBs, Nat.reduceLT, decide_true, Nat.reduceBEq, Nat.reduceAdd, IOp.dst, IOp.isF, IOp.args, coolOp, Nat.reduceSub, h1, h15, h16, h17, h4, ho4, h5, ho5, hor, hi, hx, iU, hct]
      refine sel_split (fun hc => ?_) (fun hc => ?_)
      · have hs : repStep nodes c x = without c x := by simp only [decide_eq_true_eq] at hc; simp [repStep, hc]
        rw [hs]
        simp only [↓xP, xQ, xR, flatR, eqCells_ok, eqSh, eqBs, Nat.reduceLT, decide_true, Nat.reduceBEq, Nat.reduceAdd, IOp.dst, IOp.isF, IOp.args, coolOp, Nat.reduceSub, h1, h15, h16, h17, h4, ho4, h5, ho5, hor, map_all, hwm, hw]
        exact ih (i + 1, true, without c x) _ (by dsimp only; omega) ⟨by dsimp only; omega, without_valid hv x, (by and_intros <;> first | omega | rfl | (simp only [↓xP, xQ, xR, flatR, eqCells_ok, eqSh, eqBs, Nat.reduceLT, decide_true, Nat.reduceBEq, Nat.reduceAdd, IOp.dst, IOp.isF, IOp.args, coolOp, Nat.reduceSub, wid, h1, h15, h16, h17, h4, ho4, h5, ho5, hor]; done) | (simp only [↓xP, xQ, xR, flatR, eqCells_ok, eqSh, eqBs, Nat.reduceLT, decide_true, Nat.reduceBEq, Nat.reduceAdd, IOp.dst, IOp.isF, IOp.args, coolOp, Nat.reduceSub, wid, h1, h15, h16, h17, h4, ho4, h5, ho5, hor]; rfl) | (simp only [↓xP, xQ, xR, flatR, eqCells_ok, eqSh, eqBs, Nat.reduceLT, decide_true, Nat.reduceBEq, Nat.reduceAdd, IOp.dst, IOp.isF, IOp.args, coolOp, Nat.reduceSub, wid, h1, h15, h16, h17, h4, ho4, h5, ho5, hor]; omega))⟩
      · have hs : repStep nodes c x = c := by simp only [decide_eq_false_iff_not] at hc; simp [repStep, hc]
        rw [hs]
        simp only [↓xP, xQ, xR, flatR, eqCells_ok, eqSh, eqBs, Nat.reduceLT, decide_true, Nat.reduceBEq, Nat.reduceAdd, IOp.dst, IOp.isF, IOp.args, coolOp, Nat.reduceSub, h1, h15, h16, h17, h4, ho4, h5, ho5, hor, hw]
        exact ih (i + 1, false, c) _ (by dsimp only; omega) ⟨by dsimp only; omega, hv, (by and_intros <;> first | omega | rfl | (simp only [↓xP, xQ, xR, flatR, eqCells_ok, eqSh, eqBs, Nat.reduceLT, decide_true, Nat.reduceBEq, Nat.reduceAdd, IOp.dst, IOp.isF, IOp.args, coolOp, Nat.reduceSub, wid, h1, h15, h16, h17, h4, ho4, h5, ho5, hor]; done) | (simp only [↓xP, xQ, xR, flatR, eqCells_ok, eqSh, eqBs, Nat.reduceLT, decide_true, Nat.reduceBEq, Nat.reduceAdd, IOp.dst, IOp.isF, IOp.args, coolOp, Nat.reduceSub, wid, h1, h15, h16, h17, h4, ho4, h5, ho5, hor]; rfl) | (simp only [↓xP, xQ, xR, flatR, eqCells_ok, eqSh, eqBs, Nat.reduceLT, decide_true, Nat.reduceBEq, Nat.reduceAdd, IOp.dst, IOp.isF, IOp.args, coolOp, Nat.reduceSub, wid, h1, h15, h16, h17, h4, ho4, h5, ho5, hor]; omega))⟩
    · simp only [wid] at *
      simp only [↓xP, xQ, xR, flatR, eqCells_ok, eqSh, eqBs, Nat.reduceLT, decide_true, Nat.reduceBEq, Nat.reduceAdd, IOp.dst, IOp.isF, IOp.args, coolOp, Nat.reduceSub, h1, h15, h16, h17, h4, ho4, h5, ho5, hor, hi, hx, iU, hct]
      refine sel_split (fun hc => ?_) (fun hc => ?_)
      · have hs : repStep nodes c x = without c x := by simp only [decide_eq_true_eq] at hc; simp [repStep, hc]
        rw [hs]
        simp only [↓xP, xQ, xR, flatR, eqCells_ok, eqSh, eqBs, Nat.reduceLT, decide_true, Nat.reduceBEq, Nat.reduceAdd, IOp.dst, IOp.isF, IOp.args, coolOp, Nat.reduceSub, h1, h15, h16, h17, h4, ho4, h5, ho5, hor, map_all, hwm, hw]
        exact ih (i + 1, true, without c x) _ (by dsimp only; omega) ⟨by dsimp only; omega, without_valid hv x, (by and_intros <;> first | omega | rfl | (simp only [↓xP, xQ, xR, flatR, eqCells_ok, eqSh, eqBs, Nat.reduceLT, decide_true, Nat.reduceBEq, Nat.reduceAdd, IOp.dst, IOp.isF, IOp.args, coolOp, Nat.reduceSub, wid, h1, h15, h16, h17, h4, ho4, h5, ho5, hor]; done) | (simp only [↓xP, xQ, xR, flatR, eqCells_ok, eqSh, eqBs, Nat.reduceLT, decide_true, Nat.reduceBEq, Nat.reduceAdd, IOp.dst, IOp.isF, IOp.args, coolOp, Nat.reduceSub, wid, h1, h15, h16, h17, h4, ho4, h5, ho5, hor]; rfl) | (simp only [↓xP, xQ, xR, flatR, eqCells_ok, eqSh, eqBs, Nat.reduceLT, decide_true, Nat.reduceBEq, Nat.reduceAdd, IOp.dst, IOp.isF, IOp.args, coolOp, Nat.reduceSub, wid, h1, h15, h16, h17, h4, ho4, h5, ho5, hor]; omega))⟩
      · have hs : repStep nodes c x = c := by simp only [decide_eq_false_iff_not] at hc; simp [repStep, hc]
        rw [hs]
        simp only [↓xP, xQ, xR, flatR, eqCells_ok, eqSh, eqBs, Nat.reduceLT, decide_true, Nat.reduceBEq, Nat.reduceAdd, IOp.dst, IOp.isF, IOp.args, coolOp, Nat.reduceSub, h1, h15, h16, h17, h4, ho4, h5, ho5, hor, hw]
        exact ih (i + 1, true, c) _ (by dsimp only; omega) ⟨by dsimp only; omega, hv, (by and_intros <;> first | omega | rfl | (simp only [↓xP, xQ, xR, flatR, eqCells_ok, eqSh, eqBs, Nat.reduceLT, decide_true, Nat.reduceBEq, Nat.reduceAdd, IOp.dst, IOp.isF, IOp.args, coolOp, Nat.reduceSub, wid, h1, h15, h16, h17, h4, ho4, h5, ho5, hor]; done) | (simp only [↓xP, xQ, xR, flatR, eqCells_ok, eqSh, eqBs, Nat.reduceLT, decide_true, Nat.reduceBEq, Nat.reduceAdd, IOp.dst, IOp.isF, IOp.args, coolOp, Nat.reduceSub, wid, h1, h15, h16, h17, h4, ho4, h5, ho5, hor]; rfl) | (simp only [↓xP, xQ, xR, flatR, eqCells_ok, eqSh, eqBs, Nat.reduceLT, decide_true, Nat.reduceBEq, Nat.reduceAdd, IOp.dst, IOp.isF, IOp.args, coolOp, Nat.reduceSub, wid, h1, h15, h16, h17, h4, ho4, h5, ho5, hor]; omega))⟩
  · rw [List.drop_of_length_le (by omega)]
    cases b <;> simp only [wid] at * <;> simp only [↓xP, xQ, xR, flatR, eqCells_ok, eqSh, eqBs, Nat.reduceLT, decide_true, Nat.reduceBEq, Nat.reduceAdd, IOp.dst, IOp.isF, IOp.args, coolOp, Nat.reduceSub, h1, h15, h16, h17, h4, ho4, h5, ho5, hor, hi, List.foldl_nil, cfgRet, map_all]
theorem repairConfig_spec (e : Int) (l : List Int) (f : Bool) (nodes : List Int) (hn : l.length ≤ 1048576) (hm : nodes.length ≤ 1048576) : EE F 16 [.ag [.u (.int .i64 e), .u (.sl 1 (l.map iU)), .u (.bool f)], L 1 (nodes.map iU)] [] = if configValid ⟨e, l, f⟩ = true then cfgRet (repair ⟨e, l, f⟩ nodes) else cfg0 := by
  rw [R16, b16]
  simp only [↓xP, xQ, xR, flatR, eqCells_ok, eqSh, eqBs, Nat.reduceLT, decide_true, Nat.reduceBEq, Nat.reduceAdd, IOp.dst, IOp.isF, IOp.args, coolOp, Nat.reduceSub, configValid_spec e l f (by omega)]
  refine sel_split (fun h => ?_) (fun h => ?_)
  · simp only [Bool.not_eq_true'] at h
    simp [h, cfg0]
  simp only [Bool.not_eq_false'] at h
  have hcp := l16Copy_ok e l f hn
  simp only [cfgRet] at hcp
  simp only [↓xP, xQ, xR, flatR, eqCells_ok, eqSh, eqBs, Nat.reduceLT, decide_true, Nat.reduceBEq, Nat.reduceAdd, IOp.dst, IOp.isF, IOp.args, coolOp, Nat.reduceSub, hcp, h, if_true]
  refine (loop_ind (fun (a : Nat × Bool × Config) st => a.1 ≤ l.length ∧ configValid a.2.2 = true ∧ st.s 1 = DU (.sl 1 (nodes.map iU)) ∧ st.s 2 = .t (.sc (.ptr (.loc 2 0) 0 0)) ∧ st.o (.loc 2 0) = some (.box [.u (.int .i64 e), .u (.sl 1 (l.map iU)), .u (.bool f)]) ∧ st.s 6 = DI a.1 ∧ st.s 4 = .t (.sc (.ptr (.loc 4 0) 0 0)) ∧ st.o (.loc 4 0) = some (.box [.u (.int .i64 0), .u (.sl 1 []), .u (.bool false)]) ∧
    st.s 5 = .t (.sc (.ptr (.loc 5 0) 0 0)) ∧ st.o (.loc 5 0) = some (.box [.u (.int .i64 a.2.2.epoch), .own (wid (.loc 15 0) (.loc 46 0) a.2.1) a.2.2.members.length, .u (.bool a.2.2.fresh)]) ∧ st.o (wid (.loc 15 0) (.loc 46 0) a.2.1) = some (.row 1 (a.2.2.members.map iU)))
    (fun a => l.length - a.1) (fun a => cfgRet ((l.drop a.1).foldl (repStep nodes) a.2.2)) ?_ (0, false, ⟨e, l, f⟩) ⟨by simp, h, (by and_intros <;> first | omega | rfl | (simp only [↓xP, xQ, xR, flatR, eqCells_ok, eqSh, eqBs, Nat.reduceLT, decide_true, Nat.reduceBEq, Nat.reduceAdd, IOp.dst, IOp.isF, IOp.args, coolOp, Nat.reduceSub, wid]; done) | (simp only [↓xP, xQ, xR, flatR, eqCells_ok, eqSh, eqBs, Nat.reduceLT, decide_true, Nat.reduceBEq, Nat.reduceAdd, IOp.dst, IOp.isF, IOp.args, coolOp, Nat.reduceSub, wid]; rfl) | (simp only [↓xP, xQ, xR, flatR, eqCells_ok, eqSh, eqBs, Nat.reduceLT, decide_true, Nat.reduceBEq, Nat.reduceAdd, IOp.dst, IOp.isF, IOp.args, coolOp, Nat.reduceSub, wid]; omega))⟩).trans (by simp [repair])
  rintro ⟨i, b, c⟩ st ⟨hle, hv, h1, h2, ho2, h6, h4, ho4, h5, ho5, hor⟩ ih
  dsimp only at *
  by_cases hi : i < l.length
  · obtain ⟨x, hx⟩ : ∃ x, l[i]? = some x := ⟨_, List.getElem?_eq_getElem hi⟩
    have hw := w_succ (i := i) (by omega)
    have hd : l.drop i = x :: l.drop (i + 1) := by rw [List.drop_eq_getElem_cons hi, (List.getElem?_eq_some_iff.1 hx).2]
    rw [hd, List.foldl_cons]
    simp only [↓xP, xQ, xR, flatR, eqCells_ok, eqSh, eqBs, Nat.reduceLT, decide_true, Nat.reduceBEq, Nat.reduceAdd, IOp.dst, IOp.isF, IOp.args, coolOp, Nat.reduceSub, h2, ho2, h6, hi]
    refine (loop_ind (fun (a : Nat × Bool × Config) st => a.1 ≤ nodes.length ∧ configValid a.2.2 = true ∧ st.s 1 = DU (.sl 1 (nodes.map iU)) ∧ st.s 2 = .t (.sc (.ptr (.loc 2 0) 0 0)) ∧ st.o (.loc 2 0) = some (.box [.u (.int .i64 e), .u (.sl 1 (l.map iU)), .u (.bool f)]) ∧ st.s 6 = DI i ∧ st.s 7 = DI a.1 ∧ st.s 4 = .t (.sc (.ptr (.loc 4 0) 0 0)) ∧ st.o (.loc 4 0) = some (.box [.u (.int .i64 0), .u (.sl 1 []), .u (.bool false)]) ∧
      st.s 5 = .t (.sc (.ptr (.loc 5 0) 0 0)) ∧ st.o (.loc 5 0) = some (.box [.u (.int .i64 a.2.2.epoch), .own (wid (.loc 15 0) (.loc 46 0) a.2.1) a.2.2.members.length, .u (.bool a.2.2.fresh)]) ∧ st.o (wid (.loc 15 0) (.loc 46 0) a.2.1) = some (.row 1 (a.2.2.members.map iU)))
      (fun a => nodes.length - a.1) (fun a => cfgRet ((l.drop (i + 1)).foldl (repStep nodes) (repStep (nodes.drop a.1) a.2.2 x))) ?_ (0, b, c) ⟨by simp, hv, by cases b <;> simp only [wid] at * <;> exact (by and_intros <;> first | omega | rfl | (simp only [↓xP, xQ, xR, flatR, eqCells_ok, eqSh, eqBs, Nat.reduceLT, decide_true, Nat.reduceBEq, Nat.reduceAdd, IOp.dst, IOp.isF, IOp.args, coolOp, Nat.reduceSub, h1, h2, ho2, h6, h4, ho4, h5, ho5, hor]; done) | (simp only [↓xP, xQ, xR, flatR, eqCells_ok, eqSh, eqBs, Nat.reduceLT, decide_true, Nat.reduceBEq, Nat.reduceAdd, IOp.dst, IOp.isF, IOp.args, coolOp, Nat.reduceSub, h1, h2, ho2, h6, h4, ho4, h5, ho5, hor]; rfl) | (simp only [↓xP, xQ, xR, flatR, eqCells_ok, eqSh, eqBs, Nat.reduceLT, decide_true, Nat.reduceBEq, Nat.reduceAdd, IOp.dst, IOp.isF, IOp.args, coolOp, Nat.reduceSub, h1, h2, ho2, h6, h4, ho4, h5, ho5, hor]; omega))⟩).trans (by simp)
    rintro ⟨j, b, c⟩ st ⟨hlj, hv, h1, h2, ho2, h6, h7, h4, ho4, h5, ho5, hor⟩ ihj
    dsimp only at *
    by_cases hj : j < nodes.length
    · obtain ⟨y, hy⟩ : ∃ y, nodes[j]? = some y := ⟨_, List.getElem?_eq_getElem hj⟩
      have hwj := w_succ (i := j) (by omega)
      have hdj : nodes.drop j = y :: nodes.drop (j + 1) := by rw [List.drop_eq_getElem_cons hj, (List.getElem?_eq_some_iff.1 hy).2]
      have hcl : c.members.length ≤ 1048576 := by have := configValid_len hv; omega
      have hwm := withoutMember_spec c.epoch c.members c.fresh x hcl
      have ec : (⟨c.epoch, c.members, c.fresh⟩ : Config) = c := rfl
      rw [ec] at hwm
      simp only [withoutRet, hv, if_true, cfgRet2_eq] at hwm
      cases b
      · simp only [wid] at *
        simp only [↓xP, xQ, xR, flatR, eqCells_ok, eqSh, eqBs, Nat.reduceLT, decide_true, Nat.reduceBEq, Nat.reduceAdd, IOp.dst, IOp.isF, IOp.args, coolOp, Nat.reduceSub, h1, h2, ho2, h6, h7, h4, ho4, h5, ho5, hor, hj, hy, hx, iU]
        refine sel_split (fun hc => ?_) (fun hc => ?_)
        · have hs : repStep (nodes.drop j) c x = repStep (nodes.drop (j + 1)) (without c x) x := by
            simp only [decide_eq_true_eq] at hc
            subst hc
            simp only [repStep, hdj, List.mem_cons, true_or, if_true]
            split
            · rw [without_twice hv]
            · rfl
          rw [hs]
          simp only [↓xP, xQ, xR, flatR, eqCells_ok, eqSh, eqBs, Nat.reduceLT, decide_true, Nat.reduceBEq, Nat.reduceAdd, IOp.dst, IOp.isF, IOp.args, coolOp, Nat.reduceSub, h1, h2, ho2, h6, h7, h4, ho4, h5, ho5, hor, hx, iU, map_all, hwm, hwj]
          exact ihj (j + 1, true, without c x) _ (by dsimp only; omega) ⟨by dsimp only; omega, without_valid hv x, (by and_intros <;> first | omega | rfl | (simp only [↓xP, xQ, xR, flatR, eqCells_ok, eqSh, eqBs, Nat.reduceLT, decide_true, Nat.reduceBEq, Nat.reduceAdd, IOp.dst, IOp.isF, IOp.args, coolOp, Nat.reduceSub, wid, h1, h2, ho2, h6, h7, h4, ho4, h5, ho5, hor]; done) | (simp only [↓xP, xQ, xR, flatR, eqCells_ok, eqSh, eqBs, Nat.reduceLT, decide_true, Nat.reduceBEq, Nat.reduceAdd, IOp.dst, IOp.isF, IOp.args, coolOp, Nat.reduceSub, wid, h1, h2, ho2, h6, h7, h4, ho4, h5, ho5, hor]; rfl) | (simp only [↓xP, xQ, xR, flatR, eqCells_ok, eqSh, eqBs, Nat.reduceLT, decide_true, Nat.reduceBEq, Nat.reduceAdd, IOp.dst, IOp.isF, IOp.args, coolOp, Nat.reduceSub, wid, h1, h2, ho2, h6, h7, h4, ho4, h5, ho5, hor]; omega))⟩
        · have hs : repStep (nodes.drop j) c x = repStep (nodes.drop (j + 1)) c x := by
            simp only [decide_eq_false_iff_not] at hc
            have hc' : ¬ x = y := fun e => hc e.symm
            simp only [repStep, hdj, List.mem_cons, hc', false_or]
          rw [hs]
          simp only [↓xP, xQ, xR, flatR, eqCells_ok, eqSh, eqBs, Nat.reduceLT, decide_true, Nat.reduceBEq, Nat.reduceAdd, IOp.dst, IOp.isF, IOp.args, coolOp, Nat.reduceSub, h1, h2, ho2, h6, h7, h4, ho4, h5, ho5, hor, hwj]
          exact ihj (j + 1, false, c) _ (by dsimp only; omega) ⟨by dsimp only; omega, hv, (by and_intros <;> first | omega | rfl | (simp only [↓xP, xQ, xR, flatR, eqCells_ok, eqSh, eqBs, Nat.reduceLT, decide_true, Nat.reduceBEq, Nat.reduceAdd, IOp.dst, IOp.isF, IOp.args, coolOp, Nat.reduceSub, wid, h1, h2, ho2, h6, h7, h4, ho4, h5, ho5, hor]; done) | (simp only [↓xP, xQ, xR, flatR, eqCells_ok, eqSh, eqBs, Nat.reduceLT, decide_true, Nat.reduceBEq, Nat.reduceAdd, IOp.dst, IOp.isF, IOp.args, coolOp, Nat.reduceSub, wid, h1, h2, ho2, h6, h7, h4, ho4, h5, ho5, hor]; rfl) | (simp only [↓xP, xQ, xR, flatR, eqCells_ok, eqSh, eqBs, Nat.reduceLT, decide_true, Nat.reduceBEq, Nat.reduceAdd, IOp.dst, IOp.isF, IOp.args, coolOp, Nat.reduceSub, wid, h1, h2, ho2, h6, h7, h4, ho4, h5, ho5, hor]; omega))⟩
      · simp only [wid] at *
        simp only [↓xP, xQ, xR, flatR, eqCells_ok, eqSh, eqBs, Nat.reduceLT, decide_true, Nat.reduceBEq, Nat.reduceAdd, IOp.dst, IOp.isF, IOp.args, coolOp, Nat.reduceSub, h1, h2, ho2, h6, h7, h4, ho4, h5, ho5, hor, hj, hy, hx, iU]
        refine sel_split (fun hc => ?_) (fun hc => ?_)
        · have hs : repStep (nodes.drop j) c x = repStep (nodes.drop (j + 1)) (without c x) x := by
            simp only [decide_eq_true_eq] at hc
            subst hc
            simp only [repStep, hdj, List.mem_cons, true_or, if_true]
            split
            · rw [without_twice hv]
            · rfl
          rw [hs]
          simp only [↓xP, xQ, xR, flatR, eqCells_ok, eqSh, eqBs, Nat.reduceLT, decide_true, Nat.reduceBEq, Nat.reduceAdd, IOp.dst, IOp.isF, IOp.args, coolOp, Nat.reduceSub, h1, h2, ho2, h6, h7, h4, ho4, h5, ho5, hor, hx, iU, map_all, hwm, hwj]
          exact ihj (j + 1, true, without c x) _ (by dsimp only; omega) ⟨by dsimp only; omega, without_valid hv x, (by and_intros <;> first | omega | rfl | (simp only [↓xP, xQ, xR, flatR, eqCells_ok, eqSh, eqBs, Nat.reduceLT, decide_true, Nat.reduceBEq, Nat.reduceAdd, IOp.dst, IOp.isF, IOp.args, coolOp, Nat.reduceSub, wid, h1, h2, ho2, h6, h7, h4, ho4, h5, ho5, hor]; done) | (simp only [↓xP, xQ, xR, flatR, eqCells_ok, eqSh, eqBs, Nat.reduceLT, decide_true, Nat.reduceBEq, Nat.reduceAdd, IOp.dst, IOp.isF, IOp.args, coolOp, Nat.reduceSub, wid, h1, h2, ho2, h6, h7, h4, ho4, h5, ho5, hor]; rfl) | (simp only [↓xP, xQ, xR, flatR, eqCells_ok, eqSh, eqBs, Nat.reduceLT, decide_true, Nat.reduceBEq, Nat.reduceAdd, IOp.dst, IOp.isF, IOp.args, coolOp, Nat.reduceSub, wid, h1, h2, ho2, h6, h7, h4, ho4, h5, ho5, hor]; omega))⟩
        · have hs : repStep (nodes.drop j) c x = repStep (nodes.drop (j + 1)) c x := by
            simp only [decide_eq_false_iff_not] at hc
            have hc' : ¬ x = y := fun e => hc e.symm
            simp only [repStep, hdj, List.mem_cons, hc', false_or]
          rw [hs]
          simp only [↓xP, xQ, xR, flatR, eqCells_ok, eqSh, eqBs, Nat.reduceLT, decide_true, Nat.reduceBEq, Nat.reduceAdd, IOp.dst, IOp.isF, IOp.args, coolOp, Nat.reduceSub, h1, h2, ho2, h6, h7, h4, ho4, h5, ho5, hor, hwj]
          exact ihj (j + 1, true, c) _ (by dsimp only; omega) ⟨by dsimp only; omega, hv, (by and_intros <;> first | omega | rfl | (simp only [↓xP, xQ, xR, flatR, eqCells_ok, eqSh, eqBs, Nat.reduceLT, decide_true, Nat.reduceBEq, Nat.reduceAdd, IOp.dst, IOp.isF, IOp.args, coolOp, Nat.reduceSub, wid, h1, h2, ho2, h6, h7, h4, ho4, h5, ho5, hor]; done) | (simp only [↓xP, xQ, xR, flatR, eqCells_ok, eqSh, eqBs, Nat.reduceLT, decide_true, Nat.reduceBEq, Nat.reduceAdd, IOp.dst, IOp.isF, IOp.args, coolOp, Nat.reduceSub, wid, h1, h2, ho2, h6, h7, h4, ho4, h5, ho5, hor]; rfl) | (simp only [↓xP, xQ, xR, flatR, eqCells_ok, eqSh, eqBs, Nat.reduceLT, decide_true, Nat.reduceBEq, Nat.reduceAdd, IOp.dst, IOp.isF, IOp.args, coolOp, Nat.reduceSub, wid, h1, h2, ho2, h6, h7, h4, ho4, h5, ho5, hor]; omega))⟩
    · have hs : repStep (nodes.drop j) c x = c := by rw [List.drop_of_length_le (by omega)]; simp [repStep]
      rw [hs]
      cases b
      · simp only [wid] at *
        simp only [↓xP, xQ, xR, flatR, eqCells_ok, eqSh, eqBs, Nat.reduceLT, decide_true, Nat.reduceBEq, Nat.reduceAdd, IOp.dst, IOp.isF, IOp.args, coolOp, Nat.reduceSub, h1, h2, ho2, h6, h7, h4, ho4, h5, ho5, hor, hj, hw]
        exact ih (i + 1, false, c) _ (by dsimp only; omega) ⟨by dsimp only; omega, hv, (by and_intros <;> first | omega | rfl | (simp only [↓xP, xQ, xR, flatR, eqCells_ok, eqSh, eqBs, Nat.reduceLT, decide_true, Nat.reduceBEq, Nat.reduceAdd, IOp.dst, IOp.isF, IOp.args, coolOp, Nat.reduceSub, wid, h1, h2, ho2, h6, h7, h4, ho4, h5, ho5, hor]; done) | (simp only [↓xP, xQ, xR, flatR, eqCells_ok, eqSh, eqBs, Nat.reduceLT, decide_true, Nat.reduceBEq, Nat.reduceAdd, IOp.dst, IOp.isF, IOp.args, coolOp, Nat.reduceSub, wid, h1, h2, ho2, h6, h7, h4, ho4, h5, ho5, hor]; rfl) | (simp only [↓xP, xQ, xR, flatR, eqCells_ok, eqSh, eqBs, Nat.reduceLT, decide_true, Nat.reduceBEq, Nat.reduceAdd, IOp.dst, IOp.isF, IOp.args, coolOp, Nat.reduceSub, wid, h1, h2, ho2, h6, h7, h4, ho4, h5, ho5, hor]; omega))⟩
      · simp only [wid] at *
        simp only [↓xP, xQ, xR, flatR, eqCells_ok, eqSh, eqBs, Nat.reduceLT, decide_true, Nat.reduceBEq, Nat.reduceAdd, IOp.dst, IOp.isF, IOp.args, coolOp, Nat.reduceSub, h1, h2, ho2, h6, h7, h4, ho4, h5, ho5, hor, hj, hw]
        exact ih (i + 1, true, c) _ (by dsimp only; omega) ⟨by dsimp only; omega, hv, (by and_intros <;> first | omega | rfl | (simp only [↓xP, xQ, xR, flatR, eqCells_ok, eqSh, eqBs, Nat.reduceLT, decide_true, Nat.reduceBEq, Nat.reduceAdd, IOp.dst, IOp.isF, IOp.args, coolOp, Nat.reduceSub, wid, h1, h2, ho2, h6, h7, h4, ho4, h5, ho5, hor]; done) | (simp only [↓xP, xQ, xR, flatR, eqCells_ok, eqSh, eqBs, Nat.reduceLT, decide_true, Nat.reduceBEq, Nat.reduceAdd, IOp.dst, IOp.isF, IOp.args, coolOp, Nat.reduceSub, wid, h1, h2, ho2, h6, h7, h4, ho4, h5, ho5, hor]; rfl) | (simp only [↓xP, xQ, xR, flatR, eqCells_ok, eqSh, eqBs, Nat.reduceLT, decide_true, Nat.reduceBEq, Nat.reduceAdd, IOp.dst, IOp.isF, IOp.args, coolOp, Nat.reduceSub, wid, h1, h2, ho2, h6, h7, h4, ho4, h5, ho5, hor]; omega))⟩
  · rw [List.drop_of_length_le (by omega)]
    cases b <;> simp only [wid] at * <;> simp only [↓xP, xQ, xR, flatR, eqCells_ok, eqSh, eqBs, Nat.reduceLT, decide_true, Nat.reduceBEq, Nat.reduceAdd, IOp.dst, IOp.isF, IOp.args, coolOp, Nat.reduceSub, h1, h2, ho2, h6, h4, ho4, h5, ho5, hor, hi, List.foldl_nil, cfgRet, map_all]
def yU (n : Int) : List U := [.int .u8 n]
/-- A reader: its bytes, and how many numbers it drew. -/
def rd (bs : List Int) (p : Nat) : Obj := .box [.u (.sl 1 (bs.map yU)), .u (.int .i64 p)]
abbrev RP0 : T := .sc (.ptr (.par 0) 0 0)
def Bytes (bs : List Int) : Prop := bs.length ≤ 2000 ∧ ∀ b, b ∈ bs → 0 ≤ b ∧ b ≤ 255
theorem xor_nonneg {a b : Int} (ha : 0 ≤ a) (ha' : a < 4611686018427387904) (hb : 0 ≤ b) (hb' : b < 4611686018427387904) : 0 ≤ Go.bits .xor .i64 a b := by
  obtain ⟨m, rfl⟩ := Int.eq_ofNat_of_zero_le ha
  obtain ⟨n, rfl⟩ := Int.eq_ofNat_of_zero_le hb
  have h62 : (4611686018427387904 : Nat) = 2 ^ 62 := by decide
  have e1 : (BitVec.ofInt IntKind.i64.bits (m : Int)).toNat = m := by
    rw [BitVec.toNat_ofInt]
    show (((m : Int) % ((2 ^ 64 : Nat) : Int)).toNat) = m
    omega
  have e2 : (BitVec.ofInt IntKind.i64.bits (n : Int)).toNat = n := by
    rw [BitVec.toNat_ofInt]
    show (((n : Int) % ((2 ^ 64 : Nat) : Int)).toNat) = n
    omega
  have hx : m ^^^ n < 2 ^ 62 := Nat.xor_lt_two_pow (by omega) (by omega)
  have key : Go.bits .xor .i64 (m : Int) (n : Int) = IntKind.i64.wrap (((m ^^^ n : Nat)) : Int) := by
    show IntKind.i64.wrap (((BitVec.ofInt IntKind.i64.bits (m : Int) ^^^ BitVec.ofInt IntKind.i64.bits (n : Int)).toNat : Nat) : Int) = _
    rw [BitVec.toNat_xor, e1, e2]
  rw [key, IntKind.wrap_i64]
  omega
theorem pick_ok {bs : List Int} (hb : Bytes bs) (p : Nat) (n : Int) (hp : p ≤ 1099511627776) : ∃ v, EE F 92 [RP0, I n] [rd bs p] = some ⟨[I v], [], [rd bs (p + 1)]⟩ ∧ 0 ≤ v ∧ (1 ≤ n → v < n) := by
  have e1 := w_succ (i := p) (by omega)
  have e2 : IntKind.i64.wrap (((p + 1 : Nat) : Int) - 1) = (p : Int) := by rw [w64 (by omega) (by omega)]; omega
  by_cases hn : n < 1
  · refine ⟨0, (EE_run (fn := i92) (by kernel_rfl) rfl).trans ?_, by omega, fun h => by omega⟩
    simp only [i92, b92, argSt, insSt, List.length_cons, List.length_nil]
    simp only [↓xP, xQ, xR, flatR, eqCells_ok, eqSh, eqBs, Nat.reduceLT, decide_true, Nat.reduceBEq, Nat.reduceAdd, IOp.dst, IOp.isF, IOp.args, coolOp, Nat.reduceSub, rd, e1, hn]
  have hn0 : ¬ n = 0 := by omega
  by_cases hl : bs.length = 0
  · have hl' : ((bs.length : Nat) : Int) = 0 := by omega
    refine ⟨0, (EE_run (fn := i92) (by kernel_rfl) rfl).trans ?_, by omega, fun h => by omega⟩
    simp only [i92, b92, argSt, insSt, List.length_cons, List.length_nil]
    simp only [↓xP, xQ, xR, flatR, eqCells_ok, eqSh, eqBs, Nat.reduceLT, decide_true, Nat.reduceBEq, Nat.reduceAdd, IOp.dst, IOp.isF, IOp.args, coolOp, Nat.reduceSub, rd, e1, hn, List.length_map, hl']
  have hl' : ¬ ((bs.length : Nat) : Int) = 0 := by omega
  by_cases hlt : p < bs.length
  · obtain ⟨b, hx⟩ : ∃ b, bs[p]? = some b := ⟨_, List.getElem?_eq_getElem hlt⟩
    have hb2 := hb.2 b (List.mem_of_getElem? hx)
    have hlt' : (p : Int) < ((bs.length : Nat) : Int) := by omega
    have hwb : IntKind.i64.wrap b = b := by rw [w64 (by omega) (by omega)]
    refine ⟨b.tmod n, (EE_run (fn := i92) (by kernel_rfl) rfl).trans ?_, Int.tmod_nonneg _ hb2.1, fun h => Int.tmod_lt_of_pos _ (by omega)⟩
    simp only [i92, b92, argSt, insSt, List.length_cons, List.length_nil]
    simp only [↓xP, xQ, xR, flatR, eqCells_ok, eqSh, eqBs, Nat.reduceLT, decide_true, Nat.reduceBEq, Nat.reduceAdd, IOp.dst, IOp.isF, IOp.args, coolOp, Nat.reduceSub, rd, e1, e2, hn, hn0, List.length_map, hl', hlt, hx, yU, hwb]
    done
  · have hlt' : ¬ (p : Int) < ((bs.length : Nat) : Int) := by omega
    have t1 : (p : Int).tmod ((bs.length : Nat) : Int) = ((p % bs.length : Nat) : Int) := rfl
    have t2 : (((p * 7 + 3 : Nat)) : Int).tmod ((bs.length : Nat) : Int) = (((p * 7 + 3) % bs.length : Nat) : Int) := rfl
    have t3 : (p : Int).tdiv ((bs.length : Nat) : Int) = ((p / bs.length : Nat) : Int) := rfl
    have w1 : IntKind.i64.wrap ((p : Int) * 7) = (p : Int) * 7 := by rw [w64 (by omega) (by omega)]
    have w2 : IntKind.i64.wrap ((p : Int) * 7 + 3) = ((p * 7 + 3 : Nat) : Int) := by rw [w64 (by omega) (by omega)]; omega
    obtain ⟨a, ha⟩ : ∃ a, bs[p % bs.length]? = some a := ⟨_, List.getElem?_eq_getElem (Nat.mod_lt _ (by omega))⟩
    obtain ⟨b, hx⟩ : ∃ b, bs[(p * 7 + 3) % bs.length]? = some b := ⟨_, List.getElem?_eq_getElem (Nat.mod_lt _ (by omega))⟩
    have ha2 := hb.2 a (List.mem_of_getElem? ha)
    have hb2 := hb.2 b (List.mem_of_getElem? hx)
    have hwa : IntKind.i64.wrap a = a := by rw [w64 (by omega) (by omega)]
    have hwb : IntKind.i64.wrap b = b := by rw [w64 (by omega) (by omega)]
    have hq : p / bs.length ≤ p := Nat.div_le_self ..
    generalize p / bs.length = q at t3 hq
    have hwq : IntKind.i64.wrap (q : Int) = (q : Int) := by rw [w64 (by omega) (by omega)]
    have v1 : IntKind.i64.wrap (a * 131) = a * 131 := by rw [w64 (by omega) (by omega)]
    have v2 : IntKind.i64.wrap (b * 1117) = b * 1117 := by rw [w64 (by omega) (by omega)]
    have v3 : IntKind.i64.wrap (a * 131 + b * 1117) = a * 131 + b * 1117 := by rw [w64 (by omega) (by omega)]
    have v4 : IntKind.i64.wrap ((p : Int) * 29) = (p : Int) * 29 := by rw [w64 (by omega) (by omega)]
    have v5 : IntKind.i64.wrap (a * 131 + b * 1117 + (p : Int) * 29) = a * 131 + b * 1117 + (p : Int) * 29 := by rw [w64 (by omega) (by omega)]
    have v6 : IntKind.i64.wrap ((q : Int) * 53) = (q : Int) * 53 := by rw [w64 (by omega) (by omega)]
    obtain ⟨A, hA⟩ : ∃ A, A = a * 131 + b * 1117 + (p : Int) * 29 + (q : Int) * 53 := ⟨_, rfl⟩
    have v7 : IntKind.i64.wrap (a * 131 + b * 1117 + (p : Int) * 29 + (q : Int) * 53) = A := by rw [w64 (by omega) (by omega), hA]
    have hA0 : 0 ≤ A := by omega
    have hA1 : A < 4611686018427387904 := by omega
    have hB : 0 ≤ A.tdiv 64 := Int.tdiv_nonneg hA0 (by omega)
    have hB' : A.tdiv 64 ≤ A := Int.tdiv_le_self _ hA0
    have v8 : IntKind.i64.wrap (A.tdiv 64) = A.tdiv 64 := by rw [w64 (by omega) (by omega)]
    have h64 : ¬ (64 : Int) = 0 := by omega
    refine ⟨(Go.bits .xor .i64 A (A.tdiv 64)).tmod n, (EE_run (fn := i92) (by kernel_rfl) rfl).trans ?_, Int.tmod_nonneg _ (xor_nonneg hA0 hA1 hB (by omega)), fun h => Int.tmod_lt_of_pos _ (by omega)⟩
    simp only [i92, b92, argSt, insSt, List.length_cons, List.length_nil]
    simp only [↓xP, xQ, xR, flatR, eqCells_ok, eqSh, eqBs, Nat.reduceLT, decide_true, Nat.reduceBEq, Nat.reduceAdd, IOp.dst, IOp.isF, IOp.args, coolOp, Nat.reduceSub, rd, e1, e2, hn, hn0, List.length_map, hl', hlt, t1, t2, t3, w1, w2, ha, hx, yU, hwa, hwb, hwq, v1, v2, v3, v4, v5, v6, v7, v8, h64]
    done
/-- A drawn number, as a function of the reader's state. -/
theorem pick_nat {bs : List Int} (hb : Bytes bs) (p n : Nat) (hp : p ≤ 1099511627776) (hn : 1 ≤ n) : ∃ v : Nat, EE F 92 [RP0, I (n : Int)] [rd bs p] = some ⟨[I (v : Int)], [], [rd bs (p + 1)]⟩ ∧ v < n := by
  obtain ⟨v, h1, h2, h3⟩ := pick_ok hb p n hp
  have := h3 (by omega)
  obtain ⟨k, rfl⟩ := Int.eq_ofNat_of_zero_le h2
  exact ⟨k, h1, by omega⟩
theorem odd_ok {bs : List Int} (hb : Bytes bs) (p : Nat) (n : Int) (hp : p ≤ 1099511627776) (hn : n ≤ 1048576) : ∃ b q, EE F 166 [RP0, I n] [rd bs p] = some ⟨[B b], [], [rd bs q]⟩ ∧ p ≤ q ∧ q ≤ p + 1 ∧ (n ≤ 0 → b = false) := by
  by_cases hn0 : 0 < n
  · obtain ⟨v, h1, h2, h3⟩ := pick_ok hb p n hp
    have hw : IntKind.i64.wrap (n - 1) = n - 1 := by rw [w64 (by omega) (by omega)]
    refine ⟨decide (v = n - 1), p + 1, (EE_run (fn := i166) (by kernel_rfl) rfl).trans ?_, by omega, by omega, fun h => by omega⟩
    simp only [i166, b166, argSt, insSt, List.length_cons, List.length_nil]
    have h1' := h1
    simp only [rd] at h1'
    simp only [↓xP, xQ, xR, flatR, eqCells_ok, eqSh, eqBs, Nat.reduceLT, decide_true, Nat.reduceBEq, Nat.reduceAdd, IOp.dst, IOp.isF, IOp.args, coolOp, Nat.reduceSub, rd, hn0, h1', hw, gt_iff_lt]
    done
  · refine ⟨false, p, (EE_run (fn := i166) (by kernel_rfl) rfl).trans ?_, by omega, by omega, fun h => rfl⟩
    simp only [i166, b166, argSt, insSt, List.length_cons, List.length_nil]
    simp only [↓xP, xQ, xR, flatR, eqCells_ok, eqSh, eqBs, Nat.reduceLT, decide_true, Nat.reduceBEq, Nat.reduceAdd, IOp.dst, IOp.isF, IOp.args, coolOp, Nat.reduceSub, rd, hn0, gt_iff_lt]
    done
theorem open_ok (code : List Int) (hc : code.length ≤ 9223372036854775807 ∧ ∀ b, b ∈ code → 0 ≤ b ∧ b ≤ 255) : ∃ bs, EE F 88 [L 1 (code.map yU)] [] = some ⟨[RP0], [rd bs 0], []⟩ ∧ Bytes bs := by
  by_cases h : 2000 < code.length
  · have h' : (2000 : Int) < ((code.length : Nat) : Int) := by omega
    have hct := cut_to (n := code.length) (i := 2000) (by omega)
    refine ⟨code.take 2000, ?_, by simp; omega, fun b hb => hc.2 b (List.mem_of_mem_take hb)⟩
    rw [R88, b88]
    have hct' : vcut code.length none (some (DI 2000)) = some (0, 2000) := hct
    simp only [↓xP, xQ, xR, flatR, eqCells_ok, eqSh, eqBs, Nat.reduceLT, decide_true, Nat.reduceBEq, Nat.reduceAdd, IOp.dst, IOp.isF, IOp.args, coolOp, Nat.reduceSub, List.length_map, h', hct', gt_iff_lt, List.drop_zero, ← List.map_take, rd]
    rfl
  · have h' : ¬ (2000 : Int) < ((code.length : Nat) : Int) := by omega
    refine ⟨code, ?_, by omega, hc.2⟩
    rw [R88, b88]
    simp only [↓xP, xQ, xR, flatR, eqCells_ok, eqSh, eqBs, Nat.reduceLT, decide_true, Nat.reduceBEq, Nat.reduceAdd, IOp.dst, IOp.isF, IOp.args, coolOp, Nat.reduceSub, List.length_map, h', gt_iff_lt, rd]
    rfl
/-- What some rounds tell. -/
theorem EE_at {f : Nat} {a : List T} {i : List Obj} {r : Ret} (k : Nat) (h : callOf F (evalC F k) f a i = some r) : EE F f a i = some r := (EE_lim F f a i).eq.symm.trans (lim_of (EE_lim F f a i).mono (k := k) h)
theorem alive_ok : EE F 28 [] [] = ok1 (B true) := EE_at 120 (by kernel_rfl)
theorem hasInt_ok (l : List Int) (x : Int) (hn : l.length ≤ 4611686018427387904) : EE F 29 [L 1 (l.map iU), I x] [] = ok1 (B (decide (x ∈ l))) := by
  rw [R29, b29]
  simp only [↓xP, xQ, xR, flatR, eqCells_ok, eqSh, eqBs, Nat.reduceLT, decide_true, Nat.reduceBEq, Nat.reduceAdd, IOp.dst, IOp.isF, IOp.args, coolOp, Nat.reduceSub]
  refine (loop_ind (fun (i : Nat) st => i ≤ l.length ∧ st.s 0 = DU (.sl 1 (l.map iU)) ∧ st.s 1 = DI x ∧ st.s 5 = DI i) (fun i => l.length - i) (fun i => ok1 (B (decide (x ∈ l.drop i)))) ?_ 0 (by and_intros <;> first | omega | rfl | (simp only [↓xP, xQ, xR, flatR, eqCells_ok, eqSh, eqBs, Nat.reduceLT, decide_true, Nat.reduceBEq, Nat.reduceAdd, IOp.dst, IOp.isF, IOp.args, coolOp, Nat.reduceSub]; done) | (simp only [↓xP, xQ, xR, flatR, eqCells_ok, eqSh, eqBs, Nat.reduceLT, decide_true, Nat.reduceBEq, Nat.reduceAdd, IOp.dst, IOp.isF, IOp.args, coolOp, Nat.reduceSub]; rfl) | (simp only [↓xP, xQ, xR, flatR, eqCells_ok, eqSh, eqBs, Nat.reduceLT, decide_true, Nat.reduceBEq, Nat.reduceAdd, IOp.dst, IOp.isF, IOp.args, coolOp, Nat.reduceSub]; omega))).trans (by simp)
  rintro i st ⟨hle, h0, h1, h5⟩ ih
  by_cases hi : i < l.length
  · obtain ⟨y, hy⟩ : ∃ y, l[i]? = some y := ⟨_, List.getElem?_eq_getElem hi⟩
    have hw := w_succ (i := i) (by omega)
    have hd : l.drop i = y :: l.drop (i + 1) := by rw [List.drop_eq_getElem_cons hi, (List.getElem?_eq_some_iff.1 hy).2]
    simp only [↓xP, xQ, xR, flatR, eqCells_ok, eqSh, eqBs, Nat.reduceLT, decide_true, Nat.reduceBEq, Nat.reduceAdd, IOp.dst, IOp.isF, IOp.args, coolOp, Nat.reduceSub, h0, h1, h5, hi, hy, hw, iU]
    rw [hd]
    refine sel_split (fun h => ?_) (fun h => ?_)
    · simp only [decide_eq_true_eq] at h
      simp [h]
    · simp only [decide_eq_false_iff_not] at h
      have h' : ¬ x = y := fun e => h e.symm
      rw [ih (i + 1) _ (by omega) (by and_intros <;> first | omega | rfl | (simp only [↓xP, xQ, xR, flatR, eqCells_ok, eqSh, eqBs, Nat.reduceLT, decide_true, Nat.reduceBEq, Nat.reduceAdd, IOp.dst, IOp.isF, IOp.args, coolOp, Nat.reduceSub, h0, h1]; done) | (simp only [↓xP, xQ, xR, flatR, eqCells_ok, eqSh, eqBs, Nat.reduceLT, decide_true, Nat.reduceBEq, Nat.reduceAdd, IOp.dst, IOp.isF, IOp.args, coolOp, Nat.reduceSub, h0, h1]; rfl) | (simp only [↓xP, xQ, xR, flatR, eqCells_ok, eqSh, eqBs, Nat.reduceLT, decide_true, Nat.reduceBEq, Nat.reduceAdd, IOp.dst, IOp.isF, IOp.args, coolOp, Nat.reduceSub, h0, h1]; omega))]
      simp [h']
  · simp only [↓xP, xQ, xR, flatR, eqCells_ok, eqSh, eqBs, Nat.reduceLT, decide_true, Nat.reduceBEq, Nat.reduceAdd, IOp.dst, IOp.isF, IOp.args, coolOp, Nat.reduceSub, h0, h1, h5, hi]
    rw [List.drop_of_length_le (by omega)]
    simp
theorem sameInts_ok (l m : List Int) (hn : l.length ≤ 4611686018427387904) : EE F 35 [L 1 (l.map iU), L 1 (m.map iU)] [] = ok1 (B (decide (l = m))) := by
  rw [R35, b35]
  simp only [↓xP, xQ, xR, flatR, eqCells_ok, eqSh, eqBs, Nat.reduceLT, decide_true, Nat.reduceBEq, Nat.reduceAdd, IOp.dst, IOp.isF, IOp.args, coolOp, Nat.reduceSub]
  refine sel_split (fun h => ?_) (fun h => ?_)
  · have : l ≠ m := by rintro rfl; simp at h
    simp [this]
  have hlen : l.length = m.length := by simp at h; omega
  refine (loop_ind (fun (i : Nat) st => i ≤ l.length ∧ st.s 0 = DU (.sl 1 (l.map iU)) ∧ st.s 1 = DU (.sl 1 (m.map iU)) ∧ st.s 5 = DI i) (fun i => l.length - i) (fun i => ok1 (B (decide (l.drop i = m.drop i)))) ?_ 0 (by and_intros <;> first | omega | rfl | (simp only [↓xP, xQ, xR, flatR, eqCells_ok, eqSh, eqBs, Nat.reduceLT, decide_true, Nat.reduceBEq, Nat.reduceAdd, IOp.dst, IOp.isF, IOp.args, coolOp, Nat.reduceSub]; done) | (simp only [↓xP, xQ, xR, flatR, eqCells_ok, eqSh, eqBs, Nat.reduceLT, decide_true, Nat.reduceBEq, Nat.reduceAdd, IOp.dst, IOp.isF, IOp.args, coolOp, Nat.reduceSub]; rfl) | (simp only [↓xP, xQ, xR, flatR, eqCells_ok, eqSh, eqBs, Nat.reduceLT, decide_true, Nat.reduceBEq, Nat.reduceAdd, IOp.dst, IOp.isF, IOp.args, coolOp, Nat.reduceSub]; omega))).trans (by simp)
  rintro i st ⟨hle, h0, h1, h5⟩ ih
  by_cases hi : i < l.length
  · obtain ⟨y, hy⟩ : ∃ y, l[i]? = some y := ⟨_, List.getElem?_eq_getElem hi⟩
    obtain ⟨z, hz⟩ : ∃ z, m[i]? = some z := ⟨_, List.getElem?_eq_getElem (by omega)⟩
    have hw := w_succ (i := i) (by omega)
    have hd : l.drop i = y :: l.drop (i + 1) := by rw [List.drop_eq_getElem_cons hi, (List.getElem?_eq_some_iff.1 hy).2]
    have hd2 : m.drop i = z :: m.drop (i + 1) := by rw [List.drop_eq_getElem_cons (by omega), (List.getElem?_eq_some_iff.1 hz).2]
    simp only [↓xP, xQ, xR, flatR, eqCells_ok, eqSh, eqBs, Nat.reduceLT, decide_true, Nat.reduceBEq, Nat.reduceAdd, IOp.dst, IOp.isF, IOp.args, coolOp, Nat.reduceSub, h0, h1, h5, hi, hy, hz, hw, iU]
    rw [hd, hd2]
    refine sel_split (fun h => ?_) (fun h => ?_)
    · have h' : ¬ y = z := by simpa using h
      simp [h']
    · have h' : y = z := by simpa using h
      rw [ih (i + 1) _ (by omega) (by and_intros <;> first | omega | rfl | (simp only [↓xP, xQ, xR, flatR, eqCells_ok, eqSh, eqBs, Nat.reduceLT, decide_true, Nat.reduceBEq, Nat.reduceAdd, IOp.dst, IOp.isF, IOp.args, coolOp, Nat.reduceSub, h0, h1]; done) | (simp only [↓xP, xQ, xR, flatR, eqCells_ok, eqSh, eqBs, Nat.reduceLT, decide_true, Nat.reduceBEq, Nat.reduceAdd, IOp.dst, IOp.isF, IOp.args, coolOp, Nat.reduceSub, h0, h1]; rfl) | (simp only [↓xP, xQ, xR, flatR, eqCells_ok, eqSh, eqBs, Nat.reduceLT, decide_true, Nat.reduceBEq, Nat.reduceAdd, IOp.dst, IOp.isF, IOp.args, coolOp, Nat.reduceSub, h0, h1]; omega))]
      simp [h']
  · simp only [↓xP, xQ, xR, flatR, eqCells_ok, eqSh, eqBs, Nat.reduceLT, decide_true, Nat.reduceBEq, Nat.reduceAdd, IOp.dst, IOp.isF, IOp.args, coolOp, Nat.reduceSub, h0, h1, h5, hi]
    rw [List.drop_of_length_le (by omega), List.drop_of_length_le (by omega)]
    simp
theorem sameConfig_ok (e e' : Int) (l l' : List Int) (f f' : Bool) (hn : l.length ≤ 4611686018427387904) : EE F 32 [.ag [.u (.int .i64 e), .u (.sl 1 (l.map iU)), .u (.bool f)], .ag [.u (.int .i64 e'), .u (.sl 1 (l'.map iU)), .u (.bool f')]] [] = ok1 (B (decide (e = e') && decide (l = l') && (f == f'))) := by
  rw [R32, b32]
  simp only [↓xP, xQ, xR, flatR, eqCells_ok, eqSh, eqBs, Nat.reduceLT, decide_true, Nat.reduceBEq, Nat.reduceAdd, IOp.dst, IOp.isF, IOp.args, coolOp, Nat.reduceSub, sameInts_ok l l' hn]
  repeat' (refine sel_split (fun h => ?_) (fun h => ?_))
  all_goals simp_all
theorem completeMembers_impl (e : Int) (l : List Int) (f : Bool) (hn : l.length ≤ 1048576) : EE F 34 [.ag [.u (.int .i64 e), .u (.sl 1 (l.map iU)), .u (.bool f)]] [] = some ⟨[.sc (.own (.par 0) (complete ⟨e, l, f⟩).length)], [.row 1 ((complete ⟨e, l, f⟩).map iU)], []⟩ := by
  rw [R34, b34]
  simp only [↓xP, xQ, xR, flatR, eqCells_ok, eqSh, eqBs, Nat.reduceLT, decide_true, Nat.reduceBEq, Nat.reduceAdd, IOp.dst, IOp.isF, IOp.args, coolOp, Nat.reduceSub, configValid_impl e l f (by omega)]
  refine sel_split (fun h => ?_) (fun h => ?_)
  · simp_all [complete]
  simp only [Bool.not_eq_false'] at h
  have hl := configValid_len h
  dsimp only at hl
  have hc := cut_last hl.1 hn
  have hct := cut_to (n := l.length) (i := l.length - 1) (by omega)
  have h1 := copyOf_int l hn
  have h2 := copyOf_int (l.take (l.length - 1)) (by simp; omega)
  cases f <;> simp only [↓xP, xQ, xR, flatR, eqCells_ok, eqSh, eqBs, Nat.reduceLT, decide_true, Nat.reduceBEq, Nat.reduceAdd, IOp.dst, IOp.isF, IOp.args, coolOp, Nat.reduceSub, h1, h2, List.length_map, hc, hct, complete, h, List.drop_zero, ← List.map_take, if_true, if_false, Bool.false_eq_true]
def with1 (c : Config) (x : Int) : Config := ⟨c.epoch + 1, c.members ++ [x], true⟩
def withOk (c : Config) (x : Int) : Bool := configValid c && inR x 0 4 && !c.fresh && !decide (x ∈ c.members) && decide (c.members.length < 4) && decide (c.epoch < 60)
def withM (c : Config) (x : Int) : Config := if withOk c x = true then with1 c x else c
def withRet (c : Config) (x : Int) : Option Ret := if configValid c = true ∧ inR x 0 4 = true then cfgRet2 (withM c x) (withOk c x) else cfg02
theorem withMember_spec (e : Int) (l : List Int) (f : Bool) (x : Int) (hn : l.length ≤ 1048576) : EE F 164 [.ag [.u (.int .i64 e), .u (.sl 1 (l.map iU)), .u (.bool f)], I x] [] = withRet ⟨e, l, f⟩ x := by
  rw [R164, b164]
  have hcp := l16Copy_ok e l f hn
  simp only [cfgRet] at hcp
  cases h : configValid ⟨e, l, f⟩
  · simp only [↓xP, xQ, xR, flatR, eqCells_ok, eqSh, eqBs, Nat.reduceLT, decide_true, Nat.reduceBEq, Nat.reduceAdd, IOp.dst, IOp.isF, IOp.args, coolOp, Nat.reduceSub, configValid_spec e l f (by omega), h]
    simp [withRet, h, cfg02]
  cases hx : inR x 0 4
  · simp only [↓xP, xQ, xR, flatR, eqCells_ok, eqSh, eqBs, Nat.reduceLT, decide_true, Nat.reduceBEq, Nat.reduceAdd, IOp.dst, IOp.isF, IOp.args, coolOp, Nat.reduceSub, configValid_spec e l f (by omega), h, l1In_ok, hx]
    simp [withRet, h, hx, cfg02]
  have hv := (configValid_iff _).1 h
  dsimp only at hv
  have hw : IntKind.i64.wrap (e + 1) = e + 1 := by rw [w64 (by omega) (by omega)]
  have hl4 : ((((l.length : Nat) : Int)) = 4) = ¬ (l.length < 4) := propext (by omega)
  have he60 : (e = 60) = ¬ (e < 60) := propext (by omega)
  have q1 : l.length + 1 ≤ maxLen ∧ (l.length + 1) * 8 ≤ 140737488355328 := small_max (by omega) (by omega)
  have hid : (0 ≤ idxI l x) = (x ∈ l) := propext idxI_ge
  cases f <;> by_cases hm : x ∈ l <;> by_cases h4 : l.length < 4 <;> by_cases h6 : e < 60
  all_goals simp only [↓xP, xQ, xR, flatR, eqCells_ok, eqSh, eqBs, Nat.reduceLT, decide_true, Nat.reduceBEq, Nat.reduceAdd, IOp.dst, IOp.isF, IOp.args, coolOp, Nat.reduceSub, configValid_spec _ _ _ (show l.length ≤ 4611686018427387904 by omega), h, l1In_ok, hx, hcp, l16Index_ok _ l _ x (by omega), hid, hm, ge_iff_le, hl4, he60, h4, h6, hw, List.length_map, q1.1, q1.2, not_true_eq_false, not_false_eq_true]
  all_goals simp [sel, withRet, withM, withOk, with1, h, hx, hm, h4, h6, cfgRet2, iU]
theorem configDone_spec (e : Int) (l : List Int) (f : Bool) (hn : l.length ≤ 1048576) : EE F 165 [.ag [.u (.int .i64 e), .u (.sl 1 (l.map iU)), .u (.bool f)]] [] = if configValid ⟨e, l, f⟩ = true then cfgRet ⟨e, l, false⟩ else cfg0 := by
  rw [R165, b165]
  have hcp := l16Copy_ok e l f hn
  simp only [cfgRet] at hcp
  cases h : configValid ⟨e, l, f⟩ <;> simp only [↓xP, xQ, xR, flatR, eqCells_ok, eqSh, eqBs, Nat.reduceLT, decide_true, Nat.reduceBEq, Nat.reduceAdd, IOp.dst, IOp.isF, IOp.args, coolOp, Nat.reduceSub, configValid_spec e l f (by omega), h, hcp, cfg0, cfgRet, if_true, if_false, Bool.false_eq_true]
/-- What a function that draws comes to: results of a kind; the reader went on by at most so many. -/
def Gd (bs : List Int) (p c : Nat) (R : List T → List Obj → Prop) (x : Option Ret) : Prop := ∃ r n q, x = some ⟨r, n, [rd bs q]⟩ ∧ p ≤ q ∧ q ≤ p + c ∧ R r n
theorem loop_pred {fin : St → Option Ret} {is : List IItem} {c : IC} {α : Type} {G : Option Ret → Prop} (Inv : α → St → Prop) (μ : α → Nat)
    (h : ∀ a st, Inv a st → (∀ a' st', μ a' < μ a → Inv a' st' → G (KK F fin (.inLoop c :: is) st')) → G (KK F fin (.code c :: .inLoop c :: is) st)) {st : St} (a : α) (hI : Inv a st) : G (KK F fin (.code (.loop c) :: is) st) := by
  rw [KK_loop]
  have all : ∀ n a st, μ a < n → Inv a st → G (KK F fin (.inLoop c :: is) st) := by
    intro n
    induction n with
    | zero => intro a st h0; omega
    | succ n ih =>
      intro a st hn hI
      rw [KK_inLoop]
      exact h a st hI (fun a' st' hm hI' => ih a' st' (by omega) hI')
  exact all (μ a + 1) a st (by omega) hI
theorem rdx : (∀ bs p, (rd bs p).data = true) ∧ (∀ bs p q, sameKind (some (rd bs p)) (rd bs q) = true) ∧ (∀ id bs p, Obj.mapC (C.kill id) (rd bs p) = rd bs p) ∧ (∀ st id bs p, Obj.mapC (St.coolC st id) (rd bs p) = rd bs p) := by
  refine ⟨fun _ _ => rfl, fun _ _ _ => rfl, fun _ _ _ => rfl, fun st id bs p => ?_⟩
  have h : ∀ u, st.coolC id (.u u) = .u u := by
    intro u
    unfold St.coolC
    cases st.o id with
    | none => rfl
    | some ob => cases ob <;> rfl
  simp [rd, Obj.mapC, h]
theorem Gd.run {f : Nat} {a : List T} {bs : List Int} {p c : Nat} {R : List T → List Obj → Prop} {fn : IFn} (hF : Go.Proofs.YtdnhamehpdlbgaaV.F f = some fn) (hn : a.length = fn.np) (h : Gd bs p c R (KK F (FF fn.res 1) [.code fn.body] (argSt 0 a (insSt 0 [rd bs p] S0)))) : Gd bs p c R (EE F f a [rd bs p]) := by
  rw [EE_run hF hn]; exact h
theorem w_pred {i : Nat} (h : i ≤ 1048576) : IntKind.i64.wrap (((i + 1 : Nat) : Int) - 1) = (i : Int) := by rw [w64 (by omega) (by omega)]; omega
theorem l20Node_ok {bs : List Int} (hb : Bytes bs) (p : Nat) (n : Int) (hn : n ≤ 1048576) (hp : p ≤ 1000000000000) : Gd bs p 2 (fun r m => m = [] ∧ ∃ v : Int, r = [I v] ∧ -1 ≤ v ∧ v ≤ 5) (EE F 97 [RP0, I n] [rd bs p]) := by
  refine Gd.run (fn := i97) (by kernel_rfl) rfl ?_
  simp only [i97, b97, argSt, insSt]
  obtain ⟨b, q, ho, hq1, hq2, _⟩ := odd_ok hb p n (by omega) hn
  obtain ⟨v, hv, hvl⟩ := pick_nat hb q 2 (by omega) (by omega)
  obtain ⟨w, hw, hwl⟩ := pick_nat hb q 5 (by omega) (by omega)
  have hv' : EE F 92 [RP0, I 2] [rd bs q] = some ⟨[I (v : Int)], [], [rd bs (q + 1)]⟩ := hv
  have hw' : EE F 92 [RP0, I 5] [rd bs q] = some ⟨[I (w : Int)], [], [rd bs (q + 1)]⟩ := hw
  cases b
  · simp only [↓xP, xQ, xR, flatR, eqCells_ok, eqSh, eqBs, Nat.reduceLT, decide_true, Nat.reduceBEq, Nat.reduceAdd, IOp.dst, IOp.isF, IOp.args, coolOp, Nat.reduceSub, rdx, ho, hw']
    exact ⟨_, _, q + 1, rfl, by omega, by omega, rfl, w, rfl, by omega, by omega⟩
  · rcases (show v = 0 ∨ v = 1 by omega) with rfl | rfl <;> simp only [↓xP, xQ, xR, flatR, eqCells_ok, eqSh, eqBs, Nat.reduceLT, decide_true, Nat.reduceBEq, Nat.reduceAdd, IOp.dst, IOp.isF, IOp.args, coolOp, Nat.reduceSub, rdx, ho, hv']
    · exact ⟨_, _, q + 1, rfl, by omega, by omega, rfl, _, rfl, by omega, by omega⟩
    · exact ⟨_, _, q + 1, rfl, by omega, by omega, rfl, _, rfl, by omega, by omega⟩
theorem withM_valid {c : Config} (hv : configValid c = true) (x : Int) : configValid (withM c x) = true := by
  unfold withM
  split
  · rename_i h
    have h' := (configValid_iff c).1 hv
    simp only [withOk, Bool.and_eq_true, Bool.not_eq_true', decide_eq_false_iff_not, decide_eq_true_eq] at h
    obtain ⟨⟨⟨⟨⟨_, hx⟩, _⟩, hm⟩, hl⟩, he⟩ := h
    refine (configValid_iff _).2 ⟨by simp only [with1]; omega, by simp only [with1]; omega, by simp [with1], by simp [with1]; omega, fun _ => by simp [with1]; omega, fun y hy => ?_, ?_⟩
    · simp only [with1, List.mem_append, List.mem_singleton] at hy
      rcases hy with hy | rfl
      · exact h'.2.2.2.2.2.1 y hy
      · exact hx
    · simp only [with1]
      rw [List.nodup_append]
      exact ⟨h'.2.2.2.2.2.2, by simp, fun a ha b hb => by simp at hb; subst hb; intro e; subst e; exact hm ha⟩
  · exact hv
theorem doneC_valid {c : Config} (hv : configValid c = true) : configValid ⟨c.epoch, c.members, false⟩ = true := by
  have h' := (configValid_iff c).1 hv
  exact (configValid_iff _).2 ⟨h'.1, h'.2.1, h'.2.2.1, h'.2.2.2.1, (by intro h; cases h), h'.2.2.2.2.2⟩
set_option maxHeartbeats 4000000 in
theorem l20Config_ok {bs : List Int} (hb : Bytes bs) (p : Nat) (n : Int) (hn : n ≤ 1048576) (hp : p ≤ 1000000000) : Gd bs p 40 (fun r m => m = [] ∧ ∃ c : Config, r = [.ag [.u (.int .i64 c.epoch), .u (.sl 1 (c.members.map iU)), .u (.bool c.fresh)]] ∧ Fit64 c.epoch ∧ c.members.length ≤ 5) (EE F 91 [RP0, I n] [rd bs p]) := by
  refine Gd.run (fn := i91) (by kernel_rfl) rfl ?_
  simp only [i91, b91, argSt, insSt]
  obtain ⟨v0, hv0, hl0⟩ := pick_nat hb p 5 (by omega) (by omega)
  obtain ⟨k0, hk0, hlk⟩ := pick_nat hb (p + 1) 6 (by omega) (by omega)
  have hv0' : EE F 92 [RP0, I 5] [rd bs p] = some ⟨[I (v0 : Int)], [], [rd bs (p + 1)]⟩ := hv0
  have hk0' : EE F 92 [RP0, I 6] [rd bs (p + 1)] = some ⟨[I (k0 : Int)], [], [rd bs (p + 1 + 1)]⟩ := hk0
  simp only [↓xP, xQ, xR, flatR, eqCells_ok, eqSh, eqBs, Nat.reduceLT, decide_true, Nat.reduceBEq, Nat.reduceAdd, IOp.dst, IOp.isF, IOp.args, coolOp, Nat.reduceSub, rdx, hv0', hk0']
  have hv00 : configValid ⟨1, [(v0 : Int)], false⟩ = true := (configValid_iff _).2 ⟨by simp, by simp, by simp, by simp, by simp, by simp [inR]; omega, by simp⟩
  refine loop_pred (fun (a : Nat × Nat × Config) st => a.1 ≤ 5 ∧ p ≤ a.2.1 ∧ a.2.1 + 5 * a.1 ≤ p + 27 ∧ configValid a.2.2 = true ∧ st.s 0 = .t RP0 ∧ st.s 1 = DI n ∧ st.s 6 = DI a.1 ∧ st.o (.par 0) = some (rd bs a.2.1) ∧ st.s 4 = .t (.sc (.ptr (.loc 4 0) 0 0)) ∧ st.o (.loc 4 0) = some (.box [.u (.int .i64 0), .u (.sl 1 []), .u (.bool false)]) ∧ st.s 5 = .t (.sc (.ptr (.loc 5 0) 0 0)) ∧ st.o (.loc 5 0) = some (.box [.u (.int .i64 a.2.2.epoch), .u (.sl 1 (a.2.2.members.map iU)), .u (.bool a.2.2.fresh)])) (fun a => a.1) ?_ (k0, p + 1 + 1, ⟨1, [(v0 : Int)], false⟩) ⟨by dsimp only; omega, by dsimp only; omega, by dsimp only; omega, hv00, (by and_intros <;> first | omega | rfl | (simp only [↓xP, xQ, xR, flatR, eqCells_ok, eqSh, eqBs, Nat.reduceLT, decide_true, Nat.reduceBEq, Nat.reduceAdd, IOp.dst, IOp.isF, IOp.args, coolOp, Nat.reduceSub, rdx, List.map_cons, List.map_nil, iU]; done) | (simp only [↓xP, xQ, xR, flatR, eqCells_ok, eqSh, eqBs, Nat.reduceLT, decide_true, Nat.reduceBEq, Nat.reduceAdd, IOp.dst, IOp.isF, IOp.args, coolOp, Nat.reduceSub, rdx, List.map_cons, List.map_nil, iU]; rfl) | (simp only [↓xP, xQ, xR, flatR, eqCells_ok, eqSh, eqBs, Nat.reduceLT, decide_true, Nat.reduceBEq, Nat.reduceAdd, IOp.dst, IOp.isF, IOp.args, coolOp, Nat.reduceSub, rdx, List.map_cons, List.map_nil, iU]; omega))⟩
  rintro ⟨k, q, c⟩ st ⟨hle, hpq, hq, hv, h0, h1, h6, hr, h4, ho4, h5, ho5⟩ ih
  dsimp only at *
  cases k with
  | succ k =>
    have hk : (0 : Int) < ((k + 1 : Nat) : Int) := by omega
    have hwk := w_pred (i := k) (by omega)
    have hcl : c.members.length ≤ 1048576 := by have := configValid_len hv; omega
    obtain ⟨v1, hv1, hl1⟩ := pick_nat hb q 5 (by omega) (by omega)
    have hv1' : EE F 92 [RP0, I 5] [rd bs q] = some ⟨[I (v1 : Int)], [], [rd bs (q + 1)]⟩ := hv1
    have hin1 : inR (v1 : Int) 0 4 = true := by simp [inR]; omega
    have hwm := withMember_spec c.epoch c.members c.fresh (v1 : Int) hcl
    have ec : (⟨c.epoch, c.members, c.fresh⟩ : Config) = c := rfl
    rw [ec] at hwm
    simp only [withRet, hv, hin1, and_self, if_true, cfgRet2_eq] at hwm
    have hc1 := withM_valid hv (v1 : Int)
    generalize withM c (v1 : Int) = c1 at hwm hc1
    generalize withOk c (v1 : Int) = ok1 at hwm
    obtain ⟨w, hw4, _⟩ := pick_nat hb (q + 1) 4 (by omega) (by omega)
    have hw4' : EE F 92 [RP0, I 4] [rd bs (q + 1)] = some ⟨[I (w : Int)], [], [rd bs (q + 1 + 1)]⟩ := hw4
    -- what follows, once the member of this round is chosen
    by_cases hw0 : w = 0
    · subst hw0
      obtain ⟨v2, hv2, hl2⟩ := pick_nat hb (q + 1 + 1) 5 (by omega) (by omega)
      have hv2' : EE F 92 [RP0, I 5] [rd bs (q + 1 + 1)] = some ⟨[I (v2 : Int)], [], [rd bs (q + 1 + 1 + 1)]⟩ := hv2
      have hwo := withoutMember_spec c.epoch c.members c.fresh (v2 : Int) hcl
      rw [ec] at hwo
      simp only [withoutRet, hv, if_true, cfgRet2_eq] at hwo
      have hc2 := without_valid hv (v2 : Int)
      generalize without c (v2 : Int) = c2 at hwo hc2
      generalize withoutOk c (v2 : Int) = ok2 at hwo
      obtain ⟨z, hz, _⟩ := pick_nat hb (q + 1 + 1 + 1) 3 (by omega) (by omega)
      have hz' : EE F 92 [RP0, I 3] [rd bs (q + 1 + 1 + 1)] = some ⟨[I (z : Int)], [], [rd bs (q + 1 + 1 + 1 + 1)]⟩ := hz
      have hd1 := configDone_spec c2.epoch c2.members c2.fresh (by have := configValid_len hc2; omega)
      have hd2 := configDone_spec c.epoch c.members c.fresh hcl
      rw [show (⟨c2.epoch, c2.members, c2.fresh⟩ : Config) = c2 from rfl, if_pos hc2] at hd1
      rw [ec, if_pos hv] at hd2
      simp only [cfgRet] at hd1 hd2
      have e0 : ((0 : Nat) : Int) = 0 := rfl
      cases ok2
      · by_cases hz0 : (0 : Int) < (z : Int)
        · simp only [↓xP, xQ, xR, flatR, eqCells_ok, eqSh, eqBs, Nat.reduceLT, decide_true, Nat.reduceBEq, Nat.reduceAdd, IOp.dst, IOp.isF, IOp.args, coolOp, Nat.reduceSub, rdx, h0, h1, h6, hr, h4, ho4, h5, ho5, hk, hv1', hwm, hw4', e0, hv2', hwo, hz', hz0, hd2, gt_iff_lt, map_all, hwk]
          exact ih (k, q + 1 + 1 + 1 + 1, ⟨c.epoch, c.members, false⟩) _ (by dsimp only; omega) ⟨by dsimp only; omega, by dsimp only; omega, by dsimp only; omega, doneC_valid hv, (by and_intros <;> first | omega | rfl | (simp only [↓xP, xQ, xR, flatR, eqCells_ok, eqSh, eqBs, Nat.reduceLT, decide_true, Nat.reduceBEq, Nat.reduceAdd, IOp.dst, IOp.isF, IOp.args, coolOp, Nat.reduceSub, rdx, h0, h1, h6, hr, h4, ho4, h5, ho5, hwk, map_all]; done) | (simp only [↓xP, xQ, xR, flatR, eqCells_ok, eqSh, eqBs, Nat.reduceLT, decide_true, Nat.reduceBEq, Nat.reduceAdd, IOp.dst, IOp.isF, IOp.args, coolOp, Nat.reduceSub, rdx, h0, h1, h6, hr, h4, ho4, h5, ho5, hwk, map_all]; rfl) | (simp only [↓xP, xQ, xR, flatR, eqCells_ok, eqSh, eqBs, Nat.reduceLT, decide_true, Nat.reduceBEq, Nat.reduceAdd, IOp.dst, IOp.isF, IOp.args, coolOp, Nat.reduceSub, rdx, h0, h1, h6, hr, h4, ho4, h5, ho5, hwk, map_all]; omega))⟩
        · simp only [↓xP, xQ, xR, flatR, eqCells_ok, eqSh, eqBs, Nat.reduceLT, decide_true, Nat.reduceBEq, Nat.reduceAdd, IOp.dst, IOp.isF, IOp.args, coolOp, Nat.reduceSub, rdx, h0, h1, h6, hr, h4, ho4, h5, ho5, hk, hv1', hwm, hw4', e0, hv2', hwo, hz', hz0, gt_iff_lt, map_all, hwk]
          exact ih (k, q + 1 + 1 + 1 + 1, c) _ (by dsimp only; omega) ⟨by dsimp only; omega, by dsimp only; omega, by dsimp only; omega, hv, (by and_intros <;> first | omega | rfl | (simp only [↓xP, xQ, xR, flatR, eqCells_ok, eqSh, eqBs, Nat.reduceLT, decide_true, Nat.reduceBEq, Nat.reduceAdd, IOp.dst, IOp.isF, IOp.args, coolOp, Nat.reduceSub, rdx, h0, h1, h6, hr, h4, ho4, h5, ho5, hwk, map_all]; done) | (simp only [↓xP, xQ, xR, flatR, eqCells_ok, eqSh, eqBs, Nat.reduceLT, decide_true, Nat.reduceBEq, Nat.reduceAdd, IOp.dst, IOp.isF, IOp.args, coolOp, Nat.reduceSub, rdx, h0, h1, h6, hr, h4, ho4, h5, ho5, hwk, map_all]; rfl) | (simp only [↓xP, xQ, xR, flatR, eqCells_ok, eqSh, eqBs, Nat.reduceLT, decide_true, Nat.reduceBEq, Nat.reduceAdd, IOp.dst, IOp.isF, IOp.args, coolOp, Nat.reduceSub, rdx, h0, h1, h6, hr, h4, ho4, h5, ho5, hwk, map_all]; omega))⟩
      · by_cases hz0 : (0 : Int) < (z : Int)
        · simp only [↓xP, xQ, xR, flatR, eqCells_ok, eqSh, eqBs, Nat.reduceLT, decide_true, Nat.reduceBEq, Nat.reduceAdd, IOp.dst, IOp.isF, IOp.args, coolOp, Nat.reduceSub, rdx, h0, h1, h6, hr, h4, ho4, h5, ho5, hk, hv1', hwm, hw4', e0, hv2', hwo, hz', hz0, hd1, gt_iff_lt, map_all, hwk]
          exact ih (k, q + 1 + 1 + 1 + 1, ⟨c2.epoch, c2.members, false⟩) _ (by dsimp only; omega) ⟨by dsimp only; omega, by dsimp only; omega, by dsimp only; omega, doneC_valid hc2, (by and_intros <;> first | omega | rfl | (simp only [↓xP, xQ, xR, flatR, eqCells_ok, eqSh, eqBs, Nat.reduceLT, decide_true, Nat.reduceBEq, Nat.reduceAdd, IOp.dst, IOp.isF, IOp.args, coolOp, Nat.reduceSub, rdx, h0, h1, h6, hr, h4, ho4, h5, ho5, hwk, map_all]; done) | (simp only [↓xP, xQ, xR, flatR, eqCells_ok, eqSh, eqBs, Nat.reduceLT, decide_true, Nat.reduceBEq, Nat.reduceAdd, IOp.dst, IOp.isF, IOp.args, coolOp, Nat.reduceSub, rdx, h0, h1, h6, hr, h4, ho4, h5, ho5, hwk, map_all]; rfl) | (simp only [↓xP, xQ, xR, flatR, eqCells_ok, eqSh, eqBs, Nat.reduceLT, decide_true, Nat.reduceBEq, Nat.reduceAdd, IOp.dst, IOp.isF, IOp.args, coolOp, Nat.reduceSub, rdx, h0, h1, h6, hr, h4, ho4, h5, ho5, hwk, map_all]; omega))⟩
        · simp only [↓xP, xQ, xR, flatR, eqCells_ok, eqSh, eqBs, Nat.reduceLT, decide_true, Nat.reduceBEq, Nat.reduceAdd, IOp.dst, IOp.isF, IOp.args, coolOp, Nat.reduceSub, rdx, h0, h1, h6, hr, h4, ho4, h5, ho5, hk, hv1', hwm, hw4', e0, hv2', hwo, hz', hz0, gt_iff_lt, map_all, hwk]
          exact ih (k, q + 1 + 1 + 1 + 1, c2) _ (by dsimp only; omega) ⟨by dsimp only; omega, by dsimp only; omega, by dsimp only; omega, hc2, (by and_intros <;> first | omega | rfl | (simp only [↓xP, xQ, xR, flatR, eqCells_ok, eqSh, eqBs, Nat.reduceLT, decide_true, Nat.reduceBEq, Nat.reduceAdd, IOp.dst, IOp.isF, IOp.args, coolOp, Nat.reduceSub, rdx, h0, h1, h6, hr, h4, ho4, h5, ho5, hwk, map_all]; done) | (simp only [↓xP, xQ, xR, flatR, eqCells_ok, eqSh, eqBs, Nat.reduceLT, decide_true, Nat.reduceBEq, Nat.reduceAdd, IOp.dst, IOp.isF, IOp.args, coolOp, Nat.reduceSub, rdx, h0, h1, h6, hr, h4, ho4, h5, ho5, hwk, map_all]; rfl) | (simp only [↓xP, xQ, xR, flatR, eqCells_ok, eqSh, eqBs, Nat.reduceLT, decide_true, Nat.reduceBEq, Nat.reduceAdd, IOp.dst, IOp.isF, IOp.args, coolOp, Nat.reduceSub, rdx, h0, h1, h6, hr, h4, ho4, h5, ho5, hwk, map_all]; omega))⟩
    · have hw0' : ¬ (w : Int) = 0 := by omega
      obtain ⟨z, hz, _⟩ := pick_nat hb (q + 1 + 1) 3 (by omega) (by omega)
      have hz' : EE F 92 [RP0, I 3] [rd bs (q + 1 + 1)] = some ⟨[I (z : Int)], [], [rd bs (q + 1 + 1 + 1)]⟩ := hz
      have hd1 := configDone_spec c1.epoch c1.members c1.fresh (by have := configValid_len hc1; omega)
      have hd2 := configDone_spec c.epoch c.members c.fresh hcl
      rw [show (⟨c1.epoch, c1.members, c1.fresh⟩ : Config) = c1 from rfl, if_pos hc1] at hd1
      rw [ec, if_pos hv] at hd2
      simp only [cfgRet] at hd1 hd2
      cases ok1
      · by_cases hz0 : (0 : Int) < (z : Int)
        · simp only [↓xP, xQ, xR, flatR, eqCells_ok, eqSh, eqBs, Nat.reduceLT, decide_true, Nat.reduceBEq, Nat.reduceAdd, IOp.dst, IOp.isF, IOp.args, coolOp, Nat.reduceSub, rdx, h0, h1, h6, hr, h4, ho4, h5, ho5, hk, hv1', hwm, hw4', hw0', hz', hz0, hd2, gt_iff_lt, map_all, hwk]
          exact ih (k, q + 1 + 1 + 1, ⟨c.epoch, c.members, false⟩) _ (by dsimp only; omega) ⟨by dsimp only; omega, by dsimp only; omega, by dsimp only; omega, doneC_valid hv, (by and_intros <;> first | omega | rfl | (simp only [↓xP, xQ, xR, flatR, eqCells_ok, eqSh, eqBs, Nat.reduceLT, decide_true, Nat.reduceBEq, Nat.reduceAdd, IOp.dst, IOp.isF, IOp.args, coolOp, Nat.reduceSub, rdx, h0, h1, h6, hr, h4, ho4, h5, ho5, hwk, map_all]; done) | (simp only [↓xP, xQ, xR, flatR, eqCells_ok, eqSh, eqBs, Nat.reduceLT, decide_true, Nat.reduceBEq, Nat.reduceAdd, IOp.dst, IOp.isF, IOp.args, coolOp, Nat.reduceSub, rdx, h0, h1, h6, hr, h4, ho4, h5, ho5, hwk, map_all]; rfl) | (simp only [↓xP, xQ, xR, flatR, eqCells_ok, eqSh, eqBs, Nat.reduceLT, decide_true, Nat.reduceBEq, Nat.reduceAdd, IOp.dst, IOp.isF, IOp.args, coolOp, Nat.reduceSub, rdx, h0, h1, h6, hr, h4, ho4, h5, ho5, hwk, map_all]; omega))⟩
        · simp only [↓xP, xQ, xR, flatR, eqCells_ok, eqSh, eqBs, Nat.reduceLT, decide_true, Nat.reduceBEq, Nat.reduceAdd, IOp.dst, IOp.isF, IOp.args, coolOp, Nat.reduceSub, rdx, h0, h1, h6, hr, h4, ho4, h5, ho5, hk, hv1', hwm, hw4', hw0', hz', hz0, gt_iff_lt, map_all, hwk]
          exact ih (k, q + 1 + 1 + 1, c) _ (by dsimp only; omega) ⟨by dsimp only; omega, by dsimp only; omega, by dsimp only; omega, hv, (by and_intros <;> first | omega | rfl | (simp only [↓xP, xQ, xR, flatR, eqCells_ok, eqSh, eqBs, Nat.reduceLT, decide_true, Nat.reduceBEq, Nat.reduceAdd, IOp.dst, IOp.isF, IOp.args, coolOp, Nat.reduceSub, rdx, h0, h1, h6, hr, h4, ho4, h5, ho5, hwk, map_all]; done) | (simp only [↓xP, xQ, xR, flatR, eqCells_ok, eqSh, eqBs, Nat.reduceLT, decide_true, Nat.reduceBEq, Nat.reduceAdd, IOp.dst, IOp.isF, IOp.args, coolOp, Nat.reduceSub, rdx, h0, h1, h6, hr, h4, ho4, h5, ho5, hwk, map_all]; rfl) | (simp only [↓xP, xQ, xR, flatR, eqCells_ok, eqSh, eqBs, Nat.reduceLT, decide_true, Nat.reduceBEq, Nat.reduceAdd, IOp.dst, IOp.isF, IOp.args, coolOp, Nat.reduceSub, rdx, h0, h1, h6, hr, h4, ho4, h5, ho5, hwk, map_all]; omega))⟩
      · by_cases hz0 : (0 : Int) < (z : Int)
        · simp only [↓xP, xQ, xR, flatR, eqCells_ok, eqSh, eqBs, Nat.reduceLT, decide_true, Nat.reduceBEq, Nat.reduceAdd, IOp.dst, IOp.isF, IOp.args, coolOp, Nat.reduceSub, rdx, h0, h1, h6, hr, h4, ho4, h5, ho5, hk, hv1', hwm, hw4', hw0', hz', hz0, hd1, gt_iff_lt, map_all, hwk]
          exact ih (k, q + 1 + 1 + 1, ⟨c1.epoch, c1.members, false⟩) _ (by dsimp only; omega) ⟨by dsimp only; omega, by dsimp only; omega, by dsimp only; omega, doneC_valid hc1, (by and_intros <;> first | omega | rfl | (simp only [↓xP, xQ, xR, flatR, eqCells_ok, eqSh, eqBs, Nat.reduceLT, decide_true, Nat.reduceBEq, Nat.reduceAdd, IOp.dst, IOp.isF, IOp.args, coolOp, Nat.reduceSub, rdx, h0, h1, h6, hr, h4, ho4, h5, ho5, hwk, map_all]; done) | (simp only [↓xP, xQ, xR, flatR, eqCells_ok, eqSh, eqBs, Nat.reduceLT, decide_true, Nat.reduceBEq, Nat.reduceAdd, IOp.dst, IOp.isF, IOp.args, coolOp, Nat.reduceSub, rdx, h0, h1, h6, hr, h4, ho4, h5, ho5, hwk, map_all]; rfl) | (simp only [↓xP, xQ, xR, flatR, eqCells_ok, eqSh, eqBs, Nat.reduceLT, decide_true, Nat.reduceBEq, Nat.reduceAdd, IOp.dst, IOp.isF, IOp.args, coolOp, Nat.reduceSub, rdx, h0, h1, h6, hr, h4, ho4, h5, ho5, hwk, map_all]; omega))⟩
        · simp only [↓xP, xQ, xR, flatR, eqCells_ok, eqSh, eqBs, Nat.reduceLT, decide_true, Nat.reduceBEq, Nat.reduceAdd, IOp.dst, IOp.isF, IOp.args, coolOp, Nat.reduceSub, rdx, h0, h1, h6, hr, h4, ho4, h5, ho5, hk, hv1', hwm, hw4', hw0', hz', hz0, gt_iff_lt, map_all, hwk]
          exact ih (k, q + 1 + 1 + 1, c1) _ (by dsimp only; omega) ⟨by dsimp only; omega, by dsimp only; omega, by dsimp only; omega, hc1, (by and_intros <;> first | omega | rfl | (simp only [↓xP, xQ, xR, flatR, eqCells_ok, eqSh, eqBs, Nat.reduceLT, decide_true, Nat.reduceBEq, Nat.reduceAdd, IOp.dst, IOp.isF, IOp.args, coolOp, Nat.reduceSub, rdx, h0, h1, h6, hr, h4, ho4, h5, ho5, hwk, map_all]; done) | (simp only [↓xP, xQ, xR, flatR, eqCells_ok, eqSh, eqBs, Nat.reduceLT, decide_true, Nat.reduceBEq, Nat.reduceAdd, IOp.dst, IOp.isF, IOp.args, coolOp, Nat.reduceSub, rdx, h0, h1, h6, hr, h4, ho4, h5, ho5, hwk, map_all]; rfl) | (simp only [↓xP, xQ, xR, flatR, eqCells_ok, eqSh, eqBs, Nat.reduceLT, decide_true, Nat.reduceBEq, Nat.reduceAdd, IOp.dst, IOp.isF, IOp.args, coolOp, Nat.reduceSub, rdx, h0, h1, h6, hr, h4, ho4, h5, ho5, hwk, map_all]; omega))⟩
  | zero =>
    have hk : ¬ (0 : Int) < ((0 : Nat) : Int) := by omega
    have hv' := (configValid_iff c).1 hv
    obtain ⟨v1, hv1, hl1⟩ := pick_nat hb q 12 (by omega) (by omega)
    have hv1' : EE F 92 [RP0, I 12] [rd bs q] = some ⟨[I (v1 : Int)], [], [rd bs (q + 1)]⟩ := hv1
    obtain ⟨v2, hv2, hl2⟩ := pick_nat hb (q + 1) 2 (by omega) (by omega)
    have hv2' : EE F 92 [RP0, I 2] [rd bs (q + 1)] = some ⟨[I (v2 : Int)], [], [rd bs (q + 1 + 1)]⟩ := hv2
    by_cases h11 : v1 = 11
    · subst h11
      have e11 : ((11 : Nat) : Int) = 11 := rfl
      rcases (show v2 = 0 ∨ v2 = 1 by omega) with rfl | rfl
      · obtain ⟨b, q2, hod, hq1, hq2, _⟩ := odd_ok hb (q + 1 + 1) n (by omega) hn
        obtain ⟨w, hw, hwl⟩ := pick_nat hb q2 8 (by omega) (by omega)
        have hw' : EE F 92 [RP0, I 8] [rd bs q2] = some ⟨[I (w : Int)], [], [rd bs (q2 + 1)]⟩ := hw
        cases b
        · simp only [↓xP, xQ, xR, flatR, eqCells_ok, eqSh, eqBs, Nat.reduceLT, decide_true, Nat.reduceBEq, Nat.reduceAdd, IOp.dst, IOp.isF, IOp.args, coolOp, Nat.reduceSub, rdx, h0, h1, h6, hr, h4, ho4, h5, ho5, hk, hv1', e11, hv2', hod]
          exact ⟨_, _, q2, rfl, by omega, by omega, rfl, ⟨60, c.members, c.fresh⟩, rfl, by simp only [Fit64]; omega, by dsimp only; omega⟩
        · simp only [↓xP, xQ, xR, flatR, eqCells_ok, eqSh, eqBs, Nat.reduceLT, decide_true, Nat.reduceBEq, Nat.reduceAdd, IOp.dst, IOp.isF, IOp.args, coolOp, Nat.reduceSub, rdx, h0, h1, h6, hr, h4, ho4, h5, ho5, hk, hv1', e11, hv2', hod, hw']
          rcases (show w = 0 ∨ w = 1 ∨ w = 2 ∨ w = 3 ∨ w = 4 ∨ w = 5 ∨ w = 6 ∨ w = 7 by omega) with rfl | rfl | rfl | rfl | rfl | rfl | rfl | rfl
          · simp only [↓xP, xQ, xR, flatR, eqCells_ok, eqSh, eqBs, Nat.reduceLT, decide_true, Nat.reduceBEq, Nat.reduceAdd, IOp.dst, IOp.isF, IOp.args, coolOp, Nat.reduceSub, rdx, h0, h1, h6, hr, h4, ho4, h5, ho5]
            exact ⟨_, _, q2 + 1, rfl, by omega, by omega, rfl, ⟨0, [], false⟩, rfl, by simp [Fit64], by simp⟩
          · simp only [↓xP, xQ, xR, flatR, eqCells_ok, eqSh, eqBs, Nat.reduceLT, decide_true, Nat.reduceBEq, Nat.reduceAdd, IOp.dst, IOp.isF, IOp.args, coolOp, Nat.reduceSub, rdx, h0, h1, h6, hr, h4, ho4, h5, ho5]
            exact ⟨_, _, q2 + 1, rfl, by omega, by omega, rfl, ⟨1, [], false⟩, rfl, by simp [Fit64], by simp⟩
          · simp only [↓xP, xQ, xR, flatR, eqCells_ok, eqSh, eqBs, Nat.reduceLT, decide_true, Nat.reduceBEq, Nat.reduceAdd, IOp.dst, IOp.isF, IOp.args, coolOp, Nat.reduceSub, rdx, h0, h1, h6, hr, h4, ho4, h5, ho5]
            exact ⟨_, _, q2 + 1, rfl, by omega, by omega, rfl, ⟨0, [1], false⟩, rfl, by simp [Fit64], by simp⟩
          · simp only [↓xP, xQ, xR, flatR, eqCells_ok, eqSh, eqBs, Nat.reduceLT, decide_true, Nat.reduceBEq, Nat.reduceAdd, IOp.dst, IOp.isF, IOp.args, coolOp, Nat.reduceSub, rdx, h0, h1, h6, hr, h4, ho4, h5, ho5]
            exact ⟨_, _, q2 + 1, rfl, by omega, by omega, rfl, ⟨61, [1], false⟩, rfl, by simp [Fit64], by simp⟩
          · simp only [↓xP, xQ, xR, flatR, eqCells_ok, eqSh, eqBs, Nat.reduceLT, decide_true, Nat.reduceBEq, Nat.reduceAdd, IOp.dst, IOp.isF, IOp.args, coolOp, Nat.reduceSub, rdx, h0, h1, h6, hr, h4, ho4, h5, ho5]
            exact ⟨_, _, q2 + 1, rfl, by omega, by omega, rfl, ⟨1, [5], false⟩, rfl, by simp [Fit64], by simp⟩
          · simp only [↓xP, xQ, xR, flatR, eqCells_ok, eqSh, eqBs, Nat.reduceLT, decide_true, Nat.reduceBEq, Nat.reduceAdd, IOp.dst, IOp.isF, IOp.args, coolOp, Nat.reduceSub, rdx, h0, h1, h6, hr, h4, ho4, h5, ho5]
            exact ⟨_, _, q2 + 1, rfl, by omega, by omega, rfl, ⟨1, [1, 2, 1], false⟩, rfl, by simp [Fit64], by simp⟩
          · simp only [↓xP, xQ, xR, flatR, eqCells_ok, eqSh, eqBs, Nat.reduceLT, decide_true, Nat.reduceBEq, Nat.reduceAdd, IOp.dst, IOp.isF, IOp.args, coolOp, Nat.reduceSub, rdx, h0, h1, h6, hr, h4, ho4, h5, ho5]
            exact ⟨_, _, q2 + 1, rfl, by omega, by omega, rfl, ⟨1, [1], true⟩, rfl, by simp [Fit64], by simp⟩
          · simp only [↓xP, xQ, xR, flatR, eqCells_ok, eqSh, eqBs, Nat.reduceLT, decide_true, Nat.reduceBEq, Nat.reduceAdd, IOp.dst, IOp.isF, IOp.args, coolOp, Nat.reduceSub, rdx, h0, h1, h6, hr, h4, ho4, h5, ho5]
            exact ⟨_, _, q2 + 1, rfl, by omega, by omega, rfl, ⟨1, [0, 1, 2, 3, 4], false⟩, rfl, by simp [Fit64], by simp⟩
      · obtain ⟨b, q2, hod, hq1, hq2, _⟩ := odd_ok hb (q + 1 + 1) n (by omega) hn
        obtain ⟨w, hw, hwl⟩ := pick_nat hb q2 8 (by omega) (by omega)
        have hw' : EE F 92 [RP0, I 8] [rd bs q2] = some ⟨[I (w : Int)], [], [rd bs (q2 + 1)]⟩ := hw
        cases b
        · simp only [↓xP, xQ, xR, flatR, eqCells_ok, eqSh, eqBs, Nat.reduceLT, decide_true, Nat.reduceBEq, Nat.reduceAdd, IOp.dst, IOp.isF, IOp.args, coolOp, Nat.reduceSub, rdx, h0, h1, h6, hr, h4, ho4, h5, ho5, hk, hv1', e11, hv2', hod]
          exact ⟨_, _, q2, rfl, by omega, by omega, rfl, ⟨59, c.members, c.fresh⟩, rfl, by simp only [Fit64]; omega, by dsimp only; omega⟩
        · simp only [↓xP, xQ, xR, flatR, eqCells_ok, eqSh, eqBs, Nat.reduceLT, decide_true, Nat.reduceBEq, Nat.reduceAdd, IOp.dst, IOp.isF, IOp.args, coolOp, Nat.reduceSub, rdx, h0, h1, h6, hr, h4, ho4, h5, ho5, hk, hv1', e11, hv2', hod, hw']
          rcases (show w = 0 ∨ w = 1 ∨ w = 2 ∨ w = 3 ∨ w = 4 ∨ w = 5 ∨ w = 6 ∨ w = 7 by omega) with rfl | rfl | rfl | rfl | rfl | rfl | rfl | rfl
          · simp only [↓xP, xQ, xR, flatR, eqCells_ok, eqSh, eqBs, Nat.reduceLT, decide_true, Nat.reduceBEq, Nat.reduceAdd, IOp.dst, IOp.isF, IOp.args, coolOp, Nat.reduceSub, rdx, h0, h1, h6, hr, h4, ho4, h5, ho5]
            exact ⟨_, _, q2 + 1, rfl, by omega, by omega, rfl, ⟨0, [], false⟩, rfl, by simp [Fit64], by simp⟩
          · simp only [↓xP, xQ, xR, flatR, eqCells_ok, eqSh, eqBs, Nat.reduceLT, decide_true, Nat.reduceBEq, Nat.reduceAdd, IOp.dst, IOp.isF, IOp.args, coolOp, Nat.reduceSub, rdx, h0, h1, h6, hr, h4, ho4, h5, ho5]
            exact ⟨_, _, q2 + 1, rfl, by omega, by omega, rfl, ⟨1, [], false⟩, rfl, by simp [Fit64], by simp⟩
          · simp only [↓xP, xQ, xR, flatR, eqCells_ok, eqSh, eqBs, Nat.reduceLT, decide_true, Nat.reduceBEq, Nat.reduceAdd, IOp.dst, IOp.isF, IOp.args, coolOp, Nat.reduceSub, rdx, h0, h1, h6, hr, h4, ho4, h5, ho5]
            exact ⟨_, _, q2 + 1, rfl, by omega, by omega, rfl, ⟨0, [1], false⟩, rfl, by simp [Fit64], by simp⟩
          · simp only [↓xP, xQ, xR, flatR, eqCells_ok, eqSh, eqBs, Nat.reduceLT, decide_true, Nat.reduceBEq, Nat.reduceAdd, IOp.dst, IOp.isF, IOp.args, coolOp, Nat.reduceSub, rdx, h0, h1, h6, hr, h4, ho4, h5, ho5]
            exact ⟨_, _, q2 + 1, rfl, by omega, by omega, rfl, ⟨61, [1], false⟩, rfl, by simp [Fit64], by simp⟩
          · simp only [↓xP, xQ, xR, flatR, eqCells_ok, eqSh, eqBs, Nat.reduceLT, decide_true, Nat.reduceBEq, Nat.reduceAdd, IOp.dst, IOp.isF, IOp.args, coolOp, Nat.reduceSub, rdx, h0, h1, h6, hr, h4, ho4, h5, ho5]
            exact ⟨_, _, q2 + 1, rfl, by omega, by omega, rfl, ⟨1, [5], false⟩, rfl, by simp [Fit64], by simp⟩
          · simp only [↓xP, xQ, xR, flatR, eqCells_ok, eqSh, eqBs, Nat.reduceLT, decide_true, Nat.reduceBEq, Nat.reduceAdd, IOp.dst, IOp.isF, IOp.args, coolOp, Nat.reduceSub, rdx, h0, h1, h6, hr, h4, ho4, h5, ho5]
            exact ⟨_, _, q2 + 1, rfl, by omega, by omega, rfl, ⟨1, [1, 2, 1], false⟩, rfl, by simp [Fit64], by simp⟩
          · simp only [↓xP, xQ, xR, flatR, eqCells_ok, eqSh, eqBs, Nat.reduceLT, decide_true, Nat.reduceBEq, Nat.reduceAdd, IOp.dst, IOp.isF, IOp.args, coolOp, Nat.reduceSub, rdx, h0, h1, h6, hr, h4, ho4, h5, ho5]
            exact ⟨_, _, q2 + 1, rfl, by omega, by omega, rfl, ⟨1, [1], true⟩, rfl, by simp [Fit64], by simp⟩
          · simp only [↓xP, xQ, xR, flatR, eqCells_ok, eqSh, eqBs, Nat.reduceLT, decide_true, Nat.reduceBEq, Nat.reduceAdd, IOp.dst, IOp.isF, IOp.args, coolOp, Nat.reduceSub, rdx, h0, h1, h6, hr, h4, ho4, h5, ho5]
            exact ⟨_, _, q2 + 1, rfl, by omega, by omega, rfl, ⟨1, [0, 1, 2, 3, 4], false⟩, rfl, by simp [Fit64], by simp⟩
    · have h11' : ¬ (v1 : Int) = 11 := by omega
      obtain ⟨b, q2, hod, hq1, hq2, _⟩ := odd_ok hb (q + 1) n (by omega) hn
      obtain ⟨w, hw, hwl⟩ := pick_nat hb q2 8 (by omega) (by omega)
      have hw' : EE F 92 [RP0, I 8] [rd bs q2] = some ⟨[I (w : Int)], [], [rd bs (q2 + 1)]⟩ := hw
      cases b
      · simp only [↓xP, xQ, xR, flatR, eqCells_ok, eqSh, eqBs, Nat.reduceLT, decide_true, Nat.reduceBEq, Nat.reduceAdd, IOp.dst, IOp.isF, IOp.args, coolOp, Nat.reduceSub, rdx, h0, h1, h6, hr, h4, ho4, h5, ho5, hk, hv1', h11', hod]
        exact ⟨_, _, q2, rfl, by omega, by omega, rfl, ⟨c.epoch, c.members, c.fresh⟩, rfl, by simp only [Fit64]; omega, by dsimp only; omega⟩
      · simp only [↓xP, xQ, xR, flatR, eqCells_ok, eqSh, eqBs, Nat.reduceLT, decide_true, Nat.reduceBEq, Nat.reduceAdd, IOp.dst, IOp.isF, IOp.args, coolOp, Nat.reduceSub, rdx, h0, h1, h6, hr, h4, ho4, h5, ho5, hk, hv1', h11', hod, hw']
        rcases (show w = 0 ∨ w = 1 ∨ w = 2 ∨ w = 3 ∨ w = 4 ∨ w = 5 ∨ w = 6 ∨ w = 7 by omega) with rfl | rfl | rfl | rfl | rfl | rfl | rfl | rfl
        · simp only [↓xP, xQ, xR, flatR, eqCells_ok, eqSh, eqBs, Nat.reduceLT, decide_true, Nat.reduceBEq, Nat.reduceAdd, IOp.dst, IOp.isF, IOp.args, coolOp, Nat.reduceSub, rdx, h0, h1, h6, hr, h4, ho4, h5, ho5]
          exact ⟨_, _, q2 + 1, rfl, by omega, by omega, rfl, ⟨0, [], false⟩, rfl, by simp [Fit64], by simp⟩
        · simp only [↓xP, xQ, xR, flatR, eqCells_ok, eqSh, eqBs, Nat.reduceLT, decide_true, Nat.reduceBEq, Nat.reduceAdd, IOp.dst, IOp.isF, IOp.args, coolOp, Nat.reduceSub, rdx, h0, h1, h6, hr, h4, ho4, h5, ho5]
          exact ⟨_, _, q2 + 1, rfl, by omega, by omega, rfl, ⟨1, [], false⟩, rfl, by simp [Fit64], by simp⟩
        · simp only [↓xP, xQ, xR, flatR, eqCells_ok, eqSh, eqBs, Nat.reduceLT, decide_true, Nat.reduceBEq, Nat.reduceAdd, IOp.dst, IOp.isF, IOp.args, coolOp, Nat.reduceSub, rdx, h0, h1, h6, hr, h4, ho4, h5, ho5]
          exact ⟨_, _, q2 + 1, rfl, by omega, by omega, rfl, ⟨0, [1], false⟩, rfl, by simp [Fit64], by simp⟩
        · simp only [↓xP, xQ, xR, flatR, eqCells_ok, eqSh, eqBs, Nat.reduceLT, decide_true, Nat.reduceBEq, Nat.reduceAdd, IOp.dst, IOp.isF, IOp.args, coolOp, Nat.reduceSub, rdx, h0, h1, h6, hr, h4, ho4, h5, ho5]
          exact ⟨_, _, q2 + 1, rfl, by omega, by omega, rfl, ⟨61, [1], false⟩, rfl, by simp [Fit64], by simp⟩
        · simp only [↓xP, xQ, xR, flatR, eqCells_ok, eqSh, eqBs, Nat.reduceLT, decide_true, Nat.reduceBEq, Nat.reduceAdd, IOp.dst, IOp.isF, IOp.args, coolOp, Nat.reduceSub, rdx, h0, h1, h6, hr, h4, ho4, h5, ho5]
          exact ⟨_, _, q2 + 1, rfl, by omega, by omega, rfl, ⟨1, [5], false⟩, rfl, by simp [Fit64], by simp⟩
        · simp only [↓xP, xQ, xR, flatR, eqCells_ok, eqSh, eqBs, Nat.reduceLT, decide_true, Nat.reduceBEq, Nat.reduceAdd, IOp.dst, IOp.isF, IOp.args, coolOp, Nat.reduceSub, rdx, h0, h1, h6, hr, h4, ho4, h5, ho5]
          exact ⟨_, _, q2 + 1, rfl, by omega, by omega, rfl, ⟨1, [1, 2, 1], false⟩, rfl, by simp [Fit64], by simp⟩
        · simp only [↓xP, xQ, xR, flatR, eqCells_ok, eqSh, eqBs, Nat.reduceLT, decide_true, Nat.reduceBEq, Nat.reduceAdd, IOp.dst, IOp.isF, IOp.args, coolOp, Nat.reduceSub, rdx, h0, h1, h6, hr, h4, ho4, h5, ho5]
          exact ⟨_, _, q2 + 1, rfl, by omega, by omega, rfl, ⟨1, [1], true⟩, rfl, by simp [Fit64], by simp⟩
        · simp only [↓xP, xQ, xR, flatR, eqCells_ok, eqSh, eqBs, Nat.reduceLT, decide_true, Nat.reduceBEq, Nat.reduceAdd, IOp.dst, IOp.isF, IOp.args, coolOp, Nat.reduceSub, rdx, h0, h1, h6, hr, h4, ho4, h5, ho5]
          exact ⟨_, _, q2 + 1, rfl, by omega, by omega, rfl, ⟨1, [0, 1, 2, 3, 4], false⟩, rfl, by simp [Fit64], by simp⟩
theorem rdx2 : (∀ bs p, Obj.flat (rd bs p) = (bs.map yU).isEmpty) ∧ (∀ bs p, Obj.data (rd bs p) = true) ∧ (∀ (x : Bool) (a : List Id), sel x a a = a) := by
  refine ⟨fun bs p => ?_, fun bs p => rfl, fun x a => by cases x <;> rfl⟩
  simp [rd, Obj.flat, C.isSl, U.flat]
def Code (code : List Int) : Prop := code.length ≤ 9223372036854775807 ∧ ∀ b, b ∈ code → 0 ≤ b ∧ b ≤ 255
/-- A property of a call's end. -/
def Ok (R : Ret → Prop) (x : Option Ret) : Prop := ∃ r, x = some r ∧ R r
theorem Ok.run {f : Nat} {a : List T} {R : Ret → Prop} {fn : IFn} (hF : Go.Proofs.YtdnhamehpdlbgaaV.F f = some fn) (hn : a.length = fn.np) (h : Ok R (KK F (FF fn.res 0) [.code fn.body] (argSt 0 a (insSt 0 [] S0)))) : Ok R (EE F f a []) := by
  rw [EE_run hF hn]; exact h
theorem drawRepairConfig_ok (code : List Int) (hc : Code code) : Ok (fun r => ∃ (c : Config) (nodes : List Int), r = ⟨[.ag [.u (.int .i64 c.epoch), .u (.sl 1 (c.members.map iU)), .u (.bool c.fresh)], L 1 (nodes.map iU)], [], []⟩ ∧ Fit64 c.epoch ∧ c.members.length ≤ 5 ∧ nodes.length ≤ 3) (EE F 31 [L 1 (code.map yU)] []) := by
  refine Ok.run (fn := i31) (by kernel_rfl) rfl ?_
  simp only [i31, b31, argSt, insSt]
  obtain ⟨bs, ho, hb⟩ := open_ok code hc
  obtain ⟨r1, n1, q1, h1, hq1, hq1', rfl, c, rfl, hfit, hlen⟩ := l20Config_ok hb 0 9 (by omega) (by omega)
  obtain ⟨k0, hk0, hkl⟩ := pick_nat hb q1 4 (by omega) (by omega)
  have hk0' : EE F 92 [RP0, I 4] [rd bs q1] = some ⟨[I (k0 : Int)], [], [rd bs (q1 + 1)]⟩ := hk0
  simp only [↓xP, xQ, xR, flatR, eqCells_ok, eqSh, eqBs, Nat.reduceLT, decide_true, Nat.reduceBEq, Nat.reduceAdd, IOp.dst, IOp.isF, IOp.args, coolOp, Nat.reduceSub, rdx, rdx2, ho, h1, hk0']
  refine loop_pred (fun (a : Nat × Nat × List Int) st => a.1 ≤ 3 ∧ a.2.1 + 2 * a.1 ≤ 50 ∧ a.2.2.length + a.1 ≤ 3 ∧ st.s 4 = .t (.sc (.ptr (.loc 9 0) 0 0)) ∧ st.o (.loc 9 0) = some (rd bs a.2.1) ∧ st.s 7 = DI a.1 ∧ st.s 2 = .t (.sc (.ptr (.loc 2 0) 0 0)) ∧ st.o (.loc 2 0) = some (.box [.u (.int .i64 0), .u (.sl 1 []), .u (.bool false)]) ∧
    st.s 5 = .t (.sc (.ptr (.loc 5 0) 0 0)) ∧ st.o (.loc 5 0) = some (.box [.u (.int .i64 c.epoch), .u (.sl 1 (c.members.map iU)), .u (.bool c.fresh)]) ∧ st.s 6 = .t (.sc (.own (.loc 12 0) a.2.2.length)) ∧ st.o (.loc 12 0) = some (.row 1 (a.2.2.map iU))) (fun a => a.1) ?_ (k0, q1 + 1, []) ⟨by dsimp only; omega, by dsimp only; omega, by dsimp only; simp; omega, (by and_intros <;> first | omega | rfl | (simp only [↓xP, xQ, xR, flatR, eqCells_ok, eqSh, eqBs, Nat.reduceLT, decide_true, Nat.reduceBEq, Nat.reduceAdd, IOp.dst, IOp.isF, IOp.args, coolOp, Nat.reduceSub, rdx, rdx2]; done) | (simp only [↓xP, xQ, xR, flatR, eqCells_ok, eqSh, eqBs, Nat.reduceLT, decide_true, Nat.reduceBEq, Nat.reduceAdd, IOp.dst, IOp.isF, IOp.args, coolOp, Nat.reduceSub, rdx, rdx2]; rfl) | (simp only [↓xP, xQ, xR, flatR, eqCells_ok, eqSh, eqBs, Nat.reduceLT, decide_true, Nat.reduceBEq, Nat.reduceAdd, IOp.dst, IOp.isF, IOp.args, coolOp, Nat.reduceSub, rdx, rdx2]; omega))⟩
  rintro ⟨k, q, l⟩ st ⟨hle, hq, hll, h4, hr, h7, h2, ho2, h5, ho5, h6, ho6⟩ ih
  dsimp only at *
  cases k with
  | succ k =>
    have hk : (0 : Int) < ((k + 1 : Nat) : Int) := by omega
    have hwk := w_pred (i := k) (by omega)
    obtain ⟨r2, n2, q2, h2', hq2, hq2', rfl, v, rfl, _⟩ := l20Node_ok hb q 9 (by omega) (by omega)
    have hm1 : l.length + 1 ≤ maxLen := by simp [maxLen]; omega
    have hm2 : (l.length + 1) * 8 ≤ 140737488355328 := by omega
    simp only [↓xP, xQ, xR, flatR, eqCells_ok, eqSh, eqBs, Nat.reduceLT, decide_true, Nat.reduceBEq, Nat.reduceAdd, IOp.dst, IOp.isF, IOp.args, coolOp, Nat.reduceSub, rdx, rdx2, h4, hr, h7, h2, ho2, h5, ho5, h6, ho6, hk, h2', hwk, gt_iff_lt, List.length_map, hm1, hm2]
    exact ih (k, q2, l ++ [v]) _ (by dsimp only; omega) ⟨by dsimp only; omega, by dsimp only; omega, by dsimp only; simp; omega, (by and_intros <;> first | omega | rfl | (simp only [↓xP, xQ, xR, flatR, eqCells_ok, eqSh, eqBs, Nat.reduceLT, decide_true, Nat.reduceBEq, Nat.reduceAdd, IOp.dst, IOp.isF, IOp.args, coolOp, Nat.reduceSub, rdx, rdx2, h4, hr, h7, h2, ho2, h5, ho5, h6, ho6, hwk, List.map_append, List.map_cons, List.map_nil, iU, List.length_append, List.length_cons, List.length_nil]; done) | (simp only [↓xP, xQ, xR, flatR, eqCells_ok, eqSh, eqBs, Nat.reduceLT, decide_true, Nat.reduceBEq, Nat.reduceAdd, IOp.dst, IOp.isF, IOp.args, coolOp, Nat.reduceSub, rdx, rdx2, h4, hr, h7, h2, ho2, h5, ho5, h6, ho6, hwk, List.map_append, List.map_cons, List.map_nil, iU, List.length_append, List.length_cons, List.length_nil]; rfl) | (simp only [↓xP, xQ, xR, flatR, eqCells_ok, eqSh, eqBs, Nat.reduceLT, decide_true, Nat.reduceBEq, Nat.reduceAdd, IOp.dst, IOp.isF, IOp.args, coolOp, Nat.reduceSub, rdx, rdx2, h4, hr, h7, h2, ho2, h5, ho5, h6, ho6, hwk, List.map_append, List.map_cons, List.map_nil, iU, List.length_append, List.length_cons, List.length_nil]; omega))⟩
  | zero =>
    have hk : ¬ (0 : Int) < ((0 : Nat) : Int) := by omega
    simp only [↓xP, xQ, xR, flatR, eqCells_ok, eqSh, eqBs, Nat.reduceLT, decide_true, Nat.reduceBEq, Nat.reduceAdd, IOp.dst, IOp.isF, IOp.args, coolOp, Nat.reduceSub, rdx, rdx2, h4, hr, h7, h2, ho2, h5, ho5, h6, ho6, hk, gt_iff_lt, map_all]
    exact ⟨_, rfl, c, l, rfl, hfit, hlen, by omega⟩
theorem yU_of (us : List U) (hl : us.length = 1) (ht : ∀ (j : Nat) ty u, [Ty.i .u8][j]? = some ty → us[j]? = some u → UT ty u) : ∃ x, us = yU x ∧ (0 ≤ x ∧ x ≤ 255) := by
  match us, hl with
  | [a], _ => obtain ⟨n, rfl, h⟩ := (ht 0 _ a rfl rfl).u8_of; exact ⟨n, rfl, h⟩
theorem Code.of {u : U} (hu : UT (.sl [.i .u8]) u) : ∃ code : List Int, u = .sl 1 (code.map yU) ∧ Code code := by
  obtain ⟨code, rfl, hl, hb⟩ := hu.sl_of yU_of
  exact ⟨code, rfl, hl, hb⟩
theorem complete_without1 {c : Config} {x : Int} (h : withoutOk c x = true) : complete (without1 c x) = (complete c).erase x := by
  have h0 := h
  simp only [withoutOk, Bool.and_eq_true, decide_eq_true_eq] at h
  obtain ⟨⟨⟨hv, hm⟩, _⟩, hw⟩ := h
  obtain ⟨e, ms, f⟩ := c
  cases f with
  | false =>
    simp only [without1, Bool.false_and] at hw ⊢
    simp only [complete, hv, hw, if_true, Bool.false_eq_true, if_false]
  | true =>
    have hne : ms ≠ [] := by intro e0; subst e0; cases hm
    obtain ⟨A, z, rfl⟩ : ∃ A z, ms = A ++ [z] := ⟨ms.dropLast, ms.getLast hne, (List.dropLast_concat_getLast hne).symm⟩
    have hnd : (A ++ [z]).Nodup := ((configValid_iff _).1 hv).2.2.2.2.2.2
    rw [List.nodup_append] at hnd
    have htk : (A ++ [z]).take ((A ++ [z]).length - 1) = A := by simp
    have hc : complete ⟨e, A ++ [z], true⟩ = A := by simp only [complete, hv, if_true]; exact htk
    rw [hc]
    by_cases hx : x ∈ A
    · have hi : (A ++ [z]).idxOf x + 1 < (A ++ [z]).length := by
        rw [List.idxOf_append, if_pos hx]
        have := List.idxOf_lt_length_of_mem hx
        simp; omega
      have he : (A ++ [z]).erase x = A.erase x ++ [z] := List.erase_append_left _ hx
      have hw' : without1 ⟨e, A ++ [z], true⟩ x = ⟨e + 1, A.erase x ++ [z], true⟩ := by simp only [without1, he, hi, decide_true, Bool.and_self]
      rw [hw'] at hw ⊢
      simp only [complete, hw, if_true]
      simp
    · have hxz : x = z := by
        rcases List.mem_append.1 hm with h | h
        · exact absurd h hx
        · simpa using h
      subst hxz
      have hi : ¬ (A ++ [x]).idxOf x + 1 < (A ++ [x]).length := by
        rw [List.idxOf_append, if_neg hx]
        simp
      have he : (A ++ [x]).erase x = A := by rw [List.erase_append_right _ hx]; simp
      have hw' : without1 ⟨e, A ++ [x], true⟩ x = ⟨e + 1, A, false⟩ := by simp only [without1, he, hi, decide_false, Bool.and_false]
      rw [hw'] at hw ⊢
      simp only [complete, hw, if_true, Bool.false_eq_true, if_false]
      rw [List.erase_of_not_mem hx]
theorem repStep_sub {nodes : List Int} {c : Config} {x y : Int} (h : y ∈ complete (repStep nodes c x)) : y ∈ complete c := by
  unfold repStep at h
  split at h
  · unfold without at h
    split at h
    · rename_i hw; rw [complete_without1 hw] at h; exact List.mem_of_mem_erase h
    · exact h
  · exact h
theorem repStep_good {nodes : List Int} {c : Config} {x g : Int} (hg : g ∈ complete c) (hn : g ∉ nodes) : g ∈ complete (repStep nodes c x) := by
  unfold repStep
  split
  · rename_i hx
    unfold without
    split
    · rename_i hw; rw [complete_without1 hw]
      exact (List.mem_erase_of_ne (by intro e; subst e; exact hn hx)).2 hg
    · exact hg
  · exact hg
theorem repair_sub (nodes : List Int) {y : Int} : ∀ (l : List Int) (c : Config), y ∈ complete (l.foldl (repStep nodes) c) → y ∈ complete c
  | [], c, h => h
  | x :: l, c, h => repStep_sub (repair_sub nodes l _ h)
theorem repair_valid (nodes : List Int) : ∀ (l : List Int) (c : Config), configValid c = true → configValid (l.foldl (repStep nodes) c) = true
  | [], c, h => h
  | x :: l, c, h => repair_valid nodes l _ (repStep_valid h x)
theorem complete_len {c : Config} (hv : configValid c = true) : 1 ≤ (complete c).length ∧ (complete c).length ≤ 4 := by
  have h := (configValid_iff c).1 hv
  simp only [complete, hv, if_true]
  split
  · rename_i hf
    have := h.2.2.2.2.1 hf
    rw [List.length_take]; omega
  · omega
theorem repair_members (nodes : List Int) {g : Int} (hn : g ∉ nodes) : ∀ (l P : List Int) (c : Config), configValid c = true → c.members = P ++ l → (∀ x, x ∈ P → x ∉ nodes) → c.epoch + l.length ≤ 60 → g ∈ complete c →
    (l.foldl (repStep nodes) c).members = P ++ l.filter (fun x => !decide (x ∈ nodes))
  | [], P, c, hv, hm, hP, he, hg => by simpa using hm
  | x :: l, P, c, hv, hm, hP, he, hg => by
    rw [List.foldl_cons]
    have hv' := repStep_valid (nodes := nodes) hv x
    have hg' := repStep_good (x := x) hg hn
    simp only [List.length_cons] at he
    by_cases hx : x ∈ nodes
    · have hxm : x ∈ c.members := by rw [hm]; simp
      have hgx : g ≠ x := by intro e; subst e; exact hn hx
      have hw : withoutOk c x = true := by
        refine (without_iff hv x).2 ⟨hxm, by omega, ?_⟩
        rintro ⟨h1, h2⟩
        obtain ⟨a, ha⟩ : ∃ a, complete c = [a] := List.length_eq_one_iff.1 h1
        have hga : g = a := by rw [ha] at hg; simpa using hg
        subst hga
        have hxc : x ∈ complete c := by
          rcases h2 with h2 | h2
          · simp only [complete, hv, if_true, h2, Bool.false_eq_true, if_false]; exact hxm
          · cases hf : c.fresh with
            | false => simp only [complete, hv, if_true, hf, Bool.false_eq_true, if_false]; exact hxm
            | true =>
              simp only [complete, hv, if_true, hf]
              have hi : c.members.idxOf x < c.members.length := List.idxOf_lt_length_of_mem hxm
              refine List.mem_iff_getElem?.2 ⟨c.members.idxOf x, ?_⟩
              rw [List.getElem?_take_of_lt (by omega)]
              rw [List.getElem?_eq_getElem hi, List.getElem_idxOf]
        rw [ha] at hxc
        simp at hxc
        exact hgx hxc.symm
      have hs : repStep nodes c x = without1 c x := by simp only [repStep, hx, if_true, without, hw]
      rw [hs] at hv' hg' ⊢
      have hxP : x ∉ P := fun h => hP x h hx
      rw [repair_members nodes hn l P (without1 c x) hv' ?_ hP (by simp only [without1]; omega) hg']
      · simp [hx]
      · simp only [without1, hm]
        rw [List.erase_append_right _ hxP]
        simp
    · have hs : repStep nodes c x = c := by simp only [repStep, hx, if_false]
      rw [hs]
      rw [repair_members nodes hn l (P ++ [x]) c hv (by rw [hm]; simp) ?_ (by omega) hg]
      · simp [hx]
      · intro y hy
        rcases List.mem_append.1 hy with h | h
        · exact hP y h
        · simp only [List.mem_singleton] at h; subst h; exact hx
theorem goodStep {l nodes : List Int} {i : Nat} {x : Int} {g : Bool} (hx : l[i]? = some x) (hg : g = true ↔ ∃ y, y ∈ l.take i ∧ y ∉ nodes) : (g || !decide (x ∈ nodes)) = true ↔ ∃ y, y ∈ l.take (i + 1) ∧ y ∉ nodes := by
  obtain ⟨hi, hx'⟩ := List.getElem?_eq_some_iff.1 hx
  have e : l.take (i + 1) = l.take i ++ [x] := by rw [List.take_add_one, hx]; rfl
  rw [e, Bool.or_eq_true, hg]
  constructor
  · rintro (⟨y, h1, h2⟩ | h)
    · exact ⟨y, List.mem_append_left _ h1, h2⟩
    · exact ⟨x, by simp, by simpa using h⟩
  · rintro ⟨y, h1, h2⟩
    rcases List.mem_append.1 h1 with h | h
    · exact .inl ⟨y, h, h2⟩
    · simp only [List.mem_singleton] at h; subst h; exact .inr (by simpa using h2)
theorem law_FnRepairConfig (u : U) (hu : UT (.sl [.i .u8]) u) : EE F 5 [.sc (.u u)] [] = ok1 (B true) := by
  obtain ⟨code, rfl, hc⟩ := Code.of hu
  rw [R5, b5]
  by_cases hg : (1048576 : Int) < code.length
  · simp only [↓xP, xQ, xR, flatR, eqCells_ok, eqSh, eqBs, Nat.reduceLT, decide_true, Nat.reduceBEq, Nat.reduceAdd, IOp.dst, IOp.isF, IOp.args, coolOp, Nat.reduceSub, List.length_map, gt_iff_lt, hg]
  obtain ⟨r, hr, ⟨e, l, f⟩, nodes, rfl, hfit, hl5, hn3⟩ := drawRepairConfig_ok code hc
  dsimp only at *
  have hi := repairConfig_impl e l f nodes (by omega) (by omega)
  have hs := repairConfig_spec e l f nodes (by omega) (by omega)
  have hci := configValid_impl e l f (by omega)
  cases hv : configValid ⟨e, l, f⟩
  · simp only [hv, Bool.false_eq_true, if_false, cfg0] at hi hs hci
    have hsm := sameConfig_ok 0 0 [] [] false false (by simp)
    rw [List.map_nil] at hsm
    simp only [↓xP, xQ, xR, flatR, eqCells_ok, eqSh, eqBs, Nat.reduceLT, decide_true, Nat.reduceBEq, Nat.reduceAdd, IOp.dst, IOp.isF, IOp.args, coolOp, Nat.reduceSub, List.length_map, gt_iff_lt, hg, hr, hi, hs, hci, hsm, alive_ok]
  simp only [hv, if_true, cfgRet] at hi hs hci
  have hrv := repair_valid nodes l ⟨e, l, f⟩ hv
  have hsub : ∀ y, y ∈ complete (l.foldl (repStep nodes) ⟨e, l, f⟩) → y ∈ complete ⟨e, l, f⟩ := fun y h => repair_sub nodes l _ h
  have hmem : ∀ g, g ∉ nodes → e + l.length ≤ 60 → g ∈ complete ⟨e, l, f⟩ → (l.foldl (repStep nodes) ⟨e, l, f⟩).members = l.filter (fun x => !decide (x ∈ nodes)) := fun g h1 h2 h3 => by
    have := repair_members nodes h1 l [] ⟨e, l, f⟩ hv rfl (fun x h => by cases h) h2 h3
    simpa using this
  have hcl := complete_len hv
  have hcx := complete_len hrv
  have hb := completeMembers_impl e l f (by omega)
  simp only [repair] at hi hs
  generalize l.foldl (repStep nodes) ⟨e, l, f⟩ = x at *
  obtain ⟨xe, xl, xf⟩ := x
  dsimp only at *
  have hxl := configValid_len hrv
  dsimp only at hxl
  have hxv := configValid_impl xe xl xf (by omega)
  have ha := completeMembers_impl xe xl xf (by omega)
  rw [hrv] at hxv
  have hsm := sameConfig_ok xe xe xl xl xf xf (by omega)
  simp only [decide_true, beq_self_eq_true, Bool.and_self] at hsm
  generalize complete ⟨e, l, f⟩ = bs at *
  generalize complete ⟨xe, xl, xf⟩ = af at *
  have hvl := configValid_len hv
  dsimp only at hvl
  have hve := (configValid_iff _).1 hv
  dsimp only at hve
  have hwe : IntKind.i64.wrap (e + (l.length : Int)) = e + l.length := by rw [w64 (by omega) (by omega)]
  simp only [↓xP, xQ, xR, flatR, eqCells_ok, eqSh, eqBs, Nat.reduceLT, decide_true, Nat.reduceBEq, Nat.reduceAdd, IOp.dst, IOp.isF, IOp.args, coolOp, Nat.reduceSub, List.length_map, gt_iff_lt, hg, hr, hi, hs, hci, hsm, map_all, hb, ha]
  refine (loop_ind (fun (a : Nat × Bool) st => a.1 ≤ bs.length ∧ (a.2 = true ↔ ∃ y, y ∈ bs.take a.1 ∧ y ∉ nodes) ∧ st.s 3 = .t (.sc (.ptr (.loc 3 0) 0 0)) ∧ st.o (.loc 3 0) = some (.box [.u (.int .i64 e), .u (.sl 1 (l.map iU)), .u (.bool f)]) ∧ st.s 4 = DU (.sl 1 (nodes.map iU)) ∧ st.s 5 = .t (.sc (.ptr (.loc 5 0) 0 0)) ∧ st.o (.loc 5 0) = some (.box [.u (.int .i64 xe), .own (.loc 24 0) xl.length, .u (.bool xf)]) ∧ st.o (.loc 24 0) = some (.row 1 (xl.map iU)) ∧
    st.s 6 = .t (.sc (.own (.loc 41 0) bs.length)) ∧ st.o (.loc 41 0) = some (.row 1 (bs.map iU)) ∧ st.s 7 = .t (.sc (.own (.loc 43 0) af.length)) ∧ st.o (.loc 43 0) = some (.row 1 (af.map iU)) ∧ st.s 8 = DB a.2 ∧ st.s 9 = DI a.1) (fun a => bs.length - a.1) (fun a => ok1 (B true)) ?_ (0, false) ⟨by simp, by simp, (by and_intros <;> first | omega | rfl | (simp only [↓xP, xQ, xR, flatR, eqCells_ok, eqSh, eqBs, Nat.reduceLT, decide_true, Nat.reduceBEq, Nat.reduceAdd, IOp.dst, IOp.isF, IOp.args, coolOp, Nat.reduceSub]; done) | (simp only [↓xP, xQ, xR, flatR, eqCells_ok, eqSh, eqBs, Nat.reduceLT, decide_true, Nat.reduceBEq, Nat.reduceAdd, IOp.dst, IOp.isF, IOp.args, coolOp, Nat.reduceSub]; rfl) | (simp only [↓xP, xQ, xR, flatR, eqCells_ok, eqSh, eqBs, Nat.reduceLT, decide_true, Nat.reduceBEq, Nat.reduceAdd, IOp.dst, IOp.isF, IOp.args, coolOp, Nat.reduceSub]; omega))⟩).trans rfl
  rintro ⟨i, g⟩ st ⟨hle, hg1, h3, ho3, h4, h5, ho5, ho24, h6, ho41, h7, ho43, h8, h9⟩ ih
  dsimp only at *
  by_cases hib : i < bs.length
  · obtain ⟨y, hy⟩ : ∃ y, bs[i]? = some y := ⟨_, List.getElem?_eq_getElem hib⟩
    have hw := w_succ (i := i) (by omega)
    have hh := hasInt_ok nodes y (by omega)
    have hst := goodStep hy hg1
    cases g
    · simp only [↓xP, xQ, xR, flatR, eqCells_ok, eqSh, eqBs, Nat.reduceLT, decide_true, Nat.reduceBEq, Nat.reduceAdd, IOp.dst, IOp.isF, IOp.args, coolOp, Nat.reduceSub, h3, ho3, h4, h5, ho5, ho24, h6, ho41, h7, ho43, h8, h9, hib, hy, iU, hh, hw]
      rw [Bool.false_or] at hst
      exact ih (i + 1, _) _ (by dsimp only; omega) ⟨by dsimp only; omega, hst, (by and_intros <;> first | omega | rfl | (simp only [↓xP, xQ, xR, flatR, eqCells_ok, eqSh, eqBs, Nat.reduceLT, decide_true, Nat.reduceBEq, Nat.reduceAdd, IOp.dst, IOp.isF, IOp.args, coolOp, Nat.reduceSub, h3, ho3, h4, h5, ho5, ho24, h6, ho41, h7, ho43, h8, h9]; done) | (simp only [↓xP, xQ, xR, flatR, eqCells_ok, eqSh, eqBs, Nat.reduceLT, decide_true, Nat.reduceBEq, Nat.reduceAdd, IOp.dst, IOp.isF, IOp.args, coolOp, Nat.reduceSub, h3, ho3, h4, h5, ho5, ho24, h6, ho41, h7, ho43, h8, h9]; rfl) | (simp only [↓xP, xQ, xR, flatR, eqCells_ok, eqSh, eqBs, Nat.reduceLT, decide_true, Nat.reduceBEq, Nat.reduceAdd, IOp.dst, IOp.isF, IOp.args, coolOp, Nat.reduceSub, h3, ho3, h4, h5, ho5, ho24, h6, ho41, h7, ho43, h8, h9]; omega))⟩
    · simp only [↓xP, xQ, xR, flatR, eqCells_ok, eqSh, eqBs, Nat.reduceLT, decide_true, Nat.reduceBEq, Nat.reduceAdd, IOp.dst, IOp.isF, IOp.args, coolOp, Nat.reduceSub, h3, ho3, h4, h5, ho5, ho24, h6, ho41, h7, ho43, h8, h9, hib, hw]
      rw [Bool.true_or] at hst
      exact ih (i + 1, true) _ (by dsimp only; omega) ⟨by dsimp only; omega, hst, (by and_intros <;> first | omega | rfl | (simp only [↓xP, xQ, xR, flatR, eqCells_ok, eqSh, eqBs, Nat.reduceLT, decide_true, Nat.reduceBEq, Nat.reduceAdd, IOp.dst, IOp.isF, IOp.args, coolOp, Nat.reduceSub, h3, ho3, h4, h5, ho5, ho24, h6, ho41, h7, ho43, h8, h9]; done) | (simp only [↓xP, xQ, xR, flatR, eqCells_ok, eqSh, eqBs, Nat.reduceLT, decide_true, Nat.reduceBEq, Nat.reduceAdd, IOp.dst, IOp.isF, IOp.args, coolOp, Nat.reduceSub, h3, ho3, h4, h5, ho5, ho24, h6, ho41, h7, ho43, h8, h9]; rfl) | (simp only [↓xP, xQ, xR, flatR, eqCells_ok, eqSh, eqBs, Nat.reduceLT, decide_true, Nat.reduceBEq, Nat.reduceAdd, IOp.dst, IOp.isF, IOp.args, coolOp, Nat.reduceSub, h3, ho3, h4, h5, ho5, ho24, h6, ho41, h7, ho43, h8, h9]; omega))⟩
  have hei : i = bs.length := by omega
  subst hei
  rw [List.take_length] at hg1
  simp only [↓xP, xQ, xR, flatR, eqCells_ok, eqSh, eqBs, Nat.reduceLT, decide_true, Nat.reduceBEq, Nat.reduceAdd, IOp.dst, IOp.isF, IOp.args, coolOp, Nat.reduceSub, h3, ho3, h4, h5, ho5, ho24, h6, ho41, h7, ho43, h8, h9, hib]
  clear ih
  refine (loop_ind (fun (i : Nat) st => i ≤ af.length ∧ st.s 3 = .t (.sc (.ptr (.loc 3 0) 0 0)) ∧ st.o (.loc 3 0) = some (.box [.u (.int .i64 e), .u (.sl 1 (l.map iU)), .u (.bool f)]) ∧ st.s 4 = DU (.sl 1 (nodes.map iU)) ∧ st.s 5 = .t (.sc (.ptr (.loc 5 0) 0 0)) ∧ st.o (.loc 5 0) = some (.box [.u (.int .i64 xe), .own (.loc 24 0) xl.length, .u (.bool xf)]) ∧ st.o (.loc 24 0) = some (.row 1 (xl.map iU)) ∧
    st.s 6 = .t (.sc (.own (.loc 41 0) bs.length)) ∧ st.o (.loc 41 0) = some (.row 1 (bs.map iU)) ∧ st.s 7 = .t (.sc (.own (.loc 43 0) af.length)) ∧ st.o (.loc 43 0) = some (.row 1 (af.map iU)) ∧ st.s 8 = DB g ∧ st.s 10 = DB (decide (0 < i)) ∧ st.s 11 = DI i) (fun i => af.length - i) (fun i => ok1 (B true)) ?_ 0 ⟨by omega, (by and_intros <;> first | omega | rfl | (simp only [↓xP, xQ, xR, flatR, eqCells_ok, eqSh, eqBs, Nat.reduceLT, decide_true, Nat.reduceBEq, Nat.reduceAdd, IOp.dst, IOp.isF, IOp.args, coolOp, Nat.reduceSub, h3, ho3, h4, h5, ho5, ho24, h6, ho41, h7, ho43, h8, h9]; done) | (simp only [↓xP, xQ, xR, flatR, eqCells_ok, eqSh, eqBs, Nat.reduceLT, decide_true, Nat.reduceBEq, Nat.reduceAdd, IOp.dst, IOp.isF, IOp.args, coolOp, Nat.reduceSub, h3, ho3, h4, h5, ho5, ho24, h6, ho41, h7, ho43, h8, h9]; rfl) | (simp only [↓xP, xQ, xR, flatR, eqCells_ok, eqSh, eqBs, Nat.reduceLT, decide_true, Nat.reduceBEq, Nat.reduceAdd, IOp.dst, IOp.isF, IOp.args, coolOp, Nat.reduceSub, h3, ho3, h4, h5, ho5, ho24, h6, ho41, h7, ho43, h8, h9]; omega))⟩).trans rfl
  clear h3 ho3 h4 h5 ho5 ho24 h6 ho41 h7 ho43 h8 h9
  rintro i st ⟨hle, h3, ho3, h4, h5, ho5, ho24, h6, ho41, h7, ho43, h8, h10, h11⟩ ih
  by_cases hia : i < af.length
  · obtain ⟨y, hy⟩ : ∃ y, af[i]? = some y := ⟨_, List.getElem?_eq_getElem hia⟩
    have hw := w_succ (i := i) (by omega)
    have hyb : y ∈ bs := hsub y (List.mem_of_getElem? hy)
    have hh := hasInt_ok bs y (by omega)
    by_cases h0 : 0 < i
    · simp only [h0, decide_true] at h10
      simp only [↓xP, xQ, xR, flatR, eqCells_ok, eqSh, eqBs, Nat.reduceLT, decide_true, Nat.reduceBEq, Nat.reduceAdd, IOp.dst, IOp.isF, IOp.args, coolOp, Nat.reduceSub, h3, ho3, h4, h5, ho5, ho24, h6, ho41, h7, ho43, h8, h10, h11, hia, hw]
      exact ih (i + 1) _ (by omega) ⟨by omega, (by and_intros <;> first | omega | rfl | (simp only [↓xP, xQ, xR, flatR, eqCells_ok, eqSh, eqBs, Nat.reduceLT, decide_true, Nat.reduceBEq, Nat.reduceAdd, IOp.dst, IOp.isF, IOp.args, coolOp, Nat.reduceSub, h3, ho3, h4, h5, ho5, ho24, h6, ho41, h7, ho43, h8, h10, h11]; done) | (simp only [↓xP, xQ, xR, flatR, eqCells_ok, eqSh, eqBs, Nat.reduceLT, decide_true, Nat.reduceBEq, Nat.reduceAdd, IOp.dst, IOp.isF, IOp.args, coolOp, Nat.reduceSub, h3, ho3, h4, h5, ho5, ho24, h6, ho41, h7, ho43, h8, h10, h11]; rfl) | (simp only [↓xP, xQ, xR, flatR, eqCells_ok, eqSh, eqBs, Nat.reduceLT, decide_true, Nat.reduceBEq, Nat.reduceAdd, IOp.dst, IOp.isF, IOp.args, coolOp, Nat.reduceSub, h3, ho3, h4, h5, ho5, ho24, h6, ho41, h7, ho43, h8, h10, h11]; omega))⟩
    · simp only [h0, decide_false] at h10
      simp only [↓xP, xQ, xR, flatR, eqCells_ok, eqSh, eqBs, Nat.reduceLT, decide_true, Nat.reduceBEq, Nat.reduceAdd, IOp.dst, IOp.isF, IOp.args, coolOp, Nat.reduceSub, h3, ho3, h4, h5, ho5, ho24, h6, ho41, h7, ho43, h8, h10, h11, hia, hy, iU, map_all, hh, hyb, hw]
      exact ih (i + 1) _ (by omega) ⟨by omega, (by and_intros <;> first | omega | rfl | (simp only [↓xP, xQ, xR, flatR, eqCells_ok, eqSh, eqBs, Nat.reduceLT, decide_true, Nat.reduceBEq, Nat.reduceAdd, IOp.dst, IOp.isF, IOp.args, coolOp, Nat.reduceSub, h3, ho3, h4, h5, ho5, ho24, h6, ho41, h7, ho43, h8, h10, h11]; done) | (simp only [↓xP, xQ, xR, flatR, eqCells_ok, eqSh, eqBs, Nat.reduceLT, decide_true, Nat.reduceBEq, Nat.reduceAdd, IOp.dst, IOp.isF, IOp.args, coolOp, Nat.reduceSub, h3, ho3, h4, h5, ho5, ho24, h6, ho41, h7, ho43, h8, h10, h11]; rfl) | (simp only [↓xP, xQ, xR, flatR, eqCells_ok, eqSh, eqBs, Nat.reduceLT, decide_true, Nat.reduceBEq, Nat.reduceAdd, IOp.dst, IOp.isF, IOp.args, coolOp, Nat.reduceSub, h3, ho3, h4, h5, ho5, ho24, h6, ho41, h7, ho43, h8, h10, h11]; omega))⟩
  have hei : i = af.length := by omega
  subst hei
  have h0 : 0 < af.length := by omega
  simp only [h0, decide_true] at h10
  clear ih
  cases g
  · simp only [↓xP, xQ, xR, flatR, eqCells_ok, eqSh, eqBs, Nat.reduceLT, decide_true, Nat.reduceBEq, Nat.reduceAdd, IOp.dst, IOp.isF, IOp.args, coolOp, Nat.reduceSub, h3, ho3, h4, h5, ho5, ho24, h6, ho41, h7, ho43, h8, h10, h11, hia, map_all, hxv, alive_ok]
  obtain ⟨g0, hg0, hgn⟩ := hg1.1 rfl
  by_cases h60 : (60 : Int) < e + l.length
  · simp only [↓xP, xQ, xR, flatR, eqCells_ok, eqSh, eqBs, Nat.reduceLT, decide_true, Nat.reduceBEq, Nat.reduceAdd, IOp.dst, IOp.isF, IOp.args, coolOp, Nat.reduceSub, h3, ho3, h4, h5, ho5, ho24, h6, ho41, h7, ho43, h8, h10, h11, hia, map_all, hxv, alive_ok, hwe, List.length_map, gt_iff_lt, h60]
  have hml := hmem g0 hgn (by omega) hg0
  simp only [↓xP, xQ, xR, flatR, eqCells_ok, eqSh, eqBs, Nat.reduceLT, decide_true, Nat.reduceBEq, Nat.reduceAdd, IOp.dst, IOp.isF, IOp.args, coolOp, Nat.reduceSub, h3, ho3, h4, h5, ho5, ho24, h6, ho41, h7, ho43, h8, h10, h11, hia, map_all, hxv, alive_ok, hwe, List.length_map, gt_iff_lt, h60]
  refine (loop_ind (fun (i : Nat) st => i ≤ l.length ∧ st.s 3 = .t (.sc (.ptr (.loc 3 0) 0 0)) ∧ st.o (.loc 3 0) = some (.box [.u (.int .i64 e), .u (.sl 1 (l.map iU)), .u (.bool f)]) ∧ st.s 4 = DU (.sl 1 (nodes.map iU)) ∧ st.s 5 = .t (.sc (.ptr (.loc 5 0) 0 0)) ∧ st.o (.loc 5 0) = some (.box [.u (.int .i64 xe), .own (.loc 24 0) xl.length, .u (.bool xf)]) ∧ st.o (.loc 24 0) = some (.row 1 (xl.map iU)) ∧
    st.s 12 = .t (.sc (.own (.loc 94 0) ((l.take i).filter (fun x => !decide (x ∈ nodes))).length)) ∧ st.o (.loc 94 0) = some (.row 1 (((l.take i).filter (fun x => !decide (x ∈ nodes))).map iU)) ∧ st.s 13 = DI i) (fun i => l.length - i) (fun i => ok1 (B true)) ?_ 0 ⟨by omega, (by and_intros <;> first | omega | rfl | (simp only [↓xP, xQ, xR, flatR, eqCells_ok, eqSh, eqBs, Nat.reduceLT, decide_true, Nat.reduceBEq, Nat.reduceAdd, IOp.dst, IOp.isF, IOp.args, coolOp, Nat.reduceSub, h3, ho3, h4, h5, ho5, ho24, List.take_zero, List.filter_nil, List.map_nil, List.length_nil]; done) | (simp only [↓xP, xQ, xR, flatR, eqCells_ok, eqSh, eqBs, Nat.reduceLT, decide_true, Nat.reduceBEq, Nat.reduceAdd, IOp.dst, IOp.isF, IOp.args, coolOp, Nat.reduceSub, h3, ho3, h4, h5, ho5, ho24, List.take_zero, List.filter_nil, List.map_nil, List.length_nil]; rfl) | (simp only [↓xP, xQ, xR, flatR, eqCells_ok, eqSh, eqBs, Nat.reduceLT, decide_true, Nat.reduceBEq, Nat.reduceAdd, IOp.dst, IOp.isF, IOp.args, coolOp, Nat.reduceSub, h3, ho3, h4, h5, ho5, ho24, List.take_zero, List.filter_nil, List.map_nil, List.length_nil]; omega))⟩).trans rfl
  clear h3 ho3 h4 h5 ho5 ho24 h6 ho41 h7 ho43 h8 h10 h11
  rintro i st ⟨hle, h3, ho3, h4, h5, ho5, ho24, h12, ho94, h13⟩ ih
  by_cases hil : i < l.length
  · obtain ⟨y, hy⟩ : ∃ y, l[i]? = some y := ⟨_, List.getElem?_eq_getElem hil⟩
    have hw := w_succ (i := i) (by omega)
    have hh := hasInt_ok nodes y (by omega)
    have et : l.take (i + 1) = l.take i ++ [y] := by rw [List.take_add_one, hy]; rfl
    have hfl : ((l.take i).filter (fun x => !decide (x ∈ nodes))).length ≤ i := Nat.le_trans (List.length_filter_le _ _) (by rw [List.length_take]; omega)
    have q1 : ((l.take i).filter (fun x => !decide (x ∈ nodes))).length + 1 ≤ maxLen ∧ (((l.take i).filter (fun x => !decide (x ∈ nodes))).length + 1) * 8 ≤ 140737488355328 := small_max (by omega) (by omega)
    by_cases hyn : y ∈ nodes
    · have ef : (l.take (i + 1)).filter (fun x => !decide (x ∈ nodes)) = (l.take i).filter (fun x => !decide (x ∈ nodes)) := by rw [et, List.filter_append]; simp [hyn]
      simp only [↓xP, xQ, xR, flatR, eqCells_ok, eqSh, eqBs, Nat.reduceLT, decide_true, Nat.reduceBEq, Nat.reduceAdd, IOp.dst, IOp.isF, IOp.args, coolOp, Nat.reduceSub, h3, ho3, h4, h5, ho5, ho24, h12, ho94, h13, List.length_map, hil, hy, iU, hh, hyn, hw]
      exact ih (i + 1) _ (by omega) ⟨by omega, (by and_intros <;> first | omega | rfl | (simp only [↓xP, xQ, xR, flatR, eqCells_ok, eqSh, eqBs, Nat.reduceLT, decide_true, Nat.reduceBEq, Nat.reduceAdd, IOp.dst, IOp.isF, IOp.args, coolOp, Nat.reduceSub, h3, ho3, h4, h5, ho5, ho24, h12, ho94, h13, ef]; done) | (simp only [↓xP, xQ, xR, flatR, eqCells_ok, eqSh, eqBs, Nat.reduceLT, decide_true, Nat.reduceBEq, Nat.reduceAdd, IOp.dst, IOp.isF, IOp.args, coolOp, Nat.reduceSub, h3, ho3, h4, h5, ho5, ho24, h12, ho94, h13, ef]; rfl) | (simp only [↓xP, xQ, xR, flatR, eqCells_ok, eqSh, eqBs, Nat.reduceLT, decide_true, Nat.reduceBEq, Nat.reduceAdd, IOp.dst, IOp.isF, IOp.args, coolOp, Nat.reduceSub, h3, ho3, h4, h5, ho5, ho24, h12, ho94, h13, ef]; omega))⟩
    · have ef : (l.take (i + 1)).filter (fun x => !decide (x ∈ nodes)) = (l.take i).filter (fun x => !decide (x ∈ nodes)) ++ [y] := by rw [et, List.filter_append]; simp [hyn]
      simp only [↓xP, xQ, xR, flatR, eqCells_ok, eqSh, eqBs, Nat.reduceLT, decide_true, Nat.reduceBEq, Nat.reduceAdd, IOp.dst, IOp.isF, IOp.args, coolOp, Nat.reduceSub, h3, ho3, h4, h5, ho5, ho24, h12, ho94, h13, List.length_map, hil, hy, iU, hh, hyn, hw, q1.1, q1.2]
      exact ih (i + 1) _ (by omega) ⟨by omega, (by and_intros <;> first | omega | rfl | (simp only [↓xP, xQ, xR, flatR, eqCells_ok, eqSh, eqBs, Nat.reduceLT, decide_true, Nat.reduceBEq, Nat.reduceAdd, IOp.dst, IOp.isF, IOp.args, coolOp, Nat.reduceSub, h3, ho3, h4, h5, ho5, ho24, h12, ho94, h13, ef, List.map_append, List.map_cons, List.map_nil, iU, List.length_append, List.length_cons, List.length_nil]; done) | (simp only [↓xP, xQ, xR, flatR, eqCells_ok, eqSh, eqBs, Nat.reduceLT, decide_true, Nat.reduceBEq, Nat.reduceAdd, IOp.dst, IOp.isF, IOp.args, coolOp, Nat.reduceSub, h3, ho3, h4, h5, ho5, ho24, h12, ho94, h13, ef, List.map_append, List.map_cons, List.map_nil, iU, List.length_append, List.length_cons, List.length_nil]; rfl) | (simp only [↓xP, xQ, xR, flatR, eqCells_ok, eqSh, eqBs, Nat.reduceLT, decide_true, Nat.reduceBEq, Nat.reduceAdd, IOp.dst, IOp.isF, IOp.args, coolOp, Nat.reduceSub, h3, ho3, h4, h5, ho5, ho24, h12, ho94, h13, ef, List.map_append, List.map_cons, List.map_nil, iU, List.length_append, List.length_cons, List.length_nil]; omega))⟩
  have hei : i = l.length := by omega
  subst hei
  rw [List.take_length] at h12 ho94
  have hsi := sameInts_ok xl (l.filter (fun x => !decide (x ∈ nodes))) (by omega)
  rw [← hml] at h12 ho94 hsi
  simp only [↓xP, xQ, xR, flatR, eqCells_ok, eqSh, eqBs, Nat.reduceLT, decide_true, Nat.reduceBEq, Nat.reduceAdd, IOp.dst, IOp.isF, IOp.args, coolOp, Nat.reduceSub, h3, ho3, h4, h5, ho5, ho24, h12, ho94, h13, List.length_map, hil, map_all, hsi]
end Go.Proofs.YtdnhamehpdlbgaaV
