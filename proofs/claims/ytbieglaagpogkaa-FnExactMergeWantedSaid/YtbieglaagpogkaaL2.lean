/- Pairs by the reference; pieces. No conditions but those that the lemmas state. -/
import Derived.Test.YtbieglaagpogkaaL1
namespace Go.Proofs.YtbieglaagpogkaaV
open Go Go.RowKit
set_option linter.unusedVariables false
set_option linter.unusedSimpArgs false
set_option maxRecDepth 4000
theorem pairsValid_spec (l : List Pair) : EE F 92 [L 2 (l.map Pair.u)] [] = ok1 (B (pairsValid l)) := by
  rw [R92, b92]
  simp only [↓xP, xQ, xR, eqCells_ok, eqSh, eqBs, Nat.reduceBEq, Nat.reduceAdd, IOp.dst, IOp.isF, IOp.args, coolOp]
  refine sel_split (fun h => ?_) (fun h => ?_)
  · simp only [decide_eq_true_eq] at h
    simp [pairsValid, show ¬ l.length ≤ 48 by omega]
  · simp only [decide_eq_false_iff_not] at h
    refine (loop_ind (fun (i : Nat) st => st.s 0 = DU (.sl 2 (l.map Pair.u)) ∧ st.s 3 = DI i) (fun i => l.length - i) (fun i => ok1 (B (allF l.length (pairAt l) i))) ?_ 0 ⟨by simp only [↓xP, xQ, xR, eqCells_ok, eqSh, eqBs, Nat.reduceBEq, Nat.reduceAdd, IOp.dst, IOp.isF, IOp.args, coolOp], by simp only [↓xP, xQ, xR, eqCells_ok, eqSh, eqBs, Nat.reduceBEq, Nat.reduceAdd, IOp.dst, IOp.isF, IOp.args, coolOp]; rfl⟩).trans ?_
    · rintro i st ⟨h0, h3⟩ ih
      by_cases hi : i < l.length
      · obtain ⟨⟨pk, pv⟩, hp⟩ : ∃ p, l[i]? = some p := ⟨_, List.getElem?_eq_getElem hi⟩
        have hw := w_succ (i := i) (by omega)
        rw [allF_lt hi]
        by_cases hz : i = 0
        · have h01 : ¬ (0 : Int) < (i : Int) := by omega
          simp only [↓xP, xQ, xR, eqCells_ok, eqSh, eqBs, Nat.reduceBEq, Nat.reduceAdd, IOp.dst, IOp.isF, IOp.args, coolOp, h0, h3, hi, hp, hw, h01, Pair.u, keyValid_spec, l1In_ok]
          repeat' (refine sel_split (fun h => ?_) (fun h => ?_))
          · simp_all [pairAt]
          · simp_all [pairAt]
          · rw [ih (i + 1) _ (by omega) ⟨by simp only [↓xP, xQ, xR, eqCells_ok, eqSh, eqBs, Nat.reduceBEq, Nat.reduceAdd, IOp.dst, IOp.isF, IOp.args, coolOp, h0], by simp only [↓xP, xQ, xR, eqCells_ok, eqSh, eqBs, Nat.reduceBEq, Nat.reduceAdd, IOp.dst, IOp.isF, IOp.args, coolOp]⟩]
            simp_all [pairAt]
        · obtain ⟨⟨qk, qv⟩, hq⟩ : ∃ q, l[i - 1]? = some q := ⟨_, List.getElem?_eq_getElem (by omega)⟩
          have hw2 : IntKind.i64.wrap ((i : Int) - 1) = ((i - 1 : Nat) : Int) := by rw [w64 (by omega) (by omega)]; omega
          have h01 : (0 : Int) < (i : Int) := by omega
          simp only [↓xP, xQ, xR, eqCells_ok, eqSh, eqBs, Nat.reduceBEq, Nat.reduceAdd, IOp.dst, IOp.isF, IOp.args, coolOp, h0, h3, hi, hp, hw, hw2, hq, h01, Pair.u, keyValid_spec, l1In_ok, le_iff]
          repeat' (refine sel_split (fun h => ?_) (fun h => ?_))
          · simp_all [pairAt]
          · simp_all [pairAt]
          · simp_all [pairAt]
          · rw [ih (i + 1) _ (by omega) ⟨by simp only [↓xP, xQ, xR, eqCells_ok, eqSh, eqBs, Nat.reduceBEq, Nat.reduceAdd, IOp.dst, IOp.isF, IOp.args, coolOp, h0], by simp only [↓xP, xQ, xR, eqCells_ok, eqSh, eqBs, Nat.reduceBEq, Nat.reduceAdd, IOp.dst, IOp.isF, IOp.args, coolOp]⟩]
            simp_all [pairAt]
      · simp only [↓xP, xQ, xR, eqCells_ok, eqSh, eqBs, Nat.reduceBEq, Nat.reduceAdd, IOp.dst, IOp.isF, IOp.args, coolOp, h0, h3, hi]
        rw [allF_ge hi]
    · simp [pairsValid, show l.length ≤ 48 by omega]
theorem pairsValid_at {l : List Pair} (h : pairsValid l = true) {i : Nat} {p : Pair} (hp : l[i]? = some p) : keyValid p.key = true ∧ inR p.value 0 999 = true := by
  simp only [pairsValid, Bool.and_eq_true, decide_eq_true_eq] at h
  have := (allF_iff _ 0 rfl).1 h.2 i (by omega) (List.getElem?_eq_some_iff.1 hp).1
  simp only [pairAt, hp, Bool.and_eq_true] at this
  exact this.1
/-! ### Pieces -/
def pieceValid (p : Piece) : Bool := intervalValid p.span && pairsValid p.pairs && p.pairs.all fun q => inside p.span q.key
theorem pieceValid_impl (lo hi : Str) (l : List Pair) : EE F 33 [.ag [.u (.str lo), .u (.str hi), .u (.sl 2 (l.map Pair.u))]] [] = ok1 (B (pieceValid ⟨⟨lo, hi⟩, l⟩)) := by
  rw [R33, b33]
  simp only [↓xP, xQ, xR, eqCells_ok, eqSh, eqBs, Nat.reduceBEq, Nat.reduceAdd, IOp.dst, IOp.isF, IOp.args, coolOp, intervalValid_impl, pairsValid_impl]
  refine sel_split (fun h => ?_) (fun h => ?_)
  · simp_all [pieceValid]
  refine sel_split (fun h2 => ?_) (fun h2 => ?_)
  · simp_all [pieceValid]
  simp only [Bool.not_eq_false'] at h h2
  have hlen : l.length ≤ 48 := by simp only [pairsValid, Bool.and_eq_true, decide_eq_true_eq] at h2; exact h2.1
  refine (loop_ind (fun (i : Nat) st => st.s 1 = .t (.sc (.ptr (.loc 1 0) 0 0)) ∧ st.o (.loc 1 0) = some (.box [.u (.str lo), .u (.str hi), .u (.sl 2 (l.map Pair.u))]) ∧ st.s 16 = DU (.sl 2 (l.map Pair.u)) ∧ st.s 17 = DI l.length ∧ st.s 18 = DI i) (fun i => l.length - i) (fun i => ok1 (B ((l.drop i).all fun q => inside ⟨lo, hi⟩ q.key))) ?_ 0 ⟨by simp only [↓xP, xQ, xR, eqCells_ok, eqSh, eqBs, Nat.reduceBEq, Nat.reduceAdd, IOp.dst, IOp.isF, IOp.args, coolOp], by simp only [↓xP, xQ, xR, eqCells_ok, eqSh, eqBs, Nat.reduceBEq, Nat.reduceAdd, IOp.dst, IOp.isF, IOp.args, coolOp], by simp only [↓xP, xQ, xR, eqCells_ok, eqSh, eqBs, Nat.reduceBEq, Nat.reduceAdd, IOp.dst, IOp.isF, IOp.args, coolOp], by simp only [↓xP, xQ, xR, eqCells_ok, eqSh, eqBs, Nat.reduceBEq, Nat.reduceAdd, IOp.dst, IOp.isF, IOp.args, coolOp], by simp only [↓xP, xQ, xR, eqCells_ok, eqSh, eqBs, Nat.reduceBEq, Nat.reduceAdd, IOp.dst, IOp.isF, IOp.args, coolOp]; rfl⟩).trans ?_
  · rintro i st ⟨h1, ho, h16, h17, h18⟩ ih
    by_cases hi' : i < l.length
    · obtain ⟨⟨pk, pv⟩, hp⟩ : ∃ p, l[i]? = some p := ⟨_, List.getElem?_eq_getElem hi'⟩
      have hd : l.drop i = ⟨pk, pv⟩ :: l.drop (i + 1) := by rw [List.drop_eq_getElem_cons hi', (List.getElem?_eq_some_iff.1 hp).2]
      have hw := w_succ (i := i) (by omega)
      simp only [↓xP, xQ, xR, eqCells_ok, eqSh, eqBs, Nat.reduceBEq, Nat.reduceAdd, IOp.dst, IOp.isF, IOp.args, coolOp, h1, ho, h16, h17, h18, hi', hp, hw, Pair.u, inside_ok]
      rw [hd]
      refine sel_split (fun h => ?_) (fun h => ?_)
      · simp_all
      · rw [ih (i + 1) _ (by omega) ⟨by simp only [↓xP, xQ, xR, eqCells_ok, eqSh, eqBs, Nat.reduceBEq, Nat.reduceAdd, IOp.dst, IOp.isF, IOp.args, coolOp, h1], by simp only [↓xP, xQ, xR, eqCells_ok, eqSh, eqBs, Nat.reduceBEq, Nat.reduceAdd, IOp.dst, IOp.isF, IOp.args, coolOp, ho], by simp only [↓xP, xQ, xR, eqCells_ok, eqSh, eqBs, Nat.reduceBEq, Nat.reduceAdd, IOp.dst, IOp.isF, IOp.args, coolOp, h16], by simp only [↓xP, xQ, xR, eqCells_ok, eqSh, eqBs, Nat.reduceBEq, Nat.reduceAdd, IOp.dst, IOp.isF, IOp.args, coolOp, h17], by simp only [↓xP, xQ, xR, eqCells_ok, eqSh, eqBs, Nat.reduceBEq, Nat.reduceAdd, IOp.dst, IOp.isF, IOp.args, coolOp]⟩]
        simp_all
    · simp only [↓xP, xQ, xR, eqCells_ok, eqSh, eqBs, Nat.reduceBEq, Nat.reduceAdd, IOp.dst, IOp.isF, IOp.args, coolOp, h1, ho, h16, h17, h18, hi']
      rw [List.drop_of_length_le (by omega)]; rfl
  · simp [pieceValid, h, h2]
theorem pieceValid_spec (lo hi : Str) (l : List Pair) : EE F 31 [.ag [.u (.str lo), .u (.str hi), .u (.sl 2 (l.map Pair.u))]] [] = ok1 (B (pieceValid ⟨⟨lo, hi⟩, l⟩)) := by
  rw [R31, b31]
  simp only [↓xP, xQ, xR, eqCells_ok, eqSh, eqBs, Nat.reduceBEq, Nat.reduceAdd, IOp.dst, IOp.isF, IOp.args, coolOp, intervalValid_spec, pairsValid_spec]
  refine sel_split (fun h => ?_) (fun h => ?_)
  · simp_all [pieceValid]
  refine sel_split (fun h2 => ?_) (fun h2 => ?_)
  · simp_all [pieceValid]
  simp only [Bool.not_eq_false'] at h h2
  have hlen : l.length ≤ 48 := by simp only [pairsValid, Bool.and_eq_true, decide_eq_true_eq] at h2; exact h2.1
  refine (loop_ind (fun (i : Nat) st => st.s 1 = .t (.sc (.ptr (.loc 1 0) 0 0)) ∧ st.o (.loc 1 0) = some (.box [.u (.str lo), .u (.str hi), .u (.sl 2 (l.map Pair.u))]) ∧ st.s 3 = DI i) (fun i => l.length - i) (fun i => ok1 (B ((l.drop i).all fun q => inside ⟨lo, hi⟩ q.key))) ?_ 0 ⟨by simp only [↓xP, xQ, xR, eqCells_ok, eqSh, eqBs, Nat.reduceBEq, Nat.reduceAdd, IOp.dst, IOp.isF, IOp.args, coolOp], by simp only [↓xP, xQ, xR, eqCells_ok, eqSh, eqBs, Nat.reduceBEq, Nat.reduceAdd, IOp.dst, IOp.isF, IOp.args, coolOp], by simp only [↓xP, xQ, xR, eqCells_ok, eqSh, eqBs, Nat.reduceBEq, Nat.reduceAdd, IOp.dst, IOp.isF, IOp.args, coolOp]; rfl⟩).trans ?_
  · rintro i st ⟨h1, ho, h3⟩ ih
    by_cases hi' : i < l.length
    · obtain ⟨⟨pk, pv⟩, hp⟩ : ∃ p, l[i]? = some p := ⟨_, List.getElem?_eq_getElem hi'⟩
      have hd : l.drop i = ⟨pk, pv⟩ :: l.drop (i + 1) := by rw [List.drop_eq_getElem_cons hi', (List.getElem?_eq_some_iff.1 hp).2]
      have hw := w_succ (i := i) (by omega)
      have hk := (pairsValid_at h2 hp).1
      simp only [↓xP, xQ, xR, eqCells_ok, eqSh, eqBs, Nat.reduceBEq, Nat.reduceAdd, IOp.dst, IOp.isF, IOp.args, coolOp, h1, ho, h3, hi', hp, hw, Pair.u, intervalHas_spec]
      rw [hd]
      refine sel_split (fun h => ?_) (fun h => ?_)
      · simp_all [intervalHas]
      · rw [ih (i + 1) _ (by omega) ⟨by simp only [↓xP, xQ, xR, eqCells_ok, eqSh, eqBs, Nat.reduceBEq, Nat.reduceAdd, IOp.dst, IOp.isF, IOp.args, coolOp, h1], by simp only [↓xP, xQ, xR, eqCells_ok, eqSh, eqBs, Nat.reduceBEq, Nat.reduceAdd, IOp.dst, IOp.isF, IOp.args, coolOp, ho], by simp only [↓xP, xQ, xR, eqCells_ok, eqSh, eqBs, Nat.reduceBEq, Nat.reduceAdd, IOp.dst, IOp.isF, IOp.args, coolOp]⟩]
        simp_all [intervalHas]
    · simp only [↓xP, xQ, xR, eqCells_ok, eqSh, eqBs, Nat.reduceBEq, Nat.reduceAdd, IOp.dst, IOp.isF, IOp.args, coolOp, h1, ho, h3, hi']
      rw [List.drop_of_length_le (by omega)]; rfl
  · simp [pieceValid, h, h2]
end Go.Proofs.YtbieglaagpogkaaV
