/- The law FnExactPieceValid returns true for all data. No conditions but that the data are of the law's types. -/
import Derived.Test.YtbieglaagpogkaaT2
import Derived.Test.YtbieglaagpogkaaL2
namespace Go.Proofs.YtbieglaagpogkaaV
open Go Go.RowKit
set_option linter.unusedVariables false
set_option linter.unusedSimpArgs false
set_option maxRecDepth 4000
theorem law_FnExactPieceValid (us : List U) (hl : us.length = 3) (ht : ∀ (j : Nat) ty u, [Ty.s, .s, .sl [.s, .i .i64]][j]? = some ty → us[j]? = some u → UT ty u) : EE F 6 [.ag (us.map .u)] [] = ok1 (B true) := by
  obtain ⟨⟨⟨lo, hi⟩, l⟩, rfl, hf⟩ := Piece.of us hl ht
  rw [R6, b6]
  simp only [↓xP, xQ, Nat.reduceBEq, Nat.reduceAdd, IOp.dst, IOp.isF, IOp.args, coolOp, Piece.u, szPiece_ok lo hi l hf]
  refine sel_split (fun h => ?_) (fun h => ?_)
  · rfl
  simp only [decide_eq_false_iff_not] at h
  have hs := (szPiece_le _ hf 1048576 (by omega) (by omega)).2 (by omega)
  simp only [↓xP, xQ, Nat.reduceBEq, Nat.reduceAdd, IOp.dst, IOp.isF, IOp.args, coolOp, toPiece_ok lo hi l hs, pieceValid_spec, pieceValid_impl, eqPiece_ok lo hi l hs]
end Go.Proofs.YtbieglaagpogkaaV
