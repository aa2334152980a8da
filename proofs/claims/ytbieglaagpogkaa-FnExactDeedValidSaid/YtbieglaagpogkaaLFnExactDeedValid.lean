/- The law FnExactDeedValid returns true for all data. No conditions but that the data are of the law's types. -/
import Derived.Test.YtbieglaagpogkaaT2
import Derived.Test.YtbieglaagpogkaaL3
namespace Go.Proofs.YtbieglaagpogkaaV
open Go Go.RowKit
set_option linter.unusedVariables false
set_option linter.unusedSimpArgs false
set_option maxRecDepth 4000
theorem law_FnExactDeedValid (us : List U) (hl : us.length = 24) (ht : ∀ (j : Nat) ty u, [Ty.i .i64, .i .i64, .i .i64, .i .i64, .i .i64, .s, .i .i64, .i .i64, .i .i64, .i .i64, .i .i64, .i .i64, .i .i64, .i .i64, .s, .i .i64, .i .i64, .i .i64, .i .i64, .i .i64, .s, .i .i64, .i .i64, .i .i64][j]? = some ty → us[j]? = some u → UT ty u) : EE F 8 [.ag (us.map .u)] [] = ok1 (B true) := by
  obtain ⟨⟨k, who, node, num, ⟨wk, wkey, wv, wo⟩, ⟨ek, en, ep, ⟨ec, es, ⟨ck, ckey, cv, co⟩⟩⟩, ⟨pk, pf, ps, pkey, pa, pb, pc⟩⟩, rfl, hf⟩ := Deed.of us hl ht
  rw [R8, b8]
  simp only [↓xP, xQ, Nat.reduceBEq, Nat.reduceAdd, IOp.dst, IOp.isF, IOp.args, coolOp, Deed.u, List.map, szDeed_ok]
  refine sel_split (fun h => ?_) (fun h => ?_)
  · rfl
  simp only [↓xP, xQ, Nat.reduceBEq, Nat.reduceAdd, IOp.dst, IOp.isF, IOp.args, coolOp, toDeed_ok, deedValid_spec, deedValid_impl]
  repeat' (refine sel_split (fun h => ?_) (fun h => ?_))
  all_goals simp_all
end Go.Proofs.YtbieglaagpogkaaV
