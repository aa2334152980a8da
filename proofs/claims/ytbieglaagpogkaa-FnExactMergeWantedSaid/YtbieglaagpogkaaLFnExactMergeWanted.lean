/- The law FnExactMergeWanted returns true for all data. No conditions but that the data are of the law's types. -/
import Derived.Test.YtbieglaagpogkaaT2
import Derived.Test.YtbieglaagpogkaaL5
namespace Go.Proofs.YtbieglaagpogkaaV
open Go Go.RowKit
set_option linter.unusedVariables false
set_option linter.unusedSimpArgs false
set_option maxRecDepth 4000
theorem law_FnExactMergeWanted (us : List U) (hl : us.length = 6) (ht : ∀ (j : Nat) ty u, [Ty.s, .s, .sl [.s, .i .i64], .sl [.i .i64, .i .i64, .i .i64], .b, .s][j]? = some ty → us[j]? = some u → UT ty u)
    (us' : List U) (hl' : us'.length = 6) (ht' : ∀ (j : Nat) ty u, [Ty.s, .s, .sl [.s, .i .i64], .sl [.i .i64, .i .i64, .i .i64], .b, .s][j]? = some ty → us'[j]? = some u → UT ty u) : EE F 11 [.ag (us.map .u), .ag (us'.map .u)] [] = ok1 (B true) := by
  obtain ⟨⟨⟨lo, hi⟩, l, k, se, cut⟩, rfl, hf⟩ := State.of us hl ht
  obtain ⟨⟨⟨lo', hi'⟩, l', k', se', cut'⟩, rfl, hf'⟩ := State.of us' hl' ht'
  rw [R11, b11]
  simp only [↓xP, xQ, xR, eqCells_ok, eqSh, eqBs, Nat.reduceBEq, Nat.reduceAdd, IOp.dst, IOp.isF, IOp.args, coolOp, State.u, List.map, szState_ok lo hi l k se cut hf, szState_ok lo' hi' l' k' se' cut' hf']
  refine sel_split (fun h => ?_) (fun h => ?_)
  · rfl
  refine sel_split (fun h2 => ?_) (fun h2 => ?_)
  · rfl
  simp only [decide_eq_false_iff_not] at h h2
  have hz := szState_le _ hf 1048576 (by omega) (by omega)
  have hs := hz.2 (by omega)
  have hz1 := hz.1
  have hs' := (szState_le _ hf' (szStateG ⟨⟨lo, hi⟩, l, k, se, cut⟩ 1048576) (by omega) (by omega)).2 (by omega)
  have hn : k.length ≤ 4611686018427387904 := Nat.le_trans hs.2.2.1.1 (by omega)
  have hn' : k'.length ≤ 4611686018427387904 := Nat.le_trans hs'.2.2.1.1 (by omega)
  simp only [↓xP, xQ, xR, eqCells_ok, eqSh, eqBs, Nat.reduceBEq, Nat.reduceAdd, IOp.dst, IOp.isF, IOp.args, coolOp, toState_ok lo hi l k se cut hs, toState_ok lo' hi' l' k' se' cut' hs', mergeWanted_spec lo hi l k se cut hn lo' hi' l' k' se' cut' hn', mergeWanted_impl lo hi l k se cut hn lo' hi' l' k' se' cut' hn', eqState_ok lo hi l k se cut hs, eqState_ok lo' hi' l' k' se' cut' hs']
  repeat' (refine sel_split (fun h => ?_) (fun h => ?_))
  all_goals simp_all
end Go.Proofs.YtbieglaagpogkaaV
