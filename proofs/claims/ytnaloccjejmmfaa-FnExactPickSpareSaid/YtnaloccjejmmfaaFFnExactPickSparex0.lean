/- Functions that the law FnExactPickSpare reaches, as plain functions of Lean, and that the machine's calls come to them: written out of the translation by a program of this session over the kit's printer. Conditions: as each lemma states them. -/
import Derived.Test.YtnaloccjejmmfaaProg
import Derived.Below
import Derived.Deep.Draws
import Derived.Deep.AppendLies
import Derived.Maps.AppendAt
import Derived.OwnWalk
import Derived.Laws.BytesArg
import Derived.Laws.MakeOwn
import Derived.Laws.OwnMore
import Derived.Deep.OwnRows
import Derived.Tactics
import Derived.Lib.ConvBytes
import Derived.Laws.Slices
import Derived.WalkKit
import Derived.KernelRfl
import Derived.RowKit3
import Derived.Deep.LoopGhost
import Derived.Deep.QuietTactic
import Derived.BigQuiet
import Derived.WideLaws
import Derived.Deep.DeepCutAuto
import Derived.Deep.CutBlock
import Derived.Deep.RegionHeld3
import Derived.Laws.Rows
import Derived.Lib.AppendStr
import Derived.ArgAppend
import Derived.Laws.IdiomCopy
import Derived.OrdersHeld
import Derived.Laws.BitsLemmas
import Derived.RowKit
import Derived.Test.YtnaloccjejmmfaaWWords
import Derived.Test.YtnaloccjejmmfaaWLast
import Derived.Test.YtnaloccjejmmfaaWTab
import Derived.Test.YtnaloccjejmmfaaWFour
import Derived.Test.YtnaloccjejmmfaaWQPut
import Derived.Test.YtnaloccjejmmfaaWApart
import Derived.Test.YtnaloccjejmmfaaWArr
import Derived.Test.YtnaloccjejmmfaaWZeros
import Derived.Test.YtnaloccjejmmfaaWFoot
import Derived.Test.YtnaloccjejmmfaaWKept
import Derived.Test.YtnaloccjejmmfaaWShare
import Derived.Test.YtnaloccjejmmfaaWN
import Derived.Test.YtnaloccjejmmfaaWFootNe
import Derived.Test.YtnaloccjejmmfaaWAt
import Derived.Test.YtnaloccjejmmfaaWEqStruct
import Derived.Test.YtnaloccjejmmfaaWRepsOne
import Derived.Test.YtnaloccjejmmfaaWInv
import Derived.Test.YtnaloccjejmmfaaWInvWords
import Derived.Test.YtnaloccjejmmfaaWGuard
import Derived.Test.YtnaloccjejmmfaaWNEv
import Derived.Test.YtnaloccjejmmfaaWMore
import Derived.Test.YtnaloccjejmmfaaMine
namespace Go.Proofs.Ytnaloccjejmmfaa.FFnExactPickSpare
open Go.RowKit Go.Proofs.YtnaloccjejmmfaaW.PrintWords Go.Proofs.YtnaloccjejmmfaaW.PrintLast Go.Proofs.YtnaloccjejmmfaaW.PrintMore
attribute [local go_sem] max2_int min2_int max_two min_two max_three min_three max_four min_four   -- for this text's walks alone
set_option linter.unusedVariables false
set_option linter.unusedSimpArgs false



def errW : Option Int → Value
  | none => .nilIface
  | some c => .iface 0 (.int .i64 c)
theorem errW_none : errW none = .nilIface := rfl
theorem errW_some (c : Int) : errW (some c) = .iface 0 (.int .i64 c) := rfl

theorem info3 : (Try.prog.info? 3).map (fun i => (i.zero, i.size, i.bytes)) = some (some (.int .i64 0), 1, 8) := by kernel_rfl
theorem info4 : (Try.prog.info? 4).map (fun i => (i.zero, i.size, i.bytes)) = some (some (.bool false), 1, 1) := by kernel_rfl
-- the values' own types

end Go.Proofs.Ytnaloccjejmmfaa.FFnExactPickSpare
