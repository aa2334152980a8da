/- Functions that the law FnPlaceMembers reaches, as plain functions of Lean, and that the machine's calls come to them: written out of the translation by a program of this session over the kit's printer. Conditions: as each lemma states them. -/
import Derived.Test.YtbieglaagpogkaaProg
import Derived.Below
import Derived.Deep.Draws
import Derived.Deep.AppendLies
import Derived.Maps.AppendAt
import Derived.OwnWalk
import Derived.Laws.BytesArg
import Derived.Laws.MakeOwn
import Derived.Laws.OwnMore
import Derived.Deep.OwnRows
import Derived.Tactics
import Derived.Lib.ConvBytes
import Derived.Laws.Slices
import Derived.WalkKit
import Derived.KernelRfl
import Derived.RowKit3
import Derived.Deep.LoopGhost
import Derived.Deep.QuietTactic
import Derived.BigQuiet
import Derived.WideLaws
import Derived.Deep.DeepCutAuto
import Derived.Deep.CutBlock
import Derived.Deep.RegionHeld3
import Derived.Laws.Rows
import Derived.Lib.AppendStr
import Derived.ArgAppend
import Derived.Laws.IdiomCopy
import Derived.OrdersHeld
import Derived.Laws.BitsLemmas
import Derived.RowKit
import Derived.Test.YtbieglaagpogkaaWWords
import Derived.Test.YtbieglaagpogkaaWLast
import Derived.Test.YtbieglaagpogkaaWTab
import Derived.Test.YtbieglaagpogkaaWFour
import Derived.Test.YtbieglaagpogkaaWQPut
import Derived.Test.YtbieglaagpogkaaWApart
import Derived.Test.YtbieglaagpogkaaWArr
import Derived.Test.YtbieglaagpogkaaWZeros
import Derived.Test.YtbieglaagpogkaaWFoot
import Derived.Test.YtbieglaagpogkaaWKept
import Derived.Test.YtbieglaagpogkaaWShare
import Derived.Test.YtbieglaagpogkaaWN
import Derived.Test.YtbieglaagpogkaaWFootNe
import Derived.Test.YtbieglaagpogkaaWAt
import Derived.Test.YtbieglaagpogkaaWEqStruct
import Derived.Test.YtbieglaagpogkaaWRepsOne
import Derived.Test.YtbieglaagpogkaaWInv
import Derived.Test.YtbieglaagpogkaaWInvWords
import Derived.Test.YtbieglaagpogkaaWGuard
import Derived.Test.YtbieglaagpogkaaWNEv
import Derived.Test.YtbieglaagpogkaaWMore
import Derived.Test.YtbieglaagpogkaaMine
namespace Go.Proofs.Ytbieglaagpogkaa.FFnPlaceMembers
open Go.RowKit Go.Proofs.YtbieglaagpogkaaW.PrintWords Go.Proofs.YtbieglaagpogkaaW.PrintLast Go.Proofs.YtbieglaagpogkaaW.PrintMore
attribute [local go_sem] max2_int min2_int max_two min_two max_three min_three max_four min_four   -- for this text's walks alone
set_option linter.unusedVariables false
set_option linter.unusedSimpArgs false



def errW : Option Int → Value
  | none => .nilIface
  | some c => .iface 0 (.int .i64 c)
theorem errW_none : errW none = .nilIface := rfl
theorem errW_some (c : Int) : errW (some c) = .iface 0 (.int .i64 c) := rfl

theorem info3 : (Try.prog.info? 3).map (fun i => (i.zero, i.size, i.bytes)) = some (some (.int .i64 0), 1, 8) := by kernel_rfl
theorem info4 : (Try.prog.info? 4).map (fun i => (i.zero, i.size, i.bytes)) = some (some (.bool false), 1, 1) := by kernel_rfl
theorem info5 : (Try.prog.info? 5).map (fun i => (i.zero, i.size, i.bytes)) = some (some (.int .u8 0), 1, 1) := by kernel_rfl
-- the values' own types

end Go.Proofs.Ytbieglaagpogkaa.FFnPlaceMembers
