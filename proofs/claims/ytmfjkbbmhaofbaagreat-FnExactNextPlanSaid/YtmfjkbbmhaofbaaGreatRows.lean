/-
  No cell of these rows narrows 'for every input' (looked for: loops, veiled, ifaces, maps, wideKeys, modest, calm, conditions, laid).
  DERIVED. THE GIVEN ROWS OF THIS SEAT. 11 by the template 'for every input the law returns true; each argument reads behind the call as it read before'; 0 by the template 'total and deterministic' (their statements: YtmfjkbbmhaofbaaGreatTotals.lean).
  GIVEN WITH THE SEED: the statements are not yours to turn. If you find one false, say at which input.
  Laid BY PROGRAM, IN A SANDBOX (cutbox-rows.mjs): the forced cells as the released guide's own fill.sh prints them over the translation cffa27edced3047e… (all of the seat's roots in one cut). By AI agents, Wed Nov 11 2026. No macro, syntax, notation, axiom, sorry.
-/
import Derived.Test.YtmfjkbbmhaofbaaGreatChecked
import GoSem.Claim
import GoSem.ClaimJoined
import GoSem.ClaimMapViews
import Derived.JoinedTies
import Derived.KernelRfl
namespace Go.Proofs.YtmfjkbbmhaofbaaGreat
/- THE CELL 'sum', in the pinned program and in every row, IS THE sha256 OF THE DUMP (.gsa) THAT YtmfjkbbmhaofbaaGreatProg.lean LOADS. Nothing in Lean hashes anything: it is a label: what it is worth is what the hold of that sum in a sandbox is worth. -/
noncomputable def Tryz.pinned : Pinned := { name := "ytmfjkbbmhaofbaagreat", sum := "cffa27edced3047e774a121ac1b4c1643a84963ab2430549b672d728ef7a3a49", checked := Tryz.checked }
namespace Rows
def none {H : Type} : Left H := { results := [], args := [] }

/-- 'laws.FnExactResultPlace': WHATEVER THE INPUT: true; the input reads as it did. -/
def fnExactResultPlaceSpec : ChangeSpec := { name := "fnExactResultPlace", fn := fun _ => fun
  | [d1, d2] => { results := [.lit (.bool true)], args := [d1, d2] }
  | _ => none }
def fnExactResultPlaceRow : OpenClaim := { program := "ytmfjkbbmhaofbaagreat", sum := "cffa27edced3047e774a121ac1b4c1643a84963ab2430549b672d728ef7a3a49", func := "loop.example/rangechains/laws.FnExactResultPlace", spec := "fnExactResultPlace", unfollowed := true, recurses := true, apart := false }
def FnExactResultPlaceSaid : Prop := fnExactResultPlaceRow.holds Tryz.pinned (OpenSpec.ofChange fnExactResultPlaceSpec)

/-- ITS FALSE NEIGHBOUR: 'it returns false'. Refute it at one input. -/
def fnExactResultPlaceWrong : ChangeSpec := { name := "fnExactResultPlace", fn := fun _ => fun
  | [d1, d2] => { results := [.lit (.bool false)], args := [d1, d2] }
  | _ => none }
def FnExactResultPlaceWrongFalsely : Prop := fnExactResultPlaceRow.holds Tryz.pinned (OpenSpec.ofChange fnExactResultPlaceWrong)

/-- 'laws.FnExactClusterRest': WHATEVER THE INPUT: true; the input reads as it did. -/
def fnExactClusterRestSpec : ChangeSpec := { name := "fnExactClusterRest", fn := fun _ => fun
  | [d] => { results := [.lit (.bool true)], args := [d] }
  | _ => none }
def fnExactClusterRestRow : OpenClaim := { program := "ytmfjkbbmhaofbaagreat", sum := "cffa27edced3047e774a121ac1b4c1643a84963ab2430549b672d728ef7a3a49", func := "loop.example/rangechains/laws.FnExactClusterRest", spec := "fnExactClusterRest", unfollowed := true, recurses := true, apart := false }
def FnExactClusterRestSaid : Prop := fnExactClusterRestRow.holds Tryz.pinned (OpenSpec.ofChange fnExactClusterRestSpec)

/-- ITS FALSE NEIGHBOUR: 'it returns false'. Refute it at one input. -/
def fnExactClusterRestWrong : ChangeSpec := { name := "fnExactClusterRest", fn := fun _ => fun
  | [d] => { results := [.lit (.bool false)], args := [d] }
  | _ => none }
def FnExactClusterRestWrongFalsely : Prop := fnExactClusterRestRow.holds Tryz.pinned (OpenSpec.ofChange fnExactClusterRestWrong)

/-- 'laws.FnExactBalanceMove': WHATEVER THE INPUT: true; the input reads as it did. -/
def fnExactBalanceMoveSpec : ChangeSpec := { name := "fnExactBalanceMove", fn := fun _ => fun
  | [d] => { results := [.lit (.bool true)], args := [d] }
  | _ => none }
def fnExactBalanceMoveRow : OpenClaim := { program := "ytmfjkbbmhaofbaagreat", sum := "cffa27edced3047e774a121ac1b4c1643a84963ab2430549b672d728ef7a3a49", func := "loop.example/rangechains/laws.FnExactBalanceMove", spec := "fnExactBalanceMove", unfollowed := true, recurses := true, apart := false }
def FnExactBalanceMoveSaid : Prop := fnExactBalanceMoveRow.holds Tryz.pinned (OpenSpec.ofChange fnExactBalanceMoveSpec)

/-- ITS FALSE NEIGHBOUR: 'it returns false'. Refute it at one input. -/
def fnExactBalanceMoveWrong : ChangeSpec := { name := "fnExactBalanceMove", fn := fun _ => fun
  | [d] => { results := [.lit (.bool false)], args := [d] }
  | _ => none }
def FnExactBalanceMoveWrongFalsely : Prop := fnExactBalanceMoveRow.holds Tryz.pinned (OpenSpec.ofChange fnExactBalanceMoveWrong)

/-- 'laws.FnExactClusterRoutes': WHATEVER THE INPUT: true; the input reads as it did. -/
def fnExactClusterRoutesSpec : ChangeSpec := { name := "fnExactClusterRoutes", fn := fun _ => fun
  | [d] => { results := [.lit (.bool true)], args := [d] }
  | _ => none }
def fnExactClusterRoutesRow : OpenClaim := { program := "ytmfjkbbmhaofbaagreat", sum := "cffa27edced3047e774a121ac1b4c1643a84963ab2430549b672d728ef7a3a49", func := "loop.example/rangechains/laws.FnExactClusterRoutes", spec := "fnExactClusterRoutes", unfollowed := true, recurses := true, apart := false }
def FnExactClusterRoutesSaid : Prop := fnExactClusterRoutesRow.holds Tryz.pinned (OpenSpec.ofChange fnExactClusterRoutesSpec)

/-- ITS FALSE NEIGHBOUR: 'it returns false'. Refute it at one input. -/
def fnExactClusterRoutesWrong : ChangeSpec := { name := "fnExactClusterRoutes", fn := fun _ => fun
  | [d] => { results := [.lit (.bool false)], args := [d] }
  | _ => none }
def FnExactClusterRoutesWrongFalsely : Prop := fnExactClusterRoutesRow.holds Tryz.pinned (OpenSpec.ofChange fnExactClusterRoutesWrong)

/-- 'laws.FnExactNodeLoads': WHATEVER THE INPUT: true; the input reads as it did. -/
def fnExactNodeLoadsSpec : ChangeSpec := { name := "fnExactNodeLoads", fn := fun _ => fun
  | [d] => { results := [.lit (.bool true)], args := [d] }
  | _ => none }
def fnExactNodeLoadsRow : OpenClaim := { program := "ytmfjkbbmhaofbaagreat", sum := "cffa27edced3047e774a121ac1b4c1643a84963ab2430549b672d728ef7a3a49", func := "loop.example/rangechains/laws.FnExactNodeLoads", spec := "fnExactNodeLoads", unfollowed := true, recurses := true, apart := false }
def FnExactNodeLoadsSaid : Prop := fnExactNodeLoadsRow.holds Tryz.pinned (OpenSpec.ofChange fnExactNodeLoadsSpec)

/-- ITS FALSE NEIGHBOUR: 'it returns false'. Refute it at one input. -/
def fnExactNodeLoadsWrong : ChangeSpec := { name := "fnExactNodeLoads", fn := fun _ => fun
  | [d] => { results := [.lit (.bool false)], args := [d] }
  | _ => none }
def FnExactNodeLoadsWrongFalsely : Prop := fnExactNodeLoadsRow.holds Tryz.pinned (OpenSpec.ofChange fnExactNodeLoadsWrong)

/-- 'laws.FnExactHistory': WHATEVER THE INPUT: true; the input reads as it did. -/
def fnExactHistorySpec : ChangeSpec := { name := "fnExactHistory", fn := fun _ => fun
  | [d] => { results := [.lit (.bool true)], args := [d] }
  | _ => none }
def fnExactHistoryRow : OpenClaim := { program := "ytmfjkbbmhaofbaagreat", sum := "cffa27edced3047e774a121ac1b4c1643a84963ab2430549b672d728ef7a3a49", func := "loop.example/rangechains/laws.FnExactHistory", spec := "fnExactHistory", unfollowed := true, recurses := true, apart := false }
def FnExactHistorySaid : Prop := fnExactHistoryRow.holds Tryz.pinned (OpenSpec.ofChange fnExactHistorySpec)

/-- ITS FALSE NEIGHBOUR: 'it returns false'. Refute it at one input. -/
def fnExactHistoryWrong : ChangeSpec := { name := "fnExactHistory", fn := fun _ => fun
  | [d] => { results := [.lit (.bool false)], args := [d] }
  | _ => none }
def FnExactHistoryWrongFalsely : Prop := fnExactHistoryRow.holds Tryz.pinned (OpenSpec.ofChange fnExactHistoryWrong)

/-- 'laws.FnExactNextPlan': WHATEVER THE INPUT: true; the input reads as it did. -/
def fnExactNextPlanSpec : ChangeSpec := { name := "fnExactNextPlan", fn := fun _ => fun
  | [d] => { results := [.lit (.bool true)], args := [d] }
  | _ => none }
def fnExactNextPlanRow : OpenClaim := { program := "ytmfjkbbmhaofbaagreat", sum := "cffa27edced3047e774a121ac1b4c1643a84963ab2430549b672d728ef7a3a49", func := "loop.example/rangechains/laws.FnExactNextPlan", spec := "fnExactNextPlan", unfollowed := true, recurses := true, apart := false }
def FnExactNextPlanSaid : Prop := fnExactNextPlanRow.holds Tryz.pinned (OpenSpec.ofChange fnExactNextPlanSpec)

/-- ITS FALSE NEIGHBOUR: 'it returns false'. Refute it at one input. -/
def fnExactNextPlanWrong : ChangeSpec := { name := "fnExactNextPlan", fn := fun _ => fun
  | [d] => { results := [.lit (.bool false)], args := [d] }
  | _ => none }
def FnExactNextPlanWrongFalsely : Prop := fnExactNextPlanRow.holds Tryz.pinned (OpenSpec.ofChange fnExactNextPlanWrong)

/-- 'laws.FnExactClusterMap': WHATEVER THE INPUT: true; the input reads as it did. -/
def fnExactClusterMapSpec : ChangeSpec := { name := "fnExactClusterMap", fn := fun _ => fun
  | [d] => { results := [.lit (.bool true)], args := [d] }
  | _ => none }
def fnExactClusterMapRow : OpenClaim := { program := "ytmfjkbbmhaofbaagreat", sum := "cffa27edced3047e774a121ac1b4c1643a84963ab2430549b672d728ef7a3a49", func := "loop.example/rangechains/laws.FnExactClusterMap", spec := "fnExactClusterMap", unfollowed := true, recurses := true, apart := false }
def FnExactClusterMapSaid : Prop := fnExactClusterMapRow.holds Tryz.pinned (OpenSpec.ofChange fnExactClusterMapSpec)

/-- ITS FALSE NEIGHBOUR: 'it returns false'. Refute it at one input. -/
def fnExactClusterMapWrong : ChangeSpec := { name := "fnExactClusterMap", fn := fun _ => fun
  | [d] => { results := [.lit (.bool false)], args := [d] }
  | _ => none }
def FnExactClusterMapWrongFalsely : Prop := fnExactClusterMapRow.holds Tryz.pinned (OpenSpec.ofChange fnExactClusterMapWrong)

/-- 'laws.FnExactLiveStates': WHATEVER THE INPUT: true; the input reads as it did. -/
def fnExactLiveStatesSpec : ChangeSpec := { name := "fnExactLiveStates", fn := fun _ => fun
  | [d] => { results := [.lit (.bool true)], args := [d] }
  | _ => none }
def fnExactLiveStatesRow : OpenClaim := { program := "ytmfjkbbmhaofbaagreat", sum := "cffa27edced3047e774a121ac1b4c1643a84963ab2430549b672d728ef7a3a49", func := "loop.example/rangechains/laws.FnExactLiveStates", spec := "fnExactLiveStates", unfollowed := true, recurses := true, apart := false }
def FnExactLiveStatesSaid : Prop := fnExactLiveStatesRow.holds Tryz.pinned (OpenSpec.ofChange fnExactLiveStatesSpec)

/-- ITS FALSE NEIGHBOUR: 'it returns false'. Refute it at one input. -/
def fnExactLiveStatesWrong : ChangeSpec := { name := "fnExactLiveStates", fn := fun _ => fun
  | [d] => { results := [.lit (.bool false)], args := [d] }
  | _ => none }
def FnExactLiveStatesWrongFalsely : Prop := fnExactLiveStatesRow.holds Tryz.pinned (OpenSpec.ofChange fnExactLiveStatesWrong)

/-- 'laws.FnExactClusterSafe': WHATEVER THE INPUT: true; the input reads as it did. -/
def fnExactClusterSafeSpec : ChangeSpec := { name := "fnExactClusterSafe", fn := fun _ => fun
  | [d] => { results := [.lit (.bool true)], args := [d] }
  | _ => none }
def fnExactClusterSafeRow : OpenClaim := { program := "ytmfjkbbmhaofbaagreat", sum := "cffa27edced3047e774a121ac1b4c1643a84963ab2430549b672d728ef7a3a49", func := "loop.example/rangechains/laws.FnExactClusterSafe", spec := "fnExactClusterSafe", unfollowed := true, recurses := true, apart := false }
def FnExactClusterSafeSaid : Prop := fnExactClusterSafeRow.holds Tryz.pinned (OpenSpec.ofChange fnExactClusterSafeSpec)

/-- ITS FALSE NEIGHBOUR: 'it returns false'. Refute it at one input. -/
def fnExactClusterSafeWrong : ChangeSpec := { name := "fnExactClusterSafe", fn := fun _ => fun
  | [d] => { results := [.lit (.bool false)], args := [d] }
  | _ => none }
def FnExactClusterSafeWrongFalsely : Prop := fnExactClusterSafeRow.holds Tryz.pinned (OpenSpec.ofChange fnExactClusterSafeWrong)

/-- 'laws.FnExactClusterScan': WHATEVER THE INPUT: true; the input reads as it did. -/
def fnExactClusterScanSpec : ChangeSpec := { name := "fnExactClusterScan", fn := fun _ => fun
  | [d1, d2] => { results := [.lit (.bool true)], args := [d1, d2] }
  | _ => none }
def fnExactClusterScanRow : OpenClaim := { program := "ytmfjkbbmhaofbaagreat", sum := "cffa27edced3047e774a121ac1b4c1643a84963ab2430549b672d728ef7a3a49", func := "loop.example/rangechains/laws.FnExactClusterScan", spec := "fnExactClusterScan", unfollowed := true, recurses := true, apart := false }
def FnExactClusterScanSaid : Prop := fnExactClusterScanRow.holds Tryz.pinned (OpenSpec.ofChange fnExactClusterScanSpec)

/-- ITS FALSE NEIGHBOUR: 'it returns false'. Refute it at one input. -/
def fnExactClusterScanWrong : ChangeSpec := { name := "fnExactClusterScan", fn := fun _ => fun
  | [d1, d2] => { results := [.lit (.bool false)], args := [d1, d2] }
  | _ => none }
def FnExactClusterScanWrongFalsely : Prop := fnExactClusterScanRow.holds Tryz.pinned (OpenSpec.ofChange fnExactClusterScanWrong)

/- THE SECOND FORM. 'bulk': how many values and letters a reading holds, each counted each time it is reached (what is shared counts as often as it is met; a slice's spare places count too). A statement '..UptoSaid' is the law's where the arguments, and the package variables that the reading takes, are together of bulk at most 1048576: NARROWER than '..Said'. Prove '..Said' where nothing that the law and all that it calls make is longer than what came in: it says more and counts as full. Else prove '..UptoSaid'. A law counts once. -/
mutual
def uptoBulk {H : Type} : DataW H → Nat
  | .lit (.string bytes) => bytes.length + 1
  | .lit _ => 1
  | .nil => 1
  | .ptr d => uptoBulk d + 1
  | .slice elems spare => uptoBulkAll elems + uptoBulkAll spare + 1
  | .agg parts => uptoBulkAll parts + 1
  | .iface _ d => uptoBulk d + 1
  | .map entries => uptoBulkEntries entries + 1
  | .held _ => 1
def uptoBulkAll {H : Type} : List (DataW H) → Nat
  | [] => 0
  | d :: r => uptoBulk d + uptoBulkAll r
def uptoBulkEntries {H : Type} : List (Lit × DataW H) → Nat
  | [] => 0
  | x :: r => uptoBulkEntry x + uptoBulkEntries r
def uptoBulkEntry {H : Type} : Lit × DataW H → Nat
  | (.string bytes, d) => bytes.length + uptoBulk d + 1
  | (_, d) => uptoBulk d + 1
 end
def uptoSmall : (H : Type) → List (DataW H) → Bool := fun _ ds => decide (uptoBulkAll ds ≤ 1048576)
def OpenSpec.upto (s : _root_.Go.ChangeSpec) : _root_.Go.OpenSpec := { _root_.Go.OpenSpec.ofChange s with cond := some uptoSmall }

/-- 'laws.FnExactResultPlace', WHERE WHAT IT READS IS OF BULK AT MOST 1048576: true; the input reads as it did. -/
def fnExactResultPlaceUptoRow : OpenClaim := { program := "ytmfjkbbmhaofbaagreat", sum := "cffa27edced3047e774a121ac1b4c1643a84963ab2430549b672d728ef7a3a49", func := "loop.example/rangechains/laws.FnExactResultPlace", spec := "fnExactResultPlace", unfollowed := true, recurses := true, apart := false, narrowed := true }
def FnExactResultPlaceUptoSaid : Prop := fnExactResultPlaceUptoRow.holds Tryz.pinned (OpenSpec.upto fnExactResultPlaceSpec)

/-- 'laws.FnExactClusterRest', WHERE WHAT IT READS IS OF BULK AT MOST 1048576: true; the input reads as it did. -/
def fnExactClusterRestUptoRow : OpenClaim := { program := "ytmfjkbbmhaofbaagreat", sum := "cffa27edced3047e774a121ac1b4c1643a84963ab2430549b672d728ef7a3a49", func := "loop.example/rangechains/laws.FnExactClusterRest", spec := "fnExactClusterRest", unfollowed := true, recurses := true, apart := false, narrowed := true }
def FnExactClusterRestUptoSaid : Prop := fnExactClusterRestUptoRow.holds Tryz.pinned (OpenSpec.upto fnExactClusterRestSpec)

/-- 'laws.FnExactBalanceMove', WHERE WHAT IT READS IS OF BULK AT MOST 1048576: true; the input reads as it did. -/
def fnExactBalanceMoveUptoRow : OpenClaim := { program := "ytmfjkbbmhaofbaagreat", sum := "cffa27edced3047e774a121ac1b4c1643a84963ab2430549b672d728ef7a3a49", func := "loop.example/rangechains/laws.FnExactBalanceMove", spec := "fnExactBalanceMove", unfollowed := true, recurses := true, apart := false, narrowed := true }
def FnExactBalanceMoveUptoSaid : Prop := fnExactBalanceMoveUptoRow.holds Tryz.pinned (OpenSpec.upto fnExactBalanceMoveSpec)

/-- 'laws.FnExactClusterRoutes', WHERE WHAT IT READS IS OF BULK AT MOST 1048576: true; the input reads as it did. -/
def fnExactClusterRoutesUptoRow : OpenClaim := { program := "ytmfjkbbmhaofbaagreat", sum := "cffa27edced3047e774a121ac1b4c1643a84963ab2430549b672d728ef7a3a49", func := "loop.example/rangechains/laws.FnExactClusterRoutes", spec := "fnExactClusterRoutes", unfollowed := true, recurses := true, apart := false, narrowed := true }
def FnExactClusterRoutesUptoSaid : Prop := fnExactClusterRoutesUptoRow.holds Tryz.pinned (OpenSpec.upto fnExactClusterRoutesSpec)

/-- 'laws.FnExactNodeLoads', WHERE WHAT IT READS IS OF BULK AT MOST 1048576: true; the input reads as it did. -/
def fnExactNodeLoadsUptoRow : OpenClaim := { program := "ytmfjkbbmhaofbaagreat", sum := "cffa27edced3047e774a121ac1b4c1643a84963ab2430549b672d728ef7a3a49", func := "loop.example/rangechains/laws.FnExactNodeLoads", spec := "fnExactNodeLoads", unfollowed := true, recurses := true, apart := false, narrowed := true }
def FnExactNodeLoadsUptoSaid : Prop := fnExactNodeLoadsUptoRow.holds Tryz.pinned (OpenSpec.upto fnExactNodeLoadsSpec)

/-- 'laws.FnExactHistory', WHERE WHAT IT READS IS OF BULK AT MOST 1048576: true; the input reads as it did. -/
def fnExactHistoryUptoRow : OpenClaim := { program := "ytmfjkbbmhaofbaagreat", sum := "cffa27edced3047e774a121ac1b4c1643a84963ab2430549b672d728ef7a3a49", func := "loop.example/rangechains/laws.FnExactHistory", spec := "fnExactHistory", unfollowed := true, recurses := true, apart := false, narrowed := true }
def FnExactHistoryUptoSaid : Prop := fnExactHistoryUptoRow.holds Tryz.pinned (OpenSpec.upto fnExactHistorySpec)

/-- 'laws.FnExactNextPlan', WHERE WHAT IT READS IS OF BULK AT MOST 1048576: true; the input reads as it did. -/
def fnExactNextPlanUptoRow : OpenClaim := { program := "ytmfjkbbmhaofbaagreat", sum := "cffa27edced3047e774a121ac1b4c1643a84963ab2430549b672d728ef7a3a49", func := "loop.example/rangechains/laws.FnExactNextPlan", spec := "fnExactNextPlan", unfollowed := true, recurses := true, apart := false, narrowed := true }
def FnExactNextPlanUptoSaid : Prop := fnExactNextPlanUptoRow.holds Tryz.pinned (OpenSpec.upto fnExactNextPlanSpec)

/-- 'laws.FnExactClusterMap', WHERE WHAT IT READS IS OF BULK AT MOST 1048576: true; the input reads as it did. -/
def fnExactClusterMapUptoRow : OpenClaim := { program := "ytmfjkbbmhaofbaagreat", sum := "cffa27edced3047e774a121ac1b4c1643a84963ab2430549b672d728ef7a3a49", func := "loop.example/rangechains/laws.FnExactClusterMap", spec := "fnExactClusterMap", unfollowed := true, recurses := true, apart := false, narrowed := true }
def FnExactClusterMapUptoSaid : Prop := fnExactClusterMapUptoRow.holds Tryz.pinned (OpenSpec.upto fnExactClusterMapSpec)

/-- 'laws.FnExactLiveStates', WHERE WHAT IT READS IS OF BULK AT MOST 1048576: true; the input reads as it did. -/
def fnExactLiveStatesUptoRow : OpenClaim := { program := "ytmfjkbbmhaofbaagreat", sum := "cffa27edced3047e774a121ac1b4c1643a84963ab2430549b672d728ef7a3a49", func := "loop.example/rangechains/laws.FnExactLiveStates", spec := "fnExactLiveStates", unfollowed := true, recurses := true, apart := false, narrowed := true }
def FnExactLiveStatesUptoSaid : Prop := fnExactLiveStatesUptoRow.holds Tryz.pinned (OpenSpec.upto fnExactLiveStatesSpec)

/-- 'laws.FnExactClusterSafe', WHERE WHAT IT READS IS OF BULK AT MOST 1048576: true; the input reads as it did. -/
def fnExactClusterSafeUptoRow : OpenClaim := { program := "ytmfjkbbmhaofbaagreat", sum := "cffa27edced3047e774a121ac1b4c1643a84963ab2430549b672d728ef7a3a49", func := "loop.example/rangechains/laws.FnExactClusterSafe", spec := "fnExactClusterSafe", unfollowed := true, recurses := true, apart := false, narrowed := true }
def FnExactClusterSafeUptoSaid : Prop := fnExactClusterSafeUptoRow.holds Tryz.pinned (OpenSpec.upto fnExactClusterSafeSpec)

/-- 'laws.FnExactClusterScan', WHERE WHAT IT READS IS OF BULK AT MOST 1048576: true; the input reads as it did. -/
def fnExactClusterScanUptoRow : OpenClaim := { program := "ytmfjkbbmhaofbaagreat", sum := "cffa27edced3047e774a121ac1b4c1643a84963ab2430549b672d728ef7a3a49", func := "loop.example/rangechains/laws.FnExactClusterScan", spec := "fnExactClusterScan", unfollowed := true, recurses := true, apart := false, narrowed := true }
def FnExactClusterScanUptoSaid : Prop := fnExactClusterScanUptoRow.holds Tryz.pinned (OpenSpec.upto fnExactClusterScanSpec)

end Rows
end Go.Proofs.YtmfjkbbmhaofbaaGreat
