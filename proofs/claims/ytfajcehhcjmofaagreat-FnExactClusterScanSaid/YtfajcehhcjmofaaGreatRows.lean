/-
  No cell of these rows narrows 'for every input' (looked for: loops, veiled, ifaces, maps, wideKeys, modest, calm, conditions, laid).
  DERIVED. THE GIVEN ROWS OF THIS SEAT. 8 by the template 'for every input the law returns true; each argument reads behind the call as it read before'; 0 by the template 'total and deterministic' (their statements: YtfajcehhcjmofaaGreatTotals.lean).
  GIVEN WITH THE SEED: the statements are not yours to turn. If you find one false, say at which input.
  Laid BY PROGRAM, IN A SANDBOX (cutbox-rows.mjs): the forced cells as the released guide's own fill.sh prints them over the translation 57bc033a77f744f6… (all of the seat's roots in one cut). By AI agents, Wed Nov 11 2026. No macro, syntax, notation, axiom, sorry.
-/
import Derived.Test.YtfajcehhcjmofaaGreatChecked
import GoSem.Claim
import GoSem.ClaimJoined
import GoSem.ClaimMapViews
import Derived.JoinedTies
import Derived.KernelRfl
namespace Go.Proofs.YtfajcehhcjmofaaGreat
/- THE CELL 'sum', in the pinned program and in every row, IS THE sha256 OF THE DUMP (.gsa) THAT YtfajcehhcjmofaaGreatProg.lean LOADS. Nothing in Lean hashes anything: it is a label: what it is worth is what the hold of that sum in a sandbox is worth. -/
noncomputable def Tryz.pinned : Pinned := { name := "ytfajcehhcjmofaagreat", sum := "57bc033a77f744f67d3eb6ecce45525ec425516bd8f5330bf9c7c2b57489fb1e", checked := Tryz.checked }
namespace Rows
def none {H : Type} : Left H := { results := [], args := [] }

/-- 'laws.FnExactClusterSafe': WHATEVER THE INPUT: true; the input reads as it did. -/
def fnExactClusterSafeSpec : ChangeSpec := { name := "fnExactClusterSafe", fn := fun _ => fun
  | [d] => { results := [.lit (.bool true)], args := [d] }
  | _ => none }
def fnExactClusterSafeRow : OpenClaim := { program := "ytfajcehhcjmofaagreat", sum := "57bc033a77f744f67d3eb6ecce45525ec425516bd8f5330bf9c7c2b57489fb1e", func := "loop.example/rangechains/laws.FnExactClusterSafe", spec := "fnExactClusterSafe", unfollowed := true, recurses := true, apart := false }
def FnExactClusterSafeSaid : Prop := fnExactClusterSafeRow.holds Tryz.pinned (OpenSpec.ofChange fnExactClusterSafeSpec)

/-- ITS FALSE NEIGHBOUR: 'it returns false'. Refute it at one input. -/
def fnExactClusterSafeWrong : ChangeSpec := { name := "fnExactClusterSafe", fn := fun _ => fun
  | [d] => { results := [.lit (.bool false)], args := [d] }
  | _ => none }
def FnExactClusterSafeWrongFalsely : Prop := fnExactClusterSafeRow.holds Tryz.pinned (OpenSpec.ofChange fnExactClusterSafeWrong)

/-- 'laws.FnExactClusterScan': WHATEVER THE INPUT: true; the input reads as it did. -/
def fnExactClusterScanSpec : ChangeSpec := { name := "fnExactClusterScan", fn := fun _ => fun
  | [d1, d2] => { results := [.lit (.bool true)], args := [d1, d2] }
  | _ => none }
def fnExactClusterScanRow : OpenClaim := { program := "ytfajcehhcjmofaagreat", sum := "57bc033a77f744f67d3eb6ecce45525ec425516bd8f5330bf9c7c2b57489fb1e", func := "loop.example/rangechains/laws.FnExactClusterScan", spec := "fnExactClusterScan", unfollowed := true, recurses := true, apart := false }
def FnExactClusterScanSaid : Prop := fnExactClusterScanRow.holds Tryz.pinned (OpenSpec.ofChange fnExactClusterScanSpec)

/-- ITS FALSE NEIGHBOUR: 'it returns false'. Refute it at one input. -/
def fnExactClusterScanWrong : ChangeSpec := { name := "fnExactClusterScan", fn := fun _ => fun
  | [d1, d2] => { results := [.lit (.bool false)], args := [d1, d2] }
  | _ => none }
def FnExactClusterScanWrongFalsely : Prop := fnExactClusterScanRow.holds Tryz.pinned (OpenSpec.ofChange fnExactClusterScanWrong)

/-- 'laws.FnClusterValid': WHATEVER THE INPUT: true; the input reads as it did. -/
def fnClusterValidSpec : ChangeSpec := { name := "fnClusterValid", fn := fun _ => fun
  | [d] => { results := [.lit (.bool true)], args := [d] }
  | _ => none }
def fnClusterValidRow : OpenClaim := { program := "ytfajcehhcjmofaagreat", sum := "57bc033a77f744f67d3eb6ecce45525ec425516bd8f5330bf9c7c2b57489fb1e", func := "loop.example/rangechains/laws.FnClusterValid", spec := "fnClusterValid", unfollowed := true, recurses := true, apart := false }
def FnClusterValidSaid : Prop := fnClusterValidRow.holds Tryz.pinned (OpenSpec.ofChange fnClusterValidSpec)

/-- ITS FALSE NEIGHBOUR: 'it returns false'. Refute it at one input. -/
def fnClusterValidWrong : ChangeSpec := { name := "fnClusterValid", fn := fun _ => fun
  | [d] => { results := [.lit (.bool false)], args := [d] }
  | _ => none }
def FnClusterValidWrongFalsely : Prop := fnClusterValidRow.holds Tryz.pinned (OpenSpec.ofChange fnClusterValidWrong)

/-- 'laws.FnClusterRoutes': WHATEVER THE INPUT: true; the input reads as it did. -/
def fnClusterRoutesSpec : ChangeSpec := { name := "fnClusterRoutes", fn := fun _ => fun
  | [d] => { results := [.lit (.bool true)], args := [d] }
  | _ => none }
def fnClusterRoutesRow : OpenClaim := { program := "ytfajcehhcjmofaagreat", sum := "57bc033a77f744f67d3eb6ecce45525ec425516bd8f5330bf9c7c2b57489fb1e", func := "loop.example/rangechains/laws.FnClusterRoutes", spec := "fnClusterRoutes", unfollowed := true, recurses := true, apart := false }
def FnClusterRoutesSaid : Prop := fnClusterRoutesRow.holds Tryz.pinned (OpenSpec.ofChange fnClusterRoutesSpec)

/-- ITS FALSE NEIGHBOUR: 'it returns false'. Refute it at one input. -/
def fnClusterRoutesWrong : ChangeSpec := { name := "fnClusterRoutes", fn := fun _ => fun
  | [d] => { results := [.lit (.bool false)], args := [d] }
  | _ => none }
def FnClusterRoutesWrongFalsely : Prop := fnClusterRoutesRow.holds Tryz.pinned (OpenSpec.ofChange fnClusterRoutesWrong)

/-- 'laws.FnNodeLoads': WHATEVER THE INPUT: true; the input reads as it did. -/
def fnNodeLoadsSpec : ChangeSpec := { name := "fnNodeLoads", fn := fun _ => fun
  | [d] => { results := [.lit (.bool true)], args := [d] }
  | _ => none }
def fnNodeLoadsRow : OpenClaim := { program := "ytfajcehhcjmofaagreat", sum := "57bc033a77f744f67d3eb6ecce45525ec425516bd8f5330bf9c7c2b57489fb1e", func := "loop.example/rangechains/laws.FnNodeLoads", spec := "fnNodeLoads", unfollowed := true, recurses := true, apart := false }
def FnNodeLoadsSaid : Prop := fnNodeLoadsRow.holds Tryz.pinned (OpenSpec.ofChange fnNodeLoadsSpec)

/-- ITS FALSE NEIGHBOUR: 'it returns false'. Refute it at one input. -/
def fnNodeLoadsWrong : ChangeSpec := { name := "fnNodeLoads", fn := fun _ => fun
  | [d] => { results := [.lit (.bool false)], args := [d] }
  | _ => none }
def FnNodeLoadsWrongFalsely : Prop := fnNodeLoadsRow.holds Tryz.pinned (OpenSpec.ofChange fnNodeLoadsWrong)

/-- 'laws.FnLiveStates': WHATEVER THE INPUT: true; the input reads as it did. -/
def fnLiveStatesSpec : ChangeSpec := { name := "fnLiveStates", fn := fun _ => fun
  | [d] => { results := [.lit (.bool true)], args := [d] }
  | _ => none }
def fnLiveStatesRow : OpenClaim := { program := "ytfajcehhcjmofaagreat", sum := "57bc033a77f744f67d3eb6ecce45525ec425516bd8f5330bf9c7c2b57489fb1e", func := "loop.example/rangechains/laws.FnLiveStates", spec := "fnLiveStates", unfollowed := true, recurses := true, apart := false }
def FnLiveStatesSaid : Prop := fnLiveStatesRow.holds Tryz.pinned (OpenSpec.ofChange fnLiveStatesSpec)

/-- ITS FALSE NEIGHBOUR: 'it returns false'. Refute it at one input. -/
def fnLiveStatesWrong : ChangeSpec := { name := "fnLiveStates", fn := fun _ => fun
  | [d] => { results := [.lit (.bool false)], args := [d] }
  | _ => none }
def FnLiveStatesWrongFalsely : Prop := fnLiveStatesRow.holds Tryz.pinned (OpenSpec.ofChange fnLiveStatesWrong)

/-- 'laws.FnClusterMap': WHATEVER THE INPUT: true; the input reads as it did. -/
def fnClusterMapSpec : ChangeSpec := { name := "fnClusterMap", fn := fun _ => fun
  | [d] => { results := [.lit (.bool true)], args := [d] }
  | _ => none }
def fnClusterMapRow : OpenClaim := { program := "ytfajcehhcjmofaagreat", sum := "57bc033a77f744f67d3eb6ecce45525ec425516bd8f5330bf9c7c2b57489fb1e", func := "loop.example/rangechains/laws.FnClusterMap", spec := "fnClusterMap", unfollowed := true, recurses := true, apart := false }
def FnClusterMapSaid : Prop := fnClusterMapRow.holds Tryz.pinned (OpenSpec.ofChange fnClusterMapSpec)

/-- ITS FALSE NEIGHBOUR: 'it returns false'. Refute it at one input. -/
def fnClusterMapWrong : ChangeSpec := { name := "fnClusterMap", fn := fun _ => fun
  | [d] => { results := [.lit (.bool false)], args := [d] }
  | _ => none }
def FnClusterMapWrongFalsely : Prop := fnClusterMapRow.holds Tryz.pinned (OpenSpec.ofChange fnClusterMapWrong)

/-- 'laws.FnClusterScan': WHATEVER THE INPUT: true; the input reads as it did. -/
def fnClusterScanSpec : ChangeSpec := { name := "fnClusterScan", fn := fun _ => fun
  | [d] => { results := [.lit (.bool true)], args := [d] }
  | _ => none }
def fnClusterScanRow : OpenClaim := { program := "ytfajcehhcjmofaagreat", sum := "57bc033a77f744f67d3eb6ecce45525ec425516bd8f5330bf9c7c2b57489fb1e", func := "loop.example/rangechains/laws.FnClusterScan", spec := "fnClusterScan", unfollowed := true, recurses := true, apart := false }
def FnClusterScanSaid : Prop := fnClusterScanRow.holds Tryz.pinned (OpenSpec.ofChange fnClusterScanSpec)

/-- ITS FALSE NEIGHBOUR: 'it returns false'. Refute it at one input. -/
def fnClusterScanWrong : ChangeSpec := { name := "fnClusterScan", fn := fun _ => fun
  | [d] => { results := [.lit (.bool false)], args := [d] }
  | _ => none }
def FnClusterScanWrongFalsely : Prop := fnClusterScanRow.holds Tryz.pinned (OpenSpec.ofChange fnClusterScanWrong)

/- THE SECOND FORM. 'bulk': how many values and letters a reading holds, each counted each time it is reached (what is shared counts as often as it is met; a slice's spare places count too). A statement '..UptoSaid' is the law's where the arguments, and the package variables that the reading takes, are together of bulk at most 1048576: NARROWER than '..Said'. Prove '..Said' where nothing that the law and all that it calls make is longer than what came in: it says more and counts as full. Else prove '..UptoSaid'. A law counts once. -/
mutual
def uptoBulk {H : Type} : DataW H → Nat
  | .lit (.string bytes) => bytes.length + 1
  | .lit _ => 1
  | .nil => 1
  | .ptr d => uptoBulk d + 1
  | .slice elems spare => uptoBulkAll elems + uptoBulkAll spare + 1
  | .agg parts => uptoBulkAll parts + 1
  | .iface _ d => uptoBulk d + 1
  | .map entries => uptoBulkEntries entries + 1
  | .held _ => 1
def uptoBulkAll {H : Type} : List (DataW H) → Nat
  | [] => 0
  | d :: r => uptoBulk d + uptoBulkAll r
def uptoBulkEntries {H : Type} : List (Lit × DataW H) → Nat
  | [] => 0
  | x :: r => uptoBulkEntry x + uptoBulkEntries r
def uptoBulkEntry {H : Type} : Lit × DataW H → Nat
  | (.string bytes, d) => bytes.length + uptoBulk d + 1
  | (_, d) => uptoBulk d + 1
 end
def uptoSmall : (H : Type) → List (DataW H) → Bool := fun _ ds => decide (uptoBulkAll ds ≤ 1048576)
def OpenSpec.upto (s : _root_.Go.ChangeSpec) : _root_.Go.OpenSpec := { _root_.Go.OpenSpec.ofChange s with cond := some uptoSmall }

/-- 'laws.FnExactClusterSafe', WHERE WHAT IT READS IS OF BULK AT MOST 1048576: true; the input reads as it did. -/
def fnExactClusterSafeUptoRow : OpenClaim := { program := "ytfajcehhcjmofaagreat", sum := "57bc033a77f744f67d3eb6ecce45525ec425516bd8f5330bf9c7c2b57489fb1e", func := "loop.example/rangechains/laws.FnExactClusterSafe", spec := "fnExactClusterSafe", unfollowed := true, recurses := true, apart := false, narrowed := true }
def FnExactClusterSafeUptoSaid : Prop := fnExactClusterSafeUptoRow.holds Tryz.pinned (OpenSpec.upto fnExactClusterSafeSpec)

/-- 'laws.FnExactClusterScan', WHERE WHAT IT READS IS OF BULK AT MOST 1048576: true; the input reads as it did. -/
def fnExactClusterScanUptoRow : OpenClaim := { program := "ytfajcehhcjmofaagreat", sum := "57bc033a77f744f67d3eb6ecce45525ec425516bd8f5330bf9c7c2b57489fb1e", func := "loop.example/rangechains/laws.FnExactClusterScan", spec := "fnExactClusterScan", unfollowed := true, recurses := true, apart := false, narrowed := true }
def FnExactClusterScanUptoSaid : Prop := fnExactClusterScanUptoRow.holds Tryz.pinned (OpenSpec.upto fnExactClusterScanSpec)

/-- 'laws.FnClusterValid', WHERE WHAT IT READS IS OF BULK AT MOST 1048576: true; the input reads as it did. -/
def fnClusterValidUptoRow : OpenClaim := { program := "ytfajcehhcjmofaagreat", sum := "57bc033a77f744f67d3eb6ecce45525ec425516bd8f5330bf9c7c2b57489fb1e", func := "loop.example/rangechains/laws.FnClusterValid", spec := "fnClusterValid", unfollowed := true, recurses := true, apart := false, narrowed := true }
def FnClusterValidUptoSaid : Prop := fnClusterValidUptoRow.holds Tryz.pinned (OpenSpec.upto fnClusterValidSpec)

/-- 'laws.FnClusterRoutes', WHERE WHAT IT READS IS OF BULK AT MOST 1048576: true; the input reads as it did. -/
def fnClusterRoutesUptoRow : OpenClaim := { program := "ytfajcehhcjmofaagreat", sum := "57bc033a77f744f67d3eb6ecce45525ec425516bd8f5330bf9c7c2b57489fb1e", func := "loop.example/rangechains/laws.FnClusterRoutes", spec := "fnClusterRoutes", unfollowed := true, recurses := true, apart := false, narrowed := true }
def FnClusterRoutesUptoSaid : Prop := fnClusterRoutesUptoRow.holds Tryz.pinned (OpenSpec.upto fnClusterRoutesSpec)

/-- 'laws.FnNodeLoads', WHERE WHAT IT READS IS OF BULK AT MOST 1048576: true; the input reads as it did. -/
def fnNodeLoadsUptoRow : OpenClaim := { program := "ytfajcehhcjmofaagreat", sum := "57bc033a77f744f67d3eb6ecce45525ec425516bd8f5330bf9c7c2b57489fb1e", func := "loop.example/rangechains/laws.FnNodeLoads", spec := "fnNodeLoads", unfollowed := true, recurses := true, apart := false, narrowed := true }
def FnNodeLoadsUptoSaid : Prop := fnNodeLoadsUptoRow.holds Tryz.pinned (OpenSpec.upto fnNodeLoadsSpec)

/-- 'laws.FnLiveStates', WHERE WHAT IT READS IS OF BULK AT MOST 1048576: true; the input reads as it did. -/
def fnLiveStatesUptoRow : OpenClaim := { program := "ytfajcehhcjmofaagreat", sum := "57bc033a77f744f67d3eb6ecce45525ec425516bd8f5330bf9c7c2b57489fb1e", func := "loop.example/rangechains/laws.FnLiveStates", spec := "fnLiveStates", unfollowed := true, recurses := true, apart := false, narrowed := true }
def FnLiveStatesUptoSaid : Prop := fnLiveStatesUptoRow.holds Tryz.pinned (OpenSpec.upto fnLiveStatesSpec)

/-- 'laws.FnClusterMap', WHERE WHAT IT READS IS OF BULK AT MOST 1048576: true; the input reads as it did. -/
def fnClusterMapUptoRow : OpenClaim := { program := "ytfajcehhcjmofaagreat", sum := "57bc033a77f744f67d3eb6ecce45525ec425516bd8f5330bf9c7c2b57489fb1e", func := "loop.example/rangechains/laws.FnClusterMap", spec := "fnClusterMap", unfollowed := true, recurses := true, apart := false, narrowed := true }
def FnClusterMapUptoSaid : Prop := fnClusterMapUptoRow.holds Tryz.pinned (OpenSpec.upto fnClusterMapSpec)

/-- 'laws.FnClusterScan', WHERE WHAT IT READS IS OF BULK AT MOST 1048576: true; the input reads as it did. -/
def fnClusterScanUptoRow : OpenClaim := { program := "ytfajcehhcjmofaagreat", sum := "57bc033a77f744f67d3eb6ecce45525ec425516bd8f5330bf9c7c2b57489fb1e", func := "loop.example/rangechains/laws.FnClusterScan", spec := "fnClusterScan", unfollowed := true, recurses := true, apart := false, narrowed := true }
def FnClusterScanUptoSaid : Prop := fnClusterScanUptoRow.holds Tryz.pinned (OpenSpec.upto fnClusterScanSpec)

end Rows
end Go.Proofs.YtfajcehhcjmofaaGreat
