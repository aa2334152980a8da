/-
  No cell of these rows narrows 'for every input' (looked for: loops, veiled, ifaces, maps, wideKeys, modest, calm, conditions, laid).
  DERIVED. THE GIVEN ROWS OF THIS SEAT. 12 by the template 'for every input the law returns true; each argument reads behind the call as it read before'; 0 by the template 'total and deterministic' (their statements: YtbieglaagpogkaaTotals.lean).
  GIVEN WITH THE SEED: the statements are not yours to turn. If you find one false, say at which input.
  Laid BY PROGRAM, IN A SANDBOX (cutbox-rows.mjs): the forced cells as the released guide's own fill.sh prints them over the translation f28f6634778ceae9… (all of the seat's roots in one cut). By AI agents, Wed Nov 11 2026. No macro, syntax, notation, axiom, sorry.
-/
import Derived.Test.YtbieglaagpogkaaChecked
import GoSem.Claim
import GoSem.ClaimJoined
import GoSem.ClaimMapViews
import Derived.JoinedTies
import Derived.KernelRfl
namespace Go.Proofs.Ytbieglaagpogkaa
/- THE CELL 'sum', in the pinned program and in every row, IS THE sha256 OF THE DUMP (.gsa) THAT YtbieglaagpogkaaProg.lean LOADS. Nothing in Lean hashes anything: it is a label: what it is worth is what the hold of that sum in a sandbox is worth. -/
noncomputable def Try.pinned : Pinned := { name := "ytbieglaagpogkaa", sum := "f28f6634778ceae9010f0479b97ff824b233b16f127d63a973e6ac3d1935c008", checked := Try.checked }
namespace Rows
def none {H : Type} : Left H := { results := [], args := [] }

/-- 'laws.FnSuspectTime': WHATEVER THE INPUT: true; the input reads as it did. -/
def fnSuspectTimeSpec : ChangeSpec := { name := "fnSuspectTime", fn := fun _ => fun
  | [d] => { results := [.lit (.bool true)], args := [d] }
  | _ => none }
def fnSuspectTimeRow : OpenClaim := { program := "ytbieglaagpogkaa", sum := "f28f6634778ceae9010f0479b97ff824b233b16f127d63a973e6ac3d1935c008", func := "loop.example/rangechains/laws.FnSuspectTime", spec := "fnSuspectTime", recurses := true, apart := false }
def FnSuspectTimeSaid : Prop := fnSuspectTimeRow.holds Try.pinned (OpenSpec.ofChange fnSuspectTimeSpec)

/-- ITS FALSE NEIGHBOUR: 'it returns false'. Refute it at one input. -/
def fnSuspectTimeWrong : ChangeSpec := { name := "fnSuspectTime", fn := fun _ => fun
  | [d] => { results := [.lit (.bool false)], args := [d] }
  | _ => none }
def FnSuspectTimeWrongFalsely : Prop := fnSuspectTimeRow.holds Try.pinned (OpenSpec.ofChange fnSuspectTimeWrong)

/-- 'laws.FnPlaceMembers': WHATEVER THE INPUT: true; the input reads as it did. -/
def fnPlaceMembersSpec : ChangeSpec := { name := "fnPlaceMembers", fn := fun _ => fun
  | [d] => { results := [.lit (.bool true)], args := [d] }
  | _ => none }
def fnPlaceMembersRow : OpenClaim := { program := "ytbieglaagpogkaa", sum := "f28f6634778ceae9010f0479b97ff824b233b16f127d63a973e6ac3d1935c008", func := "loop.example/rangechains/laws.FnPlaceMembers", spec := "fnPlaceMembers", recurses := true, apart := false }
def FnPlaceMembersSaid : Prop := fnPlaceMembersRow.holds Try.pinned (OpenSpec.ofChange fnPlaceMembersSpec)

/-- ITS FALSE NEIGHBOUR: 'it returns false'. Refute it at one input. -/
def fnPlaceMembersWrong : ChangeSpec := { name := "fnPlaceMembers", fn := fun _ => fun
  | [d] => { results := [.lit (.bool false)], args := [d] }
  | _ => none }
def FnPlaceMembersWrongFalsely : Prop := fnPlaceMembersRow.holds Try.pinned (OpenSpec.ofChange fnPlaceMembersWrong)

/-- 'laws.FnHearBeat': WHATEVER THE INPUT: true; the input reads as it did. -/
def fnHearBeatSpec : ChangeSpec := { name := "fnHearBeat", fn := fun _ => fun
  | [d] => { results := [.lit (.bool true)], args := [d] }
  | _ => none }
def fnHearBeatRow : OpenClaim := { program := "ytbieglaagpogkaa", sum := "f28f6634778ceae9010f0479b97ff824b233b16f127d63a973e6ac3d1935c008", func := "loop.example/rangechains/laws.FnHearBeat", spec := "fnHearBeat", recurses := true, apart := false }
def FnHearBeatSaid : Prop := fnHearBeatRow.holds Try.pinned (OpenSpec.ofChange fnHearBeatSpec)

/-- ITS FALSE NEIGHBOUR: 'it returns false'. Refute it at one input. -/
def fnHearBeatWrong : ChangeSpec := { name := "fnHearBeat", fn := fun _ => fun
  | [d] => { results := [.lit (.bool false)], args := [d] }
  | _ => none }
def FnHearBeatWrongFalsely : Prop := fnHearBeatRow.holds Try.pinned (OpenSpec.ofChange fnHearBeatWrong)

/-- 'laws.FnExactPieceValid': WHATEVER THE INPUT: true; the input reads as it did. -/
def fnExactPieceValidSpec : ChangeSpec := { name := "fnExactPieceValid", fn := fun _ => fun
  | [d] => { results := [.lit (.bool true)], args := [d] }
  | _ => none }
def fnExactPieceValidRow : OpenClaim := { program := "ytbieglaagpogkaa", sum := "f28f6634778ceae9010f0479b97ff824b233b16f127d63a973e6ac3d1935c008", func := "loop.example/rangechains/laws.FnExactPieceValid", spec := "fnExactPieceValid", recurses := true, apart := false }
def FnExactPieceValidSaid : Prop := fnExactPieceValidRow.holds Try.pinned (OpenSpec.ofChange fnExactPieceValidSpec)

/-- ITS FALSE NEIGHBOUR: 'it returns false'. Refute it at one input. -/
def fnExactPieceValidWrong : ChangeSpec := { name := "fnExactPieceValid", fn := fun _ => fun
  | [d] => { results := [.lit (.bool false)], args := [d] }
  | _ => none }
def FnExactPieceValidWrongFalsely : Prop := fnExactPieceValidRow.holds Try.pinned (OpenSpec.ofChange fnExactPieceValidWrong)

/-- 'laws.FnExactRepairConfig': WHATEVER THE INPUT: true; the input reads as it did. -/
def fnExactRepairConfigSpec : ChangeSpec := { name := "fnExactRepairConfig", fn := fun _ => fun
  | [d1, d2] => { results := [.lit (.bool true)], args := [d1, d2] }
  | _ => none }
def fnExactRepairConfigRow : OpenClaim := { program := "ytbieglaagpogkaa", sum := "f28f6634778ceae9010f0479b97ff824b233b16f127d63a973e6ac3d1935c008", func := "loop.example/rangechains/laws.FnExactRepairConfig", spec := "fnExactRepairConfig", apart := false }
def FnExactRepairConfigSaid : Prop := fnExactRepairConfigRow.holds Try.pinned (OpenSpec.ofChange fnExactRepairConfigSpec)

/-- ITS FALSE NEIGHBOUR: 'it returns false'. Refute it at one input. -/
def fnExactRepairConfigWrong : ChangeSpec := { name := "fnExactRepairConfig", fn := fun _ => fun
  | [d1, d2] => { results := [.lit (.bool false)], args := [d1, d2] }
  | _ => none }
def FnExactRepairConfigWrongFalsely : Prop := fnExactRepairConfigRow.holds Try.pinned (OpenSpec.ofChange fnExactRepairConfigWrong)

/-- 'laws.FnExactDeedValid': WHATEVER THE INPUT: true; the input reads as it did. -/
def fnExactDeedValidSpec : ChangeSpec := { name := "fnExactDeedValid", fn := fun _ => fun
  | [d] => { results := [.lit (.bool true)], args := [d] }
  | _ => none }
def fnExactDeedValidRow : OpenClaim := { program := "ytbieglaagpogkaa", sum := "f28f6634778ceae9010f0479b97ff824b233b16f127d63a973e6ac3d1935c008", func := "loop.example/rangechains/laws.FnExactDeedValid", spec := "fnExactDeedValid", recurses := true, apart := false }
def FnExactDeedValidSaid : Prop := fnExactDeedValidRow.holds Try.pinned (OpenSpec.ofChange fnExactDeedValidSpec)

/-- ITS FALSE NEIGHBOUR: 'it returns false'. Refute it at one input. -/
def fnExactDeedValidWrong : ChangeSpec := { name := "fnExactDeedValid", fn := fun _ => fun
  | [d] => { results := [.lit (.bool false)], args := [d] }
  | _ => none }
def FnExactDeedValidWrongFalsely : Prop := fnExactDeedValidRow.holds Try.pinned (OpenSpec.ofChange fnExactDeedValidWrong)

/-- 'laws.FnPickSpare': WHATEVER THE INPUT: true; the input reads as it did. -/
def fnPickSpareSpec : ChangeSpec := { name := "fnPickSpare", fn := fun _ => fun
  | [d] => { results := [.lit (.bool true)], args := [d] }
  | _ => none }
def fnPickSpareRow : OpenClaim := { program := "ytbieglaagpogkaa", sum := "f28f6634778ceae9010f0479b97ff824b233b16f127d63a973e6ac3d1935c008", func := "loop.example/rangechains/laws.FnPickSpare", spec := "fnPickSpare", recurses := true, apart := false }
def FnPickSpareSaid : Prop := fnPickSpareRow.holds Try.pinned (OpenSpec.ofChange fnPickSpareSpec)

/-- ITS FALSE NEIGHBOUR: 'it returns false'. Refute it at one input. -/
def fnPickSpareWrong : ChangeSpec := { name := "fnPickSpare", fn := fun _ => fun
  | [d] => { results := [.lit (.bool false)], args := [d] }
  | _ => none }
def FnPickSpareWrongFalsely : Prop := fnPickSpareRow.holds Try.pinned (OpenSpec.ofChange fnPickSpareWrong)

/-- 'laws.FnRepairConfig': WHATEVER THE INPUT: true; the input reads as it did. -/
def fnRepairConfigSpec : ChangeSpec := { name := "fnRepairConfig", fn := fun _ => fun
  | [d] => { results := [.lit (.bool true)], args := [d] }
  | _ => none }
def fnRepairConfigRow : OpenClaim := { program := "ytbieglaagpogkaa", sum := "f28f6634778ceae9010f0479b97ff824b233b16f127d63a973e6ac3d1935c008", func := "loop.example/rangechains/laws.FnRepairConfig", spec := "fnRepairConfig", recurses := true, apart := false }
def FnRepairConfigSaid : Prop := fnRepairConfigRow.holds Try.pinned (OpenSpec.ofChange fnRepairConfigSpec)

/-- ITS FALSE NEIGHBOUR: 'it returns false'. Refute it at one input. -/
def fnRepairConfigWrong : ChangeSpec := { name := "fnRepairConfig", fn := fun _ => fun
  | [d] => { results := [.lit (.bool false)], args := [d] }
  | _ => none }
def FnRepairConfigWrongFalsely : Prop := fnRepairConfigRow.holds Try.pinned (OpenSpec.ofChange fnRepairConfigWrong)

/-- 'laws.FnExactMergeWanted': WHATEVER THE INPUT: true; the input reads as it did. -/
def fnExactMergeWantedSpec : ChangeSpec := { name := "fnExactMergeWanted", fn := fun _ => fun
  | [d1, d2] => { results := [.lit (.bool true)], args := [d1, d2] }
  | _ => none }
def fnExactMergeWantedRow : OpenClaim := { program := "ytbieglaagpogkaa", sum := "f28f6634778ceae9010f0479b97ff824b233b16f127d63a973e6ac3d1935c008", func := "loop.example/rangechains/laws.FnExactMergeWanted", spec := "fnExactMergeWanted", recurses := true, apart := false }
def FnExactMergeWantedSaid : Prop := fnExactMergeWantedRow.holds Try.pinned (OpenSpec.ofChange fnExactMergeWantedSpec)

/-- ITS FALSE NEIGHBOUR: 'it returns false'. Refute it at one input. -/
def fnExactMergeWantedWrong : ChangeSpec := { name := "fnExactMergeWanted", fn := fun _ => fun
  | [d1, d2] => { results := [.lit (.bool false)], args := [d1, d2] }
  | _ => none }
def FnExactMergeWantedWrongFalsely : Prop := fnExactMergeWantedRow.holds Try.pinned (OpenSpec.ofChange fnExactMergeWantedWrong)

/-- 'laws.FnExactSplitWanted': WHATEVER THE INPUT: true; the input reads as it did. -/
def fnExactSplitWantedSpec : ChangeSpec := { name := "fnExactSplitWanted", fn := fun _ => fun
  | [d] => { results := [.lit (.bool true)], args := [d] }
  | _ => none }
def fnExactSplitWantedRow : OpenClaim := { program := "ytbieglaagpogkaa", sum := "f28f6634778ceae9010f0479b97ff824b233b16f127d63a973e6ac3d1935c008", func := "loop.example/rangechains/laws.FnExactSplitWanted", spec := "fnExactSplitWanted", recurses := true, apart := false }
def FnExactSplitWantedSaid : Prop := fnExactSplitWantedRow.holds Try.pinned (OpenSpec.ofChange fnExactSplitWantedSpec)

/-- ITS FALSE NEIGHBOUR: 'it returns false'. Refute it at one input. -/
def fnExactSplitWantedWrong : ChangeSpec := { name := "fnExactSplitWanted", fn := fun _ => fun
  | [d] => { results := [.lit (.bool false)], args := [d] }
  | _ => none }
def FnExactSplitWantedWrongFalsely : Prop := fnExactSplitWantedRow.holds Try.pinned (OpenSpec.ofChange fnExactSplitWantedWrong)

/-- 'laws.FnExactStitchPieces': WHATEVER THE INPUT: true; the input reads as it did. -/
def fnExactStitchPiecesSpec : ChangeSpec := { name := "fnExactStitchPieces", fn := fun _ => fun
  | [d1, d2, d3] => { results := [.lit (.bool true)], args := [d1, d2, d3] }
  | _ => none }
def fnExactStitchPiecesRow : OpenClaim := { program := "ytbieglaagpogkaa", sum := "f28f6634778ceae9010f0479b97ff824b233b16f127d63a973e6ac3d1935c008", func := "loop.example/rangechains/laws.FnExactStitchPieces", spec := "fnExactStitchPieces", recurses := true, apart := false }
def FnExactStitchPiecesSaid : Prop := fnExactStitchPiecesRow.holds Try.pinned (OpenSpec.ofChange fnExactStitchPiecesSpec)

/-- ITS FALSE NEIGHBOUR: 'it returns false'. Refute it at one input. -/
def fnExactStitchPiecesWrong : ChangeSpec := { name := "fnExactStitchPieces", fn := fun _ => fun
  | [d1, d2, d3] => { results := [.lit (.bool false)], args := [d1, d2, d3] }
  | _ => none }
def FnExactStitchPiecesWrongFalsely : Prop := fnExactStitchPiecesRow.holds Try.pinned (OpenSpec.ofChange fnExactStitchPiecesWrong)

/-- 'laws.FnPieceValid': WHATEVER THE INPUT: true; the input reads as it did. -/
def fnPieceValidSpec : ChangeSpec := { name := "fnPieceValid", fn := fun _ => fun
  | [d] => { results := [.lit (.bool true)], args := [d] }
  | _ => none }
def fnPieceValidRow : OpenClaim := { program := "ytbieglaagpogkaa", sum := "f28f6634778ceae9010f0479b97ff824b233b16f127d63a973e6ac3d1935c008", func := "loop.example/rangechains/laws.FnPieceValid", spec := "fnPieceValid", recurses := true, apart := false }
def FnPieceValidSaid : Prop := fnPieceValidRow.holds Try.pinned (OpenSpec.ofChange fnPieceValidSpec)

/-- ITS FALSE NEIGHBOUR: 'it returns false'. Refute it at one input. -/
def fnPieceValidWrong : ChangeSpec := { name := "fnPieceValid", fn := fun _ => fun
  | [d] => { results := [.lit (.bool false)], args := [d] }
  | _ => none }
def FnPieceValidWrongFalsely : Prop := fnPieceValidRow.holds Try.pinned (OpenSpec.ofChange fnPieceValidWrong)

/- THE SECOND FORM. 'bulk': how many values and letters a reading holds, each counted each time it is reached (what is shared counts as often as it is met; a slice's spare places count too). A statement '..UptoSaid' is the law's where the arguments, and the package variables that the reading takes, are together of bulk at most 1048576: NARROWER than '..Said'. Prove '..Said' where nothing that the law and all that it calls make is longer than what came in: it says more and counts as full. Else prove '..UptoSaid'. A law counts once. -/
mutual
def uptoBulk {H : Type} : DataW H → Nat
  | .lit (.string bytes) => bytes.length + 1
  | .lit _ => 1
  | .nil => 1
  | .ptr d => uptoBulk d + 1
  | .slice elems spare => uptoBulkAll elems + uptoBulkAll spare + 1
  | .agg parts => uptoBulkAll parts + 1
  | .iface _ d => uptoBulk d + 1
  | .map entries => uptoBulkEntries entries + 1
  | .held _ => 1
def uptoBulkAll {H : Type} : List (DataW H) → Nat
  | [] => 0
  | d :: r => uptoBulk d + uptoBulkAll r
def uptoBulkEntries {H : Type} : List (Lit × DataW H) → Nat
  | [] => 0
  | x :: r => uptoBulkEntry x + uptoBulkEntries r
def uptoBulkEntry {H : Type} : Lit × DataW H → Nat
  | (.string bytes, d) => bytes.length + uptoBulk d + 1
  | (_, d) => uptoBulk d + 1
 end
def uptoSmall : (H : Type) → List (DataW H) → Bool := fun _ ds => decide (uptoBulkAll ds ≤ 1048576)
def OpenSpec.upto (s : _root_.Go.ChangeSpec) : _root_.Go.OpenSpec := { _root_.Go.OpenSpec.ofChange s with cond := some uptoSmall }

/-- 'laws.FnSuspectTime', WHERE WHAT IT READS IS OF BULK AT MOST 1048576: true; the input reads as it did. -/
def fnSuspectTimeUptoRow : OpenClaim := { program := "ytbieglaagpogkaa", sum := "f28f6634778ceae9010f0479b97ff824b233b16f127d63a973e6ac3d1935c008", func := "loop.example/rangechains/laws.FnSuspectTime", spec := "fnSuspectTime", recurses := true, apart := false, narrowed := true }
def FnSuspectTimeUptoSaid : Prop := fnSuspectTimeUptoRow.holds Try.pinned (OpenSpec.upto fnSuspectTimeSpec)

/-- 'laws.FnPlaceMembers', WHERE WHAT IT READS IS OF BULK AT MOST 1048576: true; the input reads as it did. -/
def fnPlaceMembersUptoRow : OpenClaim := { program := "ytbieglaagpogkaa", sum := "f28f6634778ceae9010f0479b97ff824b233b16f127d63a973e6ac3d1935c008", func := "loop.example/rangechains/laws.FnPlaceMembers", spec := "fnPlaceMembers", recurses := true, apart := false, narrowed := true }
def FnPlaceMembersUptoSaid : Prop := fnPlaceMembersUptoRow.holds Try.pinned (OpenSpec.upto fnPlaceMembersSpec)

/-- 'laws.FnHearBeat', WHERE WHAT IT READS IS OF BULK AT MOST 1048576: true; the input reads as it did. -/
def fnHearBeatUptoRow : OpenClaim := { program := "ytbieglaagpogkaa", sum := "f28f6634778ceae9010f0479b97ff824b233b16f127d63a973e6ac3d1935c008", func := "loop.example/rangechains/laws.FnHearBeat", spec := "fnHearBeat", recurses := true, apart := false, narrowed := true }
def FnHearBeatUptoSaid : Prop := fnHearBeatUptoRow.holds Try.pinned (OpenSpec.upto fnHearBeatSpec)

/-- 'laws.FnExactPieceValid', WHERE WHAT IT READS IS OF BULK AT MOST 1048576: true; the input reads as it did. -/
def fnExactPieceValidUptoRow : OpenClaim := { program := "ytbieglaagpogkaa", sum := "f28f6634778ceae9010f0479b97ff824b233b16f127d63a973e6ac3d1935c008", func := "loop.example/rangechains/laws.FnExactPieceValid", spec := "fnExactPieceValid", recurses := true, apart := false, narrowed := true }
def FnExactPieceValidUptoSaid : Prop := fnExactPieceValidUptoRow.holds Try.pinned (OpenSpec.upto fnExactPieceValidSpec)

/-- 'laws.FnExactRepairConfig', WHERE WHAT IT READS IS OF BULK AT MOST 1048576: true; the input reads as it did. -/
def fnExactRepairConfigUptoRow : OpenClaim := { program := "ytbieglaagpogkaa", sum := "f28f6634778ceae9010f0479b97ff824b233b16f127d63a973e6ac3d1935c008", func := "loop.example/rangechains/laws.FnExactRepairConfig", spec := "fnExactRepairConfig", apart := false, narrowed := true }
def FnExactRepairConfigUptoSaid : Prop := fnExactRepairConfigUptoRow.holds Try.pinned (OpenSpec.upto fnExactRepairConfigSpec)

/-- 'laws.FnExactDeedValid', WHERE WHAT IT READS IS OF BULK AT MOST 1048576: true; the input reads as it did. -/
def fnExactDeedValidUptoRow : OpenClaim := { program := "ytbieglaagpogkaa", sum := "f28f6634778ceae9010f0479b97ff824b233b16f127d63a973e6ac3d1935c008", func := "loop.example/rangechains/laws.FnExactDeedValid", spec := "fnExactDeedValid", recurses := true, apart := false, narrowed := true }
def FnExactDeedValidUptoSaid : Prop := fnExactDeedValidUptoRow.holds Try.pinned (OpenSpec.upto fnExactDeedValidSpec)

/-- 'laws.FnPickSpare', WHERE WHAT IT READS IS OF BULK AT MOST 1048576: true; the input reads as it did. -/
def fnPickSpareUptoRow : OpenClaim := { program := "ytbieglaagpogkaa", sum := "f28f6634778ceae9010f0479b97ff824b233b16f127d63a973e6ac3d1935c008", func := "loop.example/rangechains/laws.FnPickSpare", spec := "fnPickSpare", recurses := true, apart := false, narrowed := true }
def FnPickSpareUptoSaid : Prop := fnPickSpareUptoRow.holds Try.pinned (OpenSpec.upto fnPickSpareSpec)

/-- 'laws.FnRepairConfig', WHERE WHAT IT READS IS OF BULK AT MOST 1048576: true; the input reads as it did. -/
def fnRepairConfigUptoRow : OpenClaim := { program := "ytbieglaagpogkaa", sum := "f28f6634778ceae9010f0479b97ff824b233b16f127d63a973e6ac3d1935c008", func := "loop.example/rangechains/laws.FnRepairConfig", spec := "fnRepairConfig", recurses := true, apart := false, narrowed := true }
def FnRepairConfigUptoSaid : Prop := fnRepairConfigUptoRow.holds Try.pinned (OpenSpec.upto fnRepairConfigSpec)

/-- 'laws.FnExactMergeWanted', WHERE WHAT IT READS IS OF BULK AT MOST 1048576: true; the input reads as it did. -/
def fnExactMergeWantedUptoRow : OpenClaim := { program := "ytbieglaagpogkaa", sum := "f28f6634778ceae9010f0479b97ff824b233b16f127d63a973e6ac3d1935c008", func := "loop.example/rangechains/laws.FnExactMergeWanted", spec := "fnExactMergeWanted", recurses := true, apart := false, narrowed := true }
def FnExactMergeWantedUptoSaid : Prop := fnExactMergeWantedUptoRow.holds Try.pinned (OpenSpec.upto fnExactMergeWantedSpec)

/-- 'laws.FnExactSplitWanted', WHERE WHAT IT READS IS OF BULK AT MOST 1048576: true; the input reads as it did. -/
def fnExactSplitWantedUptoRow : OpenClaim := { program := "ytbieglaagpogkaa", sum := "f28f6634778ceae9010f0479b97ff824b233b16f127d63a973e6ac3d1935c008", func := "loop.example/rangechains/laws.FnExactSplitWanted", spec := "fnExactSplitWanted", recurses := true, apart := false, narrowed := true }
def FnExactSplitWantedUptoSaid : Prop := fnExactSplitWantedUptoRow.holds Try.pinned (OpenSpec.upto fnExactSplitWantedSpec)

/-- 'laws.FnExactStitchPieces', WHERE WHAT IT READS IS OF BULK AT MOST 1048576: true; the input reads as it did. -/
def fnExactStitchPiecesUptoRow : OpenClaim := { program := "ytbieglaagpogkaa", sum := "f28f6634778ceae9010f0479b97ff824b233b16f127d63a973e6ac3d1935c008", func := "loop.example/rangechains/laws.FnExactStitchPieces", spec := "fnExactStitchPieces", recurses := true, apart := false, narrowed := true }
def FnExactStitchPiecesUptoSaid : Prop := fnExactStitchPiecesUptoRow.holds Try.pinned (OpenSpec.upto fnExactStitchPiecesSpec)

/-- 'laws.FnPieceValid', WHERE WHAT IT READS IS OF BULK AT MOST 1048576: true; the input reads as it did. -/
def fnPieceValidUptoRow : OpenClaim := { program := "ytbieglaagpogkaa", sum := "f28f6634778ceae9010f0479b97ff824b233b16f127d63a973e6ac3d1935c008", func := "loop.example/rangechains/laws.FnPieceValid", spec := "fnPieceValid", recurses := true, apart := false, narrowed := true }
def FnPieceValidUptoSaid : Prop := fnPieceValidUptoRow.holds Try.pinned (OpenSpec.upto fnPieceValidSpec)

end Rows
end Go.Proofs.Ytbieglaagpogkaa
