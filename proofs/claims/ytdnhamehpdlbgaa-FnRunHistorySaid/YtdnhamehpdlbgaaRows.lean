/-
  No cell of these rows narrows 'for every input' (looked for: loops, veiled, ifaces, maps, wideKeys, modest, calm, conditions, laid).
  DERIVED. THE GIVEN ROWS OF THIS SEAT. 12 by the template 'for every input the law returns true; each argument reads behind the call as it read before'; 0 by the template 'total and deterministic' (their statements: YtdnhamehpdlbgaaTotals.lean).
  GIVEN WITH THE SEED: the statements are not yours to turn. If you find one false, say at which input.
  Laid BY PROGRAM, IN A SANDBOX (cutbox-rows.mjs): the forced cells as the released guide's own fill.sh prints them over the translation 53f02fd63453d0c8… (all of the seat's roots in one cut). By AI agents, Wed Nov 11 2026. No macro, syntax, notation, axiom, sorry.
-/
import Derived.Test.YtdnhamehpdlbgaaChecked
import GoSem.Claim
import GoSem.ClaimJoined
import GoSem.ClaimMapViews
import Derived.JoinedTies
import Derived.KernelRfl
namespace Go.Proofs.Ytdnhamehpdlbgaa
/- THE CELL 'sum', in the pinned program and in every row, IS THE sha256 OF THE DUMP (.gsa) THAT YtdnhamehpdlbgaaProg.lean LOADS. Nothing in Lean hashes anything: it is a label: what it is worth is what the hold of that sum in a sandbox is worth. -/
noncomputable def Try.pinned : Pinned := { name := "ytdnhamehpdlbgaa", sum := "53f02fd63453d0c8a02299fe76b45244009b273fe7948b623bb14d2f07b3e285", checked := Try.checked }
namespace Rows
def none {H : Type} : Left H := { results := [], args := [] }

/-- 'laws.FnExactRepairConfig': WHATEVER THE INPUT: true; the input reads as it did. -/
def fnExactRepairConfigSpec : ChangeSpec := { name := "fnExactRepairConfig", fn := fun _ => fun
  | [d1, d2] => { results := [.lit (.bool true)], args := [d1, d2] }
  | _ => none }
def fnExactRepairConfigRow : OpenClaim := { program := "ytdnhamehpdlbgaa", sum := "53f02fd63453d0c8a02299fe76b45244009b273fe7948b623bb14d2f07b3e285", func := "loop.example/rangechains/laws.FnExactRepairConfig", spec := "fnExactRepairConfig", apart := false }
def FnExactRepairConfigSaid : Prop := fnExactRepairConfigRow.holds Try.pinned (OpenSpec.ofChange fnExactRepairConfigSpec)

/-- ITS FALSE NEIGHBOUR: 'it returns false'. Refute it at one input. -/
def fnExactRepairConfigWrong : ChangeSpec := { name := "fnExactRepairConfig", fn := fun _ => fun
  | [d1, d2] => { results := [.lit (.bool false)], args := [d1, d2] }
  | _ => none }
def FnExactRepairConfigWrongFalsely : Prop := fnExactRepairConfigRow.holds Try.pinned (OpenSpec.ofChange fnExactRepairConfigWrong)

/-- 'laws.FnPickSpare': WHATEVER THE INPUT: true; the input reads as it did. -/
def fnPickSpareSpec : ChangeSpec := { name := "fnPickSpare", fn := fun _ => fun
  | [d] => { results := [.lit (.bool true)], args := [d] }
  | _ => none }
def fnPickSpareRow : OpenClaim := { program := "ytdnhamehpdlbgaa", sum := "53f02fd63453d0c8a02299fe76b45244009b273fe7948b623bb14d2f07b3e285", func := "loop.example/rangechains/laws.FnPickSpare", spec := "fnPickSpare", recurses := true, apart := false }
def FnPickSpareSaid : Prop := fnPickSpareRow.holds Try.pinned (OpenSpec.ofChange fnPickSpareSpec)

/-- ITS FALSE NEIGHBOUR: 'it returns false'. Refute it at one input. -/
def fnPickSpareWrong : ChangeSpec := { name := "fnPickSpare", fn := fun _ => fun
  | [d] => { results := [.lit (.bool false)], args := [d] }
  | _ => none }
def FnPickSpareWrongFalsely : Prop := fnPickSpareRow.holds Try.pinned (OpenSpec.ofChange fnPickSpareWrong)

/-- 'laws.FnRepairConfig': WHATEVER THE INPUT: true; the input reads as it did. -/
def fnRepairConfigSpec : ChangeSpec := { name := "fnRepairConfig", fn := fun _ => fun
  | [d] => { results := [.lit (.bool true)], args := [d] }
  | _ => none }
def fnRepairConfigRow : OpenClaim := { program := "ytdnhamehpdlbgaa", sum := "53f02fd63453d0c8a02299fe76b45244009b273fe7948b623bb14d2f07b3e285", func := "loop.example/rangechains/laws.FnRepairConfig", spec := "fnRepairConfig", recurses := true, apart := false }
def FnRepairConfigSaid : Prop := fnRepairConfigRow.holds Try.pinned (OpenSpec.ofChange fnRepairConfigSpec)

/-- ITS FALSE NEIGHBOUR: 'it returns false'. Refute it at one input. -/
def fnRepairConfigWrong : ChangeSpec := { name := "fnRepairConfig", fn := fun _ => fun
  | [d] => { results := [.lit (.bool false)], args := [d] }
  | _ => none }
def FnRepairConfigWrongFalsely : Prop := fnRepairConfigRow.holds Try.pinned (OpenSpec.ofChange fnRepairConfigWrong)

/-- 'laws.FnPieceValid': WHATEVER THE INPUT: true; the input reads as it did. -/
def fnPieceValidSpec : ChangeSpec := { name := "fnPieceValid", fn := fun _ => fun
  | [d] => { results := [.lit (.bool true)], args := [d] }
  | _ => none }
def fnPieceValidRow : OpenClaim := { program := "ytdnhamehpdlbgaa", sum := "53f02fd63453d0c8a02299fe76b45244009b273fe7948b623bb14d2f07b3e285", func := "loop.example/rangechains/laws.FnPieceValid", spec := "fnPieceValid", recurses := true, apart := false }
def FnPieceValidSaid : Prop := fnPieceValidRow.holds Try.pinned (OpenSpec.ofChange fnPieceValidSpec)

/-- ITS FALSE NEIGHBOUR: 'it returns false'. Refute it at one input. -/
def fnPieceValidWrong : ChangeSpec := { name := "fnPieceValid", fn := fun _ => fun
  | [d] => { results := [.lit (.bool false)], args := [d] }
  | _ => none }
def FnPieceValidWrongFalsely : Prop := fnPieceValidRow.holds Try.pinned (OpenSpec.ofChange fnPieceValidWrong)

/-- 'laws.FnExactRunHistory': WHATEVER THE INPUT: true; the input reads as it did. -/
def fnExactRunHistorySpec : ChangeSpec := { name := "fnExactRunHistory", fn := fun _ => fun
  | [d] => { results := [.lit (.bool true)], args := [d] }
  | _ => none }
def fnExactRunHistoryRow : OpenClaim := { program := "ytdnhamehpdlbgaa", sum := "53f02fd63453d0c8a02299fe76b45244009b273fe7948b623bb14d2f07b3e285", func := "loop.example/rangechains/laws.FnExactRunHistory", spec := "fnExactRunHistory", unfollowed := true, recurses := true, apart := false }
def FnExactRunHistorySaid : Prop := fnExactRunHistoryRow.holds Try.pinned (OpenSpec.ofChange fnExactRunHistorySpec)

/-- ITS FALSE NEIGHBOUR: 'it returns false'. Refute it at one input. -/
def fnExactRunHistoryWrong : ChangeSpec := { name := "fnExactRunHistory", fn := fun _ => fun
  | [d] => { results := [.lit (.bool false)], args := [d] }
  | _ => none }
def FnExactRunHistoryWrongFalsely : Prop := fnExactRunHistoryRow.holds Try.pinned (OpenSpec.ofChange fnExactRunHistoryWrong)

/-- 'laws.FnRunHistory': WHATEVER THE INPUT: true; the input reads as it did. -/
def fnRunHistorySpec : ChangeSpec := { name := "fnRunHistory", fn := fun _ => fun
  | [d] => { results := [.lit (.bool true)], args := [d] }
  | _ => none }
def fnRunHistoryRow : OpenClaim := { program := "ytdnhamehpdlbgaa", sum := "53f02fd63453d0c8a02299fe76b45244009b273fe7948b623bb14d2f07b3e285", func := "loop.example/rangechains/laws.FnRunHistory", spec := "fnRunHistory", unfollowed := true, recurses := true, apart := false }
def FnRunHistorySaid : Prop := fnRunHistoryRow.holds Try.pinned (OpenSpec.ofChange fnRunHistorySpec)

/-- ITS FALSE NEIGHBOUR: 'it returns false'. Refute it at one input. -/
def fnRunHistoryWrong : ChangeSpec := { name := "fnRunHistory", fn := fun _ => fun
  | [d] => { results := [.lit (.bool false)], args := [d] }
  | _ => none }
def FnRunHistoryWrongFalsely : Prop := fnRunHistoryRow.holds Try.pinned (OpenSpec.ofChange fnRunHistoryWrong)

/-- 'laws.FnExactScanPiece': WHATEVER THE INPUT: true; the input reads as it did. -/
def fnExactScanPieceSpec : ChangeSpec := { name := "fnExactScanPiece", fn := fun _ => fun
  | [d1, d2] => { results := [.lit (.bool true)], args := [d1, d2] }
  | _ => none }
def fnExactScanPieceRow : OpenClaim := { program := "ytdnhamehpdlbgaa", sum := "53f02fd63453d0c8a02299fe76b45244009b273fe7948b623bb14d2f07b3e285", func := "loop.example/rangechains/laws.FnExactScanPiece", spec := "fnExactScanPiece", unfollowed := true, recurses := true, apart := false }
def FnExactScanPieceSaid : Prop := fnExactScanPieceRow.holds Try.pinned (OpenSpec.ofChange fnExactScanPieceSpec)

/-- ITS FALSE NEIGHBOUR: 'it returns false'. Refute it at one input. -/
def fnExactScanPieceWrong : ChangeSpec := { name := "fnExactScanPiece", fn := fun _ => fun
  | [d1, d2] => { results := [.lit (.bool false)], args := [d1, d2] }
  | _ => none }
def FnExactScanPieceWrongFalsely : Prop := fnExactScanPieceRow.holds Try.pinned (OpenSpec.ofChange fnExactScanPieceWrong)

/-- 'laws.FnStitchPieces': WHATEVER THE INPUT: true; the input reads as it did. -/
def fnStitchPiecesSpec : ChangeSpec := { name := "fnStitchPieces", fn := fun _ => fun
  | [d] => { results := [.lit (.bool true)], args := [d] }
  | _ => none }
def fnStitchPiecesRow : OpenClaim := { program := "ytdnhamehpdlbgaa", sum := "53f02fd63453d0c8a02299fe76b45244009b273fe7948b623bb14d2f07b3e285", func := "loop.example/rangechains/laws.FnStitchPieces", spec := "fnStitchPieces", unfollowed := true, recurses := true, apart := false }
def FnStitchPiecesSaid : Prop := fnStitchPiecesRow.holds Try.pinned (OpenSpec.ofChange fnStitchPiecesSpec)

/-- ITS FALSE NEIGHBOUR: 'it returns false'. Refute it at one input. -/
def fnStitchPiecesWrong : ChangeSpec := { name := "fnStitchPieces", fn := fun _ => fun
  | [d] => { results := [.lit (.bool false)], args := [d] }
  | _ => none }
def FnStitchPiecesWrongFalsely : Prop := fnStitchPiecesRow.holds Try.pinned (OpenSpec.ofChange fnStitchPiecesWrong)

/-- 'laws.FnScanPiece': WHATEVER THE INPUT: true; the input reads as it did. -/
def fnScanPieceSpec : ChangeSpec := { name := "fnScanPiece", fn := fun _ => fun
  | [d] => { results := [.lit (.bool true)], args := [d] }
  | _ => none }
def fnScanPieceRow : OpenClaim := { program := "ytdnhamehpdlbgaa", sum := "53f02fd63453d0c8a02299fe76b45244009b273fe7948b623bb14d2f07b3e285", func := "loop.example/rangechains/laws.FnScanPiece", spec := "fnScanPiece", unfollowed := true, recurses := true, apart := false }
def FnScanPieceSaid : Prop := fnScanPieceRow.holds Try.pinned (OpenSpec.ofChange fnScanPieceSpec)

/-- ITS FALSE NEIGHBOUR: 'it returns false'. Refute it at one input. -/
def fnScanPieceWrong : ChangeSpec := { name := "fnScanPiece", fn := fun _ => fun
  | [d] => { results := [.lit (.bool false)], args := [d] }
  | _ => none }
def FnScanPieceWrongFalsely : Prop := fnScanPieceRow.holds Try.pinned (OpenSpec.ofChange fnScanPieceWrong)

/-- 'laws.FnSplitWanted': WHATEVER THE INPUT: true; the input reads as it did. -/
def fnSplitWantedSpec : ChangeSpec := { name := "fnSplitWanted", fn := fun _ => fun
  | [d] => { results := [.lit (.bool true)], args := [d] }
  | _ => none }
def fnSplitWantedRow : OpenClaim := { program := "ytdnhamehpdlbgaa", sum := "53f02fd63453d0c8a02299fe76b45244009b273fe7948b623bb14d2f07b3e285", func := "loop.example/rangechains/laws.FnSplitWanted", spec := "fnSplitWanted", unfollowed := true, recurses := true, apart := false }
def FnSplitWantedSaid : Prop := fnSplitWantedRow.holds Try.pinned (OpenSpec.ofChange fnSplitWantedSpec)

/-- ITS FALSE NEIGHBOUR: 'it returns false'. Refute it at one input. -/
def fnSplitWantedWrong : ChangeSpec := { name := "fnSplitWanted", fn := fun _ => fun
  | [d] => { results := [.lit (.bool false)], args := [d] }
  | _ => none }
def FnSplitWantedWrongFalsely : Prop := fnSplitWantedRow.holds Try.pinned (OpenSpec.ofChange fnSplitWantedWrong)

/-- 'laws.FnMergeWanted': WHATEVER THE INPUT: true; the input reads as it did. -/
def fnMergeWantedSpec : ChangeSpec := { name := "fnMergeWanted", fn := fun _ => fun
  | [d] => { results := [.lit (.bool true)], args := [d] }
  | _ => none }
def fnMergeWantedRow : OpenClaim := { program := "ytdnhamehpdlbgaa", sum := "53f02fd63453d0c8a02299fe76b45244009b273fe7948b623bb14d2f07b3e285", func := "loop.example/rangechains/laws.FnMergeWanted", spec := "fnMergeWanted", unfollowed := true, recurses := true, apart := false }
def FnMergeWantedSaid : Prop := fnMergeWantedRow.holds Try.pinned (OpenSpec.ofChange fnMergeWantedSpec)

/-- ITS FALSE NEIGHBOUR: 'it returns false'. Refute it at one input. -/
def fnMergeWantedWrong : ChangeSpec := { name := "fnMergeWanted", fn := fun _ => fun
  | [d] => { results := [.lit (.bool false)], args := [d] }
  | _ => none }
def FnMergeWantedWrongFalsely : Prop := fnMergeWantedRow.holds Try.pinned (OpenSpec.ofChange fnMergeWantedWrong)

/-- 'laws.FnDeedValid': WHATEVER THE INPUT: true; the input reads as it did. -/
def fnDeedValidSpec : ChangeSpec := { name := "fnDeedValid", fn := fun _ => fun
  | [d] => { results := [.lit (.bool true)], args := [d] }
  | _ => none }
def fnDeedValidRow : OpenClaim := { program := "ytdnhamehpdlbgaa", sum := "53f02fd63453d0c8a02299fe76b45244009b273fe7948b623bb14d2f07b3e285", func := "loop.example/rangechains/laws.FnDeedValid", spec := "fnDeedValid", recurses := true, apart := false }
def FnDeedValidSaid : Prop := fnDeedValidRow.holds Try.pinned (OpenSpec.ofChange fnDeedValidSpec)

/-- ITS FALSE NEIGHBOUR: 'it returns false'. Refute it at one input. -/
def fnDeedValidWrong : ChangeSpec := { name := "fnDeedValid", fn := fun _ => fun
  | [d] => { results := [.lit (.bool false)], args := [d] }
  | _ => none }
def FnDeedValidWrongFalsely : Prop := fnDeedValidRow.holds Try.pinned (OpenSpec.ofChange fnDeedValidWrong)

/- THE SECOND FORM. 'bulk': how many values and letters a reading holds, each counted each time it is reached (what is shared counts as often as it is met; a slice's spare places count too). A statement '..UptoSaid' is the law's where the arguments, and the package variables that the reading takes, are together of bulk at most 1048576: NARROWER than '..Said'. Prove '..Said' where nothing that the law and all that it calls make is longer than what came in: it says more and counts as full. Else prove '..UptoSaid'. A law counts once. -/
mutual
def uptoBulk {H : Type} : DataW H → Nat
  | .lit (.string bytes) => bytes.length + 1
  | .lit _ => 1
  | .nil => 1
  | .ptr d => uptoBulk d + 1
  | .slice elems spare => uptoBulkAll elems + uptoBulkAll spare + 1
  | .agg parts => uptoBulkAll parts + 1
  | .iface _ d => uptoBulk d + 1
  | .map entries => uptoBulkEntries entries + 1
  | .held _ => 1
def uptoBulkAll {H : Type} : List (DataW H) → Nat
  | [] => 0
  | d :: r => uptoBulk d + uptoBulkAll r
def uptoBulkEntries {H : Type} : List (Lit × DataW H) → Nat
  | [] => 0
  | x :: r => uptoBulkEntry x + uptoBulkEntries r
def uptoBulkEntry {H : Type} : Lit × DataW H → Nat
  | (.string bytes, d) => bytes.length + uptoBulk d + 1
  | (_, d) => uptoBulk d + 1
 end
def uptoSmall : (H : Type) → List (DataW H) → Bool := fun _ ds => decide (uptoBulkAll ds ≤ 1048576)
def OpenSpec.upto (s : _root_.Go.ChangeSpec) : _root_.Go.OpenSpec := { _root_.Go.OpenSpec.ofChange s with cond := some uptoSmall }

/-- 'laws.FnExactRepairConfig', WHERE WHAT IT READS IS OF BULK AT MOST 1048576: true; the input reads as it did. -/
def fnExactRepairConfigUptoRow : OpenClaim := { program := "ytdnhamehpdlbgaa", sum := "53f02fd63453d0c8a02299fe76b45244009b273fe7948b623bb14d2f07b3e285", func := "loop.example/rangechains/laws.FnExactRepairConfig", spec := "fnExactRepairConfig", apart := false, narrowed := true }
def FnExactRepairConfigUptoSaid : Prop := fnExactRepairConfigUptoRow.holds Try.pinned (OpenSpec.upto fnExactRepairConfigSpec)

/-- 'laws.FnPickSpare', WHERE WHAT IT READS IS OF BULK AT MOST 1048576: true; the input reads as it did. -/
def fnPickSpareUptoRow : OpenClaim := { program := "ytdnhamehpdlbgaa", sum := "53f02fd63453d0c8a02299fe76b45244009b273fe7948b623bb14d2f07b3e285", func := "loop.example/rangechains/laws.FnPickSpare", spec := "fnPickSpare", recurses := true, apart := false, narrowed := true }
def FnPickSpareUptoSaid : Prop := fnPickSpareUptoRow.holds Try.pinned (OpenSpec.upto fnPickSpareSpec)

/-- 'laws.FnRepairConfig', WHERE WHAT IT READS IS OF BULK AT MOST 1048576: true; the input reads as it did. -/
def fnRepairConfigUptoRow : OpenClaim := { program := "ytdnhamehpdlbgaa", sum := "53f02fd63453d0c8a02299fe76b45244009b273fe7948b623bb14d2f07b3e285", func := "loop.example/rangechains/laws.FnRepairConfig", spec := "fnRepairConfig", recurses := true, apart := false, narrowed := true }
def FnRepairConfigUptoSaid : Prop := fnRepairConfigUptoRow.holds Try.pinned (OpenSpec.upto fnRepairConfigSpec)

/-- 'laws.FnPieceValid', WHERE WHAT IT READS IS OF BULK AT MOST 1048576: true; the input reads as it did. -/
def fnPieceValidUptoRow : OpenClaim := { program := "ytdnhamehpdlbgaa", sum := "53f02fd63453d0c8a02299fe76b45244009b273fe7948b623bb14d2f07b3e285", func := "loop.example/rangechains/laws.FnPieceValid", spec := "fnPieceValid", recurses := true, apart := false, narrowed := true }
def FnPieceValidUptoSaid : Prop := fnPieceValidUptoRow.holds Try.pinned (OpenSpec.upto fnPieceValidSpec)

/-- 'laws.FnExactRunHistory', WHERE WHAT IT READS IS OF BULK AT MOST 1048576: true; the input reads as it did. -/
def fnExactRunHistoryUptoRow : OpenClaim := { program := "ytdnhamehpdlbgaa", sum := "53f02fd63453d0c8a02299fe76b45244009b273fe7948b623bb14d2f07b3e285", func := "loop.example/rangechains/laws.FnExactRunHistory", spec := "fnExactRunHistory", unfollowed := true, recurses := true, apart := false, narrowed := true }
def FnExactRunHistoryUptoSaid : Prop := fnExactRunHistoryUptoRow.holds Try.pinned (OpenSpec.upto fnExactRunHistorySpec)

/-- 'laws.FnRunHistory', WHERE WHAT IT READS IS OF BULK AT MOST 1048576: true; the input reads as it did. -/
def fnRunHistoryUptoRow : OpenClaim := { program := "ytdnhamehpdlbgaa", sum := "53f02fd63453d0c8a02299fe76b45244009b273fe7948b623bb14d2f07b3e285", func := "loop.example/rangechains/laws.FnRunHistory", spec := "fnRunHistory", unfollowed := true, recurses := true, apart := false, narrowed := true }
def FnRunHistoryUptoSaid : Prop := fnRunHistoryUptoRow.holds Try.pinned (OpenSpec.upto fnRunHistorySpec)

/-- 'laws.FnExactScanPiece', WHERE WHAT IT READS IS OF BULK AT MOST 1048576: true; the input reads as it did. -/
def fnExactScanPieceUptoRow : OpenClaim := { program := "ytdnhamehpdlbgaa", sum := "53f02fd63453d0c8a02299fe76b45244009b273fe7948b623bb14d2f07b3e285", func := "loop.example/rangechains/laws.FnExactScanPiece", spec := "fnExactScanPiece", unfollowed := true, recurses := true, apart := false, narrowed := true }
def FnExactScanPieceUptoSaid : Prop := fnExactScanPieceUptoRow.holds Try.pinned (OpenSpec.upto fnExactScanPieceSpec)

/-- 'laws.FnStitchPieces', WHERE WHAT IT READS IS OF BULK AT MOST 1048576: true; the input reads as it did. -/
def fnStitchPiecesUptoRow : OpenClaim := { program := "ytdnhamehpdlbgaa", sum := "53f02fd63453d0c8a02299fe76b45244009b273fe7948b623bb14d2f07b3e285", func := "loop.example/rangechains/laws.FnStitchPieces", spec := "fnStitchPieces", unfollowed := true, recurses := true, apart := false, narrowed := true }
def FnStitchPiecesUptoSaid : Prop := fnStitchPiecesUptoRow.holds Try.pinned (OpenSpec.upto fnStitchPiecesSpec)

/-- 'laws.FnScanPiece', WHERE WHAT IT READS IS OF BULK AT MOST 1048576: true; the input reads as it did. -/
def fnScanPieceUptoRow : OpenClaim := { program := "ytdnhamehpdlbgaa", sum := "53f02fd63453d0c8a02299fe76b45244009b273fe7948b623bb14d2f07b3e285", func := "loop.example/rangechains/laws.FnScanPiece", spec := "fnScanPiece", unfollowed := true, recurses := true, apart := false, narrowed := true }
def FnScanPieceUptoSaid : Prop := fnScanPieceUptoRow.holds Try.pinned (OpenSpec.upto fnScanPieceSpec)

/-- 'laws.FnSplitWanted', WHERE WHAT IT READS IS OF BULK AT MOST 1048576: true; the input reads as it did. -/
def fnSplitWantedUptoRow : OpenClaim := { program := "ytdnhamehpdlbgaa", sum := "53f02fd63453d0c8a02299fe76b45244009b273fe7948b623bb14d2f07b3e285", func := "loop.example/rangechains/laws.FnSplitWanted", spec := "fnSplitWanted", unfollowed := true, recurses := true, apart := false, narrowed := true }
def FnSplitWantedUptoSaid : Prop := fnSplitWantedUptoRow.holds Try.pinned (OpenSpec.upto fnSplitWantedSpec)

/-- 'laws.FnMergeWanted', WHERE WHAT IT READS IS OF BULK AT MOST 1048576: true; the input reads as it did. -/
def fnMergeWantedUptoRow : OpenClaim := { program := "ytdnhamehpdlbgaa", sum := "53f02fd63453d0c8a02299fe76b45244009b273fe7948b623bb14d2f07b3e285", func := "loop.example/rangechains/laws.FnMergeWanted", spec := "fnMergeWanted", unfollowed := true, recurses := true, apart := false, narrowed := true }
def FnMergeWantedUptoSaid : Prop := fnMergeWantedUptoRow.holds Try.pinned (OpenSpec.upto fnMergeWantedSpec)

/-- 'laws.FnDeedValid', WHERE WHAT IT READS IS OF BULK AT MOST 1048576: true; the input reads as it did. -/
def fnDeedValidUptoRow : OpenClaim := { program := "ytdnhamehpdlbgaa", sum := "53f02fd63453d0c8a02299fe76b45244009b273fe7948b623bb14d2f07b3e285", func := "loop.example/rangechains/laws.FnDeedValid", spec := "fnDeedValid", recurses := true, apart := false, narrowed := true }
def FnDeedValidUptoSaid : Prop := fnDeedValidUptoRow.holds Try.pinned (OpenSpec.upto fnDeedValidSpec)

end Rows
end Go.Proofs.Ytdnhamehpdlbgaa
