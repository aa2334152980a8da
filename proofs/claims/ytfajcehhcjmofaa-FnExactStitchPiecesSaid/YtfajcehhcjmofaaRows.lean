/-
  No cell of these rows narrows 'for every input' (looked for: loops, veiled, ifaces, maps, wideKeys, modest, calm, conditions, laid).
  DERIVED. THE GIVEN ROWS OF THIS SEAT. 4 by the template 'for every input the law returns true; each argument reads behind the call as it read before'; 0 by the template 'total and deterministic' (their statements: YtfajcehhcjmofaaTotals.lean).
  GIVEN WITH THE SEED: the statements are not yours to turn. If you find one false, say at which input.
  Laid BY PROGRAM, IN A SANDBOX (cutbox-rows.mjs): the forced cells as the released guide's own fill.sh prints them over the translation ce4c09652d183106… (all of the seat's roots in one cut). By AI agents, Wed Nov 11 2026. No macro, syntax, notation, axiom, sorry.
-/
import Derived.Test.YtfajcehhcjmofaaChecked
import GoSem.Claim
import GoSem.ClaimJoined
import GoSem.ClaimMapViews
import Derived.JoinedTies
import Derived.KernelRfl
namespace Go.Proofs.Ytfajcehhcjmofaa
/- THE CELL 'sum', in the pinned program and in every row, IS THE sha256 OF THE DUMP (.gsa) THAT YtfajcehhcjmofaaProg.lean LOADS. Nothing in Lean hashes anything: it is a label: what it is worth is what the hold of that sum in a sandbox is worth. -/
noncomputable def Try.pinned : Pinned := { name := "ytfajcehhcjmofaa", sum := "ce4c09652d18310654807698b31082a17de9377b47733154730ea83751447555", checked := Try.checked }
namespace Rows
def none {H : Type} : Left H := { results := [], args := [] }

/-- 'laws.FnExactStitchPieces': WHATEVER THE INPUT: true; the input reads as it did. -/
def fnExactStitchPiecesSpec : ChangeSpec := { name := "fnExactStitchPieces", fn := fun _ => fun
  | [d1, d2, d3] => { results := [.lit (.bool true)], args := [d1, d2, d3] }
  | _ => none }
def fnExactStitchPiecesRow : OpenClaim := { program := "ytfajcehhcjmofaa", sum := "ce4c09652d18310654807698b31082a17de9377b47733154730ea83751447555", func := "loop.example/rangechains/laws.FnExactStitchPieces", spec := "fnExactStitchPieces", recurses := true, apart := false }
def FnExactStitchPiecesSaid : Prop := fnExactStitchPiecesRow.holds Try.pinned (OpenSpec.ofChange fnExactStitchPiecesSpec)

/-- ITS FALSE NEIGHBOUR: 'it returns false'. Refute it at one input. -/
def fnExactStitchPiecesWrong : ChangeSpec := { name := "fnExactStitchPieces", fn := fun _ => fun
  | [d1, d2, d3] => { results := [.lit (.bool false)], args := [d1, d2, d3] }
  | _ => none }
def FnExactStitchPiecesWrongFalsely : Prop := fnExactStitchPiecesRow.holds Try.pinned (OpenSpec.ofChange fnExactStitchPiecesWrong)

/-- 'laws.FnExactRunHistory': WHATEVER THE INPUT: true; the input reads as it did. -/
def fnExactRunHistorySpec : ChangeSpec := { name := "fnExactRunHistory", fn := fun _ => fun
  | [d] => { results := [.lit (.bool true)], args := [d] }
  | _ => none }
def fnExactRunHistoryRow : OpenClaim := { program := "ytfajcehhcjmofaa", sum := "ce4c09652d18310654807698b31082a17de9377b47733154730ea83751447555", func := "loop.example/rangechains/laws.FnExactRunHistory", spec := "fnExactRunHistory", unfollowed := true, recurses := true, apart := false }
def FnExactRunHistorySaid : Prop := fnExactRunHistoryRow.holds Try.pinned (OpenSpec.ofChange fnExactRunHistorySpec)

/-- ITS FALSE NEIGHBOUR: 'it returns false'. Refute it at one input. -/
def fnExactRunHistoryWrong : ChangeSpec := { name := "fnExactRunHistory", fn := fun _ => fun
  | [d] => { results := [.lit (.bool false)], args := [d] }
  | _ => none }
def FnExactRunHistoryWrongFalsely : Prop := fnExactRunHistoryRow.holds Try.pinned (OpenSpec.ofChange fnExactRunHistoryWrong)

/-- 'laws.FnStitchPieces': WHATEVER THE INPUT: true; the input reads as it did. -/
def fnStitchPiecesSpec : ChangeSpec := { name := "fnStitchPieces", fn := fun _ => fun
  | [d] => { results := [.lit (.bool true)], args := [d] }
  | _ => none }
def fnStitchPiecesRow : OpenClaim := { program := "ytfajcehhcjmofaa", sum := "ce4c09652d18310654807698b31082a17de9377b47733154730ea83751447555", func := "loop.example/rangechains/laws.FnStitchPieces", spec := "fnStitchPieces", unfollowed := true, recurses := true, apart := false }
def FnStitchPiecesSaid : Prop := fnStitchPiecesRow.holds Try.pinned (OpenSpec.ofChange fnStitchPiecesSpec)

/-- ITS FALSE NEIGHBOUR: 'it returns false'. Refute it at one input. -/
def fnStitchPiecesWrong : ChangeSpec := { name := "fnStitchPieces", fn := fun _ => fun
  | [d] => { results := [.lit (.bool false)], args := [d] }
  | _ => none }
def FnStitchPiecesWrongFalsely : Prop := fnStitchPiecesRow.holds Try.pinned (OpenSpec.ofChange fnStitchPiecesWrong)

/-- 'laws.FnDeedValid': WHATEVER THE INPUT: true; the input reads as it did. -/
def fnDeedValidSpec : ChangeSpec := { name := "fnDeedValid", fn := fun _ => fun
  | [d] => { results := [.lit (.bool true)], args := [d] }
  | _ => none }
def fnDeedValidRow : OpenClaim := { program := "ytfajcehhcjmofaa", sum := "ce4c09652d18310654807698b31082a17de9377b47733154730ea83751447555", func := "loop.example/rangechains/laws.FnDeedValid", spec := "fnDeedValid", recurses := true, apart := false }
def FnDeedValidSaid : Prop := fnDeedValidRow.holds Try.pinned (OpenSpec.ofChange fnDeedValidSpec)

/-- ITS FALSE NEIGHBOUR: 'it returns false'. Refute it at one input. -/
def fnDeedValidWrong : ChangeSpec := { name := "fnDeedValid", fn := fun _ => fun
  | [d] => { results := [.lit (.bool false)], args := [d] }
  | _ => none }
def FnDeedValidWrongFalsely : Prop := fnDeedValidRow.holds Try.pinned (OpenSpec.ofChange fnDeedValidWrong)

/- THE SECOND FORM. 'bulk': how many values and letters a reading holds, each counted each time it is reached (what is shared counts as often as it is met; a slice's spare places count too). A statement '..UptoSaid' is the law's where the arguments, and the package variables that the reading takes, are together of bulk at most 1048576: NARROWER than '..Said'. Prove '..Said' where nothing that the law and all that it calls make is longer than what came in: it says more and counts as full. Else prove '..UptoSaid'. A law counts once. -/
mutual
def uptoBulk {H : Type} : DataW H → Nat
  | .lit (.string bytes) => bytes.length + 1
  | .lit _ => 1
  | .nil => 1
  | .ptr d => uptoBulk d + 1
  | .slice elems spare => uptoBulkAll elems + uptoBulkAll spare + 1
  | .agg parts => uptoBulkAll parts + 1
  | .iface _ d => uptoBulk d + 1
  | .map entries => uptoBulkEntries entries + 1
  | .held _ => 1
def uptoBulkAll {H : Type} : List (DataW H) → Nat
  | [] => 0
  | d :: r => uptoBulk d + uptoBulkAll r
def uptoBulkEntries {H : Type} : List (Lit × DataW H) → Nat
  | [] => 0
  | x :: r => uptoBulkEntry x + uptoBulkEntries r
def uptoBulkEntry {H : Type} : Lit × DataW H → Nat
  | (.string bytes, d) => bytes.length + uptoBulk d + 1
  | (_, d) => uptoBulk d + 1
 end
def uptoSmall : (H : Type) → List (DataW H) → Bool := fun _ ds => decide (uptoBulkAll ds ≤ 1048576)
def OpenSpec.upto (s : _root_.Go.ChangeSpec) : _root_.Go.OpenSpec := { _root_.Go.OpenSpec.ofChange s with cond := some uptoSmall }

/-- 'laws.FnExactStitchPieces', WHERE WHAT IT READS IS OF BULK AT MOST 1048576: true; the input reads as it did. -/
def fnExactStitchPiecesUptoRow : OpenClaim := { program := "ytfajcehhcjmofaa", sum := "ce4c09652d18310654807698b31082a17de9377b47733154730ea83751447555", func := "loop.example/rangechains/laws.FnExactStitchPieces", spec := "fnExactStitchPieces", recurses := true, apart := false, narrowed := true }
def FnExactStitchPiecesUptoSaid : Prop := fnExactStitchPiecesUptoRow.holds Try.pinned (OpenSpec.upto fnExactStitchPiecesSpec)

/-- 'laws.FnExactRunHistory', WHERE WHAT IT READS IS OF BULK AT MOST 1048576: true; the input reads as it did. -/
def fnExactRunHistoryUptoRow : OpenClaim := { program := "ytfajcehhcjmofaa", sum := "ce4c09652d18310654807698b31082a17de9377b47733154730ea83751447555", func := "loop.example/rangechains/laws.FnExactRunHistory", spec := "fnExactRunHistory", unfollowed := true, recurses := true, apart := false, narrowed := true }
def FnExactRunHistoryUptoSaid : Prop := fnExactRunHistoryUptoRow.holds Try.pinned (OpenSpec.upto fnExactRunHistorySpec)

/-- 'laws.FnStitchPieces', WHERE WHAT IT READS IS OF BULK AT MOST 1048576: true; the input reads as it did. -/
def fnStitchPiecesUptoRow : OpenClaim := { program := "ytfajcehhcjmofaa", sum := "ce4c09652d18310654807698b31082a17de9377b47733154730ea83751447555", func := "loop.example/rangechains/laws.FnStitchPieces", spec := "fnStitchPieces", unfollowed := true, recurses := true, apart := false, narrowed := true }
def FnStitchPiecesUptoSaid : Prop := fnStitchPiecesUptoRow.holds Try.pinned (OpenSpec.upto fnStitchPiecesSpec)

/-- 'laws.FnDeedValid', WHERE WHAT IT READS IS OF BULK AT MOST 1048576: true; the input reads as it did. -/
def fnDeedValidUptoRow : OpenClaim := { program := "ytfajcehhcjmofaa", sum := "ce4c09652d18310654807698b31082a17de9377b47733154730ea83751447555", func := "loop.example/rangechains/laws.FnDeedValid", spec := "fnDeedValid", recurses := true, apart := false, narrowed := true }
def FnDeedValidUptoSaid : Prop := fnDeedValidUptoRow.holds Try.pinned (OpenSpec.upto fnDeedValidSpec)

end Rows
end Go.Proofs.Ytfajcehhcjmofaa
