/-
  No cell of these rows narrows 'for every input' (looked for: loops, veiled, ifaces, maps, wideKeys, modest, calm, conditions, laid).
  DERIVED. THE GIVEN ROWS OF THIS SEAT. 12 by the template 'for every input the law returns true; each argument reads behind the call as it read before'; 0 by the template 'total and deterministic' (their statements: YtnaloccjejmmfaaTotals.lean).
  GIVEN WITH THE SEED: the statements are not yours to turn. If you find one false, say at which input.
  Laid BY PROGRAM, IN A SANDBOX (cutbox-rows.mjs): the forced cells as the released guide's own fill.sh prints them over the translation 132d05d722d81394… (all of the seat's roots in one cut). By AI agents, Wed Nov 11 2026. No macro, syntax, notation, axiom, sorry.
-/
import Derived.Test.YtnaloccjejmmfaaChecked
import GoSem.Claim
import GoSem.ClaimJoined
import GoSem.ClaimMapViews
import Derived.JoinedTies
import Derived.KernelRfl
namespace Go.Proofs.Ytnaloccjejmmfaa
/- THE CELL 'sum', in the pinned program and in every row, IS THE sha256 OF THE DUMP (.gsa) THAT YtnaloccjejmmfaaProg.lean LOADS. Nothing in Lean hashes anything: it is a label: what it is worth is what the hold of that sum in a sandbox is worth. -/
noncomputable def Try.pinned : Pinned := { name := "ytnaloccjejmmfaa", sum := "132d05d722d81394d2d2a769512327551a030c2cc832b34e590cc822ef739b3a", checked := Try.checked }
namespace Rows
def none {H : Type} : Left H := { results := [], args := [] }

/-- 'laws.FnExactBeatsValid': WHATEVER THE INPUT: true; the input reads as it did. -/
def fnExactBeatsValidSpec : ChangeSpec := { name := "fnExactBeatsValid", fn := fun _ => fun
  | [d] => { results := [.lit (.bool true)], args := [d] }
  | _ => none }
def fnExactBeatsValidRow : OpenClaim := { program := "ytnaloccjejmmfaa", sum := "132d05d722d81394d2d2a769512327551a030c2cc832b34e590cc822ef739b3a", func := "loop.example/rangechains/laws.FnExactBeatsValid", spec := "fnExactBeatsValid", apart := false }
def FnExactBeatsValidSaid : Prop := fnExactBeatsValidRow.holds Try.pinned (OpenSpec.ofChange fnExactBeatsValidSpec)

/-- ITS FALSE NEIGHBOUR: 'it returns false'. Refute it at one input. -/
def fnExactBeatsValidWrong : ChangeSpec := { name := "fnExactBeatsValid", fn := fun _ => fun
  | [d] => { results := [.lit (.bool false)], args := [d] }
  | _ => none }
def FnExactBeatsValidWrongFalsely : Prop := fnExactBeatsValidRow.holds Try.pinned (OpenSpec.ofChange fnExactBeatsValidWrong)

/-- 'laws.FnExactLoadSpread': WHATEVER THE INPUT: true; the input reads as it did. -/
def fnExactLoadSpreadSpec : ChangeSpec := { name := "fnExactLoadSpread", fn := fun _ => fun
  | [d] => { results := [.lit (.bool true)], args := [d] }
  | _ => none }
def fnExactLoadSpreadRow : OpenClaim := { program := "ytnaloccjejmmfaa", sum := "132d05d722d81394d2d2a769512327551a030c2cc832b34e590cc822ef739b3a", func := "loop.example/rangechains/laws.FnExactLoadSpread", spec := "fnExactLoadSpread", apart := false }
def FnExactLoadSpreadSaid : Prop := fnExactLoadSpreadRow.holds Try.pinned (OpenSpec.ofChange fnExactLoadSpreadSpec)

/-- ITS FALSE NEIGHBOUR: 'it returns false'. Refute it at one input. -/
def fnExactLoadSpreadWrong : ChangeSpec := { name := "fnExactLoadSpread", fn := fun _ => fun
  | [d] => { results := [.lit (.bool false)], args := [d] }
  | _ => none }
def FnExactLoadSpreadWrongFalsely : Prop := fnExactLoadSpreadRow.holds Try.pinned (OpenSpec.ofChange fnExactLoadSpreadWrong)

/-- 'laws.FnExactSuspectTime': WHATEVER THE INPUT: true; the input reads as it did. -/
def fnExactSuspectTimeSpec : ChangeSpec := { name := "fnExactSuspectTime", fn := fun _ => fun
  | [d1, d2, d3] => { results := [.lit (.bool true)], args := [d1, d2, d3] }
  | _ => none }
def fnExactSuspectTimeRow : OpenClaim := { program := "ytnaloccjejmmfaa", sum := "132d05d722d81394d2d2a769512327551a030c2cc832b34e590cc822ef739b3a", func := "loop.example/rangechains/laws.FnExactSuspectTime", spec := "fnExactSuspectTime", apart := false }
def FnExactSuspectTimeSaid : Prop := fnExactSuspectTimeRow.holds Try.pinned (OpenSpec.ofChange fnExactSuspectTimeSpec)

/-- ITS FALSE NEIGHBOUR: 'it returns false'. Refute it at one input. -/
def fnExactSuspectTimeWrong : ChangeSpec := { name := "fnExactSuspectTime", fn := fun _ => fun
  | [d1, d2, d3] => { results := [.lit (.bool false)], args := [d1, d2, d3] }
  | _ => none }
def FnExactSuspectTimeWrongFalsely : Prop := fnExactSuspectTimeRow.holds Try.pinned (OpenSpec.ofChange fnExactSuspectTimeWrong)

/-- 'laws.FnExactSuspects': WHATEVER THE INPUT: true; the input reads as it did. -/
def fnExactSuspectsSpec : ChangeSpec := { name := "fnExactSuspects", fn := fun _ => fun
  | [d1, d2, d3] => { results := [.lit (.bool true)], args := [d1, d2, d3] }
  | _ => none }
def fnExactSuspectsRow : OpenClaim := { program := "ytnaloccjejmmfaa", sum := "132d05d722d81394d2d2a769512327551a030c2cc832b34e590cc822ef739b3a", func := "loop.example/rangechains/laws.FnExactSuspects", spec := "fnExactSuspects", apart := false }
def FnExactSuspectsSaid : Prop := fnExactSuspectsRow.holds Try.pinned (OpenSpec.ofChange fnExactSuspectsSpec)

/-- ITS FALSE NEIGHBOUR: 'it returns false'. Refute it at one input. -/
def fnExactSuspectsWrong : ChangeSpec := { name := "fnExactSuspects", fn := fun _ => fun
  | [d1, d2, d3] => { results := [.lit (.bool false)], args := [d1, d2, d3] }
  | _ => none }
def FnExactSuspectsWrongFalsely : Prop := fnExactSuspectsRow.holds Try.pinned (OpenSpec.ofChange fnExactSuspectsWrong)

/-- 'laws.FnExactHearBeat': WHATEVER THE INPUT: true; the input reads as it did. -/
def fnExactHearBeatSpec : ChangeSpec := { name := "fnExactHearBeat", fn := fun _ => fun
  | [d1, d2, d3] => { results := [.lit (.bool true)], args := [d1, d2, d3] }
  | _ => none }
def fnExactHearBeatRow : OpenClaim := { program := "ytnaloccjejmmfaa", sum := "132d05d722d81394d2d2a769512327551a030c2cc832b34e590cc822ef739b3a", func := "loop.example/rangechains/laws.FnExactHearBeat", spec := "fnExactHearBeat", apart := false }
def FnExactHearBeatSaid : Prop := fnExactHearBeatRow.holds Try.pinned (OpenSpec.ofChange fnExactHearBeatSpec)

/-- ITS FALSE NEIGHBOUR: 'it returns false'. Refute it at one input. -/
def fnExactHearBeatWrong : ChangeSpec := { name := "fnExactHearBeat", fn := fun _ => fun
  | [d1, d2, d3] => { results := [.lit (.bool false)], args := [d1, d2, d3] }
  | _ => none }
def FnExactHearBeatWrongFalsely : Prop := fnExactHearBeatRow.holds Try.pinned (OpenSpec.ofChange fnExactHearBeatWrong)

/-- 'laws.FnExactPairDigest': WHATEVER THE INPUT: true; the input reads as it did. -/
def fnExactPairDigestSpec : ChangeSpec := { name := "fnExactPairDigest", fn := fun _ => fun
  | [d] => { results := [.lit (.bool true)], args := [d] }
  | _ => none }
def fnExactPairDigestRow : OpenClaim := { program := "ytnaloccjejmmfaa", sum := "132d05d722d81394d2d2a769512327551a030c2cc832b34e590cc822ef739b3a", func := "loop.example/rangechains/laws.FnExactPairDigest", spec := "fnExactPairDigest", recurses := true, apart := false }
def FnExactPairDigestSaid : Prop := fnExactPairDigestRow.holds Try.pinned (OpenSpec.ofChange fnExactPairDigestSpec)

/-- ITS FALSE NEIGHBOUR: 'it returns false'. Refute it at one input. -/
def fnExactPairDigestWrong : ChangeSpec := { name := "fnExactPairDigest", fn := fun _ => fun
  | [d] => { results := [.lit (.bool false)], args := [d] }
  | _ => none }
def FnExactPairDigestWrongFalsely : Prop := fnExactPairDigestRow.holds Try.pinned (OpenSpec.ofChange fnExactPairDigestWrong)

/-- 'laws.FnBeatsValid': WHATEVER THE INPUT: true; the input reads as it did. -/
def fnBeatsValidSpec : ChangeSpec := { name := "fnBeatsValid", fn := fun _ => fun
  | [d] => { results := [.lit (.bool true)], args := [d] }
  | _ => none }
def fnBeatsValidRow : OpenClaim := { program := "ytnaloccjejmmfaa", sum := "132d05d722d81394d2d2a769512327551a030c2cc832b34e590cc822ef739b3a", func := "loop.example/rangechains/laws.FnBeatsValid", spec := "fnBeatsValid", recurses := true, apart := false }
def FnBeatsValidSaid : Prop := fnBeatsValidRow.holds Try.pinned (OpenSpec.ofChange fnBeatsValidSpec)

/-- ITS FALSE NEIGHBOUR: 'it returns false'. Refute it at one input. -/
def fnBeatsValidWrong : ChangeSpec := { name := "fnBeatsValid", fn := fun _ => fun
  | [d] => { results := [.lit (.bool false)], args := [d] }
  | _ => none }
def FnBeatsValidWrongFalsely : Prop := fnBeatsValidRow.holds Try.pinned (OpenSpec.ofChange fnBeatsValidWrong)

/-- 'laws.FnLoadSpread': WHATEVER THE INPUT: true; the input reads as it did. -/
def fnLoadSpreadSpec : ChangeSpec := { name := "fnLoadSpread", fn := fun _ => fun
  | [d] => { results := [.lit (.bool true)], args := [d] }
  | _ => none }
def fnLoadSpreadRow : OpenClaim := { program := "ytnaloccjejmmfaa", sum := "132d05d722d81394d2d2a769512327551a030c2cc832b34e590cc822ef739b3a", func := "loop.example/rangechains/laws.FnLoadSpread", spec := "fnLoadSpread", recurses := true, apart := false }
def FnLoadSpreadSaid : Prop := fnLoadSpreadRow.holds Try.pinned (OpenSpec.ofChange fnLoadSpreadSpec)

/-- ITS FALSE NEIGHBOUR: 'it returns false'. Refute it at one input. -/
def fnLoadSpreadWrong : ChangeSpec := { name := "fnLoadSpread", fn := fun _ => fun
  | [d] => { results := [.lit (.bool false)], args := [d] }
  | _ => none }
def FnLoadSpreadWrongFalsely : Prop := fnLoadSpreadRow.holds Try.pinned (OpenSpec.ofChange fnLoadSpreadWrong)

/-- 'laws.FnExactPlaceMembers': WHATEVER THE INPUT: true; the input reads as it did. -/
def fnExactPlaceMembersSpec : ChangeSpec := { name := "fnExactPlaceMembers", fn := fun _ => fun
  | [d1, d2, d3] => { results := [.lit (.bool true)], args := [d1, d2, d3] }
  | _ => none }
def fnExactPlaceMembersRow : OpenClaim := { program := "ytnaloccjejmmfaa", sum := "132d05d722d81394d2d2a769512327551a030c2cc832b34e590cc822ef739b3a", func := "loop.example/rangechains/laws.FnExactPlaceMembers", spec := "fnExactPlaceMembers", apart := false }
def FnExactPlaceMembersSaid : Prop := fnExactPlaceMembersRow.holds Try.pinned (OpenSpec.ofChange fnExactPlaceMembersSpec)

/-- ITS FALSE NEIGHBOUR: 'it returns false'. Refute it at one input. -/
def fnExactPlaceMembersWrong : ChangeSpec := { name := "fnExactPlaceMembers", fn := fun _ => fun
  | [d1, d2, d3] => { results := [.lit (.bool false)], args := [d1, d2, d3] }
  | _ => none }
def FnExactPlaceMembersWrongFalsely : Prop := fnExactPlaceMembersRow.holds Try.pinned (OpenSpec.ofChange fnExactPlaceMembersWrong)

/-- 'laws.FnExactPickSpare': WHATEVER THE INPUT: true; the input reads as it did. -/
def fnExactPickSpareSpec : ChangeSpec := { name := "fnExactPickSpare", fn := fun _ => fun
  | [d1, d2, d3] => { results := [.lit (.bool true)], args := [d1, d2, d3] }
  | _ => none }
def fnExactPickSpareRow : OpenClaim := { program := "ytnaloccjejmmfaa", sum := "132d05d722d81394d2d2a769512327551a030c2cc832b34e590cc822ef739b3a", func := "loop.example/rangechains/laws.FnExactPickSpare", spec := "fnExactPickSpare", apart := false }
def FnExactPickSpareSaid : Prop := fnExactPickSpareRow.holds Try.pinned (OpenSpec.ofChange fnExactPickSpareSpec)

/-- ITS FALSE NEIGHBOUR: 'it returns false'. Refute it at one input. -/
def fnExactPickSpareWrong : ChangeSpec := { name := "fnExactPickSpare", fn := fun _ => fun
  | [d1, d2, d3] => { results := [.lit (.bool false)], args := [d1, d2, d3] }
  | _ => none }
def FnExactPickSpareWrongFalsely : Prop := fnExactPickSpareRow.holds Try.pinned (OpenSpec.ofChange fnExactPickSpareWrong)

/-- 'laws.FnSuspects': WHATEVER THE INPUT: true; the input reads as it did. -/
def fnSuspectsSpec : ChangeSpec := { name := "fnSuspects", fn := fun _ => fun
  | [d] => { results := [.lit (.bool true)], args := [d] }
  | _ => none }
def fnSuspectsRow : OpenClaim := { program := "ytnaloccjejmmfaa", sum := "132d05d722d81394d2d2a769512327551a030c2cc832b34e590cc822ef739b3a", func := "loop.example/rangechains/laws.FnSuspects", spec := "fnSuspects", recurses := true, apart := false }
def FnSuspectsSaid : Prop := fnSuspectsRow.holds Try.pinned (OpenSpec.ofChange fnSuspectsSpec)

/-- ITS FALSE NEIGHBOUR: 'it returns false'. Refute it at one input. -/
def fnSuspectsWrong : ChangeSpec := { name := "fnSuspects", fn := fun _ => fun
  | [d] => { results := [.lit (.bool false)], args := [d] }
  | _ => none }
def FnSuspectsWrongFalsely : Prop := fnSuspectsRow.holds Try.pinned (OpenSpec.ofChange fnSuspectsWrong)

/-- 'laws.FnSuspectTime': WHATEVER THE INPUT: true; the input reads as it did. -/
def fnSuspectTimeSpec : ChangeSpec := { name := "fnSuspectTime", fn := fun _ => fun
  | [d] => { results := [.lit (.bool true)], args := [d] }
  | _ => none }
def fnSuspectTimeRow : OpenClaim := { program := "ytnaloccjejmmfaa", sum := "132d05d722d81394d2d2a769512327551a030c2cc832b34e590cc822ef739b3a", func := "loop.example/rangechains/laws.FnSuspectTime", spec := "fnSuspectTime", recurses := true, apart := false }
def FnSuspectTimeSaid : Prop := fnSuspectTimeRow.holds Try.pinned (OpenSpec.ofChange fnSuspectTimeSpec)

/-- ITS FALSE NEIGHBOUR: 'it returns false'. Refute it at one input. -/
def fnSuspectTimeWrong : ChangeSpec := { name := "fnSuspectTime", fn := fun _ => fun
  | [d] => { results := [.lit (.bool false)], args := [d] }
  | _ => none }
def FnSuspectTimeWrongFalsely : Prop := fnSuspectTimeRow.holds Try.pinned (OpenSpec.ofChange fnSuspectTimeWrong)

/- THE SECOND FORM. 'bulk': how many values and letters a reading holds, each counted each time it is reached (what is shared counts as often as it is met; a slice's spare places count too). A statement '..UptoSaid' is the law's where the arguments, and the package variables that the reading takes, are together of bulk at most 1048576: NARROWER than '..Said'. Prove '..Said' where nothing that the law and all that it calls make is longer than what came in: it says more and counts as full. Else prove '..UptoSaid'. A law counts once. -/
mutual
def uptoBulk {H : Type} : DataW H → Nat
  | .lit (.string bytes) => bytes.length + 1
  | .lit _ => 1
  | .nil => 1
  | .ptr d => uptoBulk d + 1
  | .slice elems spare => uptoBulkAll elems + uptoBulkAll spare + 1
  | .agg parts => uptoBulkAll parts + 1
  | .iface _ d => uptoBulk d + 1
  | .map entries => uptoBulkEntries entries + 1
  | .held _ => 1
def uptoBulkAll {H : Type} : List (DataW H) → Nat
  | [] => 0
  | d :: r => uptoBulk d + uptoBulkAll r
def uptoBulkEntries {H : Type} : List (Lit × DataW H) → Nat
  | [] => 0
  | x :: r => uptoBulkEntry x + uptoBulkEntries r
def uptoBulkEntry {H : Type} : Lit × DataW H → Nat
  | (.string bytes, d) => bytes.length + uptoBulk d + 1
  | (_, d) => uptoBulk d + 1
 end
def uptoSmall : (H : Type) → List (DataW H) → Bool := fun _ ds => decide (uptoBulkAll ds ≤ 1048576)
def OpenSpec.upto (s : _root_.Go.ChangeSpec) : _root_.Go.OpenSpec := { _root_.Go.OpenSpec.ofChange s with cond := some uptoSmall }

/-- 'laws.FnExactBeatsValid', WHERE WHAT IT READS IS OF BULK AT MOST 1048576: true; the input reads as it did. -/
def fnExactBeatsValidUptoRow : OpenClaim := { program := "ytnaloccjejmmfaa", sum := "132d05d722d81394d2d2a769512327551a030c2cc832b34e590cc822ef739b3a", func := "loop.example/rangechains/laws.FnExactBeatsValid", spec := "fnExactBeatsValid", apart := false, narrowed := true }
def FnExactBeatsValidUptoSaid : Prop := fnExactBeatsValidUptoRow.holds Try.pinned (OpenSpec.upto fnExactBeatsValidSpec)

/-- 'laws.FnExactLoadSpread', WHERE WHAT IT READS IS OF BULK AT MOST 1048576: true; the input reads as it did. -/
def fnExactLoadSpreadUptoRow : OpenClaim := { program := "ytnaloccjejmmfaa", sum := "132d05d722d81394d2d2a769512327551a030c2cc832b34e590cc822ef739b3a", func := "loop.example/rangechains/laws.FnExactLoadSpread", spec := "fnExactLoadSpread", apart := false, narrowed := true }
def FnExactLoadSpreadUptoSaid : Prop := fnExactLoadSpreadUptoRow.holds Try.pinned (OpenSpec.upto fnExactLoadSpreadSpec)

/-- 'laws.FnExactSuspectTime', WHERE WHAT IT READS IS OF BULK AT MOST 1048576: true; the input reads as it did. -/
def fnExactSuspectTimeUptoRow : OpenClaim := { program := "ytnaloccjejmmfaa", sum := "132d05d722d81394d2d2a769512327551a030c2cc832b34e590cc822ef739b3a", func := "loop.example/rangechains/laws.FnExactSuspectTime", spec := "fnExactSuspectTime", apart := false, narrowed := true }
def FnExactSuspectTimeUptoSaid : Prop := fnExactSuspectTimeUptoRow.holds Try.pinned (OpenSpec.upto fnExactSuspectTimeSpec)

/-- 'laws.FnExactSuspects', WHERE WHAT IT READS IS OF BULK AT MOST 1048576: true; the input reads as it did. -/
def fnExactSuspectsUptoRow : OpenClaim := { program := "ytnaloccjejmmfaa", sum := "132d05d722d81394d2d2a769512327551a030c2cc832b34e590cc822ef739b3a", func := "loop.example/rangechains/laws.FnExactSuspects", spec := "fnExactSuspects", apart := false, narrowed := true }
def FnExactSuspectsUptoSaid : Prop := fnExactSuspectsUptoRow.holds Try.pinned (OpenSpec.upto fnExactSuspectsSpec)

/-- 'laws.FnExactHearBeat', WHERE WHAT IT READS IS OF BULK AT MOST 1048576: true; the input reads as it did. -/
def fnExactHearBeatUptoRow : OpenClaim := { program := "ytnaloccjejmmfaa", sum := "132d05d722d81394d2d2a769512327551a030c2cc832b34e590cc822ef739b3a", func := "loop.example/rangechains/laws.FnExactHearBeat", spec := "fnExactHearBeat", apart := false, narrowed := true }
def FnExactHearBeatUptoSaid : Prop := fnExactHearBeatUptoRow.holds Try.pinned (OpenSpec.upto fnExactHearBeatSpec)

/-- 'laws.FnExactPairDigest', WHERE WHAT IT READS IS OF BULK AT MOST 1048576: true; the input reads as it did. -/
def fnExactPairDigestUptoRow : OpenClaim := { program := "ytnaloccjejmmfaa", sum := "132d05d722d81394d2d2a769512327551a030c2cc832b34e590cc822ef739b3a", func := "loop.example/rangechains/laws.FnExactPairDigest", spec := "fnExactPairDigest", recurses := true, apart := false, narrowed := true }
def FnExactPairDigestUptoSaid : Prop := fnExactPairDigestUptoRow.holds Try.pinned (OpenSpec.upto fnExactPairDigestSpec)

/-- 'laws.FnBeatsValid', WHERE WHAT IT READS IS OF BULK AT MOST 1048576: true; the input reads as it did. -/
def fnBeatsValidUptoRow : OpenClaim := { program := "ytnaloccjejmmfaa", sum := "132d05d722d81394d2d2a769512327551a030c2cc832b34e590cc822ef739b3a", func := "loop.example/rangechains/laws.FnBeatsValid", spec := "fnBeatsValid", recurses := true, apart := false, narrowed := true }
def FnBeatsValidUptoSaid : Prop := fnBeatsValidUptoRow.holds Try.pinned (OpenSpec.upto fnBeatsValidSpec)

/-- 'laws.FnLoadSpread', WHERE WHAT IT READS IS OF BULK AT MOST 1048576: true; the input reads as it did. -/
def fnLoadSpreadUptoRow : OpenClaim := { program := "ytnaloccjejmmfaa", sum := "132d05d722d81394d2d2a769512327551a030c2cc832b34e590cc822ef739b3a", func := "loop.example/rangechains/laws.FnLoadSpread", spec := "fnLoadSpread", recurses := true, apart := false, narrowed := true }
def FnLoadSpreadUptoSaid : Prop := fnLoadSpreadUptoRow.holds Try.pinned (OpenSpec.upto fnLoadSpreadSpec)

/-- 'laws.FnExactPlaceMembers', WHERE WHAT IT READS IS OF BULK AT MOST 1048576: true; the input reads as it did. -/
def fnExactPlaceMembersUptoRow : OpenClaim := { program := "ytnaloccjejmmfaa", sum := "132d05d722d81394d2d2a769512327551a030c2cc832b34e590cc822ef739b3a", func := "loop.example/rangechains/laws.FnExactPlaceMembers", spec := "fnExactPlaceMembers", apart := false, narrowed := true }
def FnExactPlaceMembersUptoSaid : Prop := fnExactPlaceMembersUptoRow.holds Try.pinned (OpenSpec.upto fnExactPlaceMembersSpec)

/-- 'laws.FnExactPickSpare', WHERE WHAT IT READS IS OF BULK AT MOST 1048576: true; the input reads as it did. -/
def fnExactPickSpareUptoRow : OpenClaim := { program := "ytnaloccjejmmfaa", sum := "132d05d722d81394d2d2a769512327551a030c2cc832b34e590cc822ef739b3a", func := "loop.example/rangechains/laws.FnExactPickSpare", spec := "fnExactPickSpare", apart := false, narrowed := true }
def FnExactPickSpareUptoSaid : Prop := fnExactPickSpareUptoRow.holds Try.pinned (OpenSpec.upto fnExactPickSpareSpec)

/-- 'laws.FnSuspects', WHERE WHAT IT READS IS OF BULK AT MOST 1048576: true; the input reads as it did. -/
def fnSuspectsUptoRow : OpenClaim := { program := "ytnaloccjejmmfaa", sum := "132d05d722d81394d2d2a769512327551a030c2cc832b34e590cc822ef739b3a", func := "loop.example/rangechains/laws.FnSuspects", spec := "fnSuspects", recurses := true, apart := false, narrowed := true }
def FnSuspectsUptoSaid : Prop := fnSuspectsUptoRow.holds Try.pinned (OpenSpec.upto fnSuspectsSpec)

/-- 'laws.FnSuspectTime', WHERE WHAT IT READS IS OF BULK AT MOST 1048576: true; the input reads as it did. -/
def fnSuspectTimeUptoRow : OpenClaim := { program := "ytnaloccjejmmfaa", sum := "132d05d722d81394d2d2a769512327551a030c2cc832b34e590cc822ef739b3a", func := "loop.example/rangechains/laws.FnSuspectTime", spec := "fnSuspectTime", recurses := true, apart := false, narrowed := true }
def FnSuspectTimeUptoSaid : Prop := fnSuspectTimeUptoRow.holds Try.pinned (OpenSpec.upto fnSuspectTimeSpec)

end Rows
end Go.Proofs.Ytnaloccjejmmfaa
