/- The limits of the printed functions of FnExactPairDigest, and their equations, by a program of this session (wip/gen/gen.py). No conditions. -/
import Derived.Test.YtnaloccjejmmfaaLim
import Derived.Test.YtnaloccjejmmfaaFFnExactPairDigestx
namespace Go.Proofs.Ytnaloccjejmmfaa.FFnExactPairDigest
open Go.RowKit Go.Proofs.YtnaloccjejmmfaaW.PrintWords Go.Proofs.YtnaloccjejmmfaaW.PrintLast Go.Proofs.YtnaloccjejmmfaaW.PrintMore Go.Proofs.YtnaloccjejmmfaaL
set_option linter.unusedVariables false
noncomputable def spec_KeyValid.l0g (x0 : ByteArray) (x3 : Int) : Option (Bool) := lim fun k => spec_KeyValid.l0 k x0 x3
noncomputable def spec_KeyValid.g (a0 : ByteArray) : Option (Bool) := lim fun k => spec_KeyValid.f k a0
theorem spec_KeyValid.l0g.lim (x0 : ByteArray) (x3 : Int) : Lim (fun k => spec_KeyValid.l0 k x0 x3) (spec_KeyValid.l0g x0 x3) := Lim.of (fun k => (spec_KeyValid.mono_l k) x0 x3)
theorem spec_KeyValid.g.lim (a0 : ByteArray) : Lim (fun k => spec_KeyValid.f k a0) (spec_KeyValid.g a0) := Lim.of (fun k => spec_KeyValid.mono a0 k)
theorem spec_KeyValid.l0g.eq (x0 : ByteArray) (x3 : Int) : spec_KeyValid.l0g x0 x3 = if x3 < (x0.size : Int) then (if 0 ≤ x3 then (if (bt x0 x3) < 97 then (some false) else (if (bt x0 x3) > 122 then (some false) else (spec_KeyValid.l0g x0 (wrap64 (x3 + 1))))) else (none)) else (some true) := by
  refine Lim.step (fun _ => rfl) (spec_KeyValid.l0g.lim x0 x3).mono ?_
  simp only [spec_KeyValid.l0]
  repeat' first | (with_reducible exact Lim.const _) | (with_reducible refine Lim.ite ?_ ?_) | exact spec_KeyValid.l0g.lim _ _ | (with_reducible refine Lim.bind ?_ (fun _ => ?_))
theorem spec_KeyValid.g.eq (a0 : ByteArray) : spec_KeyValid.g a0 = (spec_l1In.f (a0.size : Int) 1 4).bind fun t102 => (if t102 = true then (spec_KeyValid.l0g a0 0) else (some false)) := by
  refine Lim.eq ?_
  unfold spec_KeyValid.f
  repeat' first | (with_reducible exact Lim.const _) | (with_reducible refine Lim.ite ?_ ?_) | exact spec_KeyValid.l0g.lim _ _ | (with_reducible refine Lim.bind ?_ (fun _ => ?_))
noncomputable def spec_KeyRank.l0g (x0 : ByteArray) (x3 : Int) (x4 : Int) : Option (Int) := lim fun k => spec_KeyRank.l0 k x0 x3 x4
noncomputable def spec_KeyRank.g (a0 : ByteArray) : Option (Int) := lim fun k => spec_KeyRank.f k a0
theorem spec_KeyRank.l0g.lim (x0 : ByteArray) (x3 : Int) (x4 : Int) : Lim (fun k => spec_KeyRank.l0 k x0 x3 x4) (spec_KeyRank.l0g x0 x3 x4) := Lim.of (fun k => (spec_KeyRank.mono_l k) x0 x3 x4)
theorem spec_KeyRank.g.lim (a0 : ByteArray) : Lim (fun k => spec_KeyRank.f k a0) (spec_KeyRank.g a0) := Lim.of (fun k => spec_KeyRank.mono a0 k)
theorem spec_KeyRank.l0g.eq (x0 : ByteArray) (x3 : Int) (x4 : Int) : spec_KeyRank.l0g x0 x3 x4 = if x4 < (x0.size : Int) then (if 0 ≤ x4 then ((spec_l1Weight.f x4).bind fun t104 => (spec_KeyRank.l0g x0 (wrap64 ((wrap64 (x3 + 1)) + (wrap64 ((((bt x0 x4) - 97) % 256) * t104)))) (wrap64 (x4 + 1)))) else (none)) else (some x3) := by
  refine Lim.step (fun _ => rfl) (spec_KeyRank.l0g.lim x0 x3 x4).mono ?_
  simp only [spec_KeyRank.l0]
  repeat' first | (with_reducible exact Lim.const _) | (with_reducible refine Lim.ite ?_ ?_) | exact spec_KeyRank.l0g.lim _ _ _ | (with_reducible refine Lim.bind ?_ (fun _ => ?_))
theorem spec_KeyRank.g.eq (a0 : ByteArray) : spec_KeyRank.g a0 = (spec_KeyValid.g a0).bind fun t103 => (if t103 = true then (spec_KeyRank.l0g a0 (-1) 0) else (some (-1))) := by
  refine Lim.eq ?_
  unfold spec_KeyRank.f
  repeat' first | (with_reducible exact Lim.const _) | (with_reducible refine Lim.ite ?_ ?_) | exact spec_KeyRank.l0g.lim _ _ _ | exact spec_KeyValid.g.lim _ | (with_reducible refine Lim.bind ?_ (fun _ => ?_))
noncomputable def spec_PairDigest.g (a0_0 : ByteArray) (a0_1 : Int) : Option (Int) := lim fun k => spec_PairDigest.f k a0_0 a0_1
theorem spec_PairDigest.g.lim (a0_0 : ByteArray) (a0_1 : Int) : Lim (fun k => spec_PairDigest.f k a0_0 a0_1) (spec_PairDigest.g a0_0 a0_1) := Lim.of (fun k => spec_PairDigest.mono a0_0 a0_1 k)
theorem spec_PairDigest.g.eq (a0_0 : ByteArray) (a0_1 : Int) : spec_PairDigest.g a0_0 a0_1 = (spec_KeyValid.g a0_0).bind fun t106 => (if t106 = true then ((spec_l1In.f a0_1 0 999).bind fun t107 => (if t107 = true then ((spec_KeyRank.g a0_0).bind fun t108 => (some (Int.tmod (wrap64 ((wrap64 ((wrap64 (1009 * t108)) + (wrap64 (7 * a0_1)))) + 3)) 99991))) else (some (-1)))) else (some (-1))) := by
  refine Lim.eq ?_
  unfold spec_PairDigest.f
  repeat' first | (with_reducible exact Lim.const _) | (with_reducible refine Lim.ite ?_ ?_) | exact spec_KeyRank.g.lim _ | exact spec_KeyValid.g.lim _ | (with_reducible refine Lim.bind ?_ (fun _ => ?_))
noncomputable def impl_lettersOnly.g (a0 : ByteArray) : Option (Bool) := lim fun k => impl_lettersOnly.f k a0
theorem impl_lettersOnly.g.lim (a0 : ByteArray) : Lim (fun k => impl_lettersOnly.f k a0) (impl_lettersOnly.g a0) := Lim.of (fun k => impl_lettersOnly.mono a0 k)
theorem impl_lettersOnly.g.eq (a0 : ByteArray) : impl_lettersOnly.g a0 = if a0.toList = ([] : List UInt8) then (some true) else (if 0 < (a0.size : Int) then (if (bt a0 0) ≥ 97 then (if (bt a0 0) ≤ 122 then (if 1 ≤ (a0.size : Int) then ((impl_lettersOnly.g (a0.extract 1 a0.size)).bind fun t112 => (some t112)) else (none)) else (some false)) else (some false)) else (none)) := by
  refine Lim.step (fun _ => rfl) (impl_lettersOnly.g.lim a0).mono ?_
  simp only [impl_lettersOnly.f]
  repeat' first | (with_reducible exact Lim.const _) | (with_reducible refine Lim.ite ?_ ?_) | exact impl_lettersOnly.g.lim _ | (with_reducible refine Lim.bind ?_ (fun _ => ?_))
noncomputable def impl_KeyValid.g (a0 : ByteArray) : Option (Bool) := lim fun k => impl_KeyValid.f k a0
theorem impl_KeyValid.g.lim (a0 : ByteArray) : Lim (fun k => impl_KeyValid.f k a0) (impl_KeyValid.g a0) := Lim.of (fun k => impl_KeyValid.mono a0 k)
theorem impl_KeyValid.g.eq (a0 : ByteArray) : impl_KeyValid.g a0 = if (a0.size : Int) < 1 then (some false) else (if (a0.size : Int) > 4 then (some false) else ((impl_lettersOnly.g a0).bind fun t113 => (some t113))) := by
  refine Lim.eq ?_
  unfold impl_KeyValid.f
  repeat' first | (with_reducible exact Lim.const _) | (with_reducible refine Lim.ite ?_ ?_) | exact impl_lettersOnly.g.lim _ | (with_reducible refine Lim.bind ?_ (fun _ => ?_))
noncomputable def impl_keysFrom.g (a0 : Int) : Option (Int) := lim fun k => impl_keysFrom.f k a0
theorem impl_keysFrom.g.lim (a0 : Int) : Lim (fun k => impl_keysFrom.f k a0) (impl_keysFrom.g a0) := Lim.of (fun k => impl_keysFrom.mono a0 k)
theorem impl_keysFrom.g.eq (a0 : Int) : impl_keysFrom.g a0 = if a0 ≥ 4 then (some 1) else ((impl_keysFrom.g (wrap64 (a0 + 1))).bind fun t114 => (some (wrap64 (1 + (wrap64 (26 * t114)))))) := by
  refine Lim.step (fun _ => rfl) (impl_keysFrom.g.lim a0).mono ?_
  simp only [impl_keysFrom.f]
  repeat' first | (with_reducible exact Lim.const _) | (with_reducible refine Lim.ite ?_ ?_) | exact impl_keysFrom.g.lim _ | (with_reducible refine Lim.bind ?_ (fun _ => ?_))
noncomputable def impl_rankBelow.g (a0 : ByteArray) (a1 : Int) : Option (Int) := lim fun k => impl_rankBelow.f k a0 a1
theorem impl_rankBelow.g.lim (a0 : ByteArray) (a1 : Int) : Lim (fun k => impl_rankBelow.f k a0 a1) (impl_rankBelow.g a0 a1) := Lim.of (fun k => impl_rankBelow.mono a0 a1 k)
theorem impl_rankBelow.g.eq (a0 : ByteArray) (a1 : Int) : impl_rankBelow.g a0 a1 = if a0.toList = ([] : List UInt8) then (some 0) else (if 0 < (a0.size : Int) then ((impl_keysFrom.g a1).bind fun t115 => (if 1 ≤ (a0.size : Int) then ((impl_rankBelow.g (a0.extract 1 a0.size) (wrap64 (a1 + 1))).bind fun t116 => (some (wrap64 ((wrap64 (1 + (wrap64 ((((bt a0 0) - 97) % 256) * t115)))) + t116)))) else (none))) else (none)) := by
  refine Lim.step (fun _ => rfl) (impl_rankBelow.g.lim a0 a1).mono ?_
  simp only [impl_rankBelow.f]
  repeat' first | (with_reducible exact Lim.const _) | (with_reducible refine Lim.ite ?_ ?_) | exact impl_keysFrom.g.lim _ | exact impl_rankBelow.g.lim _ _ | (with_reducible refine Lim.bind ?_ (fun _ => ?_))
noncomputable def impl_KeyRank.g (a0 : ByteArray) : Option (Int) := lim fun k => impl_KeyRank.f k a0
theorem impl_KeyRank.g.lim (a0 : ByteArray) : Lim (fun k => impl_KeyRank.f k a0) (impl_KeyRank.g a0) := Lim.of (fun k => impl_KeyRank.mono a0 k)
theorem impl_KeyRank.g.eq (a0 : ByteArray) : impl_KeyRank.g a0 = (impl_KeyValid.g a0).bind fun t117 => (if t117 = true then ((impl_rankBelow.g a0 1).bind fun t118 => (some (wrap64 (t118 - 1)))) else (some (-1))) := by
  refine Lim.eq ?_
  unfold impl_KeyRank.f
  repeat' first | (with_reducible exact Lim.const _) | (with_reducible refine Lim.ite ?_ ?_) | exact impl_KeyValid.g.lim _ | exact impl_rankBelow.g.lim _ _ | (with_reducible refine Lim.bind ?_ (fun _ => ?_))
noncomputable def impl_PairDigest.g (a0_0 : ByteArray) (a0_1 : Int) : Option (Int) := lim fun k => impl_PairDigest.f k a0_0 a0_1
theorem impl_PairDigest.g.lim (a0_0 : ByteArray) (a0_1 : Int) : Lim (fun k => impl_PairDigest.f k a0_0 a0_1) (impl_PairDigest.g a0_0 a0_1) := Lim.of (fun k => impl_PairDigest.mono a0_0 a0_1 k)
theorem impl_PairDigest.g.eq (a0_0 : ByteArray) (a0_1 : Int) : impl_PairDigest.g a0_0 a0_1 = (impl_KeyValid.g a0_0).bind fun t120 => (if t120 = true then ((impl_valueValid.f a0_1).bind fun t121 => (if t121 = true then ((impl_KeyRank.g a0_0).bind fun t122 => (some (Int.tmod (wrap64 ((wrap64 ((wrap64 (1009 * t122)) + (wrap64 (7 * a0_1)))) + 3)) 99991))) else (some (-1)))) else (some (-1))) := by
  refine Lim.eq ?_
  unfold impl_PairDigest.f
  repeat' first | (with_reducible exact Lim.const _) | (with_reducible refine Lim.ite ?_ ?_) | exact impl_KeyRank.g.lim _ | exact impl_KeyValid.g.lim _ | (with_reducible refine Lim.bind ?_ (fun _ => ?_))
noncomputable def laws_FnExactPairDigest.g (a0_0 : ByteArray) (a0_1 : Int) : Option (Bool) := lim fun k => laws_FnExactPairDigest.f k a0_0 a0_1
theorem laws_FnExactPairDigest.g.lim (a0_0 : ByteArray) (a0_1 : Int) : Lim (fun k => laws_FnExactPairDigest.f k a0_0 a0_1) (laws_FnExactPairDigest.g a0_0 a0_1) := Lim.of (fun k => laws_FnExactPairDigest.mono a0_0 a0_1 k)
theorem laws_FnExactPairDigest.g.eq (a0_0 : ByteArray) (a0_1 : Int) : laws_FnExactPairDigest.g a0_0 a0_1 = (laws_szPair.f a0_0 a0_1 1048576).bind fun t124 => (if t124 < 0 then (some true) else ((laws_toPair.f a0_0 a0_1).bind fun bt125 => ((spec_PairDigest.g bt125.1 bt125.2).bind fun t127 => ((laws_toPair.f a0_0 a0_1).bind fun bt128 => ((impl_PairDigest.g bt128.1 bt128.2).bind fun t130 => (if t130 = t127 then (some true) else (some false))))))) := by
  refine Lim.eq ?_
  unfold laws_FnExactPairDigest.f
  repeat' first | (with_reducible exact Lim.const _) | (with_reducible refine Lim.ite ?_ ?_) | exact impl_PairDigest.g.lim _ _ | exact spec_PairDigest.g.lim _ _ | (with_reducible refine Lim.bind ?_ (fun _ => ?_))
end Go.Proofs.Ytnaloccjejmmfaa.FFnExactPairDigest
