/- The limits of the printed functions of FnSuspectTime, and their equations, by a program of this session (wip/gen/gen.py). No conditions. -/
import Derived.Test.YtnaloccjejmmfaaLim
import Derived.Test.YtnaloccjejmmfaaFFnSuspectTimex
namespace Go.Proofs.Ytnaloccjejmmfaa.FFnSuspectTime
open Go.RowKit Go.Proofs.YtnaloccjejmmfaaW.PrintWords Go.Proofs.YtnaloccjejmmfaaW.PrintLast Go.Proofs.YtnaloccjejmmfaaW.PrintMore Go.Proofs.YtnaloccjejmmfaaL
set_option linter.unusedVariables false
noncomputable def impl_BeatsValid.l0g (x8 : List Int) (x9 : Int) (x10 : Int) : Option (Bool) := lim fun k => impl_BeatsValid.l0 k x8 x9 x10
noncomputable def impl_BeatsValid.g (l0 : List Int) : Option (Bool) := lim fun k => impl_BeatsValid.f k l0
theorem impl_BeatsValid.l0g.lim (x8 : List Int) (x9 : Int) (x10 : Int) : Lim (fun k => impl_BeatsValid.l0 k x8 x9 x10) (impl_BeatsValid.l0g x8 x9 x10) := Lim.of (fun k => (impl_BeatsValid.mono_l k) x8 x9 x10)
theorem impl_BeatsValid.g.lim (l0 : List Int) : Lim (fun k => impl_BeatsValid.f k l0) (impl_BeatsValid.g l0) := Lim.of (fun k => impl_BeatsValid.mono l0 k)
theorem impl_BeatsValid.l0g.eq (x8 : List Int) (x9 : Int) (x10 : Int) : impl_BeatsValid.l0g x8 x9 x10 = if x10 < x9 then (if 0 ≤ x10 then (if x10 < (x8.length : Int) then ((impl_timeValid.f (rd x8 x10)).bind fun t102 => (if t102 = true then (impl_BeatsValid.l0g x8 x9 (wrap64 (x10 + 1))) else (some false))) else (none)) else (none)) else (some true) := by
  refine Lim.step (fun _ => rfl) (impl_BeatsValid.l0g.lim x8 x9 x10).mono ?_
  simp only [impl_BeatsValid.l0]
  repeat' first | (with_reducible exact Lim.const _) | (with_reducible refine Lim.ite ?_ ?_) | exact impl_BeatsValid.l0g.lim _ _ _ | (with_reducible refine Lim.bind ?_ (fun _ => ?_))
theorem impl_BeatsValid.g.eq (l0 : List Int) : impl_BeatsValid.g l0 = if (l0.length : Int) = 5 then (impl_BeatsValid.l0g l0 (l0.length : Int) 0) else (some false) := by
  refine Lim.eq ?_
  unfold impl_BeatsValid.f
  repeat' first | (with_reducible exact Lim.const _) | (with_reducible refine Lim.ite ?_ ?_) | exact impl_BeatsValid.l0g.lim _ _ _ | (with_reducible refine Lim.bind ?_ (fun _ => ?_))
noncomputable def spec_BeatsValid.l0g (x0 : List Int) (x3 : Int) : Option (Bool) := lim fun k => spec_BeatsValid.l0 k x0 x3
noncomputable def spec_BeatsValid.g (l0 : List Int) : Option (Bool) := lim fun k => spec_BeatsValid.f k l0
theorem spec_BeatsValid.l0g.lim (x0 : List Int) (x3 : Int) : Lim (fun k => spec_BeatsValid.l0 k x0 x3) (spec_BeatsValid.l0g x0 x3) := Lim.of (fun k => (spec_BeatsValid.mono_l k) x0 x3)
theorem spec_BeatsValid.g.lim (l0 : List Int) : Lim (fun k => spec_BeatsValid.f k l0) (spec_BeatsValid.g l0) := Lim.of (fun k => spec_BeatsValid.mono l0 k)
theorem spec_BeatsValid.l0g.eq (x0 : List Int) (x3 : Int) : spec_BeatsValid.l0g x0 x3 = if x3 < 5 then (if 0 ≤ x3 then (if x3 < (x0.length : Int) then ((spec_l1In.f (rd x0 x3) 0 200).bind fun t104 => (if t104 = true then (spec_BeatsValid.l0g x0 (wrap64 (x3 + 1))) else (some false))) else (none)) else (none)) else (some true) := by
  refine Lim.step (fun _ => rfl) (spec_BeatsValid.l0g.lim x0 x3).mono ?_
  simp only [spec_BeatsValid.l0]
  repeat' first | (with_reducible exact Lim.const _) | (with_reducible refine Lim.ite ?_ ?_) | exact spec_BeatsValid.l0g.lim _ _ | (with_reducible refine Lim.bind ?_ (fun _ => ?_))
theorem spec_BeatsValid.g.eq (l0 : List Int) : spec_BeatsValid.g l0 = if (l0.length : Int) = 5 then (spec_BeatsValid.l0g l0 0) else (some false) := by
  refine Lim.eq ?_
  unfold spec_BeatsValid.f
  repeat' first | (with_reducible exact Lim.const _) | (with_reducible refine Lim.ite ?_ ?_) | exact spec_BeatsValid.l0g.lim _ _ | (with_reducible refine Lim.bind ?_ (fun _ => ?_))
noncomputable def spec_SuspectTime.g (l0 : List Int) (a1 : Int) (a2 : Int) : Option (Int) := lim fun k => spec_SuspectTime.f k l0 a1 a2
theorem spec_SuspectTime.g.lim (l0 : List Int) (a1 : Int) (a2 : Int) : Lim (fun k => spec_SuspectTime.f k l0 a1 a2) (spec_SuspectTime.g l0 a1 a2) := Lim.of (fun k => spec_SuspectTime.mono l0 a1 a2 k)
theorem spec_SuspectTime.g.eq (l0 : List Int) (a1 : Int) (a2 : Int) : spec_SuspectTime.g l0 a1 a2 = (spec_BeatsValid.g l0).bind fun t105 => (if t105 = true then ((spec_l1In.f a1 0 4).bind fun t106 => (if t106 = true then ((spec_l1In.f a2 0 200).bind fun t107 => (if t107 = true then (if 0 ≤ a1 then (if a1 < (l0.length : Int) then (if (wrap64 ((wrap64 ((rd l0 a1) + a2)) + 1)) > 200 then (some (-1)) else (some (wrap64 ((wrap64 ((rd l0 a1) + a2)) + 1)))) else (none)) else (none)) else (some (-1)))) else (some (-1)))) else (some (-1))) := by
  refine Lim.eq ?_
  unfold spec_SuspectTime.f
  repeat' first | (with_reducible exact Lim.const _) | (with_reducible refine Lim.ite ?_ ?_) | exact spec_BeatsValid.g.lim _ | (with_reducible refine Lim.bind ?_ (fun _ => ?_))
noncomputable def impl_SuspectTime.j0g (x0 : List Int) (x1 : Int) (x2 : Int) (x20 : Bool) : Option (Int) := lim fun k => impl_SuspectTime.j0 k x0 x1 x2 x20
noncomputable def impl_SuspectTime.g (l0 : List Int) (a1 : Int) (a2 : Int) : Option (Int) := lim fun k => impl_SuspectTime.f k l0 a1 a2
theorem impl_SuspectTime.j0g.lim (x0 : List Int) (x1 : Int) (x2 : Int) (x20 : Bool) : Lim (fun k => impl_SuspectTime.j0 k x0 x1 x2 x20) (impl_SuspectTime.j0g x0 x1 x2 x20) := Lim.of (fun k => (impl_SuspectTime.mono_l k) x0 x1 x2 x20)
theorem impl_SuspectTime.g.lim (l0 : List Int) (a1 : Int) (a2 : Int) : Lim (fun k => impl_SuspectTime.f k l0 a1 a2) (impl_SuspectTime.g l0 a1 a2) := Lim.of (fun k => impl_SuspectTime.mono l0 a1 a2 k)
theorem impl_SuspectTime.j0g.eq (x0 : List Int) (x1 : Int) (x2 : Int) (x20 : Bool) : impl_SuspectTime.j0g x0 x1 x2 x20 = if x20 = true then (some (-1)) else (if 0 ≤ x1 then (if x1 < (x0.length : Int) then (if (wrap64 ((wrap64 ((rd x0 x1) + x2)) + 1)) > 200 then (some (-1)) else (some (wrap64 ((wrap64 ((rd x0 x1) + x2)) + 1)))) else (none)) else (none)) := by
  refine Lim.step (fun _ => rfl) (impl_SuspectTime.j0g.lim x0 x1 x2 x20).mono ?_
  simp only [impl_SuspectTime.j0]
  repeat' first | (with_reducible exact Lim.const _) | (with_reducible refine Lim.ite ?_ ?_) | (with_reducible refine Lim.bind ?_ (fun _ => ?_))
theorem impl_SuspectTime.g.eq (l0 : List Int) (a1 : Int) (a2 : Int) : impl_SuspectTime.g l0 a1 a2 = (impl_BeatsValid.g l0).bind fun t110 => (if t110 = true then ((impl_nodeValid.f a1).bind fun t111 => (if t111 = true then ((impl_timeValid.f a2).bind fun t112 => (impl_SuspectTime.j0g l0 a1 a2 (!t112))) else (impl_SuspectTime.j0g l0 a1 a2 true))) else (impl_SuspectTime.j0g l0 a1 a2 true)) := by
  refine Lim.eq ?_
  unfold impl_SuspectTime.f
  repeat' first | (with_reducible exact Lim.const _) | (with_reducible refine Lim.ite ?_ ?_) | exact impl_BeatsValid.g.lim _ | exact impl_SuspectTime.j0g.lim _ _ _ _ | (with_reducible refine Lim.bind ?_ (fun _ => ?_))
noncomputable def impl_Suspects.j0g (x0 : List Int) (x1 : Int) (x2 : Int) (x22 : Bool) : Option (List Int) := lim fun k => impl_Suspects.j0 k x0 x1 x2 x22
noncomputable def impl_Suspects.l0g (x1 : Int) (x2 : Int) (x7 : List Int) (x23 : List Int) (x24 : Int) (x25 : Int) : Option (List Int) := lim fun k => impl_Suspects.l0 k x1 x2 x7 x23 x24 x25
noncomputable def impl_Suspects.g (l0 : List Int) (a1 : Int) (a2 : Int) : Option (List Int) := lim fun k => impl_Suspects.f k l0 a1 a2
theorem impl_Suspects.j0g.lim (x0 : List Int) (x1 : Int) (x2 : Int) (x22 : Bool) : Lim (fun k => impl_Suspects.j0 k x0 x1 x2 x22) (impl_Suspects.j0g x0 x1 x2 x22) := Lim.of (fun k => (impl_Suspects.mono_l k).1 x0 x1 x2 x22)
theorem impl_Suspects.l0g.lim (x1 : Int) (x2 : Int) (x7 : List Int) (x23 : List Int) (x24 : Int) (x25 : Int) : Lim (fun k => impl_Suspects.l0 k x1 x2 x7 x23 x24 x25) (impl_Suspects.l0g x1 x2 x7 x23 x24 x25) := Lim.of (fun k => (impl_Suspects.mono_l k).2 x1 x2 x7 x23 x24 x25)
theorem impl_Suspects.g.lim (l0 : List Int) (a1 : Int) (a2 : Int) : Lim (fun k => impl_Suspects.f k l0 a1 a2) (impl_Suspects.g l0 a1 a2) := Lim.of (fun k => impl_Suspects.mono l0 a1 a2 k)
theorem impl_Suspects.j0g.eq (x0 : List Int) (x1 : Int) (x2 : Int) (x22 : Bool) : impl_Suspects.j0g x0 x1 x2 x22 = if x22 = true then (some ([] : List Int)) else (impl_Suspects.l0g x1 x2 ([] : List Int) x0 (x0.length : Int) 0) := by
  refine Lim.step (fun _ => rfl) (impl_Suspects.j0g.lim x0 x1 x2 x22).mono ?_
  simp only [impl_Suspects.j0]
  repeat' first | (with_reducible exact Lim.const _) | (with_reducible refine Lim.ite ?_ ?_) | exact impl_Suspects.l0g.lim _ _ _ _ _ _ | (with_reducible refine Lim.bind ?_ (fun _ => ?_))
theorem impl_Suspects.l0g.eq (x1 : Int) (x2 : Int) (x7 : List Int) (x23 : List Int) (x24 : Int) (x25 : Int) : impl_Suspects.l0g x1 x2 x7 x23 x24 x25 = if x25 < x24 then (if 0 ≤ x25 then (if x25 < (x23.length : Int) then (if (wrap64 (x1 - (rd x23 x25))) > x2 then (if x7.length < 17592186044416 then (impl_Suspects.l0g x1 x2 (x7 ++ [x25]) x23 x24 (wrap64 (x25 + 1))) else (none)) else (impl_Suspects.l0g x1 x2 x7 x23 x24 (wrap64 (x25 + 1)))) else (none)) else (none)) else (some x7) := by
  refine Lim.step (fun _ => rfl) (impl_Suspects.l0g.lim x1 x2 x7 x23 x24 x25).mono ?_
  simp only [impl_Suspects.l0]
  repeat' first | (with_reducible exact Lim.const _) | (with_reducible refine Lim.ite ?_ ?_) | exact impl_Suspects.l0g.lim _ _ _ _ _ _ | (with_reducible refine Lim.bind ?_ (fun _ => ?_))
theorem impl_Suspects.g.eq (l0 : List Int) (a1 : Int) (a2 : Int) : impl_Suspects.g l0 a1 a2 = (impl_BeatsValid.g l0).bind fun t114 => (if t114 = true then ((impl_timeValid.f a1).bind fun t115 => (if t115 = true then ((impl_timeValid.f a2).bind fun t116 => (impl_Suspects.j0g l0 a1 a2 (!t116))) else (impl_Suspects.j0g l0 a1 a2 true))) else (impl_Suspects.j0g l0 a1 a2 true)) := by
  refine Lim.eq ?_
  unfold impl_Suspects.f
  repeat' first | (with_reducible exact Lim.const _) | (with_reducible refine Lim.ite ?_ ?_) | exact impl_BeatsValid.g.lim _ | exact impl_Suspects.j0g.lim _ _ _ _ | (with_reducible refine Lim.bind ?_ (fun _ => ?_))
noncomputable def impl_lettersOnly.g (a0 : ByteArray) : Option (Bool) := lim fun k => impl_lettersOnly.f k a0
theorem impl_lettersOnly.g.lim (a0 : ByteArray) : Lim (fun k => impl_lettersOnly.f k a0) (impl_lettersOnly.g a0) := Lim.of (fun k => impl_lettersOnly.mono a0 k)
theorem impl_lettersOnly.g.eq (a0 : ByteArray) : impl_lettersOnly.g a0 = if a0.toList = ([] : List UInt8) then (some true) else (if 0 < (a0.size : Int) then (if (bt a0 0) ≥ 97 then (if (bt a0 0) ≤ 122 then (if 1 ≤ (a0.size : Int) then ((impl_lettersOnly.g (a0.extract 1 a0.size)).bind fun t121 => (some t121)) else (none)) else (some false)) else (some false)) else (none)) := by
  refine Lim.step (fun _ => rfl) (impl_lettersOnly.g.lim a0).mono ?_
  simp only [impl_lettersOnly.f]
  repeat' first | (with_reducible exact Lim.const _) | (with_reducible refine Lim.ite ?_ ?_) | exact impl_lettersOnly.g.lim _ | (with_reducible refine Lim.bind ?_ (fun _ => ?_))
noncomputable def impl_KeyValid.g (a0 : ByteArray) : Option (Bool) := lim fun k => impl_KeyValid.f k a0
theorem impl_KeyValid.g.lim (a0 : ByteArray) : Lim (fun k => impl_KeyValid.f k a0) (impl_KeyValid.g a0) := Lim.of (fun k => impl_KeyValid.mono a0 k)
theorem impl_KeyValid.g.eq (a0 : ByteArray) : impl_KeyValid.g a0 = if (a0.size : Int) < 1 then (some false) else (if (a0.size : Int) > 4 then (some false) else ((impl_lettersOnly.g a0).bind fun t122 => (some t122))) := by
  refine Lim.eq ?_
  unfold impl_KeyValid.f
  repeat' first | (with_reducible exact Lim.const _) | (with_reducible refine Lim.ite ?_ ?_) | exact impl_lettersOnly.g.lim _ | (with_reducible refine Lim.bind ?_ (fun _ => ?_))
noncomputable def impl_keysFrom.g (a0 : Int) : Option (Int) := lim fun k => impl_keysFrom.f k a0
theorem impl_keysFrom.g.lim (a0 : Int) : Lim (fun k => impl_keysFrom.f k a0) (impl_keysFrom.g a0) := Lim.of (fun k => impl_keysFrom.mono a0 k)
theorem impl_keysFrom.g.eq (a0 : Int) : impl_keysFrom.g a0 = if a0 ≥ 4 then (some 1) else ((impl_keysFrom.g (wrap64 (a0 + 1))).bind fun t123 => (some (wrap64 (1 + (wrap64 (26 * t123)))))) := by
  refine Lim.step (fun _ => rfl) (impl_keysFrom.g.lim a0).mono ?_
  simp only [impl_keysFrom.f]
  repeat' first | (with_reducible exact Lim.const _) | (with_reducible refine Lim.ite ?_ ?_) | exact impl_keysFrom.g.lim _ | (with_reducible refine Lim.bind ?_ (fun _ => ?_))
noncomputable def impl_rankBelow.g (a0 : ByteArray) (a1 : Int) : Option (Int) := lim fun k => impl_rankBelow.f k a0 a1
theorem impl_rankBelow.g.lim (a0 : ByteArray) (a1 : Int) : Lim (fun k => impl_rankBelow.f k a0 a1) (impl_rankBelow.g a0 a1) := Lim.of (fun k => impl_rankBelow.mono a0 a1 k)
theorem impl_rankBelow.g.eq (a0 : ByteArray) (a1 : Int) : impl_rankBelow.g a0 a1 = if a0.toList = ([] : List UInt8) then (some 0) else (if 0 < (a0.size : Int) then ((impl_keysFrom.g a1).bind fun t124 => (if 1 ≤ (a0.size : Int) then ((impl_rankBelow.g (a0.extract 1 a0.size) (wrap64 (a1 + 1))).bind fun t125 => (some (wrap64 ((wrap64 (1 + (wrap64 ((((bt a0 0) - 97) % 256) * t124)))) + t125)))) else (none))) else (none)) := by
  refine Lim.step (fun _ => rfl) (impl_rankBelow.g.lim a0 a1).mono ?_
  simp only [impl_rankBelow.f]
  repeat' first | (with_reducible exact Lim.const _) | (with_reducible refine Lim.ite ?_ ?_) | exact impl_keysFrom.g.lim _ | exact impl_rankBelow.g.lim _ _ | (with_reducible refine Lim.bind ?_ (fun _ => ?_))
noncomputable def impl_KeyRank.g (a0 : ByteArray) : Option (Int) := lim fun k => impl_KeyRank.f k a0
theorem impl_KeyRank.g.lim (a0 : ByteArray) : Lim (fun k => impl_KeyRank.f k a0) (impl_KeyRank.g a0) := Lim.of (fun k => impl_KeyRank.mono a0 k)
theorem impl_KeyRank.g.eq (a0 : ByteArray) : impl_KeyRank.g a0 = (impl_KeyValid.g a0).bind fun t126 => (if t126 = true then ((impl_rankBelow.g a0 1).bind fun t127 => (some (wrap64 (t127 - 1)))) else (some (-1))) := by
  refine Lim.eq ?_
  unfold impl_KeyRank.f
  repeat' first | (with_reducible exact Lim.const _) | (with_reducible refine Lim.ite ?_ ?_) | exact impl_KeyValid.g.lim _ | exact impl_rankBelow.g.lim _ _ | (with_reducible refine Lim.bind ?_ (fun _ => ?_))
noncomputable def laws_alive.g : Option (Bool) := lim fun k => laws_alive.f k 
theorem laws_alive.g.lim : Lim (fun k => laws_alive.f k ) (laws_alive.g ) := Lim.of (fun k => laws_alive.mono  k)
theorem laws_alive.g.eq : laws_alive.g  = (impl_KeyRank.g (⟨#[97, 97]⟩ : ByteArray)).bind fun t128 => (if t128 = 1 then ((impl_KeyRank.g (⟨#[]⟩ : ByteArray)).bind fun t129 => (some (t129 == (-1)))) else (some false)) := by
  refine Lim.eq ?_
  unfold laws_alive.f
  repeat' first | (with_reducible exact Lim.const _) | (with_reducible refine Lim.ite ?_ ?_) | exact impl_KeyRank.g.lim _ | (with_reducible refine Lim.bind ?_ (fun _ => ?_))
noncomputable def laws_hasInt.l0g (x0 : List Int) (x1 : Int) (x5 : Int) : Option (Bool) := lim fun k => laws_hasInt.l0 k x0 x1 x5
noncomputable def laws_hasInt.g (l0 : List Int) (a1 : Int) : Option (Bool) := lim fun k => laws_hasInt.f k l0 a1
theorem laws_hasInt.l0g.lim (x0 : List Int) (x1 : Int) (x5 : Int) : Lim (fun k => laws_hasInt.l0 k x0 x1 x5) (laws_hasInt.l0g x0 x1 x5) := Lim.of (fun k => (laws_hasInt.mono_l k) x0 x1 x5)
theorem laws_hasInt.g.lim (l0 : List Int) (a1 : Int) : Lim (fun k => laws_hasInt.f k l0 a1) (laws_hasInt.g l0 a1) := Lim.of (fun k => laws_hasInt.mono l0 a1 k)
theorem laws_hasInt.l0g.eq (x0 : List Int) (x1 : Int) (x5 : Int) : laws_hasInt.l0g x0 x1 x5 = if x5 < (x0.length : Int) then (if 0 ≤ x5 then (if (rd x0 x5) = x1 then (some true) else (laws_hasInt.l0g x0 x1 (wrap64 (x5 + 1)))) else (none)) else (some false) := by
  refine Lim.step (fun _ => rfl) (laws_hasInt.l0g.lim x0 x1 x5).mono ?_
  simp only [laws_hasInt.l0]
  repeat' first | (with_reducible exact Lim.const _) | (with_reducible refine Lim.ite ?_ ?_) | exact laws_hasInt.l0g.lim _ _ _ | (with_reducible refine Lim.bind ?_ (fun _ => ?_))
theorem laws_hasInt.g.eq (l0 : List Int) (a1 : Int) : laws_hasInt.g l0 a1 = laws_hasInt.l0g l0 a1 0 := by
  refine Lim.eq ?_
  unfold laws_hasInt.f
  repeat' first | (with_reducible exact Lim.const _) | (with_reducible refine Lim.ite ?_ ?_) | exact laws_hasInt.l0g.lim _ _ _ | (with_reducible refine Lim.bind ?_ (fun _ => ?_))
noncomputable def spec_l20Rd_pick.j0g (x1 : Int) (x24 : Bool) (x1000 : List Int) (x1001 : Int) : Option (Int × Int) := lim fun k => spec_l20Rd_pick.j0 k x1 x24 x1000 x1001
noncomputable def spec_l20Rd_pick.g (s0_0 : List Int) (s0_1 : Int) (a1 : Int) : Option (Int × Int) := lim fun k => spec_l20Rd_pick.f k s0_0 s0_1 a1
theorem spec_l20Rd_pick.j0g.lim (x1 : Int) (x24 : Bool) (x1000 : List Int) (x1001 : Int) : Lim (fun k => spec_l20Rd_pick.j0 k x1 x24 x1000 x1001) (spec_l20Rd_pick.j0g x1 x24 x1000 x1001) := Lim.of (fun k => (spec_l20Rd_pick.mono_l k) x1 x24 x1000 x1001)
theorem spec_l20Rd_pick.g.lim (s0_0 : List Int) (s0_1 : Int) (a1 : Int) : Lim (fun k => spec_l20Rd_pick.f k s0_0 s0_1 a1) (spec_l20Rd_pick.g s0_0 s0_1 a1) := Lim.of (fun k => spec_l20Rd_pick.mono s0_0 s0_1 a1 k)
theorem spec_l20Rd_pick.j0g.eq (x1 : Int) (x24 : Bool) (x1000 : List Int) (x1001 : Int) : spec_l20Rd_pick.j0g x1 x24 x1000 x1001 = if x24 = true then (some (0, x1001)) else (if (wrap64 (x1001 - 1)) < (x1000.length : Int) then (if 0 ≤ (wrap64 (x1001 - 1)) then (if x1 = 0 then (none) else (some (Int.tmod (wrap64 (rd x1000 (wrap64 (x1001 - 1)))) x1, x1001))) else (none)) else (if (x1000.length : Int) = 0 then (none) else (if 0 ≤ (Int.tmod (wrap64 (x1001 - 1)) (x1000.length : Int)) then (if (Int.tmod (wrap64 (x1001 - 1)) (x1000.length : Int)) < (x1000.length : Int) then (if 0 ≤ (Int.tmod (wrap64 ((wrap64 ((wrap64 (x1001 - 1)) * 7)) + 3)) (x1000.length : Int)) then (if (Int.tmod (wrap64 ((wrap64 ((wrap64 (x1001 - 1)) * 7)) + 3)) (x1000.length : Int)) < (x1000.length : Int) then (if x1 = 0 then (none) else (some (Int.tmod (Go.bits .xor .i64 (wrap64 ((wrap64 ((wrap64 ((wrap64 ((wrap64 (rd x1000 (Int.tmod (wrap64 (x1001 - 1)) (x1000.length : Int)))) * 131)) + (wrap64 ((wrap64 (rd x1000 (Int.tmod (wrap64 ((wrap64 ((wrap64 (x1001 - 1)) * 7)) + 3)) (x1000.length : Int)))) * 1117)))) + (wrap64 ((wrap64 (x1001 - 1)) * 29)))) + (wrap64 ((wrap64 (Int.tdiv (wrap64 (x1001 - 1)) (x1000.length : Int))) * 53)))) (wrap64 (Int.tdiv (wrap64 ((wrap64 ((wrap64 ((wrap64 ((wrap64 (rd x1000 (Int.tmod (wrap64 (x1001 - 1)) (x1000.length : Int)))) * 131)) + (wrap64 ((wrap64 (rd x1000 (Int.tmod (wrap64 ((wrap64 ((wrap64 (x1001 - 1)) * 7)) + 3)) (x1000.length : Int)))) * 1117)))) + (wrap64 ((wrap64 (x1001 - 1)) * 29)))) + (wrap64 ((wrap64 (Int.tdiv (wrap64 (x1001 - 1)) (x1000.length : Int))) * 53)))) 64))) x1, x1001))) else (none)) else (none)) else (none)) else (none)))) := by
  refine Lim.step (fun _ => rfl) (spec_l20Rd_pick.j0g.lim x1 x24 x1000 x1001).mono ?_
  simp only [spec_l20Rd_pick.j0]
  repeat' first | (with_reducible exact Lim.const _) | (with_reducible refine Lim.ite ?_ ?_) | (with_reducible refine Lim.bind ?_ (fun _ => ?_))
theorem spec_l20Rd_pick.g.eq (s0_0 : List Int) (s0_1 : Int) (a1 : Int) : spec_l20Rd_pick.g s0_0 s0_1 a1 = if a1 < 1 then (spec_l20Rd_pick.j0g a1 true s0_0 (wrap64 (s0_1 + 1))) else (spec_l20Rd_pick.j0g a1 ((s0_0.length : Int) == 0) s0_0 (wrap64 (s0_1 + 1))) := by
  refine Lim.eq ?_
  unfold spec_l20Rd_pick.f
  repeat' first | (with_reducible exact Lim.const _) | (with_reducible refine Lim.ite ?_ ?_) | exact spec_l20Rd_pick.j0g.lim _ _ _ _ | (with_reducible refine Lim.bind ?_ (fun _ => ?_))
noncomputable def spec_l20Rd_odd.g (s0_0 : List Int) (s0_1 : Int) (a1 : Int) : Option (Bool × Int) := lim fun k => spec_l20Rd_odd.f k s0_0 s0_1 a1
theorem spec_l20Rd_odd.g.lim (s0_0 : List Int) (s0_1 : Int) (a1 : Int) : Lim (fun k => spec_l20Rd_odd.f k s0_0 s0_1 a1) (spec_l20Rd_odd.g s0_0 s0_1 a1) := Lim.of (fun k => spec_l20Rd_odd.mono s0_0 s0_1 a1 k)
theorem spec_l20Rd_odd.g.eq (s0_0 : List Int) (s0_1 : Int) (a1 : Int) : spec_l20Rd_odd.g s0_0 s0_1 a1 = if a1 > 0 then ((spec_l20Rd_pick.g s0_0 s0_1 a1).bind fun bt134 => (some ((bt134.1 == (wrap64 (a1 - 1))), bt134.2))) else (some (false, s0_1)) := by
  refine Lim.eq ?_
  unfold spec_l20Rd_odd.f
  repeat' first | (with_reducible exact Lim.const _) | (with_reducible refine Lim.ite ?_ ?_) | exact spec_l20Rd_pick.g.lim _ _ _ | (with_reducible refine Lim.bind ?_ (fun _ => ?_))
noncomputable def spec_l20Time.g (s0_0 : List Int) (s0_1 : Int) (a1 : Int) : Option (Int × Int) := lim fun k => spec_l20Time.f k s0_0 s0_1 a1
theorem spec_l20Time.g.lim (s0_0 : List Int) (s0_1 : Int) (a1 : Int) : Lim (fun k => spec_l20Time.f k s0_0 s0_1 a1) (spec_l20Time.g s0_0 s0_1 a1) := Lim.of (fun k => spec_l20Time.mono s0_0 s0_1 a1 k)
theorem spec_l20Time.g.eq (s0_0 : List Int) (s0_1 : Int) (a1 : Int) : spec_l20Time.g s0_0 s0_1 a1 = (spec_l20Rd_odd.g s0_0 s0_1 a1).bind fun bt136 => (if bt136.1 = true then ((some (([(-1), 201] : List Int) : List Int)).bind fun y138 => ((spec_l20Rd_pick.g s0_0 bt136.2 2).bind fun bt141 => (if 0 ≤ bt141.1 then (if bt141.1 < (y138.length : Int) then (some (rd y138 bt141.1, bt141.2)) else (none)) else (none)))) else ((spec_l20Rd_pick.g s0_0 bt136.2 40).bind fun bt144 => ((some (([bt144.1, 200] : List Int) : List Int)).bind fun y146 => ((spec_l20Rd_pick.g s0_0 bt144.2 9).bind fun bt149 => (if 0 ≤ (wrap64 (Int.tdiv bt149.1 8)) then (if (wrap64 (Int.tdiv bt149.1 8)) < (y146.length : Int) then (some (rd y146 (wrap64 (Int.tdiv bt149.1 8)), bt149.2)) else (none)) else (none)))))) := by
  refine Lim.eq ?_
  unfold spec_l20Time.f
  repeat' first | (with_reducible exact Lim.const _) | (with_reducible refine Lim.ite ?_ ?_) | exact spec_l20Rd_odd.g.lim _ _ _ | exact spec_l20Rd_pick.g.lim _ _ _ | (with_reducible refine Lim.bind ?_ (fun _ => ?_))
noncomputable def spec_l20Beats.l0g (x1 : Int) (x5 : List Int) (x6 : Int) (x1000 : List Int) (x1001 : Int) : Option (List Int × Int) := lim fun k => spec_l20Beats.l0 k x1 x5 x6 x1000 x1001
noncomputable def spec_l20Beats.g (s0_0 : List Int) (s0_1 : Int) (a1 : Int) : Option (List Int × Int) := lim fun k => spec_l20Beats.f k s0_0 s0_1 a1
theorem spec_l20Beats.l0g.lim (x1 : Int) (x5 : List Int) (x6 : Int) (x1000 : List Int) (x1001 : Int) : Lim (fun k => spec_l20Beats.l0 k x1 x5 x6 x1000 x1001) (spec_l20Beats.l0g x1 x5 x6 x1000 x1001) := Lim.of (fun k => (spec_l20Beats.mono_l k) x1 x5 x6 x1000 x1001)
theorem spec_l20Beats.g.lim (s0_0 : List Int) (s0_1 : Int) (a1 : Int) : Lim (fun k => spec_l20Beats.f k s0_0 s0_1 a1) (spec_l20Beats.g s0_0 s0_1 a1) := Lim.of (fun k => spec_l20Beats.mono s0_0 s0_1 a1 k)
theorem spec_l20Beats.l0g.eq (x1 : Int) (x5 : List Int) (x6 : Int) (x1000 : List Int) (x1001 : Int) : spec_l20Beats.l0g x1 x5 x6 x1000 x1001 = if x6 < 5 then ((spec_l20Time.g x1000 x1001 0).bind fun bt155 => (if x5.length < 17592186044416 then (spec_l20Beats.l0g x1 (x5 ++ [bt155.1]) (wrap64 (x6 + 1)) x1000 bt155.2) else (none))) else ((spec_l20Rd_odd.g x1000 x1001 x1).bind fun bt160 => (if bt160.1 = true then ((spec_l20Rd_pick.g x1000 bt160.2 3).bind fun bt162 => (if bt162.1 = 0 then (if 1 ≤ (x5.length : Int) then (some ((x5.drop (1 : Int).toNat), bt162.2)) else (none)) else (if bt162.1 = 1 then ((spec_l20Rd_pick.g x1000 bt162.2 5).bind fun bt167 => ((spec_l20Time.g x1000 bt167.2 1).bind fun bt169 => (if 0 ≤ bt167.1 then (if bt167.1 < (x5.length : Int) then (some ((x5.set (bt167.1 : Int).toNat bt169.1), bt169.2)) else (none)) else (none)))) else (if x5.length < 17592186044416 then (some ((x5 ++ [0]), bt162.2)) else (none))))) else (some (x5, bt160.2)))) := by
  refine Lim.step (fun _ => rfl) (spec_l20Beats.l0g.lim x1 x5 x6 x1000 x1001).mono ?_
  simp only [spec_l20Beats.l0]
  repeat' first | (with_reducible exact Lim.const _) | (with_reducible refine Lim.ite ?_ ?_) | exact spec_l20Beats.l0g.lim _ _ _ _ _ | exact spec_l20Rd_odd.g.lim _ _ _ | exact spec_l20Rd_pick.g.lim _ _ _ | exact spec_l20Time.g.lim _ _ _ | (with_reducible refine Lim.bind ?_ (fun _ => ?_))
theorem spec_l20Beats.g.eq (s0_0 : List Int) (s0_1 : Int) (a1 : Int) : spec_l20Beats.g s0_0 s0_1 a1 = spec_l20Beats.l0g a1 (([] : List Int)) 0 s0_0 s0_1 := by
  refine Lim.eq ?_
  unfold spec_l20Beats.f
  repeat' first | (with_reducible exact Lim.const _) | (with_reducible refine Lim.ite ?_ ?_) | exact spec_l20Beats.l0g.lim _ _ _ _ _ | (with_reducible refine Lim.bind ?_ (fun _ => ?_))
noncomputable def spec_l20Node.g (s0_0 : List Int) (s0_1 : Int) (a1 : Int) : Option (Int × Int) := lim fun k => spec_l20Node.f k s0_0 s0_1 a1
theorem spec_l20Node.g.lim (s0_0 : List Int) (s0_1 : Int) (a1 : Int) : Lim (fun k => spec_l20Node.f k s0_0 s0_1 a1) (spec_l20Node.g s0_0 s0_1 a1) := Lim.of (fun k => spec_l20Node.mono s0_0 s0_1 a1 k)
theorem spec_l20Node.g.eq (s0_0 : List Int) (s0_1 : Int) (a1 : Int) : spec_l20Node.g s0_0 s0_1 a1 = (spec_l20Rd_odd.g s0_0 s0_1 a1).bind fun bt178 => (if bt178.1 = true then ((some (([(-1), 5] : List Int) : List Int)).bind fun y180 => ((spec_l20Rd_pick.g s0_0 bt178.2 2).bind fun bt183 => (if 0 ≤ bt183.1 then (if bt183.1 < (y180.length : Int) then (some (rd y180 bt183.1, bt183.2)) else (none)) else (none)))) else ((spec_l20Rd_pick.g s0_0 bt178.2 5).bind fun bt186 => (some (bt186.1, bt186.2)))) := by
  refine Lim.eq ?_
  unfold spec_l20Node.f
  repeat' first | (with_reducible exact Lim.const _) | (with_reducible refine Lim.ite ?_ ?_) | exact spec_l20Rd_odd.g.lim _ _ _ | exact spec_l20Rd_pick.g.lim _ _ _ | (with_reducible refine Lim.bind ?_ (fun _ => ?_))
noncomputable def spec_DrawSuspectTime.g (l0 : List Int) : Option (List Int × Int × Int) := lim fun k => spec_DrawSuspectTime.f k l0
theorem spec_DrawSuspectTime.g.lim (l0 : List Int) : Lim (fun k => spec_DrawSuspectTime.f k l0) (spec_DrawSuspectTime.g l0) := Lim.of (fun k => spec_DrawSuspectTime.mono l0 k)
theorem spec_DrawSuspectTime.g.eq (l0 : List Int) : spec_DrawSuspectTime.g l0 = (spec_l20Open.f l0).bind fun bt188 => ((spec_l20Beats.g bt188.1 bt188.2 12).bind fun bt191 => ((spec_l20Node.g bt188.1 bt191.2 12).bind fun bt195 => ((spec_l20Time.g bt188.1 bt195.2 12).bind fun bt197 => (some (bt191.1, bt195.1, bt197.1))))) := by
  refine Lim.eq ?_
  unfold spec_DrawSuspectTime.f
  repeat' first | (with_reducible exact Lim.const _) | (with_reducible refine Lim.ite ?_ ?_) | exact spec_l20Beats.g.lim _ _ _ | exact spec_l20Node.g.lim _ _ _ | exact spec_l20Time.g.lim _ _ _ | (with_reducible refine Lim.bind ?_ (fun _ => ?_))
noncomputable def laws_FnSuspectTime.g (l0 : List Int) : Option (Bool) := lim fun k => laws_FnSuspectTime.f k l0
theorem laws_FnSuspectTime.g.lim (l0 : List Int) : Lim (fun k => laws_FnSuspectTime.f k l0) (laws_FnSuspectTime.g l0) := Lim.of (fun k => laws_FnSuspectTime.mono l0 k)
theorem laws_FnSuspectTime.g.eq (l0 : List Int) : laws_FnSuspectTime.g l0 = if (l0.length : Int) > 1048576 then (some true) else ((spec_DrawSuspectTime.g l0).bind fun bt199 => ((impl_SuspectTime.g bt199.1 bt199.2.1 bt199.2.2).bind fun t204 => ((spec_SuspectTime.g bt199.1 bt199.2.1 bt199.2.2).bind fun t205 => (if t204 = t205 then (if t204 < 0 then (if t204 = (-1) then ((impl_BeatsValid.g bt199.1).bind fun t206 => (if t206 = true then ((impl_Suspects.g bt199.1 200 bt199.2.2).bind fun t207 => ((laws_hasInt.g t207 bt199.2.1).bind fun t210 => (if t210 = true then (some false) else ((laws_alive.g ).bind fun t211 => (some t211))))) else ((laws_alive.g ).bind fun t212 => (some t212)))) else (some false)) else (if t204 > 0 then ((impl_Suspects.g bt199.1 t204 bt199.2.2).bind fun t213 => ((laws_hasInt.g t213 bt199.2.1).bind fun t216 => (if t216 = true then ((impl_Suspects.g bt199.1 (wrap64 (t204 - 1)) bt199.2.2).bind fun t217 => ((laws_hasInt.g t217 bt199.2.1).bind fun t220 => (some (!t220)))) else (some false)))) else (some false))) else (some false))))) := by
  refine Lim.eq ?_
  unfold laws_FnSuspectTime.f
  repeat' first | (with_reducible exact Lim.const _) | (with_reducible refine Lim.ite ?_ ?_) | exact impl_BeatsValid.g.lim _ | exact impl_SuspectTime.g.lim _ _ _ | exact impl_Suspects.g.lim _ _ _ | exact laws_alive.g.lim | exact laws_hasInt.g.lim _ _ | exact spec_DrawSuspectTime.g.lim _ | exact spec_SuspectTime.g.lim _ _ _ | (with_reducible refine Lim.bind ?_ (fun _ => ?_))
end Go.Proofs.Ytnaloccjejmmfaa.FFnSuspectTime
