/- The limits of the printed functions of FnHearBeat, and their equations, by a program of this session (wip/gen/gen.py). No conditions. -/
import Derived.Test.YtbieglaagpogkaaLim
import Derived.Test.YtbieglaagpogkaaFFnHearBeatx
namespace Go.Proofs.Ytbieglaagpogkaa.FFnHearBeat
open Go.RowKit Go.Proofs.YtbieglaagpogkaaW.PrintWords Go.Proofs.YtbieglaagpogkaaW.PrintLast Go.Proofs.YtbieglaagpogkaaW.PrintMore Go.Proofs.YtbieglaagpogkaaL
set_option linter.unusedVariables false
noncomputable def impl_BeatsValid.l0g (x8 : List Int) (x9 : Int) (x10 : Int) : Option (Bool) := lim fun k => impl_BeatsValid.l0 k x8 x9 x10
noncomputable def impl_BeatsValid.g (l0 : List Int) : Option (Bool) := lim fun k => impl_BeatsValid.f k l0
theorem impl_BeatsValid.l0g.lim (x8 : List Int) (x9 : Int) (x10 : Int) : Lim (fun k => impl_BeatsValid.l0 k x8 x9 x10) (impl_BeatsValid.l0g x8 x9 x10) := Lim.of (fun k => (impl_BeatsValid.mono_l k) x8 x9 x10)
theorem impl_BeatsValid.g.lim (l0 : List Int) : Lim (fun k => impl_BeatsValid.f k l0) (impl_BeatsValid.g l0) := Lim.of (fun k => impl_BeatsValid.mono l0 k)
theorem impl_BeatsValid.l0g.eq (x8 : List Int) (x9 : Int) (x10 : Int) : impl_BeatsValid.l0g x8 x9 x10 = if x10 < x9 then (if 0 ≤ x10 then (if x10 < (x8.length : Int) then ((impl_timeValid.f (rd x8 x10)).bind fun t102 => (if t102 = true then (impl_BeatsValid.l0g x8 x9 (wrap64 (x10 + 1))) else (some false))) else (none)) else (none)) else (some true) := by
  refine Lim.step (fun _ => rfl) (impl_BeatsValid.l0g.lim x8 x9 x10).mono ?_
  simp only [impl_BeatsValid.l0]
  repeat' first | (with_reducible exact Lim.const _) | (with_reducible refine Lim.ite ?_ ?_) | exact impl_BeatsValid.l0g.lim _ _ _ | (with_reducible refine Lim.bind ?_ (fun _ => ?_))
theorem impl_BeatsValid.g.eq (l0 : List Int) : impl_BeatsValid.g l0 = if (l0.length : Int) = 5 then (impl_BeatsValid.l0g l0 (l0.length : Int) 0) else (some false) := by
  refine Lim.eq ?_
  unfold impl_BeatsValid.f
  repeat' first | (with_reducible exact Lim.const _) | (with_reducible refine Lim.ite ?_ ?_) | exact impl_BeatsValid.l0g.lim _ _ _ | (with_reducible refine Lim.bind ?_ (fun _ => ?_))
noncomputable def laws_hasInt.l0g (x0 : List Int) (x1 : Int) (x5 : Int) : Option (Bool) := lim fun k => laws_hasInt.l0 k x0 x1 x5
noncomputable def laws_hasInt.g (l0 : List Int) (a1 : Int) : Option (Bool) := lim fun k => laws_hasInt.f k l0 a1
theorem laws_hasInt.l0g.lim (x0 : List Int) (x1 : Int) (x5 : Int) : Lim (fun k => laws_hasInt.l0 k x0 x1 x5) (laws_hasInt.l0g x0 x1 x5) := Lim.of (fun k => (laws_hasInt.mono_l k) x0 x1 x5)
theorem laws_hasInt.g.lim (l0 : List Int) (a1 : Int) : Lim (fun k => laws_hasInt.f k l0 a1) (laws_hasInt.g l0 a1) := Lim.of (fun k => laws_hasInt.mono l0 a1 k)
theorem laws_hasInt.l0g.eq (x0 : List Int) (x1 : Int) (x5 : Int) : laws_hasInt.l0g x0 x1 x5 = if x5 < (x0.length : Int) then (if 0 ≤ x5 then (if (rd x0 x5) = x1 then (some true) else (laws_hasInt.l0g x0 x1 (wrap64 (x5 + 1)))) else (none)) else (some false) := by
  refine Lim.step (fun _ => rfl) (laws_hasInt.l0g.lim x0 x1 x5).mono ?_
  simp only [laws_hasInt.l0]
  repeat' first | (with_reducible exact Lim.const _) | (with_reducible refine Lim.ite ?_ ?_) | exact laws_hasInt.l0g.lim _ _ _ | (with_reducible refine Lim.bind ?_ (fun _ => ?_))
theorem laws_hasInt.g.eq (l0 : List Int) (a1 : Int) : laws_hasInt.g l0 a1 = laws_hasInt.l0g l0 a1 0 := by
  refine Lim.eq ?_
  unfold laws_hasInt.f
  repeat' first | (with_reducible exact Lim.const _) | (with_reducible refine Lim.ite ?_ ?_) | exact laws_hasInt.l0g.lim _ _ _ | (with_reducible refine Lim.bind ?_ (fun _ => ?_))
noncomputable def impl_Suspects.j0g (x0 : List Int) (x1 : Int) (x2 : Int) (x22 : Bool) : Option (List Int) := lim fun k => impl_Suspects.j0 k x0 x1 x2 x22
noncomputable def impl_Suspects.l0g (x1 : Int) (x2 : Int) (x7 : List Int) (x23 : List Int) (x24 : Int) (x25 : Int) : Option (List Int) := lim fun k => impl_Suspects.l0 k x1 x2 x7 x23 x24 x25
noncomputable def impl_Suspects.g (l0 : List Int) (a1 : Int) (a2 : Int) : Option (List Int) := lim fun k => impl_Suspects.f k l0 a1 a2
theorem impl_Suspects.j0g.lim (x0 : List Int) (x1 : Int) (x2 : Int) (x22 : Bool) : Lim (fun k => impl_Suspects.j0 k x0 x1 x2 x22) (impl_Suspects.j0g x0 x1 x2 x22) := Lim.of (fun k => (impl_Suspects.mono_l k).1 x0 x1 x2 x22)
theorem impl_Suspects.l0g.lim (x1 : Int) (x2 : Int) (x7 : List Int) (x23 : List Int) (x24 : Int) (x25 : Int) : Lim (fun k => impl_Suspects.l0 k x1 x2 x7 x23 x24 x25) (impl_Suspects.l0g x1 x2 x7 x23 x24 x25) := Lim.of (fun k => (impl_Suspects.mono_l k).2 x1 x2 x7 x23 x24 x25)
theorem impl_Suspects.g.lim (l0 : List Int) (a1 : Int) (a2 : Int) : Lim (fun k => impl_Suspects.f k l0 a1 a2) (impl_Suspects.g l0 a1 a2) := Lim.of (fun k => impl_Suspects.mono l0 a1 a2 k)
theorem impl_Suspects.j0g.eq (x0 : List Int) (x1 : Int) (x2 : Int) (x22 : Bool) : impl_Suspects.j0g x0 x1 x2 x22 = if x22 = true then (some ([] : List Int)) else (impl_Suspects.l0g x1 x2 ([] : List Int) x0 (x0.length : Int) 0) := by
  refine Lim.step (fun _ => rfl) (impl_Suspects.j0g.lim x0 x1 x2 x22).mono ?_
  simp only [impl_Suspects.j0]
  repeat' first | (with_reducible exact Lim.const _) | (with_reducible refine Lim.ite ?_ ?_) | exact impl_Suspects.l0g.lim _ _ _ _ _ _ | (with_reducible refine Lim.bind ?_ (fun _ => ?_))
theorem impl_Suspects.l0g.eq (x1 : Int) (x2 : Int) (x7 : List Int) (x23 : List Int) (x24 : Int) (x25 : Int) : impl_Suspects.l0g x1 x2 x7 x23 x24 x25 = if x25 < x24 then (if 0 ≤ x25 then (if x25 < (x23.length : Int) then (if (wrap64 (x1 - (rd x23 x25))) > x2 then (if x7.length < 17592186044416 then (impl_Suspects.l0g x1 x2 (x7 ++ [x25]) x23 x24 (wrap64 (x25 + 1))) else (none)) else (impl_Suspects.l0g x1 x2 x7 x23 x24 (wrap64 (x25 + 1)))) else (none)) else (none)) else (some x7) := by
  refine Lim.step (fun _ => rfl) (impl_Suspects.l0g.lim x1 x2 x7 x23 x24 x25).mono ?_
  simp only [impl_Suspects.l0]
  repeat' first | (with_reducible exact Lim.const _) | (with_reducible refine Lim.ite ?_ ?_) | exact impl_Suspects.l0g.lim _ _ _ _ _ _ | (with_reducible refine Lim.bind ?_ (fun _ => ?_))
theorem impl_Suspects.g.eq (l0 : List Int) (a1 : Int) (a2 : Int) : impl_Suspects.g l0 a1 a2 = (impl_BeatsValid.g l0).bind fun t104 => (if t104 = true then ((impl_timeValid.f a1).bind fun t105 => (if t105 = true then ((impl_timeValid.f a2).bind fun t106 => (impl_Suspects.j0g l0 a1 a2 (!t106))) else (impl_Suspects.j0g l0 a1 a2 true))) else (impl_Suspects.j0g l0 a1 a2 true)) := by
  refine Lim.eq ?_
  unfold impl_Suspects.f
  repeat' first | (with_reducible exact Lim.const _) | (with_reducible refine Lim.ite ?_ ?_) | exact impl_BeatsValid.g.lim _ | exact impl_Suspects.j0g.lim _ _ _ _ | (with_reducible refine Lim.bind ?_ (fun _ => ?_))
noncomputable def impl_lettersOnly.g (a0 : ByteArray) : Option (Bool) := lim fun k => impl_lettersOnly.f k a0
theorem impl_lettersOnly.g.lim (a0 : ByteArray) : Lim (fun k => impl_lettersOnly.f k a0) (impl_lettersOnly.g a0) := Lim.of (fun k => impl_lettersOnly.mono a0 k)
theorem impl_lettersOnly.g.eq (a0 : ByteArray) : impl_lettersOnly.g a0 = if a0.toList = ([] : List UInt8) then (some true) else (if 0 < (a0.size : Int) then (if (bt a0 0) ≥ 97 then (if (bt a0 0) ≤ 122 then (if 1 ≤ (a0.size : Int) then ((impl_lettersOnly.g (a0.extract 1 a0.size)).bind fun t111 => (some t111)) else (none)) else (some false)) else (some false)) else (none)) := by
  refine Lim.step (fun _ => rfl) (impl_lettersOnly.g.lim a0).mono ?_
  simp only [impl_lettersOnly.f]
  repeat' first | (with_reducible exact Lim.const _) | (with_reducible refine Lim.ite ?_ ?_) | exact impl_lettersOnly.g.lim _ | (with_reducible refine Lim.bind ?_ (fun _ => ?_))
noncomputable def impl_KeyValid.g (a0 : ByteArray) : Option (Bool) := lim fun k => impl_KeyValid.f k a0
theorem impl_KeyValid.g.lim (a0 : ByteArray) : Lim (fun k => impl_KeyValid.f k a0) (impl_KeyValid.g a0) := Lim.of (fun k => impl_KeyValid.mono a0 k)
theorem impl_KeyValid.g.eq (a0 : ByteArray) : impl_KeyValid.g a0 = if (a0.size : Int) < 1 then (some false) else (if (a0.size : Int) > 4 then (some false) else ((impl_lettersOnly.g a0).bind fun t112 => (some t112))) := by
  refine Lim.eq ?_
  unfold impl_KeyValid.f
  repeat' first | (with_reducible exact Lim.const _) | (with_reducible refine Lim.ite ?_ ?_) | exact impl_lettersOnly.g.lim _ | (with_reducible refine Lim.bind ?_ (fun _ => ?_))
noncomputable def impl_keysFrom.g (a0 : Int) : Option (Int) := lim fun k => impl_keysFrom.f k a0
theorem impl_keysFrom.g.lim (a0 : Int) : Lim (fun k => impl_keysFrom.f k a0) (impl_keysFrom.g a0) := Lim.of (fun k => impl_keysFrom.mono a0 k)
theorem impl_keysFrom.g.eq (a0 : Int) : impl_keysFrom.g a0 = if a0 ≥ 4 then (some 1) else ((impl_keysFrom.g (wrap64 (a0 + 1))).bind fun t113 => (some (wrap64 (1 + (wrap64 (26 * t113)))))) := by
  refine Lim.step (fun _ => rfl) (impl_keysFrom.g.lim a0).mono ?_
  simp only [impl_keysFrom.f]
  repeat' first | (with_reducible exact Lim.const _) | (with_reducible refine Lim.ite ?_ ?_) | exact impl_keysFrom.g.lim _ | (with_reducible refine Lim.bind ?_ (fun _ => ?_))
noncomputable def impl_rankBelow.g (a0 : ByteArray) (a1 : Int) : Option (Int) := lim fun k => impl_rankBelow.f k a0 a1
theorem impl_rankBelow.g.lim (a0 : ByteArray) (a1 : Int) : Lim (fun k => impl_rankBelow.f k a0 a1) (impl_rankBelow.g a0 a1) := Lim.of (fun k => impl_rankBelow.mono a0 a1 k)
theorem impl_rankBelow.g.eq (a0 : ByteArray) (a1 : Int) : impl_rankBelow.g a0 a1 = if a0.toList = ([] : List UInt8) then (some 0) else (if 0 < (a0.size : Int) then ((impl_keysFrom.g a1).bind fun t114 => (if 1 ≤ (a0.size : Int) then ((impl_rankBelow.g (a0.extract 1 a0.size) (wrap64 (a1 + 1))).bind fun t115 => (some (wrap64 ((wrap64 (1 + (wrap64 ((((bt a0 0) - 97) % 256) * t114)))) + t115)))) else (none))) else (none)) := by
  refine Lim.step (fun _ => rfl) (impl_rankBelow.g.lim a0 a1).mono ?_
  simp only [impl_rankBelow.f]
  repeat' first | (with_reducible exact Lim.const _) | (with_reducible refine Lim.ite ?_ ?_) | exact impl_keysFrom.g.lim _ | exact impl_rankBelow.g.lim _ _ | (with_reducible refine Lim.bind ?_ (fun _ => ?_))
noncomputable def impl_KeyRank.g (a0 : ByteArray) : Option (Int) := lim fun k => impl_KeyRank.f k a0
theorem impl_KeyRank.g.lim (a0 : ByteArray) : Lim (fun k => impl_KeyRank.f k a0) (impl_KeyRank.g a0) := Lim.of (fun k => impl_KeyRank.mono a0 k)
theorem impl_KeyRank.g.eq (a0 : ByteArray) : impl_KeyRank.g a0 = (impl_KeyValid.g a0).bind fun t116 => (if t116 = true then ((impl_rankBelow.g a0 1).bind fun t117 => (some (wrap64 (t117 - 1)))) else (some (-1))) := by
  refine Lim.eq ?_
  unfold impl_KeyRank.f
  repeat' first | (with_reducible exact Lim.const _) | (with_reducible refine Lim.ite ?_ ?_) | exact impl_KeyValid.g.lim _ | exact impl_rankBelow.g.lim _ _ | (with_reducible refine Lim.bind ?_ (fun _ => ?_))
noncomputable def laws_alive.g : Option (Bool) := lim fun k => laws_alive.f k 
theorem laws_alive.g.lim : Lim (fun k => laws_alive.f k ) (laws_alive.g ) := Lim.of (fun k => laws_alive.mono  k)
theorem laws_alive.g.eq : laws_alive.g  = (impl_KeyRank.g (⟨#[97, 97]⟩ : ByteArray)).bind fun t118 => (if t118 = 1 then ((impl_KeyRank.g (⟨#[]⟩ : ByteArray)).bind fun t119 => (some (t119 == (-1)))) else (some false)) := by
  refine Lim.eq ?_
  unfold laws_alive.f
  repeat' first | (with_reducible exact Lim.const _) | (with_reducible refine Lim.ite ?_ ?_) | exact impl_KeyRank.g.lim _ | (with_reducible refine Lim.bind ?_ (fun _ => ?_))
noncomputable def laws_sameInts.l0g (x0 : List Int) (x1 : List Int) (x5 : Int) : Option (Bool) := lim fun k => laws_sameInts.l0 k x0 x1 x5
noncomputable def laws_sameInts.g (l0 : List Int) (l1 : List Int) : Option (Bool) := lim fun k => laws_sameInts.f k l0 l1
theorem laws_sameInts.l0g.lim (x0 : List Int) (x1 : List Int) (x5 : Int) : Lim (fun k => laws_sameInts.l0 k x0 x1 x5) (laws_sameInts.l0g x0 x1 x5) := Lim.of (fun k => (laws_sameInts.mono_l k) x0 x1 x5)
theorem laws_sameInts.g.lim (l0 : List Int) (l1 : List Int) : Lim (fun k => laws_sameInts.f k l0 l1) (laws_sameInts.g l0 l1) := Lim.of (fun k => laws_sameInts.mono l0 l1 k)
theorem laws_sameInts.l0g.eq (x0 : List Int) (x1 : List Int) (x5 : Int) : laws_sameInts.l0g x0 x1 x5 = if x5 < (x0.length : Int) then (if 0 ≤ x5 then (if x5 < (x1.length : Int) then (if (rd x0 x5) = (rd x1 x5) then (laws_sameInts.l0g x0 x1 (wrap64 (x5 + 1))) else (some false)) else (none)) else (none)) else (some true) := by
  refine Lim.step (fun _ => rfl) (laws_sameInts.l0g.lim x0 x1 x5).mono ?_
  simp only [laws_sameInts.l0]
  repeat' first | (with_reducible exact Lim.const _) | (with_reducible refine Lim.ite ?_ ?_) | exact laws_sameInts.l0g.lim _ _ _ | (with_reducible refine Lim.bind ?_ (fun _ => ?_))
theorem laws_sameInts.g.eq (l0 : List Int) (l1 : List Int) : laws_sameInts.g l0 l1 = if (l0.length : Int) = (l1.length : Int) then (laws_sameInts.l0g l0 l1 0) else (some false) := by
  refine Lim.eq ?_
  unfold laws_sameInts.f
  repeat' first | (with_reducible exact Lim.const _) | (with_reducible refine Lim.ite ?_ ?_) | exact laws_sameInts.l0g.lim _ _ _ | (with_reducible refine Lim.bind ?_ (fun _ => ?_))
noncomputable def spec_l20Rd_pick.j0g (x1 : Int) (x24 : Bool) (x1000 : List Int) (x1001 : Int) : Option (Int × Int) := lim fun k => spec_l20Rd_pick.j0 k x1 x24 x1000 x1001
noncomputable def spec_l20Rd_pick.g (s0_0 : List Int) (s0_1 : Int) (a1 : Int) : Option (Int × Int) := lim fun k => spec_l20Rd_pick.f k s0_0 s0_1 a1
theorem spec_l20Rd_pick.j0g.lim (x1 : Int) (x24 : Bool) (x1000 : List Int) (x1001 : Int) : Lim (fun k => spec_l20Rd_pick.j0 k x1 x24 x1000 x1001) (spec_l20Rd_pick.j0g x1 x24 x1000 x1001) := Lim.of (fun k => (spec_l20Rd_pick.mono_l k) x1 x24 x1000 x1001)
theorem spec_l20Rd_pick.g.lim (s0_0 : List Int) (s0_1 : Int) (a1 : Int) : Lim (fun k => spec_l20Rd_pick.f k s0_0 s0_1 a1) (spec_l20Rd_pick.g s0_0 s0_1 a1) := Lim.of (fun k => spec_l20Rd_pick.mono s0_0 s0_1 a1 k)
theorem spec_l20Rd_pick.j0g.eq (x1 : Int) (x24 : Bool) (x1000 : List Int) (x1001 : Int) : spec_l20Rd_pick.j0g x1 x24 x1000 x1001 = if x24 = true then (some (0, x1001)) else (if (wrap64 (x1001 - 1)) < (x1000.length : Int) then (if 0 ≤ (wrap64 (x1001 - 1)) then (if x1 = 0 then (none) else (some (Int.tmod (wrap64 (rd x1000 (wrap64 (x1001 - 1)))) x1, x1001))) else (none)) else (if (x1000.length : Int) = 0 then (none) else (if 0 ≤ (Int.tmod (wrap64 (x1001 - 1)) (x1000.length : Int)) then (if (Int.tmod (wrap64 (x1001 - 1)) (x1000.length : Int)) < (x1000.length : Int) then (if 0 ≤ (Int.tmod (wrap64 ((wrap64 ((wrap64 (x1001 - 1)) * 7)) + 3)) (x1000.length : Int)) then (if (Int.tmod (wrap64 ((wrap64 ((wrap64 (x1001 - 1)) * 7)) + 3)) (x1000.length : Int)) < (x1000.length : Int) then (if x1 = 0 then (none) else (some (Int.tmod (Go.bits .xor .i64 (wrap64 ((wrap64 ((wrap64 ((wrap64 ((wrap64 (rd x1000 (Int.tmod (wrap64 (x1001 - 1)) (x1000.length : Int)))) * 131)) + (wrap64 ((wrap64 (rd x1000 (Int.tmod (wrap64 ((wrap64 ((wrap64 (x1001 - 1)) * 7)) + 3)) (x1000.length : Int)))) * 1117)))) + (wrap64 ((wrap64 (x1001 - 1)) * 29)))) + (wrap64 ((wrap64 (Int.tdiv (wrap64 (x1001 - 1)) (x1000.length : Int))) * 53)))) (wrap64 (Int.tdiv (wrap64 ((wrap64 ((wrap64 ((wrap64 ((wrap64 (rd x1000 (Int.tmod (wrap64 (x1001 - 1)) (x1000.length : Int)))) * 131)) + (wrap64 ((wrap64 (rd x1000 (Int.tmod (wrap64 ((wrap64 ((wrap64 (x1001 - 1)) * 7)) + 3)) (x1000.length : Int)))) * 1117)))) + (wrap64 ((wrap64 (x1001 - 1)) * 29)))) + (wrap64 ((wrap64 (Int.tdiv (wrap64 (x1001 - 1)) (x1000.length : Int))) * 53)))) 64))) x1, x1001))) else (none)) else (none)) else (none)) else (none)))) := by
  refine Lim.step (fun _ => rfl) (spec_l20Rd_pick.j0g.lim x1 x24 x1000 x1001).mono ?_
  simp only [spec_l20Rd_pick.j0]
  repeat' first | (with_reducible exact Lim.const _) | (with_reducible refine Lim.ite ?_ ?_) | (with_reducible refine Lim.bind ?_ (fun _ => ?_))
theorem spec_l20Rd_pick.g.eq (s0_0 : List Int) (s0_1 : Int) (a1 : Int) : spec_l20Rd_pick.g s0_0 s0_1 a1 = if a1 < 1 then (spec_l20Rd_pick.j0g a1 true s0_0 (wrap64 (s0_1 + 1))) else (spec_l20Rd_pick.j0g a1 ((s0_0.length : Int) == 0) s0_0 (wrap64 (s0_1 + 1))) := by
  refine Lim.eq ?_
  unfold spec_l20Rd_pick.f
  repeat' first | (with_reducible exact Lim.const _) | (with_reducible refine Lim.ite ?_ ?_) | exact spec_l20Rd_pick.j0g.lim _ _ _ _ | (with_reducible refine Lim.bind ?_ (fun _ => ?_))
noncomputable def spec_l20Rd_odd.g (s0_0 : List Int) (s0_1 : Int) (a1 : Int) : Option (Bool × Int) := lim fun k => spec_l20Rd_odd.f k s0_0 s0_1 a1
theorem spec_l20Rd_odd.g.lim (s0_0 : List Int) (s0_1 : Int) (a1 : Int) : Lim (fun k => spec_l20Rd_odd.f k s0_0 s0_1 a1) (spec_l20Rd_odd.g s0_0 s0_1 a1) := Lim.of (fun k => spec_l20Rd_odd.mono s0_0 s0_1 a1 k)
theorem spec_l20Rd_odd.g.eq (s0_0 : List Int) (s0_1 : Int) (a1 : Int) : spec_l20Rd_odd.g s0_0 s0_1 a1 = if a1 > 0 then ((spec_l20Rd_pick.g s0_0 s0_1 a1).bind fun bt128 => (some ((bt128.1 == (wrap64 (a1 - 1))), bt128.2))) else (some (false, s0_1)) := by
  refine Lim.eq ?_
  unfold spec_l20Rd_odd.f
  repeat' first | (with_reducible exact Lim.const _) | (with_reducible refine Lim.ite ?_ ?_) | exact spec_l20Rd_pick.g.lim _ _ _ | (with_reducible refine Lim.bind ?_ (fun _ => ?_))
noncomputable def spec_l20Time.g (s0_0 : List Int) (s0_1 : Int) (a1 : Int) : Option (Int × Int) := lim fun k => spec_l20Time.f k s0_0 s0_1 a1
theorem spec_l20Time.g.lim (s0_0 : List Int) (s0_1 : Int) (a1 : Int) : Lim (fun k => spec_l20Time.f k s0_0 s0_1 a1) (spec_l20Time.g s0_0 s0_1 a1) := Lim.of (fun k => spec_l20Time.mono s0_0 s0_1 a1 k)
theorem spec_l20Time.g.eq (s0_0 : List Int) (s0_1 : Int) (a1 : Int) : spec_l20Time.g s0_0 s0_1 a1 = (spec_l20Rd_odd.g s0_0 s0_1 a1).bind fun bt130 => (if bt130.1 = true then ((some (([(-1), 201] : List Int) : List Int)).bind fun y132 => ((spec_l20Rd_pick.g s0_0 bt130.2 2).bind fun bt135 => (if 0 ≤ bt135.1 then (if bt135.1 < (y132.length : Int) then (some (rd y132 bt135.1, bt135.2)) else (none)) else (none)))) else ((spec_l20Rd_pick.g s0_0 bt130.2 40).bind fun bt138 => ((some (([bt138.1, 200] : List Int) : List Int)).bind fun y140 => ((spec_l20Rd_pick.g s0_0 bt138.2 9).bind fun bt143 => (if 0 ≤ (wrap64 (Int.tdiv bt143.1 8)) then (if (wrap64 (Int.tdiv bt143.1 8)) < (y140.length : Int) then (some (rd y140 (wrap64 (Int.tdiv bt143.1 8)), bt143.2)) else (none)) else (none)))))) := by
  refine Lim.eq ?_
  unfold spec_l20Time.f
  repeat' first | (with_reducible exact Lim.const _) | (with_reducible refine Lim.ite ?_ ?_) | exact spec_l20Rd_odd.g.lim _ _ _ | exact spec_l20Rd_pick.g.lim _ _ _ | (with_reducible refine Lim.bind ?_ (fun _ => ?_))
noncomputable def spec_l20Beats.l0g (x1 : Int) (x5 : List Int) (x6 : Int) (x1000 : List Int) (x1001 : Int) : Option (List Int × Int) := lim fun k => spec_l20Beats.l0 k x1 x5 x6 x1000 x1001
noncomputable def spec_l20Beats.g (s0_0 : List Int) (s0_1 : Int) (a1 : Int) : Option (List Int × Int) := lim fun k => spec_l20Beats.f k s0_0 s0_1 a1
theorem spec_l20Beats.l0g.lim (x1 : Int) (x5 : List Int) (x6 : Int) (x1000 : List Int) (x1001 : Int) : Lim (fun k => spec_l20Beats.l0 k x1 x5 x6 x1000 x1001) (spec_l20Beats.l0g x1 x5 x6 x1000 x1001) := Lim.of (fun k => (spec_l20Beats.mono_l k) x1 x5 x6 x1000 x1001)
theorem spec_l20Beats.g.lim (s0_0 : List Int) (s0_1 : Int) (a1 : Int) : Lim (fun k => spec_l20Beats.f k s0_0 s0_1 a1) (spec_l20Beats.g s0_0 s0_1 a1) := Lim.of (fun k => spec_l20Beats.mono s0_0 s0_1 a1 k)
theorem spec_l20Beats.l0g.eq (x1 : Int) (x5 : List Int) (x6 : Int) (x1000 : List Int) (x1001 : Int) : spec_l20Beats.l0g x1 x5 x6 x1000 x1001 = if x6 < 5 then ((spec_l20Time.g x1000 x1001 0).bind fun bt149 => (if x5.length < 17592186044416 then (spec_l20Beats.l0g x1 (x5 ++ [bt149.1]) (wrap64 (x6 + 1)) x1000 bt149.2) else (none))) else ((spec_l20Rd_odd.g x1000 x1001 x1).bind fun bt154 => (if bt154.1 = true then ((spec_l20Rd_pick.g x1000 bt154.2 3).bind fun bt156 => (if bt156.1 = 0 then (if 1 ≤ (x5.length : Int) then (some ((x5.drop (1 : Int).toNat), bt156.2)) else (none)) else (if bt156.1 = 1 then ((spec_l20Rd_pick.g x1000 bt156.2 5).bind fun bt161 => ((spec_l20Time.g x1000 bt161.2 1).bind fun bt163 => (if 0 ≤ bt161.1 then (if bt161.1 < (x5.length : Int) then (some ((x5.set (bt161.1 : Int).toNat bt163.1), bt163.2)) else (none)) else (none)))) else (if x5.length < 17592186044416 then (some ((x5 ++ [0]), bt156.2)) else (none))))) else (some (x5, bt154.2)))) := by
  refine Lim.step (fun _ => rfl) (spec_l20Beats.l0g.lim x1 x5 x6 x1000 x1001).mono ?_
  simp only [spec_l20Beats.l0]
  repeat' first | (with_reducible exact Lim.const _) | (with_reducible refine Lim.ite ?_ ?_) | exact spec_l20Beats.l0g.lim _ _ _ _ _ | exact spec_l20Rd_odd.g.lim _ _ _ | exact spec_l20Rd_pick.g.lim _ _ _ | exact spec_l20Time.g.lim _ _ _ | (with_reducible refine Lim.bind ?_ (fun _ => ?_))
theorem spec_l20Beats.g.eq (s0_0 : List Int) (s0_1 : Int) (a1 : Int) : spec_l20Beats.g s0_0 s0_1 a1 = spec_l20Beats.l0g a1 (([] : List Int)) 0 s0_0 s0_1 := by
  refine Lim.eq ?_
  unfold spec_l20Beats.f
  repeat' first | (with_reducible exact Lim.const _) | (with_reducible refine Lim.ite ?_ ?_) | exact spec_l20Beats.l0g.lim _ _ _ _ _ | (with_reducible refine Lim.bind ?_ (fun _ => ?_))
noncomputable def spec_l20Node.g (s0_0 : List Int) (s0_1 : Int) (a1 : Int) : Option (Int × Int) := lim fun k => spec_l20Node.f k s0_0 s0_1 a1
theorem spec_l20Node.g.lim (s0_0 : List Int) (s0_1 : Int) (a1 : Int) : Lim (fun k => spec_l20Node.f k s0_0 s0_1 a1) (spec_l20Node.g s0_0 s0_1 a1) := Lim.of (fun k => spec_l20Node.mono s0_0 s0_1 a1 k)
theorem spec_l20Node.g.eq (s0_0 : List Int) (s0_1 : Int) (a1 : Int) : spec_l20Node.g s0_0 s0_1 a1 = (spec_l20Rd_odd.g s0_0 s0_1 a1).bind fun bt169 => (if bt169.1 = true then ((some (([(-1), 5] : List Int) : List Int)).bind fun y171 => ((spec_l20Rd_pick.g s0_0 bt169.2 2).bind fun bt174 => (if 0 ≤ bt174.1 then (if bt174.1 < (y171.length : Int) then (some (rd y171 bt174.1, bt174.2)) else (none)) else (none)))) else ((spec_l20Rd_pick.g s0_0 bt169.2 5).bind fun bt177 => (some (bt177.1, bt177.2)))) := by
  refine Lim.eq ?_
  unfold spec_l20Node.f
  repeat' first | (with_reducible exact Lim.const _) | (with_reducible refine Lim.ite ?_ ?_) | exact spec_l20Rd_odd.g.lim _ _ _ | exact spec_l20Rd_pick.g.lim _ _ _ | (with_reducible refine Lim.bind ?_ (fun _ => ?_))
noncomputable def spec_DrawHearBeat.g (l0 : List Int) : Option (List Int × Int × Int) := lim fun k => spec_DrawHearBeat.f k l0
theorem spec_DrawHearBeat.g.lim (l0 : List Int) : Lim (fun k => spec_DrawHearBeat.f k l0) (spec_DrawHearBeat.g l0) := Lim.of (fun k => spec_DrawHearBeat.mono l0 k)
theorem spec_DrawHearBeat.g.eq (l0 : List Int) : spec_DrawHearBeat.g l0 = (spec_l20Open.f l0).bind fun bt179 => ((spec_l20Beats.g bt179.1 bt179.2 12).bind fun bt182 => ((spec_l20Node.g bt179.1 bt182.2 12).bind fun bt186 => ((spec_l20Time.g bt179.1 bt186.2 12).bind fun bt188 => (some (bt182.1, bt186.1, bt188.1))))) := by
  refine Lim.eq ?_
  unfold spec_DrawHearBeat.f
  repeat' first | (with_reducible exact Lim.const _) | (with_reducible refine Lim.ite ?_ ?_) | exact spec_l20Beats.g.lim _ _ _ | exact spec_l20Node.g.lim _ _ _ | exact spec_l20Time.g.lim _ _ _ | (with_reducible refine Lim.bind ?_ (fun _ => ?_))
noncomputable def impl_HearBeat.g (l0 : List Int) (a1 : Int) (a2 : Int) : Option (List Int) := lim fun k => impl_HearBeat.f k l0 a1 a2
theorem impl_HearBeat.g.lim (l0 : List Int) (a1 : Int) (a2 : Int) : Lim (fun k => impl_HearBeat.f k l0 a1 a2) (impl_HearBeat.g l0 a1 a2) := Lim.of (fun k => impl_HearBeat.mono l0 a1 a2 k)
theorem impl_HearBeat.g.eq (l0 : List Int) (a1 : Int) (a2 : Int) : impl_HearBeat.g l0 a1 a2 = (impl_BeatsValid.g l0).bind fun t204 => (if t204 = true then ((impl_nodeValid.f a1).bind fun t205 => (if t205 = true then ((impl_timeValid.f a2).bind fun t206 => (if t206 = true then (if 0 ≤ a1 then (if a1 < (l0.length : Int) then ((impl_replaced_int.f l0 a1 1 (([mx (rd l0 a1) a2] : List Int))).bind fun t211 => (some t211)) else (none)) else (none)) else (some ([] : List Int)))) else (some ([] : List Int)))) else (some ([] : List Int))) := by
  refine Lim.eq ?_
  unfold impl_HearBeat.f
  repeat' first | (with_reducible exact Lim.const _) | (with_reducible refine Lim.ite ?_ ?_) | exact impl_BeatsValid.g.lim _ | (with_reducible refine Lim.bind ?_ (fun _ => ?_))
noncomputable def spec_BeatsValid.l0g (x0 : List Int) (x3 : Int) : Option (Bool) := lim fun k => spec_BeatsValid.l0 k x0 x3
noncomputable def spec_BeatsValid.g (l0 : List Int) : Option (Bool) := lim fun k => spec_BeatsValid.f k l0
theorem spec_BeatsValid.l0g.lim (x0 : List Int) (x3 : Int) : Lim (fun k => spec_BeatsValid.l0 k x0 x3) (spec_BeatsValid.l0g x0 x3) := Lim.of (fun k => (spec_BeatsValid.mono_l k) x0 x3)
theorem spec_BeatsValid.g.lim (l0 : List Int) : Lim (fun k => spec_BeatsValid.f k l0) (spec_BeatsValid.g l0) := Lim.of (fun k => spec_BeatsValid.mono l0 k)
theorem spec_BeatsValid.l0g.eq (x0 : List Int) (x3 : Int) : spec_BeatsValid.l0g x0 x3 = if x3 < 5 then (if 0 ≤ x3 then (if x3 < (x0.length : Int) then ((spec_l1In.f (rd x0 x3) 0 200).bind fun t215 => (if t215 = true then (spec_BeatsValid.l0g x0 (wrap64 (x3 + 1))) else (some false))) else (none)) else (none)) else (some true) := by
  refine Lim.step (fun _ => rfl) (spec_BeatsValid.l0g.lim x0 x3).mono ?_
  simp only [spec_BeatsValid.l0]
  repeat' first | (with_reducible exact Lim.const _) | (with_reducible refine Lim.ite ?_ ?_) | exact spec_BeatsValid.l0g.lim _ _ | (with_reducible refine Lim.bind ?_ (fun _ => ?_))
theorem spec_BeatsValid.g.eq (l0 : List Int) : spec_BeatsValid.g l0 = if (l0.length : Int) = 5 then (spec_BeatsValid.l0g l0 0) else (some false) := by
  refine Lim.eq ?_
  unfold spec_BeatsValid.f
  repeat' first | (with_reducible exact Lim.const _) | (with_reducible refine Lim.ite ?_ ?_) | exact spec_BeatsValid.l0g.lim _ _ | (with_reducible refine Lim.bind ?_ (fun _ => ?_))
noncomputable def spec_HearBeat.g (l0 : List Int) (a1 : Int) (a2 : Int) : Option (List Int) := lim fun k => spec_HearBeat.f k l0 a1 a2
theorem spec_HearBeat.g.lim (l0 : List Int) (a1 : Int) (a2 : Int) : Lim (fun k => spec_HearBeat.f k l0 a1 a2) (spec_HearBeat.g l0 a1 a2) := Lim.of (fun k => spec_HearBeat.mono l0 a1 a2 k)
theorem spec_HearBeat.g.eq (l0 : List Int) (a1 : Int) (a2 : Int) : spec_HearBeat.g l0 a1 a2 = (some (([] : List Int) : List Int)).bind fun y216 => ((spec_BeatsValid.g l0).bind fun t219 => (if t219 = true then ((spec_l1In.f a1 0 4).bind fun t220 => (if t220 = true then ((spec_l1In.f a2 0 200).bind fun t221 => (if t221 = true then (if y216.length + l0.length < 17592186044416 then ((some (y216 ++ l0 : List Int)).bind fun y222 => (if 0 ≤ a1 then (if a1 < (y222.length : Int) then (some (y222.set (a1 : Int).toNat (mx (rd y222 a1) a2))) else (none)) else (none))) else (none)) else (some y216))) else (some y216))) else (some y216))) := by
  refine Lim.eq ?_
  unfold spec_HearBeat.f
  repeat' first | (with_reducible exact Lim.const _) | (with_reducible refine Lim.ite ?_ ?_) | exact spec_BeatsValid.g.lim _ | (with_reducible refine Lim.bind ?_ (fun _ => ?_))
noncomputable def laws_FnHearBeat.l0g (x3 : List Int) (x4 : Int) (x5 : Int) (x6 : List Int) (x7 : Int) : Option (Bool) := lim fun k => laws_FnHearBeat.l0 k x3 x4 x5 x6 x7
noncomputable def laws_FnHearBeat.j1g (x3 : List Int) (x4 : Int) (x5 : Int) (x6 : List Int) (x7 : Int) (x41 : Bool) : Option (Bool) := lim fun k => laws_FnHearBeat.j1 k x3 x4 x5 x6 x7 x41
noncomputable def laws_FnHearBeat.g (l0 : List Int) : Option (Bool) := lim fun k => laws_FnHearBeat.f k l0
theorem laws_FnHearBeat.l0g.lim (x3 : List Int) (x4 : Int) (x5 : Int) (x6 : List Int) (x7 : Int) : Lim (fun k => laws_FnHearBeat.l0 k x3 x4 x5 x6 x7) (laws_FnHearBeat.l0g x3 x4 x5 x6 x7) := Lim.of (fun k => (laws_FnHearBeat.mono_l k).1 x3 x4 x5 x6 x7)
theorem laws_FnHearBeat.j1g.lim (x3 : List Int) (x4 : Int) (x5 : Int) (x6 : List Int) (x7 : Int) (x41 : Bool) : Lim (fun k => laws_FnHearBeat.j1 k x3 x4 x5 x6 x7 x41) (laws_FnHearBeat.j1g x3 x4 x5 x6 x7 x41) := Lim.of (fun k => (laws_FnHearBeat.mono_l k).2 x3 x4 x5 x6 x7 x41)
theorem laws_FnHearBeat.g.lim (l0 : List Int) : Lim (fun k => laws_FnHearBeat.f k l0) (laws_FnHearBeat.g l0) := Lim.of (fun k => laws_FnHearBeat.mono l0 k)
theorem laws_FnHearBeat.l0g.eq (x3 : List Int) (x4 : Int) (x5 : Int) (x6 : List Int) (x7 : Int) : laws_FnHearBeat.l0g x3 x4 x5 x6 x7 = if x7 < (x3.length : Int) then (laws_FnHearBeat.j1g x3 x4 x5 x6 x7 (decide (x7 < (x6.length : Int)))) else (laws_FnHearBeat.j1g x3 x4 x5 x6 x7 false) := by
  refine Lim.step (fun _ => rfl) (laws_FnHearBeat.l0g.lim x3 x4 x5 x6 x7).mono ?_
  simp only [laws_FnHearBeat.l0]
  repeat' first | (with_reducible exact Lim.const _) | (with_reducible refine Lim.ite ?_ ?_) | exact laws_FnHearBeat.j1g.lim _ _ _ _ _ _ | (with_reducible refine Lim.bind ?_ (fun _ => ?_))
theorem laws_FnHearBeat.j1g.eq (x3 : List Int) (x4 : Int) (x5 : Int) (x6 : List Int) (x7 : Int) (x41 : Bool) : laws_FnHearBeat.j1g x3 x4 x5 x6 x7 x41 = if x41 = true then (if x7 = x4 then (if 0 ≤ x7 then (if x7 < (x6.length : Int) then (if x7 < (x3.length : Int) then (if (rd x6 x7) < (rd x3 x7) then (some false) else (laws_FnHearBeat.l0g x3 x4 x5 x6 (wrap64 (x7 + 1)))) else (none)) else (none)) else (none)) else (if 0 ≤ x7 then (if x7 < (x6.length : Int) then (if x7 < (x3.length : Int) then (if (rd x6 x7) = (rd x3 x7) then (if (rd x6 x7) < (rd x3 x7) then (some false) else (laws_FnHearBeat.l0g x3 x4 x5 x6 (wrap64 (x7 + 1)))) else (some false)) else (none)) else (none)) else (none))) else ((impl_BeatsValid.g x6).bind fun t246 => (if t246 = true then ((impl_Suspects.g x6 x5 0).bind fun t247 => ((laws_hasInt.g t247 x4).bind fun t250 => (some (!t250)))) else (some false))) := by
  refine Lim.step (fun _ => rfl) (laws_FnHearBeat.j1g.lim x3 x4 x5 x6 x7 x41).mono ?_
  simp only [laws_FnHearBeat.j1]
  repeat' first | (with_reducible exact Lim.const _) | (with_reducible refine Lim.ite ?_ ?_) | exact impl_BeatsValid.g.lim _ | exact impl_Suspects.g.lim _ _ _ | exact laws_FnHearBeat.l0g.lim _ _ _ _ _ | exact laws_hasInt.g.lim _ _ | (with_reducible refine Lim.bind ?_ (fun _ => ?_))
theorem laws_FnHearBeat.g.eq (l0 : List Int) : laws_FnHearBeat.g l0 = if (l0.length : Int) > 1048576 then (some true) else ((spec_DrawHearBeat.g l0).bind fun bt227 => ((impl_HearBeat.g bt227.1 bt227.2.1 bt227.2.2).bind fun t232 => ((spec_HearBeat.g bt227.1 bt227.2.1 bt227.2.2).bind fun t235 => ((laws_sameInts.g t232 t235).bind fun t238 => (if t238 = true then (if (t232.length : Int) = 0 then ((laws_alive.g ).bind fun t239 => (some t239)) else (laws_FnHearBeat.l0g bt227.1 bt227.2.1 bt227.2.2 t232 0)) else (some false)))))) := by
  refine Lim.eq ?_
  unfold laws_FnHearBeat.f
  repeat' first | (with_reducible exact Lim.const _) | (with_reducible refine Lim.ite ?_ ?_) | exact impl_HearBeat.g.lim _ _ _ | exact laws_FnHearBeat.l0g.lim _ _ _ _ _ | exact laws_alive.g.lim | exact laws_sameInts.g.lim _ _ | exact spec_DrawHearBeat.g.lim _ | exact spec_HearBeat.g.lim _ _ _ | (with_reducible refine Lim.bind ?_ (fun _ => ?_))
end Go.Proofs.Ytbieglaagpogkaa.FFnHearBeat
