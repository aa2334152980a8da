/- The limits of the printed functions of FnPlaceMembers, and their equations, by a program of this session (wip/gen/gen.py). No conditions. -/
import Derived.Test.YtbieglaagpogkaaLim
import Derived.Test.YtbieglaagpogkaaFFnPlaceMembersx
namespace Go.Proofs.Ytbieglaagpogkaa.FFnPlaceMembers
open Go.RowKit Go.Proofs.YtbieglaagpogkaaW.PrintWords Go.Proofs.YtbieglaagpogkaaW.PrintLast Go.Proofs.YtbieglaagpogkaaW.PrintMore Go.Proofs.YtbieglaagpogkaaL
set_option linter.unusedVariables false
noncomputable def laws_hasInt.l0g (x0 : List Int) (x1 : Int) (x5 : Int) : Option (Bool) := lim fun k => laws_hasInt.l0 k x0 x1 x5
noncomputable def laws_hasInt.g (l0 : List Int) (a1 : Int) : Option (Bool) := lim fun k => laws_hasInt.f k l0 a1
theorem laws_hasInt.l0g.lim (x0 : List Int) (x1 : Int) (x5 : Int) : Lim (fun k => laws_hasInt.l0 k x0 x1 x5) (laws_hasInt.l0g x0 x1 x5) := Lim.of (fun k => (laws_hasInt.mono_l k) x0 x1 x5)
theorem laws_hasInt.g.lim (l0 : List Int) (a1 : Int) : Lim (fun k => laws_hasInt.f k l0 a1) (laws_hasInt.g l0 a1) := Lim.of (fun k => laws_hasInt.mono l0 a1 k)
theorem laws_hasInt.l0g.eq (x0 : List Int) (x1 : Int) (x5 : Int) : laws_hasInt.l0g x0 x1 x5 = if x5 < (x0.length : Int) then (if 0 ≤ x5 then (if (rd x0 x5) = x1 then (some true) else (laws_hasInt.l0g x0 x1 (wrap64 (x5 + 1)))) else (none)) else (some false) := by
  refine Lim.step (fun _ => rfl) (laws_hasInt.l0g.lim x0 x1 x5).mono ?_
  simp only [laws_hasInt.l0]
  repeat' first | (with_reducible exact Lim.const _) | (with_reducible refine Lim.ite ?_ ?_) | exact laws_hasInt.l0g.lim _ _ _ | (with_reducible refine Lim.bind ?_ (fun _ => ?_))
theorem laws_hasInt.g.eq (l0 : List Int) (a1 : Int) : laws_hasInt.g l0 a1 = laws_hasInt.l0g l0 a1 0 := by
  refine Lim.eq ?_
  unfold laws_hasInt.f
  repeat' first | (with_reducible exact Lim.const _) | (with_reducible refine Lim.ite ?_ ?_) | exact laws_hasInt.l0g.lim _ _ _ | (with_reducible refine Lim.bind ?_ (fun _ => ?_))
noncomputable def impl_lettersOnly.g (a0 : ByteArray) : Option (Bool) := lim fun k => impl_lettersOnly.f k a0
theorem impl_lettersOnly.g.lim (a0 : ByteArray) : Lim (fun k => impl_lettersOnly.f k a0) (impl_lettersOnly.g a0) := Lim.of (fun k => impl_lettersOnly.mono a0 k)
theorem impl_lettersOnly.g.eq (a0 : ByteArray) : impl_lettersOnly.g a0 = if a0.toList = ([] : List UInt8) then (some true) else (if 0 < (a0.size : Int) then (if (bt a0 0) ≥ 97 then (if (bt a0 0) ≤ 122 then (if 1 ≤ (a0.size : Int) then ((impl_lettersOnly.g (a0.extract 1 a0.size)).bind fun t102 => (some t102)) else (none)) else (some false)) else (some false)) else (none)) := by
  refine Lim.step (fun _ => rfl) (impl_lettersOnly.g.lim a0).mono ?_
  simp only [impl_lettersOnly.f]
  repeat' first | (with_reducible exact Lim.const _) | (with_reducible refine Lim.ite ?_ ?_) | exact impl_lettersOnly.g.lim _ | (with_reducible refine Lim.bind ?_ (fun _ => ?_))
noncomputable def impl_KeyValid.g (a0 : ByteArray) : Option (Bool) := lim fun k => impl_KeyValid.f k a0
theorem impl_KeyValid.g.lim (a0 : ByteArray) : Lim (fun k => impl_KeyValid.f k a0) (impl_KeyValid.g a0) := Lim.of (fun k => impl_KeyValid.mono a0 k)
theorem impl_KeyValid.g.eq (a0 : ByteArray) : impl_KeyValid.g a0 = if (a0.size : Int) < 1 then (some false) else (if (a0.size : Int) > 4 then (some false) else ((impl_lettersOnly.g a0).bind fun t103 => (some t103))) := by
  refine Lim.eq ?_
  unfold impl_KeyValid.f
  repeat' first | (with_reducible exact Lim.const _) | (with_reducible refine Lim.ite ?_ ?_) | exact impl_lettersOnly.g.lim _ | (with_reducible refine Lim.bind ?_ (fun _ => ?_))
noncomputable def impl_keysFrom.g (a0 : Int) : Option (Int) := lim fun k => impl_keysFrom.f k a0
theorem impl_keysFrom.g.lim (a0 : Int) : Lim (fun k => impl_keysFrom.f k a0) (impl_keysFrom.g a0) := Lim.of (fun k => impl_keysFrom.mono a0 k)
theorem impl_keysFrom.g.eq (a0 : Int) : impl_keysFrom.g a0 = if a0 ≥ 4 then (some 1) else ((impl_keysFrom.g (wrap64 (a0 + 1))).bind fun t104 => (some (wrap64 (1 + (wrap64 (26 * t104)))))) := by
  refine Lim.step (fun _ => rfl) (impl_keysFrom.g.lim a0).mono ?_
  simp only [impl_keysFrom.f]
  repeat' first | (with_reducible exact Lim.const _) | (with_reducible refine Lim.ite ?_ ?_) | exact impl_keysFrom.g.lim _ | (with_reducible refine Lim.bind ?_ (fun _ => ?_))
noncomputable def impl_rankBelow.g (a0 : ByteArray) (a1 : Int) : Option (Int) := lim fun k => impl_rankBelow.f k a0 a1
theorem impl_rankBelow.g.lim (a0 : ByteArray) (a1 : Int) : Lim (fun k => impl_rankBelow.f k a0 a1) (impl_rankBelow.g a0 a1) := Lim.of (fun k => impl_rankBelow.mono a0 a1 k)
theorem impl_rankBelow.g.eq (a0 : ByteArray) (a1 : Int) : impl_rankBelow.g a0 a1 = if a0.toList = ([] : List UInt8) then (some 0) else (if 0 < (a0.size : Int) then ((impl_keysFrom.g a1).bind fun t105 => (if 1 ≤ (a0.size : Int) then ((impl_rankBelow.g (a0.extract 1 a0.size) (wrap64 (a1 + 1))).bind fun t106 => (some (wrap64 ((wrap64 (1 + (wrap64 ((((bt a0 0) - 97) % 256) * t105)))) + t106)))) else (none))) else (none)) := by
  refine Lim.step (fun _ => rfl) (impl_rankBelow.g.lim a0 a1).mono ?_
  simp only [impl_rankBelow.f]
  repeat' first | (with_reducible exact Lim.const _) | (with_reducible refine Lim.ite ?_ ?_) | exact impl_keysFrom.g.lim _ | exact impl_rankBelow.g.lim _ _ | (with_reducible refine Lim.bind ?_ (fun _ => ?_))
noncomputable def impl_KeyRank.g (a0 : ByteArray) : Option (Int) := lim fun k => impl_KeyRank.f k a0
theorem impl_KeyRank.g.lim (a0 : ByteArray) : Lim (fun k => impl_KeyRank.f k a0) (impl_KeyRank.g a0) := Lim.of (fun k => impl_KeyRank.mono a0 k)
theorem impl_KeyRank.g.eq (a0 : ByteArray) : impl_KeyRank.g a0 = (impl_KeyValid.g a0).bind fun t107 => (if t107 = true then ((impl_rankBelow.g a0 1).bind fun t108 => (some (wrap64 (t108 - 1)))) else (some (-1))) := by
  refine Lim.eq ?_
  unfold impl_KeyRank.f
  repeat' first | (with_reducible exact Lim.const _) | (with_reducible refine Lim.ite ?_ ?_) | exact impl_KeyValid.g.lim _ | exact impl_rankBelow.g.lim _ _ | (with_reducible refine Lim.bind ?_ (fun _ => ?_))
noncomputable def laws_alive.g : Option (Bool) := lim fun k => laws_alive.f k 
theorem laws_alive.g.lim : Lim (fun k => laws_alive.f k ) (laws_alive.g ) := Lim.of (fun k => laws_alive.mono  k)
theorem laws_alive.g.eq : laws_alive.g  = (impl_KeyRank.g (⟨#[97, 97]⟩ : ByteArray)).bind fun t109 => (if t109 = 1 then ((impl_KeyRank.g (⟨#[]⟩ : ByteArray)).bind fun t110 => (some (t110 == (-1)))) else (some false)) := by
  refine Lim.eq ?_
  unfold laws_alive.f
  repeat' first | (with_reducible exact Lim.const _) | (with_reducible refine Lim.ite ?_ ?_) | exact impl_KeyRank.g.lim _ | (with_reducible refine Lim.bind ?_ (fun _ => ?_))
noncomputable def spec_l20Rd_pick.j0g (x1 : Int) (x24 : Bool) (x1000 : List Int) (x1001 : Int) : Option (Int × Int) := lim fun k => spec_l20Rd_pick.j0 k x1 x24 x1000 x1001
noncomputable def spec_l20Rd_pick.g (s0_0 : List Int) (s0_1 : Int) (a1 : Int) : Option (Int × Int) := lim fun k => spec_l20Rd_pick.f k s0_0 s0_1 a1
theorem spec_l20Rd_pick.j0g.lim (x1 : Int) (x24 : Bool) (x1000 : List Int) (x1001 : Int) : Lim (fun k => spec_l20Rd_pick.j0 k x1 x24 x1000 x1001) (spec_l20Rd_pick.j0g x1 x24 x1000 x1001) := Lim.of (fun k => (spec_l20Rd_pick.mono_l k) x1 x24 x1000 x1001)
theorem spec_l20Rd_pick.g.lim (s0_0 : List Int) (s0_1 : Int) (a1 : Int) : Lim (fun k => spec_l20Rd_pick.f k s0_0 s0_1 a1) (spec_l20Rd_pick.g s0_0 s0_1 a1) := Lim.of (fun k => spec_l20Rd_pick.mono s0_0 s0_1 a1 k)
theorem spec_l20Rd_pick.j0g.eq (x1 : Int) (x24 : Bool) (x1000 : List Int) (x1001 : Int) : spec_l20Rd_pick.j0g x1 x24 x1000 x1001 = if x24 = true then (some (0, x1001)) else (if (wrap64 (x1001 - 1)) < (x1000.length : Int) then (if 0 ≤ (wrap64 (x1001 - 1)) then (if x1 = 0 then (none) else (some (Int.tmod (wrap64 (rd x1000 (wrap64 (x1001 - 1)))) x1, x1001))) else (none)) else (if (x1000.length : Int) = 0 then (none) else (if 0 ≤ (Int.tmod (wrap64 (x1001 - 1)) (x1000.length : Int)) then (if (Int.tmod (wrap64 (x1001 - 1)) (x1000.length : Int)) < (x1000.length : Int) then (if 0 ≤ (Int.tmod (wrap64 ((wrap64 ((wrap64 (x1001 - 1)) * 7)) + 3)) (x1000.length : Int)) then (if (Int.tmod (wrap64 ((wrap64 ((wrap64 (x1001 - 1)) * 7)) + 3)) (x1000.length : Int)) < (x1000.length : Int) then (if x1 = 0 then (none) else (some (Int.tmod (Go.bits .xor .i64 (wrap64 ((wrap64 ((wrap64 ((wrap64 ((wrap64 (rd x1000 (Int.tmod (wrap64 (x1001 - 1)) (x1000.length : Int)))) * 131)) + (wrap64 ((wrap64 (rd x1000 (Int.tmod (wrap64 ((wrap64 ((wrap64 (x1001 - 1)) * 7)) + 3)) (x1000.length : Int)))) * 1117)))) + (wrap64 ((wrap64 (x1001 - 1)) * 29)))) + (wrap64 ((wrap64 (Int.tdiv (wrap64 (x1001 - 1)) (x1000.length : Int))) * 53)))) (wrap64 (Int.tdiv (wrap64 ((wrap64 ((wrap64 ((wrap64 ((wrap64 (rd x1000 (Int.tmod (wrap64 (x1001 - 1)) (x1000.length : Int)))) * 131)) + (wrap64 ((wrap64 (rd x1000 (Int.tmod (wrap64 ((wrap64 ((wrap64 (x1001 - 1)) * 7)) + 3)) (x1000.length : Int)))) * 1117)))) + (wrap64 ((wrap64 (x1001 - 1)) * 29)))) + (wrap64 ((wrap64 (Int.tdiv (wrap64 (x1001 - 1)) (x1000.length : Int))) * 53)))) 64))) x1, x1001))) else (none)) else (none)) else (none)) else (none)))) := by
  refine Lim.step (fun _ => rfl) (spec_l20Rd_pick.j0g.lim x1 x24 x1000 x1001).mono ?_
  simp only [spec_l20Rd_pick.j0]
  repeat' first | (with_reducible exact Lim.const _) | (with_reducible refine Lim.ite ?_ ?_) | (with_reducible refine Lim.bind ?_ (fun _ => ?_))
theorem spec_l20Rd_pick.g.eq (s0_0 : List Int) (s0_1 : Int) (a1 : Int) : spec_l20Rd_pick.g s0_0 s0_1 a1 = if a1 < 1 then (spec_l20Rd_pick.j0g a1 true s0_0 (wrap64 (s0_1 + 1))) else (spec_l20Rd_pick.j0g a1 ((s0_0.length : Int) == 0) s0_0 (wrap64 (s0_1 + 1))) := by
  refine Lim.eq ?_
  unfold spec_l20Rd_pick.f
  repeat' first | (with_reducible exact Lim.const _) | (with_reducible refine Lim.ite ?_ ?_) | exact spec_l20Rd_pick.j0g.lim _ _ _ _ | (with_reducible refine Lim.bind ?_ (fun _ => ?_))
noncomputable def spec_l20Loads.l0g (x3 : List Int) (x4 : Int) (x1000 : List Int) (x1001 : Int) : Option (List Int × Int) := lim fun k => spec_l20Loads.l0 k x3 x4 x1000 x1001
noncomputable def spec_l20Loads.g (s0_0 : List Int) (s0_1 : Int) : Option (List Int × Int) := lim fun k => spec_l20Loads.f k s0_0 s0_1
theorem spec_l20Loads.l0g.lim (x3 : List Int) (x4 : Int) (x1000 : List Int) (x1001 : Int) : Lim (fun k => spec_l20Loads.l0 k x3 x4 x1000 x1001) (spec_l20Loads.l0g x3 x4 x1000 x1001) := Lim.of (fun k => (spec_l20Loads.mono_l k) x3 x4 x1000 x1001)
theorem spec_l20Loads.g.lim (s0_0 : List Int) (s0_1 : Int) : Lim (fun k => spec_l20Loads.f k s0_0 s0_1) (spec_l20Loads.g s0_0 s0_1) := Lim.of (fun k => spec_l20Loads.mono s0_0 s0_1 k)
theorem spec_l20Loads.l0g.eq (x3 : List Int) (x4 : Int) (x1000 : List Int) (x1001 : Int) : spec_l20Loads.l0g x3 x4 x1000 x1001 = if x4 < 5 then ((spec_l20Rd_pick.g x1000 x1001 5).bind fun bt120 => (if x3.length < 17592186044416 then (spec_l20Loads.l0g (x3 ++ [bt120.1]) (wrap64 (x4 + 1)) x1000 bt120.2) else (none))) else (some (x3, x1001)) := by
  refine Lim.step (fun _ => rfl) (spec_l20Loads.l0g.lim x3 x4 x1000 x1001).mono ?_
  simp only [spec_l20Loads.l0]
  repeat' first | (with_reducible exact Lim.const _) | (with_reducible refine Lim.ite ?_ ?_) | exact spec_l20Loads.l0g.lim _ _ _ _ | exact spec_l20Rd_pick.g.lim _ _ _ | (with_reducible refine Lim.bind ?_ (fun _ => ?_))
theorem spec_l20Loads.g.eq (s0_0 : List Int) (s0_1 : Int) : spec_l20Loads.g s0_0 s0_1 = spec_l20Loads.l0g (([] : List Int)) 0 s0_0 s0_1 := by
  refine Lim.eq ?_
  unfold spec_l20Loads.f
  repeat' first | (with_reducible exact Lim.const _) | (with_reducible refine Lim.ite ?_ ?_) | exact spec_l20Loads.l0g.lim _ _ _ _ | (with_reducible refine Lim.bind ?_ (fun _ => ?_))
noncomputable def spec_l20Ups.l0g (x3 : List Bool) (x4 : Int) (x1000 : List Int) (x1001 : Int) : Option (List Bool × Int) := lim fun k => spec_l20Ups.l0 k x3 x4 x1000 x1001
noncomputable def spec_l20Ups.g (s0_0 : List Int) (s0_1 : Int) : Option (List Bool × Int) := lim fun k => spec_l20Ups.f k s0_0 s0_1
theorem spec_l20Ups.l0g.lim (x3 : List Bool) (x4 : Int) (x1000 : List Int) (x1001 : Int) : Lim (fun k => spec_l20Ups.l0 k x3 x4 x1000 x1001) (spec_l20Ups.l0g x3 x4 x1000 x1001) := Lim.of (fun k => (spec_l20Ups.mono_l k) x3 x4 x1000 x1001)
theorem spec_l20Ups.g.lim (s0_0 : List Int) (s0_1 : Int) : Lim (fun k => spec_l20Ups.f k s0_0 s0_1) (spec_l20Ups.g s0_0 s0_1) := Lim.of (fun k => spec_l20Ups.mono s0_0 s0_1 k)
theorem spec_l20Ups.l0g.eq (x3 : List Bool) (x4 : Int) (x1000 : List Int) (x1001 : Int) : spec_l20Ups.l0g x3 x4 x1000 x1001 = if x4 < 5 then ((spec_l20Rd_pick.g x1000 x1001 4).bind fun bt128 => (if x3.length < 140737488355328 then (spec_l20Ups.l0g (x3 ++ [decide (bt128.1 > 0)]) (wrap64 (x4 + 1)) x1000 bt128.2) else (none))) else (some (x3, x1001)) := by
  refine Lim.step (fun _ => rfl) (spec_l20Ups.l0g.lim x3 x4 x1000 x1001).mono ?_
  simp only [spec_l20Ups.l0]
  repeat' first | (with_reducible exact Lim.const _) | (with_reducible refine Lim.ite ?_ ?_) | exact spec_l20Rd_pick.g.lim _ _ _ | exact spec_l20Ups.l0g.lim _ _ _ _ | (with_reducible refine Lim.bind ?_ (fun _ => ?_))
theorem spec_l20Ups.g.eq (s0_0 : List Int) (s0_1 : Int) : spec_l20Ups.g s0_0 s0_1 = spec_l20Ups.l0g (([] : List Bool)) 0 s0_0 s0_1 := by
  refine Lim.eq ?_
  unfold spec_l20Ups.f
  repeat' first | (with_reducible exact Lim.const _) | (with_reducible refine Lim.ite ?_ ?_) | exact spec_l20Ups.l0g.lim _ _ _ _ | (with_reducible refine Lim.bind ?_ (fun _ => ?_))
noncomputable def spec_DrawPlaceMembers.g (l0 : List Int) : Option (List Int × List Bool × Int) := lim fun k => spec_DrawPlaceMembers.f k l0
theorem spec_DrawPlaceMembers.g.lim (l0 : List Int) : Lim (fun k => spec_DrawPlaceMembers.f k l0) (spec_DrawPlaceMembers.g l0) := Lim.of (fun k => spec_DrawPlaceMembers.mono l0 k)
theorem spec_DrawPlaceMembers.g.eq (l0 : List Int) : spec_DrawPlaceMembers.g l0 = (spec_l20Open.f l0).bind fun bt133 => ((spec_l20Loads.g bt133.1 bt133.2).bind fun bt136 => ((spec_l20Ups.g bt133.1 bt136.2).bind fun bt140 => ((spec_l20Rd_pick.g bt133.1 bt140.2 12).bind fun bt144 => (if bt144.1 = 0 then (if 1 ≤ (bt136.1.length : Int) then ((spec_l20Rd_pick.g bt133.1 bt144.2 6).bind fun bt149 => (some ((bt136.1.drop (1 : Int).toNat), bt140.1, bt149.1))) else (none)) else (if bt144.1 = 1 then (if 1 ≤ (bt140.1.length : Int) then ((spec_l20Rd_pick.g bt133.1 bt144.2 6).bind fun bt154 => (some (bt136.1, (bt140.1.drop (1 : Int).toNat), bt154.1))) else (none)) else ((spec_l20Rd_pick.g bt133.1 bt144.2 6).bind fun bt156 => (some (bt136.1, bt140.1, bt156.1)))))))) := by
  refine Lim.eq ?_
  unfold spec_DrawPlaceMembers.f
  repeat' first | (with_reducible exact Lim.const _) | (with_reducible refine Lim.ite ?_ ?_) | exact spec_l20Loads.g.lim _ _ | exact spec_l20Rd_pick.g.lim _ _ _ | exact spec_l20Ups.g.lim _ _ | (with_reducible refine Lim.bind ?_ (fun _ => ?_))
noncomputable def slices_Index_int_int.l0g (x0 : List Int) (x1 : Int) (x7 : Int) (x8 : Int) : Option (Int) := lim fun k => slices_Index_int_int.l0 k x0 x1 x7 x8
noncomputable def slices_Index_int_int.g (l0 : List Int) (a1 : Int) : Option (Int) := lim fun k => slices_Index_int_int.f k l0 a1
theorem slices_Index_int_int.l0g.lim (x0 : List Int) (x1 : Int) (x7 : Int) (x8 : Int) : Lim (fun k => slices_Index_int_int.l0 k x0 x1 x7 x8) (slices_Index_int_int.l0g x0 x1 x7 x8) := Lim.of (fun k => (slices_Index_int_int.mono_l k) x0 x1 x7 x8)
theorem slices_Index_int_int.g.lim (l0 : List Int) (a1 : Int) : Lim (fun k => slices_Index_int_int.f k l0 a1) (slices_Index_int_int.g l0 a1) := Lim.of (fun k => slices_Index_int_int.mono l0 a1 k)
theorem slices_Index_int_int.l0g.eq (x0 : List Int) (x1 : Int) (x7 : Int) (x8 : Int) : slices_Index_int_int.l0g x0 x1 x7 x8 = if x8 < x7 then (if 0 ≤ x8 then (if x8 < (x0.length : Int) then (if x1 = (rd x0 x8) then (some x8) else (slices_Index_int_int.l0g x0 x1 x7 (wrap64 (x8 + 1)))) else (none)) else (none)) else (some (-1)) := by
  refine Lim.step (fun _ => rfl) (slices_Index_int_int.l0g.lim x0 x1 x7 x8).mono ?_
  simp only [slices_Index_int_int.l0]
  repeat' first | (with_reducible exact Lim.const _) | (with_reducible refine Lim.ite ?_ ?_) | exact slices_Index_int_int.l0g.lim _ _ _ _ | (with_reducible refine Lim.bind ?_ (fun _ => ?_))
theorem slices_Index_int_int.g.eq (l0 : List Int) (a1 : Int) : slices_Index_int_int.g l0 a1 = slices_Index_int_int.l0g l0 a1 (l0.length : Int) 0 := by
  refine Lim.eq ?_
  unfold slices_Index_int_int.f
  repeat' first | (with_reducible exact Lim.const _) | (with_reducible refine Lim.ite ?_ ?_) | exact slices_Index_int_int.l0g.lim _ _ _ _ | (with_reducible refine Lim.bind ?_ (fun _ => ?_))
noncomputable def slices_Contains_int_int.g (l0 : List Int) (a1 : Int) : Option (Bool) := lim fun k => slices_Contains_int_int.f k l0 a1
theorem slices_Contains_int_int.g.lim (l0 : List Int) (a1 : Int) : Lim (fun k => slices_Contains_int_int.f k l0 a1) (slices_Contains_int_int.g l0 a1) := Lim.of (fun k => slices_Contains_int_int.mono l0 a1 k)
theorem slices_Contains_int_int.g.eq (l0 : List Int) (a1 : Int) : slices_Contains_int_int.g l0 a1 = (slices_Index_int_int.g l0 a1).bind fun t159 => (some (decide (t159 ≥ 0))) := by
  refine Lim.eq ?_
  unfold slices_Contains_int_int.f
  repeat' first | (with_reducible exact Lim.const _) | (with_reducible refine Lim.ite ?_ ?_) | exact slices_Index_int_int.g.lim _ _ | (with_reducible refine Lim.bind ?_ (fun _ => ?_))
noncomputable def impl_leastLoad.l0g (x0 : List Int) (x1 : List Bool) (x2 : List Int) (x7 : Int) (x9 : Int) : Option (Int) := lim fun k => impl_leastLoad.l0 k x0 x1 x2 x7 x9
noncomputable def impl_leastLoad.j1g (x0 : List Int) (x1 : List Bool) (x2 : List Int) (x7 : Int) (x8 : Int) (x9 : Int) (x21 : Bool) : Option (Int) := lim fun k => impl_leastLoad.j1 k x0 x1 x2 x7 x8 x9 x21
noncomputable def impl_leastLoad.g (l0 : List Int) (l1 : List Bool) (l2 : List Int) : Option (Int) := lim fun k => impl_leastLoad.f k l0 l1 l2
theorem impl_leastLoad.l0g.lim (x0 : List Int) (x1 : List Bool) (x2 : List Int) (x7 : Int) (x9 : Int) : Lim (fun k => impl_leastLoad.l0 k x0 x1 x2 x7 x9) (impl_leastLoad.l0g x0 x1 x2 x7 x9) := Lim.of (fun k => (impl_leastLoad.mono_l k).1 x0 x1 x2 x7 x9)
theorem impl_leastLoad.j1g.lim (x0 : List Int) (x1 : List Bool) (x2 : List Int) (x7 : Int) (x8 : Int) (x9 : Int) (x21 : Bool) : Lim (fun k => impl_leastLoad.j1 k x0 x1 x2 x7 x8 x9 x21) (impl_leastLoad.j1g x0 x1 x2 x7 x8 x9 x21) := Lim.of (fun k => (impl_leastLoad.mono_l k).2 x0 x1 x2 x7 x8 x9 x21)
theorem impl_leastLoad.g.lim (l0 : List Int) (l1 : List Bool) (l2 : List Int) : Lim (fun k => impl_leastLoad.f k l0 l1 l2) (impl_leastLoad.g l0 l1 l2) := Lim.of (fun k => impl_leastLoad.mono l0 l1 l2 k)
theorem impl_leastLoad.l0g.eq (x0 : List Int) (x1 : List Bool) (x2 : List Int) (x7 : Int) (x9 : Int) : impl_leastLoad.l0g x0 x1 x2 x7 x9 = if x9 < 5 then (if 0 ≤ x9 then (if x9 < (x1.length : Int) then (if rdOf false x1 x9 = true then ((slices_Contains_int_int.g x2 x9).bind fun t161 => (impl_leastLoad.j1g x0 x1 x2 x7 x9 x9 t161)) else (impl_leastLoad.j1g x0 x1 x2 x7 x9 x9 true)) else (none)) else (none)) else (some x7) := by
  refine Lim.step (fun _ => rfl) (impl_leastLoad.l0g.lim x0 x1 x2 x7 x9).mono ?_
  simp only [impl_leastLoad.l0]
  repeat' first | (with_reducible exact Lim.const _) | (with_reducible refine Lim.ite ?_ ?_) | exact impl_leastLoad.j1g.lim _ _ _ _ _ _ _ | exact slices_Contains_int_int.g.lim _ _ | (with_reducible refine Lim.bind ?_ (fun _ => ?_))
theorem impl_leastLoad.j1g.eq (x0 : List Int) (x1 : List Bool) (x2 : List Int) (x7 : Int) (x8 : Int) (x9 : Int) (x21 : Bool) : impl_leastLoad.j1g x0 x1 x2 x7 x8 x9 x21 = if x21 = true then (impl_leastLoad.l0g x0 x1 x2 x7 (wrap64 (x9 + 1))) else (if x7 < 0 then (impl_leastLoad.l0g x0 x1 x2 x8 (wrap64 (x9 + 1))) else (if 0 ≤ x8 then (if x8 < (x0.length : Int) then (if 0 ≤ x7 then (if x7 < (x0.length : Int) then (if (rd x0 x8) < (rd x0 x7) then (impl_leastLoad.l0g x0 x1 x2 x8 (wrap64 (x9 + 1))) else (impl_leastLoad.l0g x0 x1 x2 x7 (wrap64 (x9 + 1)))) else (none)) else (none)) else (none)) else (none))) := by
  refine Lim.step (fun _ => rfl) (impl_leastLoad.j1g.lim x0 x1 x2 x7 x8 x9 x21).mono ?_
  simp only [impl_leastLoad.j1]
  repeat' first | (with_reducible exact Lim.const _) | (with_reducible refine Lim.ite ?_ ?_) | exact impl_leastLoad.l0g.lim _ _ _ _ _ | (with_reducible refine Lim.bind ?_ (fun _ => ?_))
theorem impl_leastLoad.g.eq (l0 : List Int) (l1 : List Bool) (l2 : List Int) : impl_leastLoad.g l0 l1 l2 = impl_leastLoad.l0g l0 l1 l2 (-1) 0 := by
  refine Lim.eq ?_
  unfold impl_leastLoad.f
  repeat' first | (with_reducible exact Lim.const _) | (with_reducible refine Lim.ite ?_ ?_) | exact impl_leastLoad.l0g.lim _ _ _ _ _ | (with_reducible refine Lim.bind ?_ (fun _ => ?_))
noncomputable def impl_PlaceMembers.j0g (x0 : List Int) (x1 : List Bool) (x2 : Int) (x25 : Bool) : Option (List Int × Bool) := lim fun k => impl_PlaceMembers.j0 k x0 x1 x2 x25
noncomputable def impl_PlaceMembers.l0g (x0 : List Int) (x1 : List Bool) (x2 : Int) (x8 : List Int) : Option (List Int × Bool) := lim fun k => impl_PlaceMembers.l0 k x0 x1 x2 x8
noncomputable def impl_PlaceMembers.g (l0 : List Int) (l1 : List Bool) (a2 : Int) : Option (List Int × Bool) := lim fun k => impl_PlaceMembers.f k l0 l1 a2
theorem impl_PlaceMembers.j0g.lim (x0 : List Int) (x1 : List Bool) (x2 : Int) (x25 : Bool) : Lim (fun k => impl_PlaceMembers.j0 k x0 x1 x2 x25) (impl_PlaceMembers.j0g x0 x1 x2 x25) := Lim.of (fun k => (impl_PlaceMembers.mono_l k).1 x0 x1 x2 x25)
theorem impl_PlaceMembers.l0g.lim (x0 : List Int) (x1 : List Bool) (x2 : Int) (x8 : List Int) : Lim (fun k => impl_PlaceMembers.l0 k x0 x1 x2 x8) (impl_PlaceMembers.l0g x0 x1 x2 x8) := Lim.of (fun k => (impl_PlaceMembers.mono_l k).2 x0 x1 x2 x8)
theorem impl_PlaceMembers.g.lim (l0 : List Int) (l1 : List Bool) (a2 : Int) : Lim (fun k => impl_PlaceMembers.f k l0 l1 a2) (impl_PlaceMembers.g l0 l1 a2) := Lim.of (fun k => impl_PlaceMembers.mono l0 l1 a2 k)
theorem impl_PlaceMembers.j0g.eq (x0 : List Int) (x1 : List Bool) (x2 : Int) (x25 : Bool) : impl_PlaceMembers.j0g x0 x1 x2 x25 = if x25 = true then (some (([] : List Int), false)) else (impl_PlaceMembers.l0g x0 x1 x2 ([] : List Int)) := by
  refine Lim.step (fun _ => rfl) (impl_PlaceMembers.j0g.lim x0 x1 x2 x25).mono ?_
  simp only [impl_PlaceMembers.j0]
  repeat' first | (with_reducible exact Lim.const _) | (with_reducible refine Lim.ite ?_ ?_) | exact impl_PlaceMembers.l0g.lim _ _ _ _ | (with_reducible refine Lim.bind ?_ (fun _ => ?_))
theorem impl_PlaceMembers.l0g.eq (x0 : List Int) (x1 : List Bool) (x2 : Int) (x8 : List Int) : impl_PlaceMembers.l0g x0 x1 x2 x8 = if (x8.length : Int) < x2 then ((impl_leastLoad.g x0 x1 x8).bind fun t164 => (if t164 < 0 then (some (([] : List Int), false)) else (if x8.length < 17592186044416 then (impl_PlaceMembers.l0g x0 x1 x2 (x8 ++ [t164])) else (none)))) else (some (x8, true)) := by
  refine Lim.step (fun _ => rfl) (impl_PlaceMembers.l0g.lim x0 x1 x2 x8).mono ?_
  simp only [impl_PlaceMembers.l0]
  repeat' first | (with_reducible exact Lim.const _) | (with_reducible refine Lim.ite ?_ ?_) | exact impl_PlaceMembers.l0g.lim _ _ _ _ | exact impl_leastLoad.g.lim _ _ _ | (with_reducible refine Lim.bind ?_ (fun _ => ?_))
theorem impl_PlaceMembers.g.eq (l0 : List Int) (l1 : List Bool) (a2 : Int) : impl_PlaceMembers.g l0 l1 a2 = if (l0.length : Int) = 5 then (if (l1.length : Int) = 5 then (if a2 < 1 then (impl_PlaceMembers.j0g l0 l1 a2 true) else (impl_PlaceMembers.j0g l0 l1 a2 (decide (a2 > 4)))) else (impl_PlaceMembers.j0g l0 l1 a2 true)) else (impl_PlaceMembers.j0g l0 l1 a2 true) := by
  refine Lim.eq ?_
  unfold impl_PlaceMembers.f
  repeat' first | (with_reducible exact Lim.const _) | (with_reducible refine Lim.ite ?_ ?_) | exact impl_PlaceMembers.j0g.lim _ _ _ _ | (with_reducible refine Lim.bind ?_ (fun _ => ?_))
noncomputable def spec_PlaceMembers.j0g (x0 : List Int) (x1 : List Bool) (x2 : Int) (x8 : List Int) (x25 : Bool) : Option (List Int × Bool) := lim fun k => spec_PlaceMembers.j0 k x0 x1 x2 x8 x25
noncomputable def spec_PlaceMembers.l0g (x0 : List Int) (x2 : Int) (x8 : List Int) (x9 : List Bool) : Option (List Int × Bool) := lim fun k => spec_PlaceMembers.l0 k x0 x2 x8 x9
noncomputable def spec_PlaceMembers.l1g (x0 : List Int) (x2 : Int) (x8 : List Int) (x9 : List Bool) (x10 : Int) (x11 : Int) : Option (List Int × Bool) := lim fun k => spec_PlaceMembers.l1 k x0 x2 x8 x9 x10 x11
noncomputable def spec_PlaceMembers.g (l0 : List Int) (l1 : List Bool) (a2 : Int) : Option (List Int × Bool) := lim fun k => spec_PlaceMembers.f k l0 l1 a2
theorem spec_PlaceMembers.j0g.lim (x0 : List Int) (x1 : List Bool) (x2 : Int) (x8 : List Int) (x25 : Bool) : Lim (fun k => spec_PlaceMembers.j0 k x0 x1 x2 x8 x25) (spec_PlaceMembers.j0g x0 x1 x2 x8 x25) := Lim.of (fun k => (spec_PlaceMembers.mono_l k).1 x0 x1 x2 x8 x25)
theorem spec_PlaceMembers.l0g.lim (x0 : List Int) (x2 : Int) (x8 : List Int) (x9 : List Bool) : Lim (fun k => spec_PlaceMembers.l0 k x0 x2 x8 x9) (spec_PlaceMembers.l0g x0 x2 x8 x9) := Lim.of (fun k => (spec_PlaceMembers.mono_l k).2.1 x0 x2 x8 x9)
theorem spec_PlaceMembers.l1g.lim (x0 : List Int) (x2 : Int) (x8 : List Int) (x9 : List Bool) (x10 : Int) (x11 : Int) : Lim (fun k => spec_PlaceMembers.l1 k x0 x2 x8 x9 x10 x11) (spec_PlaceMembers.l1g x0 x2 x8 x9 x10 x11) := Lim.of (fun k => (spec_PlaceMembers.mono_l k).2.2 x0 x2 x8 x9 x10 x11)
theorem spec_PlaceMembers.g.lim (l0 : List Int) (l1 : List Bool) (a2 : Int) : Lim (fun k => spec_PlaceMembers.f k l0 l1 a2) (spec_PlaceMembers.g l0 l1 a2) := Lim.of (fun k => spec_PlaceMembers.mono l0 l1 a2 k)
theorem spec_PlaceMembers.j0g.eq (x0 : List Int) (x1 : List Bool) (x2 : Int) (x8 : List Int) (x25 : Bool) : spec_PlaceMembers.j0g x0 x1 x2 x8 x25 = if x25 = true then (some (x8, false)) else ((some (([] : List Bool) : List Bool)).bind fun y172 => (if y172.length + x1.length < 140737488355328 then (spec_PlaceMembers.l0g x0 x2 x8 (y172 ++ x1)) else (none))) := by
  refine Lim.step (fun _ => rfl) (spec_PlaceMembers.j0g.lim x0 x1 x2 x8 x25).mono ?_
  simp only [spec_PlaceMembers.j0]
  repeat' first | (with_reducible exact Lim.const _) | (with_reducible refine Lim.ite ?_ ?_) | exact spec_PlaceMembers.l0g.lim _ _ _ _ | (with_reducible refine Lim.bind ?_ (fun _ => ?_))
theorem spec_PlaceMembers.l0g.eq (x0 : List Int) (x2 : Int) (x8 : List Int) (x9 : List Bool) : spec_PlaceMembers.l0g x0 x2 x8 x9 = if (x8.length : Int) < x2 then (spec_PlaceMembers.l1g x0 x2 x8 x9 (-1) 0) else (some (x8, true)) := by
  refine Lim.step (fun _ => rfl) (spec_PlaceMembers.l0g.lim x0 x2 x8 x9).mono ?_
  simp only [spec_PlaceMembers.l0]
  repeat' first | (with_reducible exact Lim.const _) | (with_reducible refine Lim.ite ?_ ?_) | exact spec_PlaceMembers.l1g.lim _ _ _ _ _ _ | (with_reducible refine Lim.bind ?_ (fun _ => ?_))
theorem spec_PlaceMembers.l1g.eq (x0 : List Int) (x2 : Int) (x8 : List Int) (x9 : List Bool) (x10 : Int) (x11 : Int) : spec_PlaceMembers.l1g x0 x2 x8 x9 x10 x11 = if x11 < 5 then (if 0 ≤ x11 then (if x11 < (x9.length : Int) then (if rdOf false x9 x11 = true then (if x10 < 0 then (spec_PlaceMembers.l1g x0 x2 x8 x9 x11 (wrap64 (x11 + 1))) else (if x11 < (x0.length : Int) then (if 0 ≤ x10 then (if x10 < (x0.length : Int) then (if (rd x0 x11) < (rd x0 x10) then (spec_PlaceMembers.l1g x0 x2 x8 x9 x11 (wrap64 (x11 + 1))) else (spec_PlaceMembers.l1g x0 x2 x8 x9 x10 (wrap64 (x11 + 1)))) else (none)) else (none)) else (none))) else (spec_PlaceMembers.l1g x0 x2 x8 x9 x10 (wrap64 (x11 + 1)))) else (none)) else (none)) else (if x10 < 0 then (some ((([] : List Int)), false)) else (if x8.length < 17592186044416 then (if 0 ≤ x10 then (if x10 < (x9.length : Int) then (spec_PlaceMembers.l0g x0 x2 (x8 ++ [x10]) (x9.set (x10 : Int).toNat false)) else (none)) else (none)) else (none))) := by
  refine Lim.step (fun _ => rfl) (spec_PlaceMembers.l1g.lim x0 x2 x8 x9 x10 x11).mono ?_
  simp only [spec_PlaceMembers.l1]
  repeat' first | (with_reducible exact Lim.const _) | (with_reducible refine Lim.ite ?_ ?_) | exact spec_PlaceMembers.l0g.lim _ _ _ _ | exact spec_PlaceMembers.l1g.lim _ _ _ _ _ _ | (with_reducible refine Lim.bind ?_ (fun _ => ?_))
theorem spec_PlaceMembers.g.eq (l0 : List Int) (l1 : List Bool) (a2 : Int) : spec_PlaceMembers.g l0 l1 a2 = (some (([] : List Int) : List Int)).bind fun y168 => (if (l0.length : Int) = 5 then (if (l1.length : Int) = 5 then ((spec_l1In.f a2 1 4).bind fun t171 => (spec_PlaceMembers.j0g l0 l1 a2 y168 (!t171))) else (spec_PlaceMembers.j0g l0 l1 a2 y168 true)) else (spec_PlaceMembers.j0g l0 l1 a2 y168 true)) := by
  refine Lim.eq ?_
  unfold spec_PlaceMembers.f
  repeat' first | (with_reducible exact Lim.const _) | (with_reducible refine Lim.ite ?_ ?_) | exact spec_PlaceMembers.j0g.lim _ _ _ _ _ | (with_reducible refine Lim.bind ?_ (fun _ => ?_))
noncomputable def laws_sameInts.l0g (x0 : List Int) (x1 : List Int) (x5 : Int) : Option (Bool) := lim fun k => laws_sameInts.l0 k x0 x1 x5
noncomputable def laws_sameInts.g (l0 : List Int) (l1 : List Int) : Option (Bool) := lim fun k => laws_sameInts.f k l0 l1
theorem laws_sameInts.l0g.lim (x0 : List Int) (x1 : List Int) (x5 : Int) : Lim (fun k => laws_sameInts.l0 k x0 x1 x5) (laws_sameInts.l0g x0 x1 x5) := Lim.of (fun k => (laws_sameInts.mono_l k) x0 x1 x5)
theorem laws_sameInts.g.lim (l0 : List Int) (l1 : List Int) : Lim (fun k => laws_sameInts.f k l0 l1) (laws_sameInts.g l0 l1) := Lim.of (fun k => laws_sameInts.mono l0 l1 k)
theorem laws_sameInts.l0g.eq (x0 : List Int) (x1 : List Int) (x5 : Int) : laws_sameInts.l0g x0 x1 x5 = if x5 < (x0.length : Int) then (if 0 ≤ x5 then (if x5 < (x1.length : Int) then (if (rd x0 x5) = (rd x1 x5) then (laws_sameInts.l0g x0 x1 (wrap64 (x5 + 1))) else (some false)) else (none)) else (none)) else (some true) := by
  refine Lim.step (fun _ => rfl) (laws_sameInts.l0g.lim x0 x1 x5).mono ?_
  simp only [laws_sameInts.l0]
  repeat' first | (with_reducible exact Lim.const _) | (with_reducible refine Lim.ite ?_ ?_) | exact laws_sameInts.l0g.lim _ _ _ | (with_reducible refine Lim.bind ?_ (fun _ => ?_))
theorem laws_sameInts.g.eq (l0 : List Int) (l1 : List Int) : laws_sameInts.g l0 l1 = if (l0.length : Int) = (l1.length : Int) then (laws_sameInts.l0g l0 l1 0) else (some false) := by
  refine Lim.eq ?_
  unfold laws_sameInts.f
  repeat' first | (with_reducible exact Lim.const _) | (with_reducible refine Lim.ite ?_ ?_) | exact laws_sameInts.l0g.lim _ _ _ | (with_reducible refine Lim.bind ?_ (fun _ => ?_))
noncomputable def impl_ConfigValid.j0g (x32 : Bool) (x191000 : Int) (x191001 : List Int) (x191002 : Bool) : Option (Bool) := lim fun k => impl_ConfigValid.j0 k x32 x191000 x191001 x191002
noncomputable def impl_ConfigValid.l0g (x34 : List Int) (x35 : Int) (x36 : Int) (x191000 : Int) (x191001 : List Int) (x191002 : Bool) : Option (Bool) := lim fun k => impl_ConfigValid.l0 k x34 x35 x36 x191000 x191001 x191002
noncomputable def impl_ConfigValid.g (a0_0 : Int) (l0_1 : List Int) (a0_2 : Bool) : Option (Bool) := lim fun k => impl_ConfigValid.f k a0_0 l0_1 a0_2
theorem impl_ConfigValid.j0g.lim (x32 : Bool) (x191000 : Int) (x191001 : List Int) (x191002 : Bool) : Lim (fun k => impl_ConfigValid.j0 k x32 x191000 x191001 x191002) (impl_ConfigValid.j0g x32 x191000 x191001 x191002) := Lim.of (fun k => (impl_ConfigValid.mono_l k).1 x32 x191000 x191001 x191002)
theorem impl_ConfigValid.l0g.lim (x34 : List Int) (x35 : Int) (x36 : Int) (x191000 : Int) (x191001 : List Int) (x191002 : Bool) : Lim (fun k => impl_ConfigValid.l0 k x34 x35 x36 x191000 x191001 x191002) (impl_ConfigValid.l0g x34 x35 x36 x191000 x191001 x191002) := Lim.of (fun k => (impl_ConfigValid.mono_l k).2 x34 x35 x36 x191000 x191001 x191002)
theorem impl_ConfigValid.g.lim (a0_0 : Int) (l0_1 : List Int) (a0_2 : Bool) : Lim (fun k => impl_ConfigValid.f k a0_0 l0_1 a0_2) (impl_ConfigValid.g a0_0 l0_1 a0_2) := Lim.of (fun k => impl_ConfigValid.mono a0_0 l0_1 a0_2 k)
theorem impl_ConfigValid.j0g.eq (x32 : Bool) (x191000 : Int) (x191001 : List Int) (x191002 : Bool) : impl_ConfigValid.j0g x32 x191000 x191001 x191002 = if x32 = true then (some false) else (impl_ConfigValid.l0g x191001 (x191001.length : Int) 0 x191000 x191001 x191002) := by
  refine Lim.step (fun _ => rfl) (impl_ConfigValid.j0g.lim x32 x191000 x191001 x191002).mono ?_
  simp only [impl_ConfigValid.j0]
  repeat' first | (with_reducible exact Lim.const _) | (with_reducible refine Lim.ite ?_ ?_) | exact impl_ConfigValid.l0g.lim _ _ _ _ _ _ | (with_reducible refine Lim.bind ?_ (fun _ => ?_))
theorem impl_ConfigValid.l0g.eq (x34 : List Int) (x35 : Int) (x36 : Int) (x191000 : Int) (x191001 : List Int) (x191002 : Bool) : impl_ConfigValid.l0g x34 x35 x36 x191000 x191001 x191002 = if x36 < x35 then (if 0 ≤ x36 then (if x36 < (x34.length : Int) then ((impl_nodeValid.f (rd x34 x36)).bind fun t192 => (if t192 = true then (if x36 ≤ (x191001.length : Int) then ((slices_Contains_int_int.g (x191001.take (x36 : Int).toNat) (rd x34 x36)).bind fun t194 => (if t194 = true then (some false) else (impl_ConfigValid.l0g x34 x35 (wrap64 (x36 + 1)) x191000 x191001 x191002))) else (none)) else (some false))) else (none)) else (none)) else (some true) := by
  refine Lim.step (fun _ => rfl) (impl_ConfigValid.l0g.lim x34 x35 x36 x191000 x191001 x191002).mono ?_
  simp only [impl_ConfigValid.l0]
  repeat' first | (with_reducible exact Lim.const _) | (with_reducible refine Lim.ite ?_ ?_) | exact impl_ConfigValid.l0g.lim _ _ _ _ _ _ | exact slices_Contains_int_int.g.lim _ _ | (with_reducible refine Lim.bind ?_ (fun _ => ?_))
theorem impl_ConfigValid.g.eq (a0_0 : Int) (l0_1 : List Int) (a0_2 : Bool) : impl_ConfigValid.g a0_0 l0_1 a0_2 = if a0_0 < 1 then (impl_ConfigValid.j0g true a0_0 l0_1 a0_2) else (if a0_0 > 60 then (impl_ConfigValid.j0g true a0_0 l0_1 a0_2) else (if (l0_1.length : Int) < 1 then (impl_ConfigValid.j0g true a0_0 l0_1 a0_2) else (if (l0_1.length : Int) > 4 then (impl_ConfigValid.j0g true a0_0 l0_1 a0_2) else (if a0_2 = true then (impl_ConfigValid.j0g (decide ((l0_1.length : Int) < 2)) a0_0 l0_1 a0_2) else (impl_ConfigValid.j0g false a0_0 l0_1 a0_2))))) := by
  refine Lim.eq ?_
  unfold impl_ConfigValid.f
  repeat' first | (with_reducible exact Lim.const _) | (with_reducible refine Lim.ite ?_ ?_) | exact impl_ConfigValid.j0g.lim _ _ _ _ | (with_reducible refine Lim.bind ?_ (fun _ => ?_))
noncomputable def laws_FnPlaceMembers.j0g (x3 : List Int) (x4 : List Bool) (x5 : Int) (x6 : List Int) (x7 : Bool) (x43 : Bool) : Option (Bool) := lim fun k => laws_FnPlaceMembers.j0 k x3 x4 x5 x6 x7 x43
noncomputable def laws_FnPlaceMembers.j1g (x3 : List Int) (x4 : List Bool) (x5 : Int) (x6 : List Int) (x61 : Bool) : Option (Bool) := lim fun k => laws_FnPlaceMembers.j1 k x3 x4 x5 x6 x61
noncomputable def laws_FnPlaceMembers.l0g (x3 : List Int) (x4 : List Bool) (x5 : Int) (x6 : List Int) (x10 : Int) : Option (Bool) := lim fun k => laws_FnPlaceMembers.l0 k x3 x4 x5 x6 x10
noncomputable def laws_FnPlaceMembers.l1g (x3 : List Int) (x4 : List Bool) (x5 : Int) (x6 : List Int) (x11 : Int) : Option (Bool) := lim fun k => laws_FnPlaceMembers.l1 k x3 x4 x5 x6 x11
noncomputable def laws_FnPlaceMembers.g (l0 : List Int) : Option (Bool) := lim fun k => laws_FnPlaceMembers.f k l0
theorem laws_FnPlaceMembers.j0g.lim (x3 : List Int) (x4 : List Bool) (x5 : Int) (x6 : List Int) (x7 : Bool) (x43 : Bool) : Lim (fun k => laws_FnPlaceMembers.j0 k x3 x4 x5 x6 x7 x43) (laws_FnPlaceMembers.j0g x3 x4 x5 x6 x7 x43) := Lim.of (fun k => (laws_FnPlaceMembers.mono_l k).1 x3 x4 x5 x6 x7 x43)
theorem laws_FnPlaceMembers.j1g.lim (x3 : List Int) (x4 : List Bool) (x5 : Int) (x6 : List Int) (x61 : Bool) : Lim (fun k => laws_FnPlaceMembers.j1 k x3 x4 x5 x6 x61) (laws_FnPlaceMembers.j1g x3 x4 x5 x6 x61) := Lim.of (fun k => (laws_FnPlaceMembers.mono_l k).2.1 x3 x4 x5 x6 x61)
theorem laws_FnPlaceMembers.l0g.lim (x3 : List Int) (x4 : List Bool) (x5 : Int) (x6 : List Int) (x10 : Int) : Lim (fun k => laws_FnPlaceMembers.l0 k x3 x4 x5 x6 x10) (laws_FnPlaceMembers.l0g x3 x4 x5 x6 x10) := Lim.of (fun k => (laws_FnPlaceMembers.mono_l k).2.2.1 x3 x4 x5 x6 x10)
theorem laws_FnPlaceMembers.l1g.lim (x3 : List Int) (x4 : List Bool) (x5 : Int) (x6 : List Int) (x11 : Int) : Lim (fun k => laws_FnPlaceMembers.l1 k x3 x4 x5 x6 x11) (laws_FnPlaceMembers.l1g x3 x4 x5 x6 x11) := Lim.of (fun k => (laws_FnPlaceMembers.mono_l k).2.2.2 x3 x4 x5 x6 x11)
theorem laws_FnPlaceMembers.g.lim (l0 : List Int) : Lim (fun k => laws_FnPlaceMembers.f k l0) (laws_FnPlaceMembers.g l0) := Lim.of (fun k => laws_FnPlaceMembers.mono l0 k)
theorem laws_FnPlaceMembers.j0g.eq (x3 : List Int) (x4 : List Bool) (x5 : Int) (x6 : List Int) (x7 : Bool) (x43 : Bool) : laws_FnPlaceMembers.j0g x3 x4 x5 x6 x7 x43 = if x43 = true then (some false) else (if x7 = true then (if (x6.length : Int) = x5 then ((impl_ConfigValid.g 1 x6 false).bind fun t212 => (laws_FnPlaceMembers.j1g x3 x4 x5 x6 (!t212))) else (laws_FnPlaceMembers.j1g x3 x4 x5 x6 true)) else (if (x6.length : Int) = 0 then ((laws_alive.g ).bind fun t211 => (some t211)) else (some false))) := by
  refine Lim.step (fun _ => rfl) (laws_FnPlaceMembers.j0g.lim x3 x4 x5 x6 x7 x43).mono ?_
  simp only [laws_FnPlaceMembers.j0]
  repeat' first | (with_reducible exact Lim.const _) | (with_reducible refine Lim.ite ?_ ?_) | exact impl_ConfigValid.g.lim _ _ _ | exact laws_FnPlaceMembers.j1g.lim _ _ _ _ _ | exact laws_alive.g.lim | (with_reducible refine Lim.bind ?_ (fun _ => ?_))
theorem laws_FnPlaceMembers.j1g.eq (x3 : List Int) (x4 : List Bool) (x5 : Int) (x6 : List Int) (x61 : Bool) : laws_FnPlaceMembers.j1g x3 x4 x5 x6 x61 = if x61 = true then (some false) else (laws_FnPlaceMembers.l0g x3 x4 x5 x6 0) := by
  refine Lim.step (fun _ => rfl) (laws_FnPlaceMembers.j1g.lim x3 x4 x5 x6 x61).mono ?_
  simp only [laws_FnPlaceMembers.j1]
  repeat' first | (with_reducible exact Lim.const _) | (with_reducible refine Lim.ite ?_ ?_) | exact laws_FnPlaceMembers.l0g.lim _ _ _ _ _ | (with_reducible refine Lim.bind ?_ (fun _ => ?_))
theorem laws_FnPlaceMembers.l0g.eq (x3 : List Int) (x4 : List Bool) (x5 : Int) (x6 : List Int) (x10 : Int) : laws_FnPlaceMembers.l0g x3 x4 x5 x6 x10 = if x10 < (x6.length : Int) then (if 0 ≤ x10 then (if 0 ≤ (rd x6 x10) then (if (rd x6 x10) < (x4.length : Int) then (if (rdOf false x4 (rd x6 x10) = true) then (if x10 > 0 then (if (rd x6 x10) < (x3.length : Int) then (if 0 ≤ (wrap64 (x10 - 1)) then (if (wrap64 (x10 - 1)) < (x6.length : Int) then (if 0 ≤ (rd x6 (wrap64 (x10 - 1))) then (if (rd x6 (wrap64 (x10 - 1))) < (x3.length : Int) then (if (rd x3 (rd x6 x10)) < (rd x3 (rd x6 (wrap64 (x10 - 1)))) then (some false) else (laws_FnPlaceMembers.l0g x3 x4 x5 x6 (wrap64 (x10 + 1)))) else (none)) else (none)) else (none)) else (none)) else (none)) else (laws_FnPlaceMembers.l0g x3 x4 x5 x6 (wrap64 (x10 + 1)))) else (some false)) else (none)) else (none)) else (none)) else (laws_FnPlaceMembers.l1g x3 x4 x5 x6 0) := by
  refine Lim.step (fun _ => rfl) (laws_FnPlaceMembers.l0g.lim x3 x4 x5 x6 x10).mono ?_
  simp only [laws_FnPlaceMembers.l0]
  repeat' first | (with_reducible exact Lim.const _) | (with_reducible refine Lim.ite ?_ ?_) | exact laws_FnPlaceMembers.l0g.lim _ _ _ _ _ | exact laws_FnPlaceMembers.l1g.lim _ _ _ _ _ | (with_reducible refine Lim.bind ?_ (fun _ => ?_))
theorem laws_FnPlaceMembers.l1g.eq (x3 : List Int) (x4 : List Bool) (x5 : Int) (x6 : List Int) (x11 : Int) : laws_FnPlaceMembers.l1g x3 x4 x5 x6 x11 = if x11 < (x4.length : Int) then (if 0 ≤ x11 then (if rdOf false x4 x11 = true then ((laws_hasInt.g x6 x11).bind fun t220 => (if t220 = true then (laws_FnPlaceMembers.l1g x3 x4 x5 x6 (wrap64 (x11 + 1))) else (if x11 < (x3.length : Int) then (if 0 ≤ (wrap64 (x5 - 1)) then (if (wrap64 (x5 - 1)) < (x6.length : Int) then (if 0 ≤ (rd x6 (wrap64 (x5 - 1))) then (if (rd x6 (wrap64 (x5 - 1))) < (x3.length : Int) then (if (rd x3 x11) < (rd x3 (rd x6 (wrap64 (x5 - 1)))) then (some false) else (laws_FnPlaceMembers.l1g x3 x4 x5 x6 (wrap64 (x11 + 1)))) else (none)) else (none)) else (none)) else (none)) else (none)))) else (laws_FnPlaceMembers.l1g x3 x4 x5 x6 (wrap64 (x11 + 1)))) else (none)) else (some true) := by
  refine Lim.step (fun _ => rfl) (laws_FnPlaceMembers.l1g.lim x3 x4 x5 x6 x11).mono ?_
  simp only [laws_FnPlaceMembers.l1]
  repeat' first | (with_reducible exact Lim.const _) | (with_reducible refine Lim.ite ?_ ?_) | exact laws_FnPlaceMembers.l1g.lim _ _ _ _ _ | exact laws_hasInt.g.lim _ _ | (with_reducible refine Lim.bind ?_ (fun _ => ?_))
theorem laws_FnPlaceMembers.g.eq (l0 : List Int) : laws_FnPlaceMembers.g l0 = if (l0.length : Int) > 1048576 then (some true) else ((spec_DrawPlaceMembers.g l0).bind fun bt195 => ((impl_PlaceMembers.g bt195.1 bt195.2.1 bt195.2.2).bind fun bt202 => ((spec_PlaceMembers.g bt195.1 bt195.2.1 bt195.2.2).bind fun bt206 => ((laws_sameInts.g bt202.1 bt206.1).bind fun t210 => (if t210 = true then (laws_FnPlaceMembers.j0g bt195.1 bt195.2.1 bt195.2.2 bt202.1 bt202.2 (bt202.2 != bt206.2)) else (laws_FnPlaceMembers.j0g bt195.1 bt195.2.1 bt195.2.2 bt202.1 bt202.2 true)))))) := by
  refine Lim.eq ?_
  unfold laws_FnPlaceMembers.f
  repeat' first | (with_reducible exact Lim.const _) | (with_reducible refine Lim.ite ?_ ?_) | exact impl_PlaceMembers.g.lim _ _ _ | exact laws_FnPlaceMembers.j0g.lim _ _ _ _ _ _ | exact laws_sameInts.g.lim _ _ | exact spec_DrawPlaceMembers.g.lim _ | exact spec_PlaceMembers.g.lim _ _ _ | (with_reducible refine Lim.bind ?_ (fun _ => ?_))
end Go.Proofs.Ytbieglaagpogkaa.FFnPlaceMembers
