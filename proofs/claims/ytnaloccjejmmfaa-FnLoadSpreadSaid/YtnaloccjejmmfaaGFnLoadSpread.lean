/- The limits of the printed functions of FnLoadSpread, and their equations, by a program of this session (wip/gen/gen.py). No conditions. -/
import Derived.Test.YtnaloccjejmmfaaLim
import Derived.Test.YtnaloccjejmmfaaFFnLoadSpreadx
namespace Go.Proofs.Ytnaloccjejmmfaa.FFnLoadSpread
open Go.RowKit Go.Proofs.YtnaloccjejmmfaaW.PrintWords Go.Proofs.YtnaloccjejmmfaaW.PrintLast Go.Proofs.YtnaloccjejmmfaaW.PrintMore Go.Proofs.YtnaloccjejmmfaaL
set_option linter.unusedVariables false
noncomputable def spec_LoadSpread.l0g (x0 : List Int) (x3 : Int) (x4 : Int) (x5 : Int) : Option (Int) := lim fun k => spec_LoadSpread.l0 k x0 x3 x4 x5
noncomputable def spec_LoadSpread.g (l0 : List Int) : Option (Int) := lim fun k => spec_LoadSpread.f k l0
theorem spec_LoadSpread.l0g.lim (x0 : List Int) (x3 : Int) (x4 : Int) (x5 : Int) : Lim (fun k => spec_LoadSpread.l0 k x0 x3 x4 x5) (spec_LoadSpread.l0g x0 x3 x4 x5) := Lim.of (fun k => (spec_LoadSpread.mono_l k) x0 x3 x4 x5)
theorem spec_LoadSpread.g.lim (l0 : List Int) : Lim (fun k => spec_LoadSpread.f k l0) (spec_LoadSpread.g l0) := Lim.of (fun k => spec_LoadSpread.mono l0 k)
theorem spec_LoadSpread.l0g.eq (x0 : List Int) (x3 : Int) (x4 : Int) (x5 : Int) : spec_LoadSpread.l0g x0 x3 x4 x5 = if x5 < (x0.length : Int) then (if 0 ≤ x5 then (if (rd x0 x5) < 0 then (some (-1)) else (spec_LoadSpread.l0g x0 (mn x3 (rd x0 x5)) (mx x4 (rd x0 x5)) (wrap64 (x5 + 1)))) else (none)) else (some (wrap64 (x4 - x3))) := by
  refine Lim.step (fun _ => rfl) (spec_LoadSpread.l0g.lim x0 x3 x4 x5).mono ?_
  simp only [spec_LoadSpread.l0]
  repeat' first | (with_reducible exact Lim.const _) | (with_reducible refine Lim.ite ?_ ?_) | exact spec_LoadSpread.l0g.lim _ _ _ _ | (with_reducible refine Lim.bind ?_ (fun _ => ?_))
theorem spec_LoadSpread.g.eq (l0 : List Int) : spec_LoadSpread.g l0 = if (l0.length : Int) = 0 then (some (-1)) else (if 0 < (l0.length : Int) then (spec_LoadSpread.l0g l0 (rd l0 0) (rd l0 0) 0) else (none)) := by
  refine Lim.eq ?_
  unfold spec_LoadSpread.f
  repeat' first | (with_reducible exact Lim.const _) | (with_reducible refine Lim.ite ?_ ?_) | exact spec_LoadSpread.l0g.lim _ _ _ _ | (with_reducible refine Lim.bind ?_ (fun _ => ?_))
noncomputable def slices_Min_int_int.l0g (x0 : List Int) (x3 : Int) (x4 : Int) : Option (Int) := lim fun k => slices_Min_int_int.l0 k x0 x3 x4
noncomputable def slices_Min_int_int.g (l0 : List Int) : Option (Int) := lim fun k => slices_Min_int_int.f k l0
theorem slices_Min_int_int.l0g.lim (x0 : List Int) (x3 : Int) (x4 : Int) : Lim (fun k => slices_Min_int_int.l0 k x0 x3 x4) (slices_Min_int_int.l0g x0 x3 x4) := Lim.of (fun k => (slices_Min_int_int.mono_l k) x0 x3 x4)
theorem slices_Min_int_int.g.lim (l0 : List Int) : Lim (fun k => slices_Min_int_int.f k l0) (slices_Min_int_int.g l0) := Lim.of (fun k => slices_Min_int_int.mono l0 k)
theorem slices_Min_int_int.l0g.eq (x0 : List Int) (x3 : Int) (x4 : Int) : slices_Min_int_int.l0g x0 x3 x4 = if x4 < (x0.length : Int) then (if 0 ≤ x4 then (slices_Min_int_int.l0g x0 (mn x3 (rd x0 x4)) (wrap64 (x4 + 1))) else (none)) else (some x3) := by
  refine Lim.step (fun _ => rfl) (slices_Min_int_int.l0g.lim x0 x3 x4).mono ?_
  simp only [slices_Min_int_int.l0]
  repeat' first | (with_reducible exact Lim.const _) | (with_reducible refine Lim.ite ?_ ?_) | exact slices_Min_int_int.l0g.lim _ _ _ | (with_reducible refine Lim.bind ?_ (fun _ => ?_))
theorem slices_Min_int_int.g.eq (l0 : List Int) : slices_Min_int_int.g l0 = if (l0.length : Int) < 1 then (none) else (if 0 < (l0.length : Int) then (slices_Min_int_int.l0g l0 (rd l0 0) 1) else (none)) := by
  refine Lim.eq ?_
  unfold slices_Min_int_int.f
  repeat' first | (with_reducible exact Lim.const _) | (with_reducible refine Lim.ite ?_ ?_) | exact slices_Min_int_int.l0g.lim _ _ _ | (with_reducible refine Lim.bind ?_ (fun _ => ?_))
noncomputable def slices_Max_int_int.l0g (x0 : List Int) (x3 : Int) (x4 : Int) : Option (Int) := lim fun k => slices_Max_int_int.l0 k x0 x3 x4
noncomputable def slices_Max_int_int.g (l0 : List Int) : Option (Int) := lim fun k => slices_Max_int_int.f k l0
theorem slices_Max_int_int.l0g.lim (x0 : List Int) (x3 : Int) (x4 : Int) : Lim (fun k => slices_Max_int_int.l0 k x0 x3 x4) (slices_Max_int_int.l0g x0 x3 x4) := Lim.of (fun k => (slices_Max_int_int.mono_l k) x0 x3 x4)
theorem slices_Max_int_int.g.lim (l0 : List Int) : Lim (fun k => slices_Max_int_int.f k l0) (slices_Max_int_int.g l0) := Lim.of (fun k => slices_Max_int_int.mono l0 k)
theorem slices_Max_int_int.l0g.eq (x0 : List Int) (x3 : Int) (x4 : Int) : slices_Max_int_int.l0g x0 x3 x4 = if x4 < (x0.length : Int) then (if 0 ≤ x4 then (slices_Max_int_int.l0g x0 (mx x3 (rd x0 x4)) (wrap64 (x4 + 1))) else (none)) else (some x3) := by
  refine Lim.step (fun _ => rfl) (slices_Max_int_int.l0g.lim x0 x3 x4).mono ?_
  simp only [slices_Max_int_int.l0]
  repeat' first | (with_reducible exact Lim.const _) | (with_reducible refine Lim.ite ?_ ?_) | exact slices_Max_int_int.l0g.lim _ _ _ | (with_reducible refine Lim.bind ?_ (fun _ => ?_))
theorem slices_Max_int_int.g.eq (l0 : List Int) : slices_Max_int_int.g l0 = if (l0.length : Int) < 1 then (none) else (if 0 < (l0.length : Int) then (slices_Max_int_int.l0g l0 (rd l0 0) 1) else (none)) := by
  refine Lim.eq ?_
  unfold slices_Max_int_int.f
  repeat' first | (with_reducible exact Lim.const _) | (with_reducible refine Lim.ite ?_ ?_) | exact slices_Max_int_int.l0g.lim _ _ _ | (with_reducible refine Lim.bind ?_ (fun _ => ?_))
noncomputable def impl_LoadSpread.j0g (x0 : List Int) (x10 : Bool) : Option (Int) := lim fun k => impl_LoadSpread.j0 k x0 x10
noncomputable def impl_LoadSpread.g (l0 : List Int) : Option (Int) := lim fun k => impl_LoadSpread.f k l0
theorem impl_LoadSpread.j0g.lim (x0 : List Int) (x10 : Bool) : Lim (fun k => impl_LoadSpread.j0 k x0 x10) (impl_LoadSpread.j0g x0 x10) := Lim.of (fun k => (impl_LoadSpread.mono_l k) x0 x10)
theorem impl_LoadSpread.g.lim (l0 : List Int) : Lim (fun k => impl_LoadSpread.f k l0) (impl_LoadSpread.g l0) := Lim.of (fun k => impl_LoadSpread.mono l0 k)
theorem impl_LoadSpread.j0g.eq (x0 : List Int) (x10 : Bool) : impl_LoadSpread.j0g x0 x10 = if x10 = true then (some (-1)) else ((slices_Max_int_int.g x0).bind fun t111 => ((slices_Min_int_int.g x0).bind fun t112 => (some (wrap64 (t111 - t112))))) := by
  refine Lim.step (fun _ => rfl) (impl_LoadSpread.j0g.lim x0 x10).mono ?_
  simp only [impl_LoadSpread.j0]
  repeat' first | (with_reducible exact Lim.const _) | (with_reducible refine Lim.ite ?_ ?_) | exact slices_Max_int_int.g.lim _ | exact slices_Min_int_int.g.lim _ | (with_reducible refine Lim.bind ?_ (fun _ => ?_))
theorem impl_LoadSpread.g.eq (l0 : List Int) : impl_LoadSpread.g l0 = if (l0.length : Int) = 0 then (impl_LoadSpread.j0g l0 true) else ((slices_Min_int_int.g l0).bind fun t110 => (impl_LoadSpread.j0g l0 (decide (t110 < 0)))) := by
  refine Lim.eq ?_
  unfold impl_LoadSpread.f
  repeat' first | (with_reducible exact Lim.const _) | (with_reducible refine Lim.ite ?_ ?_) | exact impl_LoadSpread.j0g.lim _ _ | exact slices_Min_int_int.g.lim _ | (with_reducible refine Lim.bind ?_ (fun _ => ?_))
noncomputable def impl_lettersOnly.g (a0 : ByteArray) : Option (Bool) := lim fun k => impl_lettersOnly.f k a0
theorem impl_lettersOnly.g.lim (a0 : ByteArray) : Lim (fun k => impl_lettersOnly.f k a0) (impl_lettersOnly.g a0) := Lim.of (fun k => impl_lettersOnly.mono a0 k)
theorem impl_lettersOnly.g.eq (a0 : ByteArray) : impl_lettersOnly.g a0 = if a0.toList = ([] : List UInt8) then (some true) else (if 0 < (a0.size : Int) then (if (bt a0 0) ≥ 97 then (if (bt a0 0) ≤ 122 then (if 1 ≤ (a0.size : Int) then ((impl_lettersOnly.g (a0.extract 1 a0.size)).bind fun t113 => (some t113)) else (none)) else (some false)) else (some false)) else (none)) := by
  refine Lim.step (fun _ => rfl) (impl_lettersOnly.g.lim a0).mono ?_
  simp only [impl_lettersOnly.f]
  repeat' first | (with_reducible exact Lim.const _) | (with_reducible refine Lim.ite ?_ ?_) | exact impl_lettersOnly.g.lim _ | (with_reducible refine Lim.bind ?_ (fun _ => ?_))
noncomputable def impl_KeyValid.g (a0 : ByteArray) : Option (Bool) := lim fun k => impl_KeyValid.f k a0
theorem impl_KeyValid.g.lim (a0 : ByteArray) : Lim (fun k => impl_KeyValid.f k a0) (impl_KeyValid.g a0) := Lim.of (fun k => impl_KeyValid.mono a0 k)
theorem impl_KeyValid.g.eq (a0 : ByteArray) : impl_KeyValid.g a0 = if (a0.size : Int) < 1 then (some false) else (if (a0.size : Int) > 4 then (some false) else ((impl_lettersOnly.g a0).bind fun t114 => (some t114))) := by
  refine Lim.eq ?_
  unfold impl_KeyValid.f
  repeat' first | (with_reducible exact Lim.const _) | (with_reducible refine Lim.ite ?_ ?_) | exact impl_lettersOnly.g.lim _ | (with_reducible refine Lim.bind ?_ (fun _ => ?_))
noncomputable def impl_keysFrom.g (a0 : Int) : Option (Int) := lim fun k => impl_keysFrom.f k a0
theorem impl_keysFrom.g.lim (a0 : Int) : Lim (fun k => impl_keysFrom.f k a0) (impl_keysFrom.g a0) := Lim.of (fun k => impl_keysFrom.mono a0 k)
theorem impl_keysFrom.g.eq (a0 : Int) : impl_keysFrom.g a0 = if a0 ≥ 4 then (some 1) else ((impl_keysFrom.g (wrap64 (a0 + 1))).bind fun t115 => (some (wrap64 (1 + (wrap64 (26 * t115)))))) := by
  refine Lim.step (fun _ => rfl) (impl_keysFrom.g.lim a0).mono ?_
  simp only [impl_keysFrom.f]
  repeat' first | (with_reducible exact Lim.const _) | (with_reducible refine Lim.ite ?_ ?_) | exact impl_keysFrom.g.lim _ | (with_reducible refine Lim.bind ?_ (fun _ => ?_))
noncomputable def impl_rankBelow.g (a0 : ByteArray) (a1 : Int) : Option (Int) := lim fun k => impl_rankBelow.f k a0 a1
theorem impl_rankBelow.g.lim (a0 : ByteArray) (a1 : Int) : Lim (fun k => impl_rankBelow.f k a0 a1) (impl_rankBelow.g a0 a1) := Lim.of (fun k => impl_rankBelow.mono a0 a1 k)
theorem impl_rankBelow.g.eq (a0 : ByteArray) (a1 : Int) : impl_rankBelow.g a0 a1 = if a0.toList = ([] : List UInt8) then (some 0) else (if 0 < (a0.size : Int) then ((impl_keysFrom.g a1).bind fun t116 => (if 1 ≤ (a0.size : Int) then ((impl_rankBelow.g (a0.extract 1 a0.size) (wrap64 (a1 + 1))).bind fun t117 => (some (wrap64 ((wrap64 (1 + (wrap64 ((((bt a0 0) - 97) % 256) * t116)))) + t117)))) else (none))) else (none)) := by
  refine Lim.step (fun _ => rfl) (impl_rankBelow.g.lim a0 a1).mono ?_
  simp only [impl_rankBelow.f]
  repeat' first | (with_reducible exact Lim.const _) | (with_reducible refine Lim.ite ?_ ?_) | exact impl_keysFrom.g.lim _ | exact impl_rankBelow.g.lim _ _ | (with_reducible refine Lim.bind ?_ (fun _ => ?_))
noncomputable def impl_KeyRank.g (a0 : ByteArray) : Option (Int) := lim fun k => impl_KeyRank.f k a0
theorem impl_KeyRank.g.lim (a0 : ByteArray) : Lim (fun k => impl_KeyRank.f k a0) (impl_KeyRank.g a0) := Lim.of (fun k => impl_KeyRank.mono a0 k)
theorem impl_KeyRank.g.eq (a0 : ByteArray) : impl_KeyRank.g a0 = (impl_KeyValid.g a0).bind fun t118 => (if t118 = true then ((impl_rankBelow.g a0 1).bind fun t119 => (some (wrap64 (t119 - 1)))) else (some (-1))) := by
  refine Lim.eq ?_
  unfold impl_KeyRank.f
  repeat' first | (with_reducible exact Lim.const _) | (with_reducible refine Lim.ite ?_ ?_) | exact impl_KeyValid.g.lim _ | exact impl_rankBelow.g.lim _ _ | (with_reducible refine Lim.bind ?_ (fun _ => ?_))
noncomputable def laws_alive.g : Option (Bool) := lim fun k => laws_alive.f k 
theorem laws_alive.g.lim : Lim (fun k => laws_alive.f k ) (laws_alive.g ) := Lim.of (fun k => laws_alive.mono  k)
theorem laws_alive.g.eq : laws_alive.g  = (impl_KeyRank.g (⟨#[97, 97]⟩ : ByteArray)).bind fun t120 => (if t120 = 1 then ((impl_KeyRank.g (⟨#[]⟩ : ByteArray)).bind fun t121 => (some (t121 == (-1)))) else (some false)) := by
  refine Lim.eq ?_
  unfold laws_alive.f
  repeat' first | (with_reducible exact Lim.const _) | (with_reducible refine Lim.ite ?_ ?_) | exact impl_KeyRank.g.lim _ | (with_reducible refine Lim.bind ?_ (fun _ => ?_))
noncomputable def spec_l20Rd_pick.j0g (x1 : Int) (x24 : Bool) (x1000 : List Int) (x1001 : Int) : Option (Int × Int) := lim fun k => spec_l20Rd_pick.j0 k x1 x24 x1000 x1001
noncomputable def spec_l20Rd_pick.g (s0_0 : List Int) (s0_1 : Int) (a1 : Int) : Option (Int × Int) := lim fun k => spec_l20Rd_pick.f k s0_0 s0_1 a1
theorem spec_l20Rd_pick.j0g.lim (x1 : Int) (x24 : Bool) (x1000 : List Int) (x1001 : Int) : Lim (fun k => spec_l20Rd_pick.j0 k x1 x24 x1000 x1001) (spec_l20Rd_pick.j0g x1 x24 x1000 x1001) := Lim.of (fun k => (spec_l20Rd_pick.mono_l k) x1 x24 x1000 x1001)
theorem spec_l20Rd_pick.g.lim (s0_0 : List Int) (s0_1 : Int) (a1 : Int) : Lim (fun k => spec_l20Rd_pick.f k s0_0 s0_1 a1) (spec_l20Rd_pick.g s0_0 s0_1 a1) := Lim.of (fun k => spec_l20Rd_pick.mono s0_0 s0_1 a1 k)
theorem spec_l20Rd_pick.j0g.eq (x1 : Int) (x24 : Bool) (x1000 : List Int) (x1001 : Int) : spec_l20Rd_pick.j0g x1 x24 x1000 x1001 = if x24 = true then (some (0, x1001)) else (if (wrap64 (x1001 - 1)) < (x1000.length : Int) then (if 0 ≤ (wrap64 (x1001 - 1)) then (if x1 = 0 then (none) else (some (Int.tmod (wrap64 (rd x1000 (wrap64 (x1001 - 1)))) x1, x1001))) else (none)) else (if (x1000.length : Int) = 0 then (none) else (if 0 ≤ (Int.tmod (wrap64 (x1001 - 1)) (x1000.length : Int)) then (if (Int.tmod (wrap64 (x1001 - 1)) (x1000.length : Int)) < (x1000.length : Int) then (if 0 ≤ (Int.tmod (wrap64 ((wrap64 ((wrap64 (x1001 - 1)) * 7)) + 3)) (x1000.length : Int)) then (if (Int.tmod (wrap64 ((wrap64 ((wrap64 (x1001 - 1)) * 7)) + 3)) (x1000.length : Int)) < (x1000.length : Int) then (if x1 = 0 then (none) else (some (Int.tmod (Go.bits .xor .i64 (wrap64 ((wrap64 ((wrap64 ((wrap64 ((wrap64 (rd x1000 (Int.tmod (wrap64 (x1001 - 1)) (x1000.length : Int)))) * 131)) + (wrap64 ((wrap64 (rd x1000 (Int.tmod (wrap64 ((wrap64 ((wrap64 (x1001 - 1)) * 7)) + 3)) (x1000.length : Int)))) * 1117)))) + (wrap64 ((wrap64 (x1001 - 1)) * 29)))) + (wrap64 ((wrap64 (Int.tdiv (wrap64 (x1001 - 1)) (x1000.length : Int))) * 53)))) (wrap64 (Int.tdiv (wrap64 ((wrap64 ((wrap64 ((wrap64 ((wrap64 (rd x1000 (Int.tmod (wrap64 (x1001 - 1)) (x1000.length : Int)))) * 131)) + (wrap64 ((wrap64 (rd x1000 (Int.tmod (wrap64 ((wrap64 ((wrap64 (x1001 - 1)) * 7)) + 3)) (x1000.length : Int)))) * 1117)))) + (wrap64 ((wrap64 (x1001 - 1)) * 29)))) + (wrap64 ((wrap64 (Int.tdiv (wrap64 (x1001 - 1)) (x1000.length : Int))) * 53)))) 64))) x1, x1001))) else (none)) else (none)) else (none)) else (none)))) := by
  refine Lim.step (fun _ => rfl) (spec_l20Rd_pick.j0g.lim x1 x24 x1000 x1001).mono ?_
  simp only [spec_l20Rd_pick.j0]
  repeat' first | (with_reducible exact Lim.const _) | (with_reducible refine Lim.ite ?_ ?_) | (with_reducible refine Lim.bind ?_ (fun _ => ?_))
theorem spec_l20Rd_pick.g.eq (s0_0 : List Int) (s0_1 : Int) (a1 : Int) : spec_l20Rd_pick.g s0_0 s0_1 a1 = if a1 < 1 then (spec_l20Rd_pick.j0g a1 true s0_0 (wrap64 (s0_1 + 1))) else (spec_l20Rd_pick.j0g a1 ((s0_0.length : Int) == 0) s0_0 (wrap64 (s0_1 + 1))) := by
  refine Lim.eq ?_
  unfold spec_l20Rd_pick.f
  repeat' first | (with_reducible exact Lim.const _) | (with_reducible refine Lim.ite ?_ ?_) | exact spec_l20Rd_pick.j0g.lim _ _ _ _ | (with_reducible refine Lim.bind ?_ (fun _ => ?_))
noncomputable def spec_l20Loads.l0g (x3 : List Int) (x4 : Int) (x1000 : List Int) (x1001 : Int) : Option (List Int × Int) := lim fun k => spec_l20Loads.l0 k x3 x4 x1000 x1001
noncomputable def spec_l20Loads.g (s0_0 : List Int) (s0_1 : Int) : Option (List Int × Int) := lim fun k => spec_l20Loads.f k s0_0 s0_1
theorem spec_l20Loads.l0g.lim (x3 : List Int) (x4 : Int) (x1000 : List Int) (x1001 : Int) : Lim (fun k => spec_l20Loads.l0 k x3 x4 x1000 x1001) (spec_l20Loads.l0g x3 x4 x1000 x1001) := Lim.of (fun k => (spec_l20Loads.mono_l k) x3 x4 x1000 x1001)
theorem spec_l20Loads.g.lim (s0_0 : List Int) (s0_1 : Int) : Lim (fun k => spec_l20Loads.f k s0_0 s0_1) (spec_l20Loads.g s0_0 s0_1) := Lim.of (fun k => spec_l20Loads.mono s0_0 s0_1 k)
theorem spec_l20Loads.l0g.eq (x3 : List Int) (x4 : Int) (x1000 : List Int) (x1001 : Int) : spec_l20Loads.l0g x3 x4 x1000 x1001 = if x4 < 5 then ((spec_l20Rd_pick.g x1000 x1001 5).bind fun bt131 => (if x3.length < 17592186044416 then (spec_l20Loads.l0g (x3 ++ [bt131.1]) (wrap64 (x4 + 1)) x1000 bt131.2) else (none))) else (some (x3, x1001)) := by
  refine Lim.step (fun _ => rfl) (spec_l20Loads.l0g.lim x3 x4 x1000 x1001).mono ?_
  simp only [spec_l20Loads.l0]
  repeat' first | (with_reducible exact Lim.const _) | (with_reducible refine Lim.ite ?_ ?_) | exact spec_l20Loads.l0g.lim _ _ _ _ | exact spec_l20Rd_pick.g.lim _ _ _ | (with_reducible refine Lim.bind ?_ (fun _ => ?_))
theorem spec_l20Loads.g.eq (s0_0 : List Int) (s0_1 : Int) : spec_l20Loads.g s0_0 s0_1 = spec_l20Loads.l0g (([] : List Int)) 0 s0_0 s0_1 := by
  refine Lim.eq ?_
  unfold spec_l20Loads.f
  repeat' first | (with_reducible exact Lim.const _) | (with_reducible refine Lim.ite ?_ ?_) | exact spec_l20Loads.l0g.lim _ _ _ _ | (with_reducible refine Lim.bind ?_ (fun _ => ?_))
noncomputable def spec_DrawLoadSpread.g (l0 : List Int) : Option (List Int) := lim fun k => spec_DrawLoadSpread.f k l0
theorem spec_DrawLoadSpread.g.lim (l0 : List Int) : Lim (fun k => spec_DrawLoadSpread.f k l0) (spec_DrawLoadSpread.g l0) := Lim.of (fun k => spec_DrawLoadSpread.mono l0 k)
theorem spec_DrawLoadSpread.g.eq (l0 : List Int) : spec_DrawLoadSpread.g l0 = (spec_l20Open.f l0).bind fun bt136 => ((spec_l20Loads.g bt136.1 bt136.2).bind fun bt139 => ((spec_l20Rd_pick.g bt136.1 bt139.2 6).bind fun bt143 => (if bt143.1 = 0 then (some (([] : List Int))) else (if bt143.1 = 1 then (if bt139.1.length < 17592186044416 then (some (bt139.1 ++ [(-1)])) else (none)) else (if bt143.1 = 2 then (if 1 ≤ (bt139.1.length : Int) then (some (bt139.1.take (1 : Int).toNat)) else (none)) else (some bt139.1)))))) := by
  refine Lim.eq ?_
  unfold spec_DrawLoadSpread.f
  repeat' first | (with_reducible exact Lim.const _) | (with_reducible refine Lim.ite ?_ ?_) | exact spec_l20Loads.g.lim _ _ | exact spec_l20Rd_pick.g.lim _ _ _ | (with_reducible refine Lim.bind ?_ (fun _ => ?_))
noncomputable def laws_FnLoadSpread.l0g (x3 : List Int) (x4 : Int) (x5 : List Int) (x6 : Int) : Option (Bool) := lim fun k => laws_FnLoadSpread.l0 k x3 x4 x5 x6
noncomputable def laws_FnLoadSpread.g (l0 : List Int) : Option (Bool) := lim fun k => laws_FnLoadSpread.f k l0
theorem laws_FnLoadSpread.l0g.lim (x3 : List Int) (x4 : Int) (x5 : List Int) (x6 : Int) : Lim (fun k => laws_FnLoadSpread.l0 k x3 x4 x5 x6) (laws_FnLoadSpread.l0g x3 x4 x5 x6) := Lim.of (fun k => (laws_FnLoadSpread.mono_l k) x3 x4 x5 x6)
theorem laws_FnLoadSpread.g.lim (l0 : List Int) : Lim (fun k => laws_FnLoadSpread.f k l0) (laws_FnLoadSpread.g l0) := Lim.of (fun k => laws_FnLoadSpread.mono l0 k)
theorem laws_FnLoadSpread.l0g.eq (x3 : List Int) (x4 : Int) (x5 : List Int) (x6 : Int) : laws_FnLoadSpread.l0g x3 x4 x5 x6 = if x6 < (x3.length : Int) then (if 0 ≤ x6 then (if 0 < (x3.length : Int) then (if (wrap64 ((rd x3 x6) - (rd x3 0))) > x4 then (some false) else (if (wrap64 ((rd x3 0) - (rd x3 x6))) > x4 then (some false) else (if x5.length < 17592186044416 then (laws_FnLoadSpread.l0g x3 x4 (x5 ++ [wrap64 ((rd x3 x6) + 1)]) (wrap64 (x6 + 1))) else (none)))) else (none)) else (none)) else (if (x3.length : Int) > 0 then (if 1 ≤ (x3.length : Int) then ((impl_LoadSpread.g (x3.take 1)).bind fun t175 => (if t175 = 0 then ((impl_LoadSpread.g x5).bind fun t176 => (some (t176 == x4))) else (some false))) else (none)) else (some false)) := by
  refine Lim.step (fun _ => rfl) (laws_FnLoadSpread.l0g.lim x3 x4 x5 x6).mono ?_
  simp only [laws_FnLoadSpread.l0]
  repeat' first | (with_reducible exact Lim.const _) | (with_reducible refine Lim.ite ?_ ?_) | exact impl_LoadSpread.g.lim _ | exact laws_FnLoadSpread.l0g.lim _ _ _ _ | (with_reducible refine Lim.bind ?_ (fun _ => ?_))
theorem laws_FnLoadSpread.g.eq (l0 : List Int) : laws_FnLoadSpread.g l0 = if (l0.length : Int) > 1048576 then (some true) else ((spec_DrawLoadSpread.g l0).bind fun t154 => ((impl_LoadSpread.g t154).bind fun t157 => ((spec_LoadSpread.g t154).bind fun t158 => (if t157 = t158 then (if t157 < 0 then (if t157 = (-1) then ((laws_alive.g ).bind fun t159 => (some t159)) else (some false)) else (laws_FnLoadSpread.l0g t154 t157 (([] : List Int)) 0)) else (some false))))) := by
  refine Lim.eq ?_
  unfold laws_FnLoadSpread.f
  repeat' first | (with_reducible exact Lim.const _) | (with_reducible refine Lim.ite ?_ ?_) | exact impl_LoadSpread.g.lim _ | exact laws_FnLoadSpread.l0g.lim _ _ _ _ | exact laws_alive.g.lim | exact spec_DrawLoadSpread.g.lim _ | exact spec_LoadSpread.g.lim _ | (with_reducible refine Lim.bind ?_ (fun _ => ?_))
end Go.Proofs.Ytnaloccjejmmfaa.FFnLoadSpread
