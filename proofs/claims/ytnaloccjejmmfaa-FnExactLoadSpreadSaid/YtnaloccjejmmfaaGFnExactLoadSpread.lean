/- The limits of the printed functions of FnExactLoadSpread, and their equations, by a program of this session (wip/gen/gen.py). No conditions. -/
import Derived.Test.YtnaloccjejmmfaaLim
import Derived.Test.YtnaloccjejmmfaaFFnExactLoadSpreadx
namespace Go.Proofs.Ytnaloccjejmmfaa.FFnExactLoadSpread
open Go.RowKit Go.Proofs.YtnaloccjejmmfaaW.PrintWords Go.Proofs.YtnaloccjejmmfaaW.PrintLast Go.Proofs.YtnaloccjejmmfaaW.PrintMore Go.Proofs.YtnaloccjejmmfaaL
set_option linter.unusedVariables false
noncomputable def laws_toIntS.l0g (x0 : List Int) (x3 : List Int) (x4 : Int) : Option (List Int) := lim fun k => laws_toIntS.l0 k x0 x3 x4
noncomputable def laws_toIntS.g (l0 : List Int) : Option (List Int) := lim fun k => laws_toIntS.f k l0
theorem laws_toIntS.l0g.lim (x0 : List Int) (x3 : List Int) (x4 : Int) : Lim (fun k => laws_toIntS.l0 k x0 x3 x4) (laws_toIntS.l0g x0 x3 x4) := Lim.of (fun k => (laws_toIntS.mono_l k) x0 x3 x4)
theorem laws_toIntS.g.lim (l0 : List Int) : Lim (fun k => laws_toIntS.f k l0) (laws_toIntS.g l0) := Lim.of (fun k => laws_toIntS.mono l0 k)
theorem laws_toIntS.l0g.eq (x0 : List Int) (x3 : List Int) (x4 : Int) : laws_toIntS.l0g x0 x3 x4 = if x4 < (x0.length : Int) then (if 0 ≤ x4 then (if x4 < (x3.length : Int) then (laws_toIntS.l0g x0 (x3.set (x4 : Int).toNat (rd x0 x4)) (wrap64 (x4 + 1))) else (none)) else (none)) else (some x3) := by
  refine Lim.step (fun _ => rfl) (laws_toIntS.l0g.lim x0 x3 x4).mono ?_
  simp only [laws_toIntS.l0]
  repeat' first | (with_reducible exact Lim.const _) | (with_reducible refine Lim.ite ?_ ?_) | exact laws_toIntS.l0g.lim _ _ _ | (with_reducible refine Lim.bind ?_ (fun _ => ?_))
theorem laws_toIntS.g.eq (l0 : List Int) : laws_toIntS.g l0 = if 0 ≤ (l0.length : Int) then (if ((l0.length : Int) : Int).toNat ≤ 35184372088832 then (laws_toIntS.l0g l0 (List.replicate ((l0.length : Int) : Int).toNat 0) 0) else (none)) else (none) := by
  refine Lim.eq ?_
  unfold laws_toIntS.f
  repeat' first | (with_reducible exact Lim.const _) | (with_reducible refine Lim.ite ?_ ?_) | exact laws_toIntS.l0g.lim _ _ _ | (with_reducible refine Lim.bind ?_ (fun _ => ?_))
noncomputable def laws_eqIntS.l0g (x0 : List Int) (x1 : List Int) (x5 : Int) : Option (Bool) := lim fun k => laws_eqIntS.l0 k x0 x1 x5
noncomputable def laws_eqIntS.g (l0 : List Int) (l1 : List Int) : Option (Bool) := lim fun k => laws_eqIntS.f k l0 l1
theorem laws_eqIntS.l0g.lim (x0 : List Int) (x1 : List Int) (x5 : Int) : Lim (fun k => laws_eqIntS.l0 k x0 x1 x5) (laws_eqIntS.l0g x0 x1 x5) := Lim.of (fun k => (laws_eqIntS.mono_l k) x0 x1 x5)
theorem laws_eqIntS.g.lim (l0 : List Int) (l1 : List Int) : Lim (fun k => laws_eqIntS.f k l0 l1) (laws_eqIntS.g l0 l1) := Lim.of (fun k => laws_eqIntS.mono l0 l1 k)
theorem laws_eqIntS.l0g.eq (x0 : List Int) (x1 : List Int) (x5 : Int) : laws_eqIntS.l0g x0 x1 x5 = if x5 < (x0.length : Int) then (if 0 ≤ x5 then (if x5 < (x1.length : Int) then (if (rd x0 x5) = (rd x1 x5) then (laws_eqIntS.l0g x0 x1 (wrap64 (x5 + 1))) else (some false)) else (none)) else (none)) else (some true) := by
  refine Lim.step (fun _ => rfl) (laws_eqIntS.l0g.lim x0 x1 x5).mono ?_
  simp only [laws_eqIntS.l0]
  repeat' first | (with_reducible exact Lim.const _) | (with_reducible refine Lim.ite ?_ ?_) | exact laws_eqIntS.l0g.lim _ _ _ | (with_reducible refine Lim.bind ?_ (fun _ => ?_))
theorem laws_eqIntS.g.eq (l0 : List Int) (l1 : List Int) : laws_eqIntS.g l0 l1 = if (l0.length : Int) = (l1.length : Int) then (laws_eqIntS.l0g l0 l1 0) else (some false) := by
  refine Lim.eq ?_
  unfold laws_eqIntS.f
  repeat' first | (with_reducible exact Lim.const _) | (with_reducible refine Lim.ite ?_ ?_) | exact laws_eqIntS.l0g.lim _ _ _ | (with_reducible refine Lim.bind ?_ (fun _ => ?_))
noncomputable def spec_LoadSpread.l0g (x0 : List Int) (x3 : Int) (x4 : Int) (x5 : Int) : Option (Int) := lim fun k => spec_LoadSpread.l0 k x0 x3 x4 x5
noncomputable def spec_LoadSpread.g (l0 : List Int) : Option (Int) := lim fun k => spec_LoadSpread.f k l0
theorem spec_LoadSpread.l0g.lim (x0 : List Int) (x3 : Int) (x4 : Int) (x5 : Int) : Lim (fun k => spec_LoadSpread.l0 k x0 x3 x4 x5) (spec_LoadSpread.l0g x0 x3 x4 x5) := Lim.of (fun k => (spec_LoadSpread.mono_l k) x0 x3 x4 x5)
theorem spec_LoadSpread.g.lim (l0 : List Int) : Lim (fun k => spec_LoadSpread.f k l0) (spec_LoadSpread.g l0) := Lim.of (fun k => spec_LoadSpread.mono l0 k)
theorem spec_LoadSpread.l0g.eq (x0 : List Int) (x3 : Int) (x4 : Int) (x5 : Int) : spec_LoadSpread.l0g x0 x3 x4 x5 = if x5 < (x0.length : Int) then (if 0 ≤ x5 then (if (rd x0 x5) < 0 then (some (-1)) else (spec_LoadSpread.l0g x0 (mn x3 (rd x0 x5)) (mx x4 (rd x0 x5)) (wrap64 (x5 + 1)))) else (none)) else (some (wrap64 (x4 - x3))) := by
  refine Lim.step (fun _ => rfl) (spec_LoadSpread.l0g.lim x0 x3 x4 x5).mono ?_
  simp only [spec_LoadSpread.l0]
  repeat' first | (with_reducible exact Lim.const _) | (with_reducible refine Lim.ite ?_ ?_) | exact spec_LoadSpread.l0g.lim _ _ _ _ | (with_reducible refine Lim.bind ?_ (fun _ => ?_))
theorem spec_LoadSpread.g.eq (l0 : List Int) : spec_LoadSpread.g l0 = if (l0.length : Int) = 0 then (some (-1)) else (if 0 < (l0.length : Int) then (spec_LoadSpread.l0g l0 (rd l0 0) (rd l0 0) 0) else (none)) := by
  refine Lim.eq ?_
  unfold spec_LoadSpread.f
  repeat' first | (with_reducible exact Lim.const _) | (with_reducible refine Lim.ite ?_ ?_) | exact spec_LoadSpread.l0g.lim _ _ _ _ | (with_reducible refine Lim.bind ?_ (fun _ => ?_))
noncomputable def slices_Min_int_int.l0g (x0 : List Int) (x3 : Int) (x4 : Int) : Option (Int) := lim fun k => slices_Min_int_int.l0 k x0 x3 x4
noncomputable def slices_Min_int_int.g (l0 : List Int) : Option (Int) := lim fun k => slices_Min_int_int.f k l0
theorem slices_Min_int_int.l0g.lim (x0 : List Int) (x3 : Int) (x4 : Int) : Lim (fun k => slices_Min_int_int.l0 k x0 x3 x4) (slices_Min_int_int.l0g x0 x3 x4) := Lim.of (fun k => (slices_Min_int_int.mono_l k) x0 x3 x4)
theorem slices_Min_int_int.g.lim (l0 : List Int) : Lim (fun k => slices_Min_int_int.f k l0) (slices_Min_int_int.g l0) := Lim.of (fun k => slices_Min_int_int.mono l0 k)
theorem slices_Min_int_int.l0g.eq (x0 : List Int) (x3 : Int) (x4 : Int) : slices_Min_int_int.l0g x0 x3 x4 = if x4 < (x0.length : Int) then (if 0 ≤ x4 then (slices_Min_int_int.l0g x0 (mn x3 (rd x0 x4)) (wrap64 (x4 + 1))) else (none)) else (some x3) := by
  refine Lim.step (fun _ => rfl) (slices_Min_int_int.l0g.lim x0 x3 x4).mono ?_
  simp only [slices_Min_int_int.l0]
  repeat' first | (with_reducible exact Lim.const _) | (with_reducible refine Lim.ite ?_ ?_) | exact slices_Min_int_int.l0g.lim _ _ _ | (with_reducible refine Lim.bind ?_ (fun _ => ?_))
theorem slices_Min_int_int.g.eq (l0 : List Int) : slices_Min_int_int.g l0 = if (l0.length : Int) < 1 then (none) else (if 0 < (l0.length : Int) then (slices_Min_int_int.l0g l0 (rd l0 0) 1) else (none)) := by
  refine Lim.eq ?_
  unfold slices_Min_int_int.f
  repeat' first | (with_reducible exact Lim.const _) | (with_reducible refine Lim.ite ?_ ?_) | exact slices_Min_int_int.l0g.lim _ _ _ | (with_reducible refine Lim.bind ?_ (fun _ => ?_))
noncomputable def slices_Max_int_int.l0g (x0 : List Int) (x3 : Int) (x4 : Int) : Option (Int) := lim fun k => slices_Max_int_int.l0 k x0 x3 x4
noncomputable def slices_Max_int_int.g (l0 : List Int) : Option (Int) := lim fun k => slices_Max_int_int.f k l0
theorem slices_Max_int_int.l0g.lim (x0 : List Int) (x3 : Int) (x4 : Int) : Lim (fun k => slices_Max_int_int.l0 k x0 x3 x4) (slices_Max_int_int.l0g x0 x3 x4) := Lim.of (fun k => (slices_Max_int_int.mono_l k) x0 x3 x4)
theorem slices_Max_int_int.g.lim (l0 : List Int) : Lim (fun k => slices_Max_int_int.f k l0) (slices_Max_int_int.g l0) := Lim.of (fun k => slices_Max_int_int.mono l0 k)
theorem slices_Max_int_int.l0g.eq (x0 : List Int) (x3 : Int) (x4 : Int) : slices_Max_int_int.l0g x0 x3 x4 = if x4 < (x0.length : Int) then (if 0 ≤ x4 then (slices_Max_int_int.l0g x0 (mx x3 (rd x0 x4)) (wrap64 (x4 + 1))) else (none)) else (some x3) := by
  refine Lim.step (fun _ => rfl) (slices_Max_int_int.l0g.lim x0 x3 x4).mono ?_
  simp only [slices_Max_int_int.l0]
  repeat' first | (with_reducible exact Lim.const _) | (with_reducible refine Lim.ite ?_ ?_) | exact slices_Max_int_int.l0g.lim _ _ _ | (with_reducible refine Lim.bind ?_ (fun _ => ?_))
theorem slices_Max_int_int.g.eq (l0 : List Int) : slices_Max_int_int.g l0 = if (l0.length : Int) < 1 then (none) else (if 0 < (l0.length : Int) then (slices_Max_int_int.l0g l0 (rd l0 0) 1) else (none)) := by
  refine Lim.eq ?_
  unfold slices_Max_int_int.f
  repeat' first | (with_reducible exact Lim.const _) | (with_reducible refine Lim.ite ?_ ?_) | exact slices_Max_int_int.l0g.lim _ _ _ | (with_reducible refine Lim.bind ?_ (fun _ => ?_))
noncomputable def impl_LoadSpread.j0g (x0 : List Int) (x10 : Bool) : Option (Int) := lim fun k => impl_LoadSpread.j0 k x0 x10
noncomputable def impl_LoadSpread.g (l0 : List Int) : Option (Int) := lim fun k => impl_LoadSpread.f k l0
theorem impl_LoadSpread.j0g.lim (x0 : List Int) (x10 : Bool) : Lim (fun k => impl_LoadSpread.j0 k x0 x10) (impl_LoadSpread.j0g x0 x10) := Lim.of (fun k => (impl_LoadSpread.mono_l k) x0 x10)
theorem impl_LoadSpread.g.lim (l0 : List Int) : Lim (fun k => impl_LoadSpread.f k l0) (impl_LoadSpread.g l0) := Lim.of (fun k => impl_LoadSpread.mono l0 k)
theorem impl_LoadSpread.j0g.eq (x0 : List Int) (x10 : Bool) : impl_LoadSpread.j0g x0 x10 = if x10 = true then (some (-1)) else ((slices_Max_int_int.g x0).bind fun t118 => ((slices_Min_int_int.g x0).bind fun t119 => (some (wrap64 (t118 - t119))))) := by
  refine Lim.step (fun _ => rfl) (impl_LoadSpread.j0g.lim x0 x10).mono ?_
  simp only [impl_LoadSpread.j0]
  repeat' first | (with_reducible exact Lim.const _) | (with_reducible refine Lim.ite ?_ ?_) | exact slices_Max_int_int.g.lim _ | exact slices_Min_int_int.g.lim _ | (with_reducible refine Lim.bind ?_ (fun _ => ?_))
theorem impl_LoadSpread.g.eq (l0 : List Int) : impl_LoadSpread.g l0 = if (l0.length : Int) = 0 then (impl_LoadSpread.j0g l0 true) else ((slices_Min_int_int.g l0).bind fun t117 => (impl_LoadSpread.j0g l0 (decide (t117 < 0)))) := by
  refine Lim.eq ?_
  unfold impl_LoadSpread.f
  repeat' first | (with_reducible exact Lim.const _) | (with_reducible refine Lim.ite ?_ ?_) | exact impl_LoadSpread.j0g.lim _ _ | exact slices_Min_int_int.g.lim _ | (with_reducible refine Lim.bind ?_ (fun _ => ?_))
noncomputable def laws_FnExactLoadSpread.g (l0 : List Int) : Option (Bool) := lim fun k => laws_FnExactLoadSpread.f k l0
theorem laws_FnExactLoadSpread.g.lim (l0 : List Int) : Lim (fun k => laws_FnExactLoadSpread.f k l0) (laws_FnExactLoadSpread.g l0) := Lim.of (fun k => laws_FnExactLoadSpread.mono l0 k)
theorem laws_FnExactLoadSpread.g.eq (l0 : List Int) : laws_FnExactLoadSpread.g l0 = if (l0.length : Int) > 1048576 then (some true) else ((laws_toIntS.g l0).bind fun t120 => ((spec_LoadSpread.g t120).bind fun t123 => ((laws_toIntS.g l0).bind fun t124 => ((impl_LoadSpread.g t124).bind fun t127 => (if t127 = t123 then ((laws_toIntS.g l0).bind fun t128 => ((laws_eqIntS.g t124 t128).bind fun t131 => (if t131 = true then (some true) else (some false)))) else (some false)))))) := by
  refine Lim.eq ?_
  unfold laws_FnExactLoadSpread.f
  repeat' first | (with_reducible exact Lim.const _) | (with_reducible refine Lim.ite ?_ ?_) | exact impl_LoadSpread.g.lim _ | exact laws_eqIntS.g.lim _ _ | exact laws_toIntS.g.lim _ | exact spec_LoadSpread.g.lim _ | (with_reducible refine Lim.bind ?_ (fun _ => ?_))
end Go.Proofs.Ytnaloccjejmmfaa.FFnExactLoadSpread
