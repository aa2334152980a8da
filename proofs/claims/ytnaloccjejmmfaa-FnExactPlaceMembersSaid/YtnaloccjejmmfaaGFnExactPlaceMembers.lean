/- The limits of the printed functions of FnExactPlaceMembers, and their equations, by a program of this session (wip/gen/gen.py). No conditions. -/
import Derived.Test.YtnaloccjejmmfaaLim
import Derived.Test.YtnaloccjejmmfaaFFnExactPlaceMembersx
namespace Go.Proofs.Ytnaloccjejmmfaa.FFnExactPlaceMembers
open Go.RowKit Go.Proofs.YtnaloccjejmmfaaW.PrintWords Go.Proofs.YtnaloccjejmmfaaW.PrintLast Go.Proofs.YtnaloccjejmmfaaW.PrintMore Go.Proofs.YtnaloccjejmmfaaL
set_option linter.unusedVariables false
noncomputable def laws_toIntS.l0g (x0 : List Int) (x3 : List Int) (x4 : Int) : Option (List Int) := lim fun k => laws_toIntS.l0 k x0 x3 x4
noncomputable def laws_toIntS.g (l0 : List Int) : Option (List Int) := lim fun k => laws_toIntS.f k l0
theorem laws_toIntS.l0g.lim (x0 : List Int) (x3 : List Int) (x4 : Int) : Lim (fun k => laws_toIntS.l0 k x0 x3 x4) (laws_toIntS.l0g x0 x3 x4) := Lim.of (fun k => (laws_toIntS.mono_l k) x0 x3 x4)
theorem laws_toIntS.g.lim (l0 : List Int) : Lim (fun k => laws_toIntS.f k l0) (laws_toIntS.g l0) := Lim.of (fun k => laws_toIntS.mono l0 k)
theorem laws_toIntS.l0g.eq (x0 : List Int) (x3 : List Int) (x4 : Int) : laws_toIntS.l0g x0 x3 x4 = if x4 < (x0.length : Int) then (if 0 ≤ x4 then (if x4 < (x3.length : Int) then (laws_toIntS.l0g x0 (x3.set (x4 : Int).toNat (rd x0 x4)) (wrap64 (x4 + 1))) else (none)) else (none)) else (some x3) := by
  refine Lim.step (fun _ => rfl) (laws_toIntS.l0g.lim x0 x3 x4).mono ?_
  simp only [laws_toIntS.l0]
  repeat' first | (with_reducible exact Lim.const _) | (with_reducible refine Lim.ite ?_ ?_) | exact laws_toIntS.l0g.lim _ _ _ | (with_reducible refine Lim.bind ?_ (fun _ => ?_))
theorem laws_toIntS.g.eq (l0 : List Int) : laws_toIntS.g l0 = if 0 ≤ (l0.length : Int) then (if ((l0.length : Int) : Int).toNat ≤ 35184372088832 then (laws_toIntS.l0g l0 (List.replicate ((l0.length : Int) : Int).toNat 0) 0) else (none)) else (none) := by
  refine Lim.eq ?_
  unfold laws_toIntS.f
  repeat' first | (with_reducible exact Lim.const _) | (with_reducible refine Lim.ite ?_ ?_) | exact laws_toIntS.l0g.lim _ _ _ | (with_reducible refine Lim.bind ?_ (fun _ => ?_))
noncomputable def laws_eqIntS.l0g (x0 : List Int) (x1 : List Int) (x5 : Int) : Option (Bool) := lim fun k => laws_eqIntS.l0 k x0 x1 x5
noncomputable def laws_eqIntS.g (l0 : List Int) (l1 : List Int) : Option (Bool) := lim fun k => laws_eqIntS.f k l0 l1
theorem laws_eqIntS.l0g.lim (x0 : List Int) (x1 : List Int) (x5 : Int) : Lim (fun k => laws_eqIntS.l0 k x0 x1 x5) (laws_eqIntS.l0g x0 x1 x5) := Lim.of (fun k => (laws_eqIntS.mono_l k) x0 x1 x5)
theorem laws_eqIntS.g.lim (l0 : List Int) (l1 : List Int) : Lim (fun k => laws_eqIntS.f k l0 l1) (laws_eqIntS.g l0 l1) := Lim.of (fun k => laws_eqIntS.mono l0 l1 k)
theorem laws_eqIntS.l0g.eq (x0 : List Int) (x1 : List Int) (x5 : Int) : laws_eqIntS.l0g x0 x1 x5 = if x5 < (x0.length : Int) then (if 0 ≤ x5 then (if x5 < (x1.length : Int) then (if (rd x0 x5) = (rd x1 x5) then (laws_eqIntS.l0g x0 x1 (wrap64 (x5 + 1))) else (some false)) else (none)) else (none)) else (some true) := by
  refine Lim.step (fun _ => rfl) (laws_eqIntS.l0g.lim x0 x1 x5).mono ?_
  simp only [laws_eqIntS.l0]
  repeat' first | (with_reducible exact Lim.const _) | (with_reducible refine Lim.ite ?_ ?_) | exact laws_eqIntS.l0g.lim _ _ _ | (with_reducible refine Lim.bind ?_ (fun _ => ?_))
theorem laws_eqIntS.g.eq (l0 : List Int) (l1 : List Int) : laws_eqIntS.g l0 l1 = if (l0.length : Int) = (l1.length : Int) then (laws_eqIntS.l0g l0 l1 0) else (some false) := by
  refine Lim.eq ?_
  unfold laws_eqIntS.f
  repeat' first | (with_reducible exact Lim.const _) | (with_reducible refine Lim.ite ?_ ?_) | exact laws_eqIntS.l0g.lim _ _ _ | (with_reducible refine Lim.bind ?_ (fun _ => ?_))
noncomputable def laws_markIntS.l0g (x0 : List Int) (x1 : Int) (x5 : Int) : Option (Int × List Int) := lim fun k => laws_markIntS.l0 k x0 x1 x5
noncomputable def laws_markIntS.g (l0 : List Int) (a1 : Int) : Option (Int × List Int) := lim fun k => laws_markIntS.f k l0 a1
theorem laws_markIntS.l0g.lim (x0 : List Int) (x1 : Int) (x5 : Int) : Lim (fun k => laws_markIntS.l0 k x0 x1 x5) (laws_markIntS.l0g x0 x1 x5) := Lim.of (fun k => (laws_markIntS.mono_l k) x0 x1 x5)
theorem laws_markIntS.g.lim (l0 : List Int) (a1 : Int) : Lim (fun k => laws_markIntS.f k l0 a1) (laws_markIntS.g l0 a1) := Lim.of (fun k => laws_markIntS.mono l0 a1 k)
theorem laws_markIntS.l0g.eq (x0 : List Int) (x1 : Int) (x5 : Int) : laws_markIntS.l0g x0 x1 x5 = if x5 < (x0.length : Int) then (if 0 ≤ x5 then (laws_markIntS.l0g (x0.set (x5 : Int).toNat x1) (wrap64 (x1 + 1)) (wrap64 (x5 + 1))) else (none)) else (some (x1, x0)) := by
  refine Lim.step (fun _ => rfl) (laws_markIntS.l0g.lim x0 x1 x5).mono ?_
  simp only [laws_markIntS.l0]
  repeat' first | (with_reducible exact Lim.const _) | (with_reducible refine Lim.ite ?_ ?_) | exact laws_markIntS.l0g.lim _ _ _ | (with_reducible refine Lim.bind ?_ (fun _ => ?_))
theorem laws_markIntS.g.eq (l0 : List Int) (a1 : Int) : laws_markIntS.g l0 a1 = laws_markIntS.l0g l0 a1 0 := by
  refine Lim.eq ?_
  unfold laws_markIntS.f
  repeat' first | (with_reducible exact Lim.const _) | (with_reducible refine Lim.ite ?_ ?_) | exact laws_markIntS.l0g.lim _ _ _ | (with_reducible refine Lim.bind ?_ (fun _ => ?_))
noncomputable def laws_heldIntS.l0g (x0 : List Int) (x1 : Int) (x5 : Int) : Option (Int) := lim fun k => laws_heldIntS.l0 k x0 x1 x5
noncomputable def laws_heldIntS.g (l0 : List Int) (a1 : Int) : Option (Int) := lim fun k => laws_heldIntS.f k l0 a1
theorem laws_heldIntS.l0g.lim (x0 : List Int) (x1 : Int) (x5 : Int) : Lim (fun k => laws_heldIntS.l0 k x0 x1 x5) (laws_heldIntS.l0g x0 x1 x5) := Lim.of (fun k => (laws_heldIntS.mono_l k) x0 x1 x5)
theorem laws_heldIntS.g.lim (l0 : List Int) (a1 : Int) : Lim (fun k => laws_heldIntS.f k l0 a1) (laws_heldIntS.g l0 a1) := Lim.of (fun k => laws_heldIntS.mono l0 a1 k)
theorem laws_heldIntS.l0g.eq (x0 : List Int) (x1 : Int) (x5 : Int) : laws_heldIntS.l0g x0 x1 x5 = if x5 < (x0.length : Int) then (if 0 ≤ x5 then (if (rd x0 x5) = x1 then (laws_heldIntS.l0g x0 (wrap64 (x1 + 1)) (wrap64 (x5 + 1))) else (some (-1))) else (none)) else (some x1) := by
  refine Lim.step (fun _ => rfl) (laws_heldIntS.l0g.lim x0 x1 x5).mono ?_
  simp only [laws_heldIntS.l0]
  repeat' first | (with_reducible exact Lim.const _) | (with_reducible refine Lim.ite ?_ ?_) | exact laws_heldIntS.l0g.lim _ _ _ | (with_reducible refine Lim.bind ?_ (fun _ => ?_))
theorem laws_heldIntS.g.eq (l0 : List Int) (a1 : Int) : laws_heldIntS.g l0 a1 = laws_heldIntS.l0g l0 a1 0 := by
  refine Lim.eq ?_
  unfold laws_heldIntS.f
  repeat' first | (with_reducible exact Lim.const _) | (with_reducible refine Lim.ite ?_ ?_) | exact laws_heldIntS.l0g.lim _ _ _ | (with_reducible refine Lim.bind ?_ (fun _ => ?_))
noncomputable def spec_PlaceMembers.j0g (x0 : List Int) (x1 : List Bool) (x2 : Int) (x8 : List Int) (x25 : Bool) : Option (List Int × Bool) := lim fun k => spec_PlaceMembers.j0 k x0 x1 x2 x8 x25
noncomputable def spec_PlaceMembers.l0g (x0 : List Int) (x2 : Int) (x8 : List Int) (x9 : List Bool) : Option (List Int × Bool) := lim fun k => spec_PlaceMembers.l0 k x0 x2 x8 x9
noncomputable def spec_PlaceMembers.l1g (x0 : List Int) (x2 : Int) (x8 : List Int) (x9 : List Bool) (x10 : Int) (x11 : Int) : Option (List Int × Bool) := lim fun k => spec_PlaceMembers.l1 k x0 x2 x8 x9 x10 x11
noncomputable def spec_PlaceMembers.g (l0 : List Int) (l1 : List Bool) (a2 : Int) : Option (List Int × Bool) := lim fun k => spec_PlaceMembers.f k l0 l1 a2
theorem spec_PlaceMembers.j0g.lim (x0 : List Int) (x1 : List Bool) (x2 : Int) (x8 : List Int) (x25 : Bool) : Lim (fun k => spec_PlaceMembers.j0 k x0 x1 x2 x8 x25) (spec_PlaceMembers.j0g x0 x1 x2 x8 x25) := Lim.of (fun k => (spec_PlaceMembers.mono_l k).1 x0 x1 x2 x8 x25)
theorem spec_PlaceMembers.l0g.lim (x0 : List Int) (x2 : Int) (x8 : List Int) (x9 : List Bool) : Lim (fun k => spec_PlaceMembers.l0 k x0 x2 x8 x9) (spec_PlaceMembers.l0g x0 x2 x8 x9) := Lim.of (fun k => (spec_PlaceMembers.mono_l k).2.1 x0 x2 x8 x9)
theorem spec_PlaceMembers.l1g.lim (x0 : List Int) (x2 : Int) (x8 : List Int) (x9 : List Bool) (x10 : Int) (x11 : Int) : Lim (fun k => spec_PlaceMembers.l1 k x0 x2 x8 x9 x10 x11) (spec_PlaceMembers.l1g x0 x2 x8 x9 x10 x11) := Lim.of (fun k => (spec_PlaceMembers.mono_l k).2.2 x0 x2 x8 x9 x10 x11)
theorem spec_PlaceMembers.g.lim (l0 : List Int) (l1 : List Bool) (a2 : Int) : Lim (fun k => spec_PlaceMembers.f k l0 l1 a2) (spec_PlaceMembers.g l0 l1 a2) := Lim.of (fun k => spec_PlaceMembers.mono l0 l1 a2 k)
theorem spec_PlaceMembers.j0g.eq (x0 : List Int) (x1 : List Bool) (x2 : Int) (x8 : List Int) (x25 : Bool) : spec_PlaceMembers.j0g x0 x1 x2 x8 x25 = if x25 = true then (some (x8, false)) else ((some (([] : List Bool) : List Bool)).bind fun y114 => (if y114.length + x1.length < 140737488355328 then (spec_PlaceMembers.l0g x0 x2 x8 (y114 ++ x1)) else (none))) := by
  refine Lim.step (fun _ => rfl) (spec_PlaceMembers.j0g.lim x0 x1 x2 x8 x25).mono ?_
  simp only [spec_PlaceMembers.j0]
  repeat' first | (with_reducible exact Lim.const _) | (with_reducible refine Lim.ite ?_ ?_) | exact spec_PlaceMembers.l0g.lim _ _ _ _ | (with_reducible refine Lim.bind ?_ (fun _ => ?_))
theorem spec_PlaceMembers.l0g.eq (x0 : List Int) (x2 : Int) (x8 : List Int) (x9 : List Bool) : spec_PlaceMembers.l0g x0 x2 x8 x9 = if (x8.length : Int) < x2 then (spec_PlaceMembers.l1g x0 x2 x8 x9 (-1) 0) else (some (x8, true)) := by
  refine Lim.step (fun _ => rfl) (spec_PlaceMembers.l0g.lim x0 x2 x8 x9).mono ?_
  simp only [spec_PlaceMembers.l0]
  repeat' first | (with_reducible exact Lim.const _) | (with_reducible refine Lim.ite ?_ ?_) | exact spec_PlaceMembers.l1g.lim _ _ _ _ _ _ | (with_reducible refine Lim.bind ?_ (fun _ => ?_))
theorem spec_PlaceMembers.l1g.eq (x0 : List Int) (x2 : Int) (x8 : List Int) (x9 : List Bool) (x10 : Int) (x11 : Int) : spec_PlaceMembers.l1g x0 x2 x8 x9 x10 x11 = if x11 < 5 then (if 0 ≤ x11 then (if x11 < (x9.length : Int) then (if rdOf false x9 x11 = true then (if x10 < 0 then (spec_PlaceMembers.l1g x0 x2 x8 x9 x11 (wrap64 (x11 + 1))) else (if x11 < (x0.length : Int) then (if 0 ≤ x10 then (if x10 < (x0.length : Int) then (if (rd x0 x11) < (rd x0 x10) then (spec_PlaceMembers.l1g x0 x2 x8 x9 x11 (wrap64 (x11 + 1))) else (spec_PlaceMembers.l1g x0 x2 x8 x9 x10 (wrap64 (x11 + 1)))) else (none)) else (none)) else (none))) else (spec_PlaceMembers.l1g x0 x2 x8 x9 x10 (wrap64 (x11 + 1)))) else (none)) else (none)) else (if x10 < 0 then (some ((([] : List Int)), false)) else (if x8.length < 17592186044416 then (if 0 ≤ x10 then (if x10 < (x9.length : Int) then (spec_PlaceMembers.l0g x0 x2 (x8 ++ [x10]) (x9.set (x10 : Int).toNat false)) else (none)) else (none)) else (none))) := by
  refine Lim.step (fun _ => rfl) (spec_PlaceMembers.l1g.lim x0 x2 x8 x9 x10 x11).mono ?_
  simp only [spec_PlaceMembers.l1]
  repeat' first | (with_reducible exact Lim.const _) | (with_reducible refine Lim.ite ?_ ?_) | exact spec_PlaceMembers.l0g.lim _ _ _ _ | exact spec_PlaceMembers.l1g.lim _ _ _ _ _ _ | (with_reducible refine Lim.bind ?_ (fun _ => ?_))
theorem spec_PlaceMembers.g.eq (l0 : List Int) (l1 : List Bool) (a2 : Int) : spec_PlaceMembers.g l0 l1 a2 = (some (([] : List Int) : List Int)).bind fun y110 => (if (l0.length : Int) = 5 then (if (l1.length : Int) = 5 then ((spec_l1In.f a2 1 4).bind fun t113 => (spec_PlaceMembers.j0g l0 l1 a2 y110 (!t113))) else (spec_PlaceMembers.j0g l0 l1 a2 y110 true)) else (spec_PlaceMembers.j0g l0 l1 a2 y110 true)) := by
  refine Lim.eq ?_
  unfold spec_PlaceMembers.f
  repeat' first | (with_reducible exact Lim.const _) | (with_reducible refine Lim.ite ?_ ?_) | exact spec_PlaceMembers.j0g.lim _ _ _ _ _ | (with_reducible refine Lim.bind ?_ (fun _ => ?_))
noncomputable def laws_toBoolS.l0g (x0 : List Bool) (x3 : List Bool) (x4 : Int) : Option (List Bool) := lim fun k => laws_toBoolS.l0 k x0 x3 x4
noncomputable def laws_toBoolS.g (l0 : List Bool) : Option (List Bool) := lim fun k => laws_toBoolS.f k l0
theorem laws_toBoolS.l0g.lim (x0 : List Bool) (x3 : List Bool) (x4 : Int) : Lim (fun k => laws_toBoolS.l0 k x0 x3 x4) (laws_toBoolS.l0g x0 x3 x4) := Lim.of (fun k => (laws_toBoolS.mono_l k) x0 x3 x4)
theorem laws_toBoolS.g.lim (l0 : List Bool) : Lim (fun k => laws_toBoolS.f k l0) (laws_toBoolS.g l0) := Lim.of (fun k => laws_toBoolS.mono l0 k)
theorem laws_toBoolS.l0g.eq (x0 : List Bool) (x3 : List Bool) (x4 : Int) : laws_toBoolS.l0g x0 x3 x4 = if x4 < (x0.length : Int) then (if 0 ≤ x4 then (if x4 < (x3.length : Int) then (laws_toBoolS.l0g x0 (x3.set (x4 : Int).toNat (rdOf false x0 x4)) (wrap64 (x4 + 1))) else (none)) else (none)) else (some x3) := by
  refine Lim.step (fun _ => rfl) (laws_toBoolS.l0g.lim x0 x3 x4).mono ?_
  simp only [laws_toBoolS.l0]
  repeat' first | (with_reducible exact Lim.const _) | (with_reducible refine Lim.ite ?_ ?_) | exact laws_toBoolS.l0g.lim _ _ _ | (with_reducible refine Lim.bind ?_ (fun _ => ?_))
theorem laws_toBoolS.g.eq (l0 : List Bool) : laws_toBoolS.g l0 = if 0 ≤ (l0.length : Int) then (if ((l0.length : Int) : Int).toNat ≤ 281474976710656 then (laws_toBoolS.l0g l0 (List.replicate ((l0.length : Int) : Int).toNat false) 0) else (none)) else (none) := by
  refine Lim.eq ?_
  unfold laws_toBoolS.f
  repeat' first | (with_reducible exact Lim.const _) | (with_reducible refine Lim.ite ?_ ?_) | exact laws_toBoolS.l0g.lim _ _ _ | (with_reducible refine Lim.bind ?_ (fun _ => ?_))
noncomputable def slices_Index_int_int.l0g (x0 : List Int) (x1 : Int) (x7 : Int) (x8 : Int) : Option (Int) := lim fun k => slices_Index_int_int.l0 k x0 x1 x7 x8
noncomputable def slices_Index_int_int.g (l0 : List Int) (a1 : Int) : Option (Int) := lim fun k => slices_Index_int_int.f k l0 a1
theorem slices_Index_int_int.l0g.lim (x0 : List Int) (x1 : Int) (x7 : Int) (x8 : Int) : Lim (fun k => slices_Index_int_int.l0 k x0 x1 x7 x8) (slices_Index_int_int.l0g x0 x1 x7 x8) := Lim.of (fun k => (slices_Index_int_int.mono_l k) x0 x1 x7 x8)
theorem slices_Index_int_int.g.lim (l0 : List Int) (a1 : Int) : Lim (fun k => slices_Index_int_int.f k l0 a1) (slices_Index_int_int.g l0 a1) := Lim.of (fun k => slices_Index_int_int.mono l0 a1 k)
theorem slices_Index_int_int.l0g.eq (x0 : List Int) (x1 : Int) (x7 : Int) (x8 : Int) : slices_Index_int_int.l0g x0 x1 x7 x8 = if x8 < x7 then (if 0 ≤ x8 then (if x8 < (x0.length : Int) then (if x1 = (rd x0 x8) then (some x8) else (slices_Index_int_int.l0g x0 x1 x7 (wrap64 (x8 + 1)))) else (none)) else (none)) else (some (-1)) := by
  refine Lim.step (fun _ => rfl) (slices_Index_int_int.l0g.lim x0 x1 x7 x8).mono ?_
  simp only [slices_Index_int_int.l0]
  repeat' first | (with_reducible exact Lim.const _) | (with_reducible refine Lim.ite ?_ ?_) | exact slices_Index_int_int.l0g.lim _ _ _ _ | (with_reducible refine Lim.bind ?_ (fun _ => ?_))
theorem slices_Index_int_int.g.eq (l0 : List Int) (a1 : Int) : slices_Index_int_int.g l0 a1 = slices_Index_int_int.l0g l0 a1 (l0.length : Int) 0 := by
  refine Lim.eq ?_
  unfold slices_Index_int_int.f
  repeat' first | (with_reducible exact Lim.const _) | (with_reducible refine Lim.ite ?_ ?_) | exact slices_Index_int_int.l0g.lim _ _ _ _ | (with_reducible refine Lim.bind ?_ (fun _ => ?_))
noncomputable def slices_Contains_int_int.g (l0 : List Int) (a1 : Int) : Option (Bool) := lim fun k => slices_Contains_int_int.f k l0 a1
theorem slices_Contains_int_int.g.lim (l0 : List Int) (a1 : Int) : Lim (fun k => slices_Contains_int_int.f k l0 a1) (slices_Contains_int_int.g l0 a1) := Lim.of (fun k => slices_Contains_int_int.mono l0 a1 k)
theorem slices_Contains_int_int.g.eq (l0 : List Int) (a1 : Int) : slices_Contains_int_int.g l0 a1 = (slices_Index_int_int.g l0 a1).bind fun t136 => (some (decide (t136 ≥ 0))) := by
  refine Lim.eq ?_
  unfold slices_Contains_int_int.f
  repeat' first | (with_reducible exact Lim.const _) | (with_reducible refine Lim.ite ?_ ?_) | exact slices_Index_int_int.g.lim _ _ | (with_reducible refine Lim.bind ?_ (fun _ => ?_))
noncomputable def impl_leastLoad.l0g (x0 : List Int) (x1 : List Bool) (x2 : List Int) (x7 : Int) (x9 : Int) : Option (Int) := lim fun k => impl_leastLoad.l0 k x0 x1 x2 x7 x9
noncomputable def impl_leastLoad.j1g (x0 : List Int) (x1 : List Bool) (x2 : List Int) (x7 : Int) (x8 : Int) (x9 : Int) (x21 : Bool) : Option (Int) := lim fun k => impl_leastLoad.j1 k x0 x1 x2 x7 x8 x9 x21
noncomputable def impl_leastLoad.g (l0 : List Int) (l1 : List Bool) (l2 : List Int) : Option (Int) := lim fun k => impl_leastLoad.f k l0 l1 l2
theorem impl_leastLoad.l0g.lim (x0 : List Int) (x1 : List Bool) (x2 : List Int) (x7 : Int) (x9 : Int) : Lim (fun k => impl_leastLoad.l0 k x0 x1 x2 x7 x9) (impl_leastLoad.l0g x0 x1 x2 x7 x9) := Lim.of (fun k => (impl_leastLoad.mono_l k).1 x0 x1 x2 x7 x9)
theorem impl_leastLoad.j1g.lim (x0 : List Int) (x1 : List Bool) (x2 : List Int) (x7 : Int) (x8 : Int) (x9 : Int) (x21 : Bool) : Lim (fun k => impl_leastLoad.j1 k x0 x1 x2 x7 x8 x9 x21) (impl_leastLoad.j1g x0 x1 x2 x7 x8 x9 x21) := Lim.of (fun k => (impl_leastLoad.mono_l k).2 x0 x1 x2 x7 x8 x9 x21)
theorem impl_leastLoad.g.lim (l0 : List Int) (l1 : List Bool) (l2 : List Int) : Lim (fun k => impl_leastLoad.f k l0 l1 l2) (impl_leastLoad.g l0 l1 l2) := Lim.of (fun k => impl_leastLoad.mono l0 l1 l2 k)
theorem impl_leastLoad.l0g.eq (x0 : List Int) (x1 : List Bool) (x2 : List Int) (x7 : Int) (x9 : Int) : impl_leastLoad.l0g x0 x1 x2 x7 x9 = if x9 < 5 then (if 0 ≤ x9 then (if x9 < (x1.length : Int) then (if rdOf false x1 x9 = true then ((slices_Contains_int_int.g x2 x9).bind fun t138 => (impl_leastLoad.j1g x0 x1 x2 x7 x9 x9 t138)) else (impl_leastLoad.j1g x0 x1 x2 x7 x9 x9 true)) else (none)) else (none)) else (some x7) := by
  refine Lim.step (fun _ => rfl) (impl_leastLoad.l0g.lim x0 x1 x2 x7 x9).mono ?_
  simp only [impl_leastLoad.l0]
  repeat' first | (with_reducible exact Lim.const _) | (with_reducible refine Lim.ite ?_ ?_) | exact impl_leastLoad.j1g.lim _ _ _ _ _ _ _ | exact slices_Contains_int_int.g.lim _ _ | (with_reducible refine Lim.bind ?_ (fun _ => ?_))
theorem impl_leastLoad.j1g.eq (x0 : List Int) (x1 : List Bool) (x2 : List Int) (x7 : Int) (x8 : Int) (x9 : Int) (x21 : Bool) : impl_leastLoad.j1g x0 x1 x2 x7 x8 x9 x21 = if x21 = true then (impl_leastLoad.l0g x0 x1 x2 x7 (wrap64 (x9 + 1))) else (if x7 < 0 then (impl_leastLoad.l0g x0 x1 x2 x8 (wrap64 (x9 + 1))) else (if 0 ≤ x8 then (if x8 < (x0.length : Int) then (if 0 ≤ x7 then (if x7 < (x0.length : Int) then (if (rd x0 x8) < (rd x0 x7) then (impl_leastLoad.l0g x0 x1 x2 x8 (wrap64 (x9 + 1))) else (impl_leastLoad.l0g x0 x1 x2 x7 (wrap64 (x9 + 1)))) else (none)) else (none)) else (none)) else (none))) := by
  refine Lim.step (fun _ => rfl) (impl_leastLoad.j1g.lim x0 x1 x2 x7 x8 x9 x21).mono ?_
  simp only [impl_leastLoad.j1]
  repeat' first | (with_reducible exact Lim.const _) | (with_reducible refine Lim.ite ?_ ?_) | exact impl_leastLoad.l0g.lim _ _ _ _ _ | (with_reducible refine Lim.bind ?_ (fun _ => ?_))
theorem impl_leastLoad.g.eq (l0 : List Int) (l1 : List Bool) (l2 : List Int) : impl_leastLoad.g l0 l1 l2 = impl_leastLoad.l0g l0 l1 l2 (-1) 0 := by
  refine Lim.eq ?_
  unfold impl_leastLoad.f
  repeat' first | (with_reducible exact Lim.const _) | (with_reducible refine Lim.ite ?_ ?_) | exact impl_leastLoad.l0g.lim _ _ _ _ _ | (with_reducible refine Lim.bind ?_ (fun _ => ?_))
noncomputable def impl_PlaceMembers.j0g (x0 : List Int) (x1 : List Bool) (x2 : Int) (x25 : Bool) : Option (List Int × Bool) := lim fun k => impl_PlaceMembers.j0 k x0 x1 x2 x25
noncomputable def impl_PlaceMembers.l0g (x0 : List Int) (x1 : List Bool) (x2 : Int) (x8 : List Int) : Option (List Int × Bool) := lim fun k => impl_PlaceMembers.l0 k x0 x1 x2 x8
noncomputable def impl_PlaceMembers.g (l0 : List Int) (l1 : List Bool) (a2 : Int) : Option (List Int × Bool) := lim fun k => impl_PlaceMembers.f k l0 l1 a2
theorem impl_PlaceMembers.j0g.lim (x0 : List Int) (x1 : List Bool) (x2 : Int) (x25 : Bool) : Lim (fun k => impl_PlaceMembers.j0 k x0 x1 x2 x25) (impl_PlaceMembers.j0g x0 x1 x2 x25) := Lim.of (fun k => (impl_PlaceMembers.mono_l k).1 x0 x1 x2 x25)
theorem impl_PlaceMembers.l0g.lim (x0 : List Int) (x1 : List Bool) (x2 : Int) (x8 : List Int) : Lim (fun k => impl_PlaceMembers.l0 k x0 x1 x2 x8) (impl_PlaceMembers.l0g x0 x1 x2 x8) := Lim.of (fun k => (impl_PlaceMembers.mono_l k).2 x0 x1 x2 x8)
theorem impl_PlaceMembers.g.lim (l0 : List Int) (l1 : List Bool) (a2 : Int) : Lim (fun k => impl_PlaceMembers.f k l0 l1 a2) (impl_PlaceMembers.g l0 l1 a2) := Lim.of (fun k => impl_PlaceMembers.mono l0 l1 a2 k)
theorem impl_PlaceMembers.j0g.eq (x0 : List Int) (x1 : List Bool) (x2 : Int) (x25 : Bool) : impl_PlaceMembers.j0g x0 x1 x2 x25 = if x25 = true then (some (([] : List Int), false)) else (impl_PlaceMembers.l0g x0 x1 x2 ([] : List Int)) := by
  refine Lim.step (fun _ => rfl) (impl_PlaceMembers.j0g.lim x0 x1 x2 x25).mono ?_
  simp only [impl_PlaceMembers.j0]
  repeat' first | (with_reducible exact Lim.const _) | (with_reducible refine Lim.ite ?_ ?_) | exact impl_PlaceMembers.l0g.lim _ _ _ _ | (with_reducible refine Lim.bind ?_ (fun _ => ?_))
theorem impl_PlaceMembers.l0g.eq (x0 : List Int) (x1 : List Bool) (x2 : Int) (x8 : List Int) : impl_PlaceMembers.l0g x0 x1 x2 x8 = if (x8.length : Int) < x2 then ((impl_leastLoad.g x0 x1 x8).bind fun t141 => (if t141 < 0 then (some (([] : List Int), false)) else (if x8.length < 17592186044416 then (impl_PlaceMembers.l0g x0 x1 x2 (x8 ++ [t141])) else (none)))) else (some (x8, true)) := by
  refine Lim.step (fun _ => rfl) (impl_PlaceMembers.l0g.lim x0 x1 x2 x8).mono ?_
  simp only [impl_PlaceMembers.l0]
  repeat' first | (with_reducible exact Lim.const _) | (with_reducible refine Lim.ite ?_ ?_) | exact impl_PlaceMembers.l0g.lim _ _ _ _ | exact impl_leastLoad.g.lim _ _ _ | (with_reducible refine Lim.bind ?_ (fun _ => ?_))
theorem impl_PlaceMembers.g.eq (l0 : List Int) (l1 : List Bool) (a2 : Int) : impl_PlaceMembers.g l0 l1 a2 = if (l0.length : Int) = 5 then (if (l1.length : Int) = 5 then (if a2 < 1 then (impl_PlaceMembers.j0g l0 l1 a2 true) else (impl_PlaceMembers.j0g l0 l1 a2 (decide (a2 > 4)))) else (impl_PlaceMembers.j0g l0 l1 a2 true)) else (impl_PlaceMembers.j0g l0 l1 a2 true) := by
  refine Lim.eq ?_
  unfold impl_PlaceMembers.f
  repeat' first | (with_reducible exact Lim.const _) | (with_reducible refine Lim.ite ?_ ?_) | exact impl_PlaceMembers.j0g.lim _ _ _ _ | (with_reducible refine Lim.bind ?_ (fun _ => ?_))
noncomputable def laws_eqBoolS.l0g (x0 : List Bool) (x1 : List Bool) (x5 : Int) : Option (Bool) := lim fun k => laws_eqBoolS.l0 k x0 x1 x5
noncomputable def laws_eqBoolS.g (l0 : List Bool) (l1 : List Bool) : Option (Bool) := lim fun k => laws_eqBoolS.f k l0 l1
theorem laws_eqBoolS.l0g.lim (x0 : List Bool) (x1 : List Bool) (x5 : Int) : Lim (fun k => laws_eqBoolS.l0 k x0 x1 x5) (laws_eqBoolS.l0g x0 x1 x5) := Lim.of (fun k => (laws_eqBoolS.mono_l k) x0 x1 x5)
theorem laws_eqBoolS.g.lim (l0 : List Bool) (l1 : List Bool) : Lim (fun k => laws_eqBoolS.f k l0 l1) (laws_eqBoolS.g l0 l1) := Lim.of (fun k => laws_eqBoolS.mono l0 l1 k)
theorem laws_eqBoolS.l0g.eq (x0 : List Bool) (x1 : List Bool) (x5 : Int) : laws_eqBoolS.l0g x0 x1 x5 = if x5 < (x0.length : Int) then (if 0 ≤ x5 then (if x5 < (x1.length : Int) then (if ((rdOf false x0 x5) != (rdOf false x1 x5)) = true then (some false) else (laws_eqBoolS.l0g x0 x1 (wrap64 (x5 + 1)))) else (none)) else (none)) else (some true) := by
  refine Lim.step (fun _ => rfl) (laws_eqBoolS.l0g.lim x0 x1 x5).mono ?_
  simp only [laws_eqBoolS.l0]
  repeat' first | (with_reducible exact Lim.const _) | (with_reducible refine Lim.ite ?_ ?_) | exact laws_eqBoolS.l0g.lim _ _ _ | (with_reducible refine Lim.bind ?_ (fun _ => ?_))
theorem laws_eqBoolS.g.eq (l0 : List Bool) (l1 : List Bool) : laws_eqBoolS.g l0 l1 = if (l0.length : Int) = (l1.length : Int) then (laws_eqBoolS.l0g l0 l1 0) else (some false) := by
  refine Lim.eq ?_
  unfold laws_eqBoolS.f
  repeat' first | (with_reducible exact Lim.const _) | (with_reducible refine Lim.ite ?_ ?_) | exact laws_eqBoolS.l0g.lim _ _ _ | (with_reducible refine Lim.bind ?_ (fun _ => ?_))
noncomputable def laws_markBoolS.l0g (x0 : List Bool) (x1 : Int) (x5 : Int) : Option (Int × List Bool) := lim fun k => laws_markBoolS.l0 k x0 x1 x5
noncomputable def laws_markBoolS.g (l0 : List Bool) (a1 : Int) : Option (Int × List Bool) := lim fun k => laws_markBoolS.f k l0 a1
theorem laws_markBoolS.l0g.lim (x0 : List Bool) (x1 : Int) (x5 : Int) : Lim (fun k => laws_markBoolS.l0 k x0 x1 x5) (laws_markBoolS.l0g x0 x1 x5) := Lim.of (fun k => (laws_markBoolS.mono_l k) x0 x1 x5)
theorem laws_markBoolS.g.lim (l0 : List Bool) (a1 : Int) : Lim (fun k => laws_markBoolS.f k l0 a1) (laws_markBoolS.g l0 a1) := Lim.of (fun k => laws_markBoolS.mono l0 a1 k)
theorem laws_markBoolS.l0g.eq (x0 : List Bool) (x1 : Int) (x5 : Int) : laws_markBoolS.l0g x0 x1 x5 = if x5 < (x0.length : Int) then (if 0 ≤ x5 then (laws_markBoolS.l0g (x0.set (x5 : Int).toNat ((Int.tmod x1 3) == 0)) (wrap64 (x1 + 1)) (wrap64 (x5 + 1))) else (none)) else (some (x1, x0)) := by
  refine Lim.step (fun _ => rfl) (laws_markBoolS.l0g.lim x0 x1 x5).mono ?_
  simp only [laws_markBoolS.l0]
  repeat' first | (with_reducible exact Lim.const _) | (with_reducible refine Lim.ite ?_ ?_) | exact laws_markBoolS.l0g.lim _ _ _ | (with_reducible refine Lim.bind ?_ (fun _ => ?_))
theorem laws_markBoolS.g.eq (l0 : List Bool) (a1 : Int) : laws_markBoolS.g l0 a1 = laws_markBoolS.l0g l0 a1 0 := by
  refine Lim.eq ?_
  unfold laws_markBoolS.f
  repeat' first | (with_reducible exact Lim.const _) | (with_reducible refine Lim.ite ?_ ?_) | exact laws_markBoolS.l0g.lim _ _ _ | (with_reducible refine Lim.bind ?_ (fun _ => ?_))
noncomputable def laws_FnExactPlaceMembers.j0g (x0 : List Int) (x1 : List Bool) (x2 : Int) (x7 : List Int) (x8 : Bool) (x9 : List Int) (x10 : List Bool) (x11 : List Int) (x12 : Bool) (x52 : Bool) : Option (Bool) := lim fun k => laws_FnExactPlaceMembers.j0 k x0 x1 x2 x7 x8 x9 x10 x11 x12 x52
noncomputable def laws_FnExactPlaceMembers.j1g (x0 : List Int) (x1 : List Bool) (x2 : Int) (x7 : List Int) (x8 : Bool) (x11 : List Int) (x81 : Bool) : Option (Bool) := lim fun k => laws_FnExactPlaceMembers.j1 k x0 x1 x2 x7 x8 x11 x81
noncomputable def laws_FnExactPlaceMembers.j2g (x11 : List Int) (x14 : Int) (x110 : Bool) : Option (Bool) := lim fun k => laws_FnExactPlaceMembers.j2 k x11 x14 x110
noncomputable def laws_FnExactPlaceMembers.g (l0 : List Int) (l1 : List Bool) (a2 : Int) : Option (Bool) := lim fun k => laws_FnExactPlaceMembers.f k l0 l1 a2
theorem laws_FnExactPlaceMembers.j0g.lim (x0 : List Int) (x1 : List Bool) (x2 : Int) (x7 : List Int) (x8 : Bool) (x9 : List Int) (x10 : List Bool) (x11 : List Int) (x12 : Bool) (x52 : Bool) : Lim (fun k => laws_FnExactPlaceMembers.j0 k x0 x1 x2 x7 x8 x9 x10 x11 x12 x52) (laws_FnExactPlaceMembers.j0g x0 x1 x2 x7 x8 x9 x10 x11 x12 x52) := Lim.of (fun k => (laws_FnExactPlaceMembers.mono_l k).1 x0 x1 x2 x7 x8 x9 x10 x11 x12 x52)
theorem laws_FnExactPlaceMembers.j1g.lim (x0 : List Int) (x1 : List Bool) (x2 : Int) (x7 : List Int) (x8 : Bool) (x11 : List Int) (x81 : Bool) : Lim (fun k => laws_FnExactPlaceMembers.j1 k x0 x1 x2 x7 x8 x11 x81) (laws_FnExactPlaceMembers.j1g x0 x1 x2 x7 x8 x11 x81) := Lim.of (fun k => (laws_FnExactPlaceMembers.mono_l k).2.1 x0 x1 x2 x7 x8 x11 x81)
theorem laws_FnExactPlaceMembers.j2g.lim (x11 : List Int) (x14 : Int) (x110 : Bool) : Lim (fun k => laws_FnExactPlaceMembers.j2 k x11 x14 x110) (laws_FnExactPlaceMembers.j2g x11 x14 x110) := Lim.of (fun k => (laws_FnExactPlaceMembers.mono_l k).2.2 x11 x14 x110)
theorem laws_FnExactPlaceMembers.g.lim (l0 : List Int) (l1 : List Bool) (a2 : Int) : Lim (fun k => laws_FnExactPlaceMembers.f k l0 l1 a2) (laws_FnExactPlaceMembers.g l0 l1 a2) := Lim.of (fun k => laws_FnExactPlaceMembers.mono l0 l1 a2 k)
theorem laws_FnExactPlaceMembers.j0g.eq (x0 : List Int) (x1 : List Bool) (x2 : Int) (x7 : List Int) (x8 : Bool) (x9 : List Int) (x10 : List Bool) (x11 : List Int) (x12 : Bool) (x52 : Bool) : laws_FnExactPlaceMembers.j0g x0 x1 x2 x7 x8 x9 x10 x11 x12 x52 = if x52 = true then (some false) else ((laws_toIntS.g x0).bind fun t169 => ((laws_eqIntS.g x9 t169).bind fun t172 => (if t172 = true then ((laws_toBoolS.g x1).bind fun t173 => ((laws_eqBoolS.g x10 t173).bind fun t176 => (if t176 = true then ((laws_markIntS.g x9 1).bind fun bt177 => ((laws_markBoolS.g x10 bt177.1).bind fun bt179 => (if bt179.1 < 0 then (laws_FnExactPlaceMembers.j1g x0 x1 x2 x7 x8 x11 true) else ((laws_eqIntS.g x11 x7).bind fun t181 => (if t181 = true then (laws_FnExactPlaceMembers.j1g x0 x1 x2 x7 x8 x11 (x12 != x8)) else (laws_FnExactPlaceMembers.j1g x0 x1 x2 x7 x8 x11 true)))))) else (some false)))) else (some false)))) := by
  refine Lim.step (fun _ => rfl) (laws_FnExactPlaceMembers.j0g.lim x0 x1 x2 x7 x8 x9 x10 x11 x12 x52).mono ?_
  simp only [laws_FnExactPlaceMembers.j0]
  repeat' first | (with_reducible exact Lim.const _) | (with_reducible refine Lim.ite ?_ ?_) | exact laws_FnExactPlaceMembers.j1g.lim _ _ _ _ _ _ _ | exact laws_eqBoolS.g.lim _ _ | exact laws_eqIntS.g.lim _ _ | exact laws_markBoolS.g.lim _ _ | exact laws_markIntS.g.lim _ _ | exact laws_toBoolS.g.lim _ | exact laws_toIntS.g.lim _ | (with_reducible refine Lim.bind ?_ (fun _ => ?_))
theorem laws_FnExactPlaceMembers.j1g.eq (x0 : List Int) (x1 : List Bool) (x2 : Int) (x7 : List Int) (x8 : Bool) (x11 : List Int) (x81 : Bool) : laws_FnExactPlaceMembers.j1g x0 x1 x2 x7 x8 x11 x81 = if x81 = true then (some false) else ((laws_markIntS.g x11 1).bind fun bt182 => ((laws_heldIntS.g bt182.2 1).bind fun t184 => (if t184 < 0 then (some false) else (if t184 = bt182.1 then ((laws_toIntS.g x0).bind fun t185 => ((laws_toBoolS.g x1).bind fun t188 => ((impl_PlaceMembers.g t185 t188 x2).bind fun bt191 => ((laws_eqIntS.g bt191.1 x7).bind fun t195 => (if t195 = true then (laws_FnExactPlaceMembers.j2g bt182.2 bt182.1 (bt191.2 != x8)) else (laws_FnExactPlaceMembers.j2g bt182.2 bt182.1 true)))))) else (some false))))) := by
  refine Lim.step (fun _ => rfl) (laws_FnExactPlaceMembers.j1g.lim x0 x1 x2 x7 x8 x11 x81).mono ?_
  simp only [laws_FnExactPlaceMembers.j1]
  repeat' first | (with_reducible exact Lim.const _) | (with_reducible refine Lim.ite ?_ ?_) | exact impl_PlaceMembers.g.lim _ _ _ | exact laws_FnExactPlaceMembers.j2g.lim _ _ _ | exact laws_eqIntS.g.lim _ _ | exact laws_heldIntS.g.lim _ _ | exact laws_markIntS.g.lim _ _ | exact laws_toBoolS.g.lim _ | exact laws_toIntS.g.lim _ | (with_reducible refine Lim.bind ?_ (fun _ => ?_))
theorem laws_FnExactPlaceMembers.j2g.eq (x11 : List Int) (x14 : Int) (x110 : Bool) : laws_FnExactPlaceMembers.j2g x11 x14 x110 = if x110 = true then (some false) else ((laws_heldIntS.g x11 1).bind fun t196 => (if t196 < 0 then (some false) else (if t196 = x14 then (some true) else (some false)))) := by
  refine Lim.step (fun _ => rfl) (laws_FnExactPlaceMembers.j2g.lim x11 x14 x110).mono ?_
  simp only [laws_FnExactPlaceMembers.j2]
  repeat' first | (with_reducible exact Lim.const _) | (with_reducible refine Lim.ite ?_ ?_) | exact laws_heldIntS.g.lim _ _ | (with_reducible refine Lim.bind ?_ (fun _ => ?_))
theorem laws_FnExactPlaceMembers.g.eq (l0 : List Int) (l1 : List Bool) (a2 : Int) : laws_FnExactPlaceMembers.g l0 l1 a2 = if (l0.length : Int) > 1048576 then (some true) else (if (l1.length : Int) > 1048576 then (some true) else ((laws_toIntS.g l0).bind fun t148 => ((laws_toBoolS.g l1).bind fun t151 => ((spec_PlaceMembers.g t148 t151 a2).bind fun bt154 => ((laws_toIntS.g l0).bind fun t158 => ((laws_toBoolS.g l1).bind fun t161 => ((impl_PlaceMembers.g t158 t161 a2).bind fun bt164 => ((laws_eqIntS.g bt164.1 bt154.1).bind fun t168 => (if t168 = true then (laws_FnExactPlaceMembers.j0g l0 l1 a2 bt154.1 bt154.2 t158 t161 bt164.1 bt164.2 (bt164.2 != bt154.2)) else (laws_FnExactPlaceMembers.j0g l0 l1 a2 bt154.1 bt154.2 t158 t161 bt164.1 bt164.2 true)))))))))) := by
  refine Lim.eq ?_
  unfold laws_FnExactPlaceMembers.f
  repeat' first | (with_reducible exact Lim.const _) | (with_reducible refine Lim.ite ?_ ?_) | exact impl_PlaceMembers.g.lim _ _ _ | exact laws_FnExactPlaceMembers.j0g.lim _ _ _ _ _ _ _ _ _ _ | exact laws_eqIntS.g.lim _ _ | exact laws_toBoolS.g.lim _ | exact laws_toIntS.g.lim _ | exact spec_PlaceMembers.g.lim _ _ _ | (with_reducible refine Lim.bind ?_ (fun _ => ?_))
end Go.Proofs.Ytnaloccjejmmfaa.FFnExactPlaceMembers
