/- The limits of the printed functions of FnExactSuspects, and their equations, by a program of this session (wip/gen/gen.py). No conditions. -/
import Derived.Test.YtnaloccjejmmfaaLim
import Derived.Test.YtnaloccjejmmfaaPFnExactSuspectsx
namespace Go.Proofs.Ytnaloccjejmmfaa.PFnExactSuspects
open Go.RowKit Go.Proofs.YtnaloccjejmmfaaW.PrintWords Go.Proofs.YtnaloccjejmmfaaW.PrintLast Go.Proofs.YtnaloccjejmmfaaW.PrintMore Go.Proofs.YtnaloccjejmmfaaL
set_option linter.unusedVariables false
noncomputable def laws_toIntS.l0g (x0 : List Int) (x3 : List Int) (x4 : Int) : Option (List Int) := lim fun k => laws_toIntS.l0 k x0 x3 x4
noncomputable def laws_toIntS.g (l0 : List Int) : Option (List Int) := lim fun k => laws_toIntS.f k l0
theorem laws_toIntS.l0g.lim (x0 : List Int) (x3 : List Int) (x4 : Int) : Lim (fun k => laws_toIntS.l0 k x0 x3 x4) (laws_toIntS.l0g x0 x3 x4) := Lim.of (fun k => (laws_toIntS.mono_l k) x0 x3 x4)
theorem laws_toIntS.g.lim (l0 : List Int) : Lim (fun k => laws_toIntS.f k l0) (laws_toIntS.g l0) := Lim.of (fun k => laws_toIntS.mono l0 k)
theorem laws_toIntS.l0g.eq (x0 : List Int) (x3 : List Int) (x4 : Int) : laws_toIntS.l0g x0 x3 x4 = if x4 < (x0.length : Int) then (if 0 ≤ x4 then (if x4 < (x3.length : Int) then (laws_toIntS.l0g x0 (x3.set (x4 : Int).toNat (rd x0 x4)) (wrap64 (x4 + 1))) else (none)) else (none)) else (some x3) := by
  refine Lim.step (fun _ => rfl) (laws_toIntS.l0g.lim x0 x3 x4).mono ?_
  simp only [laws_toIntS.l0]
  repeat' first | (with_reducible exact Lim.const _) | (with_reducible refine Lim.ite ?_ ?_) | exact laws_toIntS.l0g.lim _ _ _ | (with_reducible refine Lim.bind ?_ (fun _ => ?_))
theorem laws_toIntS.g.eq (l0 : List Int) : laws_toIntS.g l0 = if 0 ≤ (l0.length : Int) then (if ((l0.length : Int) : Int).toNat ≤ 35184372088832 then (laws_toIntS.l0g l0 (List.replicate ((l0.length : Int) : Int).toNat 0) 0) else (none)) else (none) := by
  refine Lim.eq ?_
  unfold laws_toIntS.f
  repeat' first | (with_reducible exact Lim.const _) | (with_reducible refine Lim.ite ?_ ?_) | exact laws_toIntS.l0g.lim _ _ _ | (with_reducible refine Lim.bind ?_ (fun _ => ?_))
noncomputable def laws_eqIntS.l0g (x0 : List Int) (x1 : List Int) (x5 : Int) : Option (Bool) := lim fun k => laws_eqIntS.l0 k x0 x1 x5
noncomputable def laws_eqIntS.g (l0 : List Int) (l1 : List Int) : Option (Bool) := lim fun k => laws_eqIntS.f k l0 l1
theorem laws_eqIntS.l0g.lim (x0 : List Int) (x1 : List Int) (x5 : Int) : Lim (fun k => laws_eqIntS.l0 k x0 x1 x5) (laws_eqIntS.l0g x0 x1 x5) := Lim.of (fun k => (laws_eqIntS.mono_l k) x0 x1 x5)
theorem laws_eqIntS.g.lim (l0 : List Int) (l1 : List Int) : Lim (fun k => laws_eqIntS.f k l0 l1) (laws_eqIntS.g l0 l1) := Lim.of (fun k => laws_eqIntS.mono l0 l1 k)
theorem laws_eqIntS.l0g.eq (x0 : List Int) (x1 : List Int) (x5 : Int) : laws_eqIntS.l0g x0 x1 x5 = if x5 < (x0.length : Int) then (if 0 ≤ x5 then (if x5 < (x1.length : Int) then (if (rd x0 x5) = (rd x1 x5) then (laws_eqIntS.l0g x0 x1 (wrap64 (x5 + 1))) else (some false)) else (none)) else (none)) else (some true) := by
  refine Lim.step (fun _ => rfl) (laws_eqIntS.l0g.lim x0 x1 x5).mono ?_
  simp only [laws_eqIntS.l0]
  repeat' first | (with_reducible exact Lim.const _) | (with_reducible refine Lim.ite ?_ ?_) | exact laws_eqIntS.l0g.lim _ _ _ | (with_reducible refine Lim.bind ?_ (fun _ => ?_))
theorem laws_eqIntS.g.eq (l0 : List Int) (l1 : List Int) : laws_eqIntS.g l0 l1 = if (l0.length : Int) = (l1.length : Int) then (laws_eqIntS.l0g l0 l1 0) else (some false) := by
  refine Lim.eq ?_
  unfold laws_eqIntS.f
  repeat' first | (with_reducible exact Lim.const _) | (with_reducible refine Lim.ite ?_ ?_) | exact laws_eqIntS.l0g.lim _ _ _ | (with_reducible refine Lim.bind ?_ (fun _ => ?_))
noncomputable def spec_BeatsValid.l0g (x0 : List Int) (x3 : Int) : Option (Bool) := lim fun k => spec_BeatsValid.l0 k x0 x3
noncomputable def spec_BeatsValid.g (l0 : List Int) : Option (Bool) := lim fun k => spec_BeatsValid.f k l0
theorem spec_BeatsValid.l0g.lim (x0 : List Int) (x3 : Int) : Lim (fun k => spec_BeatsValid.l0 k x0 x3) (spec_BeatsValid.l0g x0 x3) := Lim.of (fun k => (spec_BeatsValid.mono_l k) x0 x3)
theorem spec_BeatsValid.g.lim (l0 : List Int) : Lim (fun k => spec_BeatsValid.f k l0) (spec_BeatsValid.g l0) := Lim.of (fun k => spec_BeatsValid.mono l0 k)
theorem spec_BeatsValid.l0g.eq (x0 : List Int) (x3 : Int) : spec_BeatsValid.l0g x0 x3 = if x3 < 5 then (if 0 ≤ x3 then (if x3 < (x0.length : Int) then ((spec_l1In.f (rd x0 x3) 0 200).bind fun t109 => (if t109 = true then (spec_BeatsValid.l0g x0 (wrap64 (x3 + 1))) else (some false))) else (none)) else (none)) else (some true) := by
  refine Lim.step (fun _ => rfl) (spec_BeatsValid.l0g.lim x0 x3).mono ?_
  simp only [spec_BeatsValid.l0]
  repeat' first | (with_reducible exact Lim.const _) | (with_reducible refine Lim.ite ?_ ?_) | exact spec_BeatsValid.l0g.lim _ _ | (with_reducible refine Lim.bind ?_ (fun _ => ?_))
theorem spec_BeatsValid.g.eq (l0 : List Int) : spec_BeatsValid.g l0 = if (l0.length : Int) = 5 then (spec_BeatsValid.l0g l0 0) else (some false) := by
  refine Lim.eq ?_
  unfold spec_BeatsValid.f
  repeat' first | (with_reducible exact Lim.const _) | (with_reducible refine Lim.ite ?_ ?_) | exact spec_BeatsValid.l0g.lim _ _ | (with_reducible refine Lim.bind ?_ (fun _ => ?_))
noncomputable def spec_Suspects.j0g (x0 : List Int) (x1 : Int) (x2 : Int) (x7 : List Int) (x22 : Bool) : Option (List Int) := lim fun k => spec_Suspects.j0 k x0 x1 x2 x7 x22
noncomputable def spec_Suspects.l0g (x0 : List Int) (x1 : Int) (x2 : Int) (x7 : List Int) (x8 : Int) : Option (List Int) := lim fun k => spec_Suspects.l0 k x0 x1 x2 x7 x8
noncomputable def spec_Suspects.g (l0 : List Int) (a1 : Int) (a2 : Int) : Option (List Int) := lim fun k => spec_Suspects.f k l0 a1 a2
theorem spec_Suspects.j0g.lim (x0 : List Int) (x1 : Int) (x2 : Int) (x7 : List Int) (x22 : Bool) : Lim (fun k => spec_Suspects.j0 k x0 x1 x2 x7 x22) (spec_Suspects.j0g x0 x1 x2 x7 x22) := Lim.of (fun k => (spec_Suspects.mono_l k).1 x0 x1 x2 x7 x22)
theorem spec_Suspects.l0g.lim (x0 : List Int) (x1 : Int) (x2 : Int) (x7 : List Int) (x8 : Int) : Lim (fun k => spec_Suspects.l0 k x0 x1 x2 x7 x8) (spec_Suspects.l0g x0 x1 x2 x7 x8) := Lim.of (fun k => (spec_Suspects.mono_l k).2 x0 x1 x2 x7 x8)
theorem spec_Suspects.g.lim (l0 : List Int) (a1 : Int) (a2 : Int) : Lim (fun k => spec_Suspects.f k l0 a1 a2) (spec_Suspects.g l0 a1 a2) := Lim.of (fun k => spec_Suspects.mono l0 a1 a2 k)
theorem spec_Suspects.j0g.eq (x0 : List Int) (x1 : Int) (x2 : Int) (x7 : List Int) (x22 : Bool) : spec_Suspects.j0g x0 x1 x2 x7 x22 = if x22 = true then (some x7) else (spec_Suspects.l0g x0 x1 x2 x7 0) := by
  refine Lim.step (fun _ => rfl) (spec_Suspects.j0g.lim x0 x1 x2 x7 x22).mono ?_
  simp only [spec_Suspects.j0]
  repeat' first | (with_reducible exact Lim.const _) | (with_reducible refine Lim.ite ?_ ?_) | exact spec_Suspects.l0g.lim _ _ _ _ _ | (with_reducible refine Lim.bind ?_ (fun _ => ?_))
theorem spec_Suspects.l0g.eq (x0 : List Int) (x1 : Int) (x2 : Int) (x7 : List Int) (x8 : Int) : spec_Suspects.l0g x0 x1 x2 x7 x8 = if x8 < 5 then (if 0 ≤ x8 then (if x8 < (x0.length : Int) then (if (wrap64 (x1 - (rd x0 x8))) > x2 then (if x7.length < 17592186044416 then (spec_Suspects.l0g x0 x1 x2 (x7 ++ [x8]) (wrap64 (x8 + 1))) else (none)) else (spec_Suspects.l0g x0 x1 x2 x7 (wrap64 (x8 + 1)))) else (none)) else (none)) else (some x7) := by
  refine Lim.step (fun _ => rfl) (spec_Suspects.l0g.lim x0 x1 x2 x7 x8).mono ?_
  simp only [spec_Suspects.l0]
  repeat' first | (with_reducible exact Lim.const _) | (with_reducible refine Lim.ite ?_ ?_) | exact spec_Suspects.l0g.lim _ _ _ _ _ | (with_reducible refine Lim.bind ?_ (fun _ => ?_))
theorem spec_Suspects.g.eq (l0 : List Int) (a1 : Int) (a2 : Int) : spec_Suspects.g l0 a1 a2 = (some (([] : List Int) : List Int)).bind fun y110 => ((spec_BeatsValid.g l0).bind fun t113 => (if t113 = true then ((spec_l1In.f a1 0 200).bind fun t114 => (if t114 = true then ((spec_l1In.f a2 0 200).bind fun t115 => (spec_Suspects.j0g l0 a1 a2 y110 (!t115))) else (spec_Suspects.j0g l0 a1 a2 y110 true))) else (spec_Suspects.j0g l0 a1 a2 y110 true))) := by
  refine Lim.eq ?_
  unfold spec_Suspects.f
  repeat' first | (with_reducible exact Lim.const _) | (with_reducible refine Lim.ite ?_ ?_) | exact spec_BeatsValid.g.lim _ | exact spec_Suspects.j0g.lim _ _ _ _ _ | (with_reducible refine Lim.bind ?_ (fun _ => ?_))
noncomputable def impl_BeatsValid.l0g (x8 : List Int) (x9 : Int) (x10 : Int) : Option (Bool) := lim fun k => impl_BeatsValid.l0 k x8 x9 x10
noncomputable def impl_BeatsValid.g (l0 : List Int) : Option (Bool) := lim fun k => impl_BeatsValid.f k l0
theorem impl_BeatsValid.l0g.lim (x8 : List Int) (x9 : Int) (x10 : Int) : Lim (fun k => impl_BeatsValid.l0 k x8 x9 x10) (impl_BeatsValid.l0g x8 x9 x10) := Lim.of (fun k => (impl_BeatsValid.mono_l k) x8 x9 x10)
theorem impl_BeatsValid.g.lim (l0 : List Int) : Lim (fun k => impl_BeatsValid.f k l0) (impl_BeatsValid.g l0) := Lim.of (fun k => impl_BeatsValid.mono l0 k)
theorem impl_BeatsValid.l0g.eq (x8 : List Int) (x9 : Int) (x10 : Int) : impl_BeatsValid.l0g x8 x9 x10 = if x10 < x9 then (if 0 ≤ x10 then (if x10 < (x8.length : Int) then ((impl_timeValid.f (rd x8 x10)).bind fun t121 => (if t121 = true then (impl_BeatsValid.l0g x8 x9 (wrap64 (x10 + 1))) else (some false))) else (none)) else (none)) else (some true) := by
  refine Lim.step (fun _ => rfl) (impl_BeatsValid.l0g.lim x8 x9 x10).mono ?_
  simp only [impl_BeatsValid.l0]
  repeat' first | (with_reducible exact Lim.const _) | (with_reducible refine Lim.ite ?_ ?_) | exact impl_BeatsValid.l0g.lim _ _ _ | (with_reducible refine Lim.bind ?_ (fun _ => ?_))
theorem impl_BeatsValid.g.eq (l0 : List Int) : impl_BeatsValid.g l0 = if (l0.length : Int) = 5 then (impl_BeatsValid.l0g l0 (l0.length : Int) 0) else (some false) := by
  refine Lim.eq ?_
  unfold impl_BeatsValid.f
  repeat' first | (with_reducible exact Lim.const _) | (with_reducible refine Lim.ite ?_ ?_) | exact impl_BeatsValid.l0g.lim _ _ _ | (with_reducible refine Lim.bind ?_ (fun _ => ?_))
noncomputable def impl_Suspects.j0g (x0 : List Int) (x1 : Int) (x2 : Int) (x22 : Bool) : Option (List Int) := lim fun k => impl_Suspects.j0 k x0 x1 x2 x22
noncomputable def impl_Suspects.l0g (x1 : Int) (x2 : Int) (x7 : List Int) (x23 : List Int) (x24 : Int) (x25 : Int) : Option (List Int) := lim fun k => impl_Suspects.l0 k x1 x2 x7 x23 x24 x25
noncomputable def impl_Suspects.g (l0 : List Int) (a1 : Int) (a2 : Int) : Option (List Int) := lim fun k => impl_Suspects.f k l0 a1 a2
theorem impl_Suspects.j0g.lim (x0 : List Int) (x1 : Int) (x2 : Int) (x22 : Bool) : Lim (fun k => impl_Suspects.j0 k x0 x1 x2 x22) (impl_Suspects.j0g x0 x1 x2 x22) := Lim.of (fun k => (impl_Suspects.mono_l k).1 x0 x1 x2 x22)
theorem impl_Suspects.l0g.lim (x1 : Int) (x2 : Int) (x7 : List Int) (x23 : List Int) (x24 : Int) (x25 : Int) : Lim (fun k => impl_Suspects.l0 k x1 x2 x7 x23 x24 x25) (impl_Suspects.l0g x1 x2 x7 x23 x24 x25) := Lim.of (fun k => (impl_Suspects.mono_l k).2 x1 x2 x7 x23 x24 x25)
theorem impl_Suspects.g.lim (l0 : List Int) (a1 : Int) (a2 : Int) : Lim (fun k => impl_Suspects.f k l0 a1 a2) (impl_Suspects.g l0 a1 a2) := Lim.of (fun k => impl_Suspects.mono l0 a1 a2 k)
theorem impl_Suspects.j0g.eq (x0 : List Int) (x1 : Int) (x2 : Int) (x22 : Bool) : impl_Suspects.j0g x0 x1 x2 x22 = if x22 = true then (some ([] : List Int)) else (impl_Suspects.l0g x1 x2 ([] : List Int) x0 (x0.length : Int) 0) := by
  refine Lim.step (fun _ => rfl) (impl_Suspects.j0g.lim x0 x1 x2 x22).mono ?_
  simp only [impl_Suspects.j0]
  repeat' first | (with_reducible exact Lim.const _) | (with_reducible refine Lim.ite ?_ ?_) | exact impl_Suspects.l0g.lim _ _ _ _ _ _ | (with_reducible refine Lim.bind ?_ (fun _ => ?_))
theorem impl_Suspects.l0g.eq (x1 : Int) (x2 : Int) (x7 : List Int) (x23 : List Int) (x24 : Int) (x25 : Int) : impl_Suspects.l0g x1 x2 x7 x23 x24 x25 = if x25 < x24 then (if 0 ≤ x25 then (if x25 < (x23.length : Int) then (if (wrap64 (x1 - (rd x23 x25))) > x2 then (if x7.length < 17592186044416 then (impl_Suspects.l0g x1 x2 (x7 ++ [x25]) x23 x24 (wrap64 (x25 + 1))) else (none)) else (impl_Suspects.l0g x1 x2 x7 x23 x24 (wrap64 (x25 + 1)))) else (none)) else (none)) else (some x7) := by
  refine Lim.step (fun _ => rfl) (impl_Suspects.l0g.lim x1 x2 x7 x23 x24 x25).mono ?_
  simp only [impl_Suspects.l0]
  repeat' first | (with_reducible exact Lim.const _) | (with_reducible refine Lim.ite ?_ ?_) | exact impl_Suspects.l0g.lim _ _ _ _ _ _ | (with_reducible refine Lim.bind ?_ (fun _ => ?_))
theorem impl_Suspects.g.eq (l0 : List Int) (a1 : Int) (a2 : Int) : impl_Suspects.g l0 a1 a2 = (impl_BeatsValid.g l0).bind fun t122 => (if t122 = true then ((impl_timeValid.f a1).bind fun t123 => (if t123 = true then ((impl_timeValid.f a2).bind fun t124 => (impl_Suspects.j0g l0 a1 a2 (!t124))) else (impl_Suspects.j0g l0 a1 a2 true))) else (impl_Suspects.j0g l0 a1 a2 true)) := by
  refine Lim.eq ?_
  unfold impl_Suspects.f
  repeat' first | (with_reducible exact Lim.const _) | (with_reducible refine Lim.ite ?_ ?_) | exact impl_BeatsValid.g.lim _ | exact impl_Suspects.j0g.lim _ _ _ _ | (with_reducible refine Lim.bind ?_ (fun _ => ?_))
noncomputable def laws_markIntS.l0g (x0 : List Int) (x1 : Int) (x5 : Int) : Option (Int × List Int) := lim fun k => laws_markIntS.l0 k x0 x1 x5
noncomputable def laws_markIntS.g (l0 : List Int) (a1 : Int) : Option (Int × List Int) := lim fun k => laws_markIntS.f k l0 a1
theorem laws_markIntS.l0g.lim (x0 : List Int) (x1 : Int) (x5 : Int) : Lim (fun k => laws_markIntS.l0 k x0 x1 x5) (laws_markIntS.l0g x0 x1 x5) := Lim.of (fun k => (laws_markIntS.mono_l k) x0 x1 x5)
theorem laws_markIntS.g.lim (l0 : List Int) (a1 : Int) : Lim (fun k => laws_markIntS.f k l0 a1) (laws_markIntS.g l0 a1) := Lim.of (fun k => laws_markIntS.mono l0 a1 k)
theorem laws_markIntS.l0g.eq (x0 : List Int) (x1 : Int) (x5 : Int) : laws_markIntS.l0g x0 x1 x5 = if x5 < (x0.length : Int) then (if 0 ≤ x5 then (laws_markIntS.l0g (x0.set (x5 : Int).toNat x1) (wrap64 (x1 + 1)) (wrap64 (x5 + 1))) else (none)) else (some (x1, x0)) := by
  refine Lim.step (fun _ => rfl) (laws_markIntS.l0g.lim x0 x1 x5).mono ?_
  simp only [laws_markIntS.l0]
  repeat' first | (with_reducible exact Lim.const _) | (with_reducible refine Lim.ite ?_ ?_) | exact laws_markIntS.l0g.lim _ _ _ | (with_reducible refine Lim.bind ?_ (fun _ => ?_))
theorem laws_markIntS.g.eq (l0 : List Int) (a1 : Int) : laws_markIntS.g l0 a1 = laws_markIntS.l0g l0 a1 0 := by
  refine Lim.eq ?_
  unfold laws_markIntS.f
  repeat' first | (with_reducible exact Lim.const _) | (with_reducible refine Lim.ite ?_ ?_) | exact laws_markIntS.l0g.lim _ _ _ | (with_reducible refine Lim.bind ?_ (fun _ => ?_))
noncomputable def laws_heldIntS.l0g (x0 : List Int) (x1 : Int) (x5 : Int) : Option (Int) := lim fun k => laws_heldIntS.l0 k x0 x1 x5
noncomputable def laws_heldIntS.g (l0 : List Int) (a1 : Int) : Option (Int) := lim fun k => laws_heldIntS.f k l0 a1
theorem laws_heldIntS.l0g.lim (x0 : List Int) (x1 : Int) (x5 : Int) : Lim (fun k => laws_heldIntS.l0 k x0 x1 x5) (laws_heldIntS.l0g x0 x1 x5) := Lim.of (fun k => (laws_heldIntS.mono_l k) x0 x1 x5)
theorem laws_heldIntS.g.lim (l0 : List Int) (a1 : Int) : Lim (fun k => laws_heldIntS.f k l0 a1) (laws_heldIntS.g l0 a1) := Lim.of (fun k => laws_heldIntS.mono l0 a1 k)
theorem laws_heldIntS.l0g.eq (x0 : List Int) (x1 : Int) (x5 : Int) : laws_heldIntS.l0g x0 x1 x5 = if x5 < (x0.length : Int) then (if 0 ≤ x5 then (if (rd x0 x5) = x1 then (laws_heldIntS.l0g x0 (wrap64 (x1 + 1)) (wrap64 (x5 + 1))) else (some (-1))) else (none)) else (some x1) := by
  refine Lim.step (fun _ => rfl) (laws_heldIntS.l0g.lim x0 x1 x5).mono ?_
  simp only [laws_heldIntS.l0]
  repeat' first | (with_reducible exact Lim.const _) | (with_reducible refine Lim.ite ?_ ?_) | exact laws_heldIntS.l0g.lim _ _ _ | (with_reducible refine Lim.bind ?_ (fun _ => ?_))
theorem laws_heldIntS.g.eq (l0 : List Int) (a1 : Int) : laws_heldIntS.g l0 a1 = laws_heldIntS.l0g l0 a1 0 := by
  refine Lim.eq ?_
  unfold laws_heldIntS.f
  repeat' first | (with_reducible exact Lim.const _) | (with_reducible refine Lim.ite ?_ ?_) | exact laws_heldIntS.l0g.lim _ _ _ | (with_reducible refine Lim.bind ?_ (fun _ => ?_))
noncomputable def laws_FnExactSuspects.j0g (x0 : List Int) (x1 : Int) (x2 : Int) (x7 : List Int) (x9 : List Int) (x47 : Bool) : Option (Bool) := lim fun k => laws_FnExactSuspects.j0 k x0 x1 x2 x7 x9 x47
noncomputable def laws_FnExactSuspects.g (l0 : List Int) (a1 : Int) (a2 : Int) : Option (Bool) := lim fun k => laws_FnExactSuspects.f k l0 a1 a2
theorem laws_FnExactSuspects.j0g.lim (x0 : List Int) (x1 : Int) (x2 : Int) (x7 : List Int) (x9 : List Int) (x47 : Bool) : Lim (fun k => laws_FnExactSuspects.j0 k x0 x1 x2 x7 x9 x47) (laws_FnExactSuspects.j0g x0 x1 x2 x7 x9 x47) := Lim.of (fun k => (laws_FnExactSuspects.mono_l k) x0 x1 x2 x7 x9 x47)
theorem laws_FnExactSuspects.g.lim (l0 : List Int) (a1 : Int) (a2 : Int) : Lim (fun k => laws_FnExactSuspects.f k l0 a1 a2) (laws_FnExactSuspects.g l0 a1 a2) := Lim.of (fun k => laws_FnExactSuspects.mono l0 a1 a2 k)
theorem laws_FnExactSuspects.j0g.eq (x0 : List Int) (x1 : Int) (x2 : Int) (x7 : List Int) (x9 : List Int) (x47 : Bool) : laws_FnExactSuspects.j0g x0 x1 x2 x7 x9 x47 = if x47 = true then (some false) else ((laws_markIntS.g x9 1).bind fun bt151 => ((laws_heldIntS.g bt151.2 1).bind fun t153 => (if t153 < 0 then (some false) else (if t153 = bt151.1 then ((laws_toIntS.g x0).bind fun t154 => ((impl_Suspects.g t154 x1 x2).bind fun t157 => ((laws_eqIntS.g t157 x7).bind fun t160 => (if t160 = true then ((laws_heldIntS.g bt151.2 1).bind fun t161 => (if t161 < 0 then (some false) else (if t161 = bt151.1 then (some true) else (some false)))) else (some false))))) else (some false))))) := by
  refine Lim.step (fun _ => rfl) (laws_FnExactSuspects.j0g.lim x0 x1 x2 x7 x9 x47).mono ?_
  simp only [laws_FnExactSuspects.j0]
  repeat' first | (with_reducible exact Lim.const _) | (with_reducible refine Lim.ite ?_ ?_) | exact impl_Suspects.g.lim _ _ _ | exact laws_eqIntS.g.lim _ _ | exact laws_heldIntS.g.lim _ _ | exact laws_markIntS.g.lim _ _ | exact laws_toIntS.g.lim _ | (with_reducible refine Lim.bind ?_ (fun _ => ?_))
theorem laws_FnExactSuspects.g.eq (l0 : List Int) (a1 : Int) (a2 : Int) : laws_FnExactSuspects.g l0 a1 a2 = if (l0.length : Int) > 1048576 then (some true) else ((laws_toIntS.g l0).bind fun t131 => ((spec_Suspects.g t131 a1 a2).bind fun t134 => ((laws_toIntS.g l0).bind fun t137 => ((impl_Suspects.g t137 a1 a2).bind fun t140 => ((laws_eqIntS.g t140 t134).bind fun t143 => (if t143 = true then ((laws_toIntS.g l0).bind fun t144 => ((laws_eqIntS.g t137 t144).bind fun t147 => (if t147 = true then ((laws_markIntS.g t137 1).bind fun bt148 => (if bt148.1 < 0 then (laws_FnExactSuspects.j0g l0 a1 a2 t134 t140 true) else ((laws_eqIntS.g t140 t134).bind fun t150 => (laws_FnExactSuspects.j0g l0 a1 a2 t134 t140 (!t150))))) else (some false)))) else (some false))))))) := by
  refine Lim.eq ?_
  unfold laws_FnExactSuspects.f
  repeat' first | (with_reducible exact Lim.const _) | (with_reducible refine Lim.ite ?_ ?_) | exact impl_Suspects.g.lim _ _ _ | exact laws_FnExactSuspects.j0g.lim _ _ _ _ _ _ | exact laws_eqIntS.g.lim _ _ | exact laws_markIntS.g.lim _ _ | exact laws_toIntS.g.lim _ | exact spec_Suspects.g.lim _ _ _ | (with_reducible refine Lim.bind ?_ (fun _ => ?_))
end Go.Proofs.Ytnaloccjejmmfaa.PFnExactSuspects
