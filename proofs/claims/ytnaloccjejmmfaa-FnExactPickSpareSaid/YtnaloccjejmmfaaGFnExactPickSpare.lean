/- The limits of the printed functions of FnExactPickSpare, and their equations, by a program of this session (wip/gen/gen.py). No conditions. -/
import Derived.Test.YtnaloccjejmmfaaLim
import Derived.Test.YtnaloccjejmmfaaFFnExactPickSparex
namespace Go.Proofs.Ytnaloccjejmmfaa.FFnExactPickSpare
open Go.RowKit Go.Proofs.YtnaloccjejmmfaaW.PrintWords Go.Proofs.YtnaloccjejmmfaaW.PrintLast Go.Proofs.YtnaloccjejmmfaaW.PrintMore Go.Proofs.YtnaloccjejmmfaaL
set_option linter.unusedVariables false
noncomputable def laws_toIntS.l0g (x0 : List Int) (x3 : List Int) (x4 : Int) : Option (List Int) := lim fun k => laws_toIntS.l0 k x0 x3 x4
noncomputable def laws_toIntS.g (l0 : List Int) : Option (List Int) := lim fun k => laws_toIntS.f k l0
theorem laws_toIntS.l0g.lim (x0 : List Int) (x3 : List Int) (x4 : Int) : Lim (fun k => laws_toIntS.l0 k x0 x3 x4) (laws_toIntS.l0g x0 x3 x4) := Lim.of (fun k => (laws_toIntS.mono_l k) x0 x3 x4)
theorem laws_toIntS.g.lim (l0 : List Int) : Lim (fun k => laws_toIntS.f k l0) (laws_toIntS.g l0) := Lim.of (fun k => laws_toIntS.mono l0 k)
theorem laws_toIntS.l0g.eq (x0 : List Int) (x3 : List Int) (x4 : Int) : laws_toIntS.l0g x0 x3 x4 = if x4 < (x0.length : Int) then (if 0 ≤ x4 then (if x4 < (x3.length : Int) then (laws_toIntS.l0g x0 (x3.set (x4 : Int).toNat (rd x0 x4)) (wrap64 (x4 + 1))) else (none)) else (none)) else (some x3) := by
  refine Lim.step (fun _ => rfl) (laws_toIntS.l0g.lim x0 x3 x4).mono ?_
  simp only [laws_toIntS.l0]
  repeat' first | (with_reducible exact Lim.const _) | (with_reducible refine Lim.ite ?_ ?_) | exact laws_toIntS.l0g.lim _ _ _ | (with_reducible refine Lim.bind ?_ (fun _ => ?_))
theorem laws_toIntS.g.eq (l0 : List Int) : laws_toIntS.g l0 = if 0 ≤ (l0.length : Int) then (if ((l0.length : Int) : Int).toNat ≤ 35184372088832 then (laws_toIntS.l0g l0 (List.replicate ((l0.length : Int) : Int).toNat 0) 0) else (none)) else (none) := by
  refine Lim.eq ?_
  unfold laws_toIntS.f
  repeat' first | (with_reducible exact Lim.const _) | (with_reducible refine Lim.ite ?_ ?_) | exact laws_toIntS.l0g.lim _ _ _ | (with_reducible refine Lim.bind ?_ (fun _ => ?_))
noncomputable def laws_eqIntS.l0g (x0 : List Int) (x1 : List Int) (x5 : Int) : Option (Bool) := lim fun k => laws_eqIntS.l0 k x0 x1 x5
noncomputable def laws_eqIntS.g (l0 : List Int) (l1 : List Int) : Option (Bool) := lim fun k => laws_eqIntS.f k l0 l1
theorem laws_eqIntS.l0g.lim (x0 : List Int) (x1 : List Int) (x5 : Int) : Lim (fun k => laws_eqIntS.l0 k x0 x1 x5) (laws_eqIntS.l0g x0 x1 x5) := Lim.of (fun k => (laws_eqIntS.mono_l k) x0 x1 x5)
theorem laws_eqIntS.g.lim (l0 : List Int) (l1 : List Int) : Lim (fun k => laws_eqIntS.f k l0 l1) (laws_eqIntS.g l0 l1) := Lim.of (fun k => laws_eqIntS.mono l0 l1 k)
theorem laws_eqIntS.l0g.eq (x0 : List Int) (x1 : List Int) (x5 : Int) : laws_eqIntS.l0g x0 x1 x5 = if x5 < (x0.length : Int) then (if 0 ≤ x5 then (if x5 < (x1.length : Int) then (if (rd x0 x5) = (rd x1 x5) then (laws_eqIntS.l0g x0 x1 (wrap64 (x5 + 1))) else (some false)) else (none)) else (none)) else (some true) := by
  refine Lim.step (fun _ => rfl) (laws_eqIntS.l0g.lim x0 x1 x5).mono ?_
  simp only [laws_eqIntS.l0]
  repeat' first | (with_reducible exact Lim.const _) | (with_reducible refine Lim.ite ?_ ?_) | exact laws_eqIntS.l0g.lim _ _ _ | (with_reducible refine Lim.bind ?_ (fun _ => ?_))
theorem laws_eqIntS.g.eq (l0 : List Int) (l1 : List Int) : laws_eqIntS.g l0 l1 = if (l0.length : Int) = (l1.length : Int) then (laws_eqIntS.l0g l0 l1 0) else (some false) := by
  refine Lim.eq ?_
  unfold laws_eqIntS.f
  repeat' first | (with_reducible exact Lim.const _) | (with_reducible refine Lim.ite ?_ ?_) | exact laws_eqIntS.l0g.lim _ _ _ | (with_reducible refine Lim.bind ?_ (fun _ => ?_))
noncomputable def laws_toBoolS.l0g (x0 : List Bool) (x3 : List Bool) (x4 : Int) : Option (List Bool) := lim fun k => laws_toBoolS.l0 k x0 x3 x4
noncomputable def laws_toBoolS.g (l0 : List Bool) : Option (List Bool) := lim fun k => laws_toBoolS.f k l0
theorem laws_toBoolS.l0g.lim (x0 : List Bool) (x3 : List Bool) (x4 : Int) : Lim (fun k => laws_toBoolS.l0 k x0 x3 x4) (laws_toBoolS.l0g x0 x3 x4) := Lim.of (fun k => (laws_toBoolS.mono_l k) x0 x3 x4)
theorem laws_toBoolS.g.lim (l0 : List Bool) : Lim (fun k => laws_toBoolS.f k l0) (laws_toBoolS.g l0) := Lim.of (fun k => laws_toBoolS.mono l0 k)
theorem laws_toBoolS.l0g.eq (x0 : List Bool) (x3 : List Bool) (x4 : Int) : laws_toBoolS.l0g x0 x3 x4 = if x4 < (x0.length : Int) then (if 0 ≤ x4 then (if x4 < (x3.length : Int) then (laws_toBoolS.l0g x0 (x3.set (x4 : Int).toNat (rdOf false x0 x4)) (wrap64 (x4 + 1))) else (none)) else (none)) else (some x3) := by
  refine Lim.step (fun _ => rfl) (laws_toBoolS.l0g.lim x0 x3 x4).mono ?_
  simp only [laws_toBoolS.l0]
  repeat' first | (with_reducible exact Lim.const _) | (with_reducible refine Lim.ite ?_ ?_) | exact laws_toBoolS.l0g.lim _ _ _ | (with_reducible refine Lim.bind ?_ (fun _ => ?_))
theorem laws_toBoolS.g.eq (l0 : List Bool) : laws_toBoolS.g l0 = if 0 ≤ (l0.length : Int) then (if ((l0.length : Int) : Int).toNat ≤ 281474976710656 then (laws_toBoolS.l0g l0 (List.replicate ((l0.length : Int) : Int).toNat false) 0) else (none)) else (none) := by
  refine Lim.eq ?_
  unfold laws_toBoolS.f
  repeat' first | (with_reducible exact Lim.const _) | (with_reducible refine Lim.ite ?_ ?_) | exact laws_toBoolS.l0g.lim _ _ _ | (with_reducible refine Lim.bind ?_ (fun _ => ?_))
noncomputable def laws_eqBoolS.l0g (x0 : List Bool) (x1 : List Bool) (x5 : Int) : Option (Bool) := lim fun k => laws_eqBoolS.l0 k x0 x1 x5
noncomputable def laws_eqBoolS.g (l0 : List Bool) (l1 : List Bool) : Option (Bool) := lim fun k => laws_eqBoolS.f k l0 l1
theorem laws_eqBoolS.l0g.lim (x0 : List Bool) (x1 : List Bool) (x5 : Int) : Lim (fun k => laws_eqBoolS.l0 k x0 x1 x5) (laws_eqBoolS.l0g x0 x1 x5) := Lim.of (fun k => (laws_eqBoolS.mono_l k) x0 x1 x5)
theorem laws_eqBoolS.g.lim (l0 : List Bool) (l1 : List Bool) : Lim (fun k => laws_eqBoolS.f k l0 l1) (laws_eqBoolS.g l0 l1) := Lim.of (fun k => laws_eqBoolS.mono l0 l1 k)
theorem laws_eqBoolS.l0g.eq (x0 : List Bool) (x1 : List Bool) (x5 : Int) : laws_eqBoolS.l0g x0 x1 x5 = if x5 < (x0.length : Int) then (if 0 ≤ x5 then (if x5 < (x1.length : Int) then (if ((rdOf false x0 x5) != (rdOf false x1 x5)) = true then (some false) else (laws_eqBoolS.l0g x0 x1 (wrap64 (x5 + 1)))) else (none)) else (none)) else (some true) := by
  refine Lim.step (fun _ => rfl) (laws_eqBoolS.l0g.lim x0 x1 x5).mono ?_
  simp only [laws_eqBoolS.l0]
  repeat' first | (with_reducible exact Lim.const _) | (with_reducible refine Lim.ite ?_ ?_) | exact laws_eqBoolS.l0g.lim _ _ _ | (with_reducible refine Lim.bind ?_ (fun _ => ?_))
theorem laws_eqBoolS.g.eq (l0 : List Bool) (l1 : List Bool) : laws_eqBoolS.g l0 l1 = if (l0.length : Int) = (l1.length : Int) then (laws_eqBoolS.l0g l0 l1 0) else (some false) := by
  refine Lim.eq ?_
  unfold laws_eqBoolS.f
  repeat' first | (with_reducible exact Lim.const _) | (with_reducible refine Lim.ite ?_ ?_) | exact laws_eqBoolS.l0g.lim _ _ _ | (with_reducible refine Lim.bind ?_ (fun _ => ?_))
noncomputable def spec_ConfigValid.j0g (x25 : Bool) (x118000 : Int) (x118001 : List Int) (x118002 : Bool) : Option (Bool) := lim fun k => spec_ConfigValid.j0 k x25 x118000 x118001 x118002
noncomputable def spec_ConfigValid.l0g (x3 : Int) (x118000 : Int) (x118001 : List Int) (x118002 : Bool) : Option (Bool) := lim fun k => spec_ConfigValid.l0 k x3 x118000 x118001 x118002
noncomputable def spec_ConfigValid.l1g (x3 : Int) (x4 : Int) (x118000 : Int) (x118001 : List Int) (x118002 : Bool) : Option (Bool) := lim fun k => spec_ConfigValid.l1 k x3 x4 x118000 x118001 x118002
noncomputable def spec_ConfigValid.g (a0_0 : Int) (l0_1 : List Int) (a0_2 : Bool) : Option (Bool) := lim fun k => spec_ConfigValid.f k a0_0 l0_1 a0_2
theorem spec_ConfigValid.j0g.lim (x25 : Bool) (x118000 : Int) (x118001 : List Int) (x118002 : Bool) : Lim (fun k => spec_ConfigValid.j0 k x25 x118000 x118001 x118002) (spec_ConfigValid.j0g x25 x118000 x118001 x118002) := Lim.of (fun k => (spec_ConfigValid.mono_l k).1 x25 x118000 x118001 x118002)
theorem spec_ConfigValid.l0g.lim (x3 : Int) (x118000 : Int) (x118001 : List Int) (x118002 : Bool) : Lim (fun k => spec_ConfigValid.l0 k x3 x118000 x118001 x118002) (spec_ConfigValid.l0g x3 x118000 x118001 x118002) := Lim.of (fun k => (spec_ConfigValid.mono_l k).2.1 x3 x118000 x118001 x118002)
theorem spec_ConfigValid.l1g.lim (x3 : Int) (x4 : Int) (x118000 : Int) (x118001 : List Int) (x118002 : Bool) : Lim (fun k => spec_ConfigValid.l1 k x3 x4 x118000 x118001 x118002) (spec_ConfigValid.l1g x3 x4 x118000 x118001 x118002) := Lim.of (fun k => (spec_ConfigValid.mono_l k).2.2 x3 x4 x118000 x118001 x118002)
theorem spec_ConfigValid.g.lim (a0_0 : Int) (l0_1 : List Int) (a0_2 : Bool) : Lim (fun k => spec_ConfigValid.f k a0_0 l0_1 a0_2) (spec_ConfigValid.g a0_0 l0_1 a0_2) := Lim.of (fun k => spec_ConfigValid.mono a0_0 l0_1 a0_2 k)
theorem spec_ConfigValid.j0g.eq (x25 : Bool) (x118000 : Int) (x118001 : List Int) (x118002 : Bool) : spec_ConfigValid.j0g x25 x118000 x118001 x118002 = if x25 = true then (some false) else (spec_ConfigValid.l0g 0 x118000 x118001 x118002) := by
  refine Lim.step (fun _ => rfl) (spec_ConfigValid.j0g.lim x25 x118000 x118001 x118002).mono ?_
  simp only [spec_ConfigValid.j0]
  repeat' first | (with_reducible exact Lim.const _) | (with_reducible refine Lim.ite ?_ ?_) | exact spec_ConfigValid.l0g.lim _ _ _ _ | (with_reducible refine Lim.bind ?_ (fun _ => ?_))
theorem spec_ConfigValid.l0g.eq (x3 : Int) (x118000 : Int) (x118001 : List Int) (x118002 : Bool) : spec_ConfigValid.l0g x3 x118000 x118001 x118002 = if x3 < (x118001.length : Int) then (if 0 ≤ x3 then ((spec_l1In.f (rd x118001 x3) 0 4).bind fun t121 => (if t121 = true then (spec_ConfigValid.l1g x3 0 x118000 x118001 x118002) else (some false))) else (none)) else (some true) := by
  refine Lim.step (fun _ => rfl) (spec_ConfigValid.l0g.lim x3 x118000 x118001 x118002).mono ?_
  simp only [spec_ConfigValid.l0]
  repeat' first | (with_reducible exact Lim.const _) | (with_reducible refine Lim.ite ?_ ?_) | exact spec_ConfigValid.l1g.lim _ _ _ _ _ | (with_reducible refine Lim.bind ?_ (fun _ => ?_))
theorem spec_ConfigValid.l1g.eq (x3 : Int) (x4 : Int) (x118000 : Int) (x118001 : List Int) (x118002 : Bool) : spec_ConfigValid.l1g x3 x4 x118000 x118001 x118002 = if x4 < x3 then (if 0 ≤ x4 then (if x4 < (x118001.length : Int) then (if 0 ≤ x3 then (if x3 < (x118001.length : Int) then (if (rd x118001 x4) = (rd x118001 x3) then (some false) else (spec_ConfigValid.l1g x3 (wrap64 (x4 + 1)) x118000 x118001 x118002)) else (none)) else (none)) else (none)) else (none)) else (spec_ConfigValid.l0g (wrap64 (x3 + 1)) x118000 x118001 x118002) := by
  refine Lim.step (fun _ => rfl) (spec_ConfigValid.l1g.lim x3 x4 x118000 x118001 x118002).mono ?_
  simp only [spec_ConfigValid.l1]
  repeat' first | (with_reducible exact Lim.const _) | (with_reducible refine Lim.ite ?_ ?_) | exact spec_ConfigValid.l0g.lim _ _ _ _ | exact spec_ConfigValid.l1g.lim _ _ _ _ _ | (with_reducible refine Lim.bind ?_ (fun _ => ?_))
theorem spec_ConfigValid.g.eq (a0_0 : Int) (l0_1 : List Int) (a0_2 : Bool) : spec_ConfigValid.g a0_0 l0_1 a0_2 = (spec_l1In.f a0_0 1 60).bind fun t118 => (if t118 = true then ((spec_l1In.f (l0_1.length : Int) 1 4).bind fun t119 => (if t119 = true then (if a0_2 = true then (spec_ConfigValid.j0g (decide ((l0_1.length : Int) < 2)) a0_0 l0_1 a0_2) else (spec_ConfigValid.j0g false a0_0 l0_1 a0_2)) else (spec_ConfigValid.j0g true a0_0 l0_1 a0_2))) else (spec_ConfigValid.j0g true a0_0 l0_1 a0_2)) := by
  refine Lim.eq ?_
  unfold spec_ConfigValid.f
  repeat' first | (with_reducible exact Lim.const _) | (with_reducible refine Lim.ite ?_ ?_) | exact spec_ConfigValid.j0g.lim _ _ _ _ | (with_reducible refine Lim.bind ?_ (fun _ => ?_))
noncomputable def spec_l16Index.l0g (x1 : Int) (x5 : Int) (x125000 : Int) (x125001 : List Int) (x125002 : Bool) : Option (Int) := lim fun k => spec_l16Index.l0 k x1 x5 x125000 x125001 x125002
noncomputable def spec_l16Index.g (a0_0 : Int) (l0_1 : List Int) (a0_2 : Bool) (a1 : Int) : Option (Int) := lim fun k => spec_l16Index.f k a0_0 l0_1 a0_2 a1
theorem spec_l16Index.l0g.lim (x1 : Int) (x5 : Int) (x125000 : Int) (x125001 : List Int) (x125002 : Bool) : Lim (fun k => spec_l16Index.l0 k x1 x5 x125000 x125001 x125002) (spec_l16Index.l0g x1 x5 x125000 x125001 x125002) := Lim.of (fun k => (spec_l16Index.mono_l k) x1 x5 x125000 x125001 x125002)
theorem spec_l16Index.g.lim (a0_0 : Int) (l0_1 : List Int) (a0_2 : Bool) (a1 : Int) : Lim (fun k => spec_l16Index.f k a0_0 l0_1 a0_2 a1) (spec_l16Index.g a0_0 l0_1 a0_2 a1) := Lim.of (fun k => spec_l16Index.mono a0_0 l0_1 a0_2 a1 k)
theorem spec_l16Index.l0g.eq (x1 : Int) (x5 : Int) (x125000 : Int) (x125001 : List Int) (x125002 : Bool) : spec_l16Index.l0g x1 x5 x125000 x125001 x125002 = if x5 < (x125001.length : Int) then (if 0 ≤ x5 then (if (rd x125001 x5) = x1 then (some x5) else (spec_l16Index.l0g x1 (wrap64 (x5 + 1)) x125000 x125001 x125002)) else (none)) else (some (-1)) := by
  refine Lim.step (fun _ => rfl) (spec_l16Index.l0g.lim x1 x5 x125000 x125001 x125002).mono ?_
  simp only [spec_l16Index.l0]
  repeat' first | (with_reducible exact Lim.const _) | (with_reducible refine Lim.ite ?_ ?_) | exact spec_l16Index.l0g.lim _ _ _ _ _ | (with_reducible refine Lim.bind ?_ (fun _ => ?_))
theorem spec_l16Index.g.eq (a0_0 : Int) (l0_1 : List Int) (a0_2 : Bool) (a1 : Int) : spec_l16Index.g a0_0 l0_1 a0_2 a1 = spec_l16Index.l0g a1 0 a0_0 l0_1 a0_2 := by
  refine Lim.eq ?_
  unfold spec_l16Index.f
  repeat' first | (with_reducible exact Lim.const _) | (with_reducible refine Lim.ite ?_ ?_) | exact spec_l16Index.l0g.lim _ _ _ _ _ | (with_reducible refine Lim.bind ?_ (fun _ => ?_))
noncomputable def spec_PickSpare.j0g (x0 : List Int) (x1 : List Bool) (x21 : Bool) (x127000 : Int) (x127001 : List Int) (x127002 : Bool) : Option (Int) := lim fun k => spec_PickSpare.j0 k x0 x1 x21 x127000 x127001 x127002
noncomputable def spec_PickSpare.l0g (x0 : List Int) (x1 : List Bool) (x7 : Int) (x8 : Int) (x127000 : Int) (x127001 : List Int) (x127002 : Bool) : Option (Int) := lim fun k => spec_PickSpare.l0 k x0 x1 x7 x8 x127000 x127001 x127002
noncomputable def spec_PickSpare.g (l0 : List Int) (l1 : List Bool) (a2_0 : Int) (l2_1 : List Int) (a2_2 : Bool) : Option (Int) := lim fun k => spec_PickSpare.f k l0 l1 a2_0 l2_1 a2_2
theorem spec_PickSpare.j0g.lim (x0 : List Int) (x1 : List Bool) (x21 : Bool) (x127000 : Int) (x127001 : List Int) (x127002 : Bool) : Lim (fun k => spec_PickSpare.j0 k x0 x1 x21 x127000 x127001 x127002) (spec_PickSpare.j0g x0 x1 x21 x127000 x127001 x127002) := Lim.of (fun k => (spec_PickSpare.mono_l k).1 x0 x1 x21 x127000 x127001 x127002)
theorem spec_PickSpare.l0g.lim (x0 : List Int) (x1 : List Bool) (x7 : Int) (x8 : Int) (x127000 : Int) (x127001 : List Int) (x127002 : Bool) : Lim (fun k => spec_PickSpare.l0 k x0 x1 x7 x8 x127000 x127001 x127002) (spec_PickSpare.l0g x0 x1 x7 x8 x127000 x127001 x127002) := Lim.of (fun k => (spec_PickSpare.mono_l k).2 x0 x1 x7 x8 x127000 x127001 x127002)
theorem spec_PickSpare.g.lim (l0 : List Int) (l1 : List Bool) (a2_0 : Int) (l2_1 : List Int) (a2_2 : Bool) : Lim (fun k => spec_PickSpare.f k l0 l1 a2_0 l2_1 a2_2) (spec_PickSpare.g l0 l1 a2_0 l2_1 a2_2) := Lim.of (fun k => spec_PickSpare.mono l0 l1 a2_0 l2_1 a2_2 k)
theorem spec_PickSpare.j0g.eq (x0 : List Int) (x1 : List Bool) (x21 : Bool) (x127000 : Int) (x127001 : List Int) (x127002 : Bool) : spec_PickSpare.j0g x0 x1 x21 x127000 x127001 x127002 = if x21 = true then (some (-1)) else (spec_PickSpare.l0g x0 x1 (-1) 0 x127000 x127001 x127002) := by
  refine Lim.step (fun _ => rfl) (spec_PickSpare.j0g.lim x0 x1 x21 x127000 x127001 x127002).mono ?_
  simp only [spec_PickSpare.j0]
  repeat' first | (with_reducible exact Lim.const _) | (with_reducible refine Lim.ite ?_ ?_) | exact spec_PickSpare.l0g.lim _ _ _ _ _ _ _ | (with_reducible refine Lim.bind ?_ (fun _ => ?_))
theorem spec_PickSpare.l0g.eq (x0 : List Int) (x1 : List Bool) (x7 : Int) (x8 : Int) (x127000 : Int) (x127001 : List Int) (x127002 : Bool) : spec_PickSpare.l0g x0 x1 x7 x8 x127000 x127001 x127002 = if x8 < 5 then (if 0 ≤ x8 then (if x8 < (x1.length : Int) then (if rdOf false x1 x8 = true then ((spec_l16Index.g x127000 x127001 x127002 x8).bind fun t129 => (if t129 < 0 then (if x7 < 0 then (spec_PickSpare.l0g x0 x1 x8 (wrap64 (x8 + 1)) x127000 x127001 x127002) else (if x8 < (x0.length : Int) then (if 0 ≤ x7 then (if x7 < (x0.length : Int) then (if (rd x0 x8) < (rd x0 x7) then (spec_PickSpare.l0g x0 x1 x8 (wrap64 (x8 + 1)) x127000 x127001 x127002) else (spec_PickSpare.l0g x0 x1 x7 (wrap64 (x8 + 1)) x127000 x127001 x127002)) else (none)) else (none)) else (none))) else (spec_PickSpare.l0g x0 x1 x7 (wrap64 (x8 + 1)) x127000 x127001 x127002))) else (spec_PickSpare.l0g x0 x1 x7 (wrap64 (x8 + 1)) x127000 x127001 x127002)) else (none)) else (none)) else (some x7) := by
  refine Lim.step (fun _ => rfl) (spec_PickSpare.l0g.lim x0 x1 x7 x8 x127000 x127001 x127002).mono ?_
  simp only [spec_PickSpare.l0]
  repeat' first | (with_reducible exact Lim.const _) | (with_reducible refine Lim.ite ?_ ?_) | exact spec_PickSpare.l0g.lim _ _ _ _ _ _ _ | exact spec_l16Index.g.lim _ _ _ _ | (with_reducible refine Lim.bind ?_ (fun _ => ?_))
theorem spec_PickSpare.g.eq (l0 : List Int) (l1 : List Bool) (a2_0 : Int) (l2_1 : List Int) (a2_2 : Bool) : spec_PickSpare.g l0 l1 a2_0 l2_1 a2_2 = if (l0.length : Int) = 5 then (if (l1.length : Int) = 5 then ((spec_ConfigValid.g a2_0 l2_1 a2_2).bind fun t127 => (spec_PickSpare.j0g l0 l1 (!t127) a2_0 l2_1 a2_2)) else (spec_PickSpare.j0g l0 l1 true a2_0 l2_1 a2_2)) else (spec_PickSpare.j0g l0 l1 true a2_0 l2_1 a2_2) := by
  refine Lim.eq ?_
  unfold spec_PickSpare.f
  repeat' first | (with_reducible exact Lim.const _) | (with_reducible refine Lim.ite ?_ ?_) | exact spec_ConfigValid.g.lim _ _ _ | exact spec_PickSpare.j0g.lim _ _ _ _ _ _ | (with_reducible refine Lim.bind ?_ (fun _ => ?_))
noncomputable def laws_toConfig.g (a0_0 : Int) (l0_1 : List Int) (a0_2 : Bool) : Option (Int × List Int × Bool) := lim fun k => laws_toConfig.f k a0_0 l0_1 a0_2
theorem laws_toConfig.g.lim (a0_0 : Int) (l0_1 : List Int) (a0_2 : Bool) : Lim (fun k => laws_toConfig.f k a0_0 l0_1 a0_2) (laws_toConfig.g a0_0 l0_1 a0_2) := Lim.of (fun k => laws_toConfig.mono a0_0 l0_1 a0_2 k)
theorem laws_toConfig.g.eq (a0_0 : Int) (l0_1 : List Int) (a0_2 : Bool) : laws_toConfig.g a0_0 l0_1 a0_2 = (laws_toIntS.g l0_1).bind fun t135 => (some (a0_0, t135, a0_2)) := by
  refine Lim.eq ?_
  unfold laws_toConfig.f
  repeat' first | (with_reducible exact Lim.const _) | (with_reducible refine Lim.ite ?_ ?_) | exact laws_toIntS.g.lim _ | (with_reducible refine Lim.bind ?_ (fun _ => ?_))
noncomputable def slices_Index_int_int.l0g (x0 : List Int) (x1 : Int) (x7 : Int) (x8 : Int) : Option (Int) := lim fun k => slices_Index_int_int.l0 k x0 x1 x7 x8
noncomputable def slices_Index_int_int.g (l0 : List Int) (a1 : Int) : Option (Int) := lim fun k => slices_Index_int_int.f k l0 a1
theorem slices_Index_int_int.l0g.lim (x0 : List Int) (x1 : Int) (x7 : Int) (x8 : Int) : Lim (fun k => slices_Index_int_int.l0 k x0 x1 x7 x8) (slices_Index_int_int.l0g x0 x1 x7 x8) := Lim.of (fun k => (slices_Index_int_int.mono_l k) x0 x1 x7 x8)
theorem slices_Index_int_int.g.lim (l0 : List Int) (a1 : Int) : Lim (fun k => slices_Index_int_int.f k l0 a1) (slices_Index_int_int.g l0 a1) := Lim.of (fun k => slices_Index_int_int.mono l0 a1 k)
theorem slices_Index_int_int.l0g.eq (x0 : List Int) (x1 : Int) (x7 : Int) (x8 : Int) : slices_Index_int_int.l0g x0 x1 x7 x8 = if x8 < x7 then (if 0 ≤ x8 then (if x8 < (x0.length : Int) then (if x1 = (rd x0 x8) then (some x8) else (slices_Index_int_int.l0g x0 x1 x7 (wrap64 (x8 + 1)))) else (none)) else (none)) else (some (-1)) := by
  refine Lim.step (fun _ => rfl) (slices_Index_int_int.l0g.lim x0 x1 x7 x8).mono ?_
  simp only [slices_Index_int_int.l0]
  repeat' first | (with_reducible exact Lim.const _) | (with_reducible refine Lim.ite ?_ ?_) | exact slices_Index_int_int.l0g.lim _ _ _ _ | (with_reducible refine Lim.bind ?_ (fun _ => ?_))
theorem slices_Index_int_int.g.eq (l0 : List Int) (a1 : Int) : slices_Index_int_int.g l0 a1 = slices_Index_int_int.l0g l0 a1 (l0.length : Int) 0 := by
  refine Lim.eq ?_
  unfold slices_Index_int_int.f
  repeat' first | (with_reducible exact Lim.const _) | (with_reducible refine Lim.ite ?_ ?_) | exact slices_Index_int_int.l0g.lim _ _ _ _ | (with_reducible refine Lim.bind ?_ (fun _ => ?_))
noncomputable def slices_Contains_int_int.g (l0 : List Int) (a1 : Int) : Option (Bool) := lim fun k => slices_Contains_int_int.f k l0 a1
theorem slices_Contains_int_int.g.lim (l0 : List Int) (a1 : Int) : Lim (fun k => slices_Contains_int_int.f k l0 a1) (slices_Contains_int_int.g l0 a1) := Lim.of (fun k => slices_Contains_int_int.mono l0 a1 k)
theorem slices_Contains_int_int.g.eq (l0 : List Int) (a1 : Int) : slices_Contains_int_int.g l0 a1 = (slices_Index_int_int.g l0 a1).bind fun t139 => (some (decide (t139 ≥ 0))) := by
  refine Lim.eq ?_
  unfold slices_Contains_int_int.f
  repeat' first | (with_reducible exact Lim.const _) | (with_reducible refine Lim.ite ?_ ?_) | exact slices_Index_int_int.g.lim _ _ | (with_reducible refine Lim.bind ?_ (fun _ => ?_))
noncomputable def impl_leastLoad.l0g (x0 : List Int) (x1 : List Bool) (x2 : List Int) (x7 : Int) (x9 : Int) : Option (Int) := lim fun k => impl_leastLoad.l0 k x0 x1 x2 x7 x9
noncomputable def impl_leastLoad.j1g (x0 : List Int) (x1 : List Bool) (x2 : List Int) (x7 : Int) (x8 : Int) (x9 : Int) (x21 : Bool) : Option (Int) := lim fun k => impl_leastLoad.j1 k x0 x1 x2 x7 x8 x9 x21
noncomputable def impl_leastLoad.g (l0 : List Int) (l1 : List Bool) (l2 : List Int) : Option (Int) := lim fun k => impl_leastLoad.f k l0 l1 l2
theorem impl_leastLoad.l0g.lim (x0 : List Int) (x1 : List Bool) (x2 : List Int) (x7 : Int) (x9 : Int) : Lim (fun k => impl_leastLoad.l0 k x0 x1 x2 x7 x9) (impl_leastLoad.l0g x0 x1 x2 x7 x9) := Lim.of (fun k => (impl_leastLoad.mono_l k).1 x0 x1 x2 x7 x9)
theorem impl_leastLoad.j1g.lim (x0 : List Int) (x1 : List Bool) (x2 : List Int) (x7 : Int) (x8 : Int) (x9 : Int) (x21 : Bool) : Lim (fun k => impl_leastLoad.j1 k x0 x1 x2 x7 x8 x9 x21) (impl_leastLoad.j1g x0 x1 x2 x7 x8 x9 x21) := Lim.of (fun k => (impl_leastLoad.mono_l k).2 x0 x1 x2 x7 x8 x9 x21)
theorem impl_leastLoad.g.lim (l0 : List Int) (l1 : List Bool) (l2 : List Int) : Lim (fun k => impl_leastLoad.f k l0 l1 l2) (impl_leastLoad.g l0 l1 l2) := Lim.of (fun k => impl_leastLoad.mono l0 l1 l2 k)
theorem impl_leastLoad.l0g.eq (x0 : List Int) (x1 : List Bool) (x2 : List Int) (x7 : Int) (x9 : Int) : impl_leastLoad.l0g x0 x1 x2 x7 x9 = if x9 < 5 then (if 0 ≤ x9 then (if x9 < (x1.length : Int) then (if rdOf false x1 x9 = true then ((slices_Contains_int_int.g x2 x9).bind fun t141 => (impl_leastLoad.j1g x0 x1 x2 x7 x9 x9 t141)) else (impl_leastLoad.j1g x0 x1 x2 x7 x9 x9 true)) else (none)) else (none)) else (some x7) := by
  refine Lim.step (fun _ => rfl) (impl_leastLoad.l0g.lim x0 x1 x2 x7 x9).mono ?_
  simp only [impl_leastLoad.l0]
  repeat' first | (with_reducible exact Lim.const _) | (with_reducible refine Lim.ite ?_ ?_) | exact impl_leastLoad.j1g.lim _ _ _ _ _ _ _ | exact slices_Contains_int_int.g.lim _ _ | (with_reducible refine Lim.bind ?_ (fun _ => ?_))
theorem impl_leastLoad.j1g.eq (x0 : List Int) (x1 : List Bool) (x2 : List Int) (x7 : Int) (x8 : Int) (x9 : Int) (x21 : Bool) : impl_leastLoad.j1g x0 x1 x2 x7 x8 x9 x21 = if x21 = true then (impl_leastLoad.l0g x0 x1 x2 x7 (wrap64 (x9 + 1))) else (if x7 < 0 then (impl_leastLoad.l0g x0 x1 x2 x8 (wrap64 (x9 + 1))) else (if 0 ≤ x8 then (if x8 < (x0.length : Int) then (if 0 ≤ x7 then (if x7 < (x0.length : Int) then (if (rd x0 x8) < (rd x0 x7) then (impl_leastLoad.l0g x0 x1 x2 x8 (wrap64 (x9 + 1))) else (impl_leastLoad.l0g x0 x1 x2 x7 (wrap64 (x9 + 1)))) else (none)) else (none)) else (none)) else (none))) := by
  refine Lim.step (fun _ => rfl) (impl_leastLoad.j1g.lim x0 x1 x2 x7 x8 x9 x21).mono ?_
  simp only [impl_leastLoad.j1]
  repeat' first | (with_reducible exact Lim.const _) | (with_reducible refine Lim.ite ?_ ?_) | exact impl_leastLoad.l0g.lim _ _ _ _ _ | (with_reducible refine Lim.bind ?_ (fun _ => ?_))
theorem impl_leastLoad.g.eq (l0 : List Int) (l1 : List Bool) (l2 : List Int) : impl_leastLoad.g l0 l1 l2 = impl_leastLoad.l0g l0 l1 l2 (-1) 0 := by
  refine Lim.eq ?_
  unfold impl_leastLoad.f
  repeat' first | (with_reducible exact Lim.const _) | (with_reducible refine Lim.ite ?_ ?_) | exact impl_leastLoad.l0g.lim _ _ _ _ _ | (with_reducible refine Lim.bind ?_ (fun _ => ?_))
noncomputable def impl_ConfigValid.j0g (x32 : Bool) (x145000 : Int) (x145001 : List Int) (x145002 : Bool) : Option (Bool) := lim fun k => impl_ConfigValid.j0 k x32 x145000 x145001 x145002
noncomputable def impl_ConfigValid.l0g (x34 : List Int) (x35 : Int) (x36 : Int) (x145000 : Int) (x145001 : List Int) (x145002 : Bool) : Option (Bool) := lim fun k => impl_ConfigValid.l0 k x34 x35 x36 x145000 x145001 x145002
noncomputable def impl_ConfigValid.g (a0_0 : Int) (l0_1 : List Int) (a0_2 : Bool) : Option (Bool) := lim fun k => impl_ConfigValid.f k a0_0 l0_1 a0_2
theorem impl_ConfigValid.j0g.lim (x32 : Bool) (x145000 : Int) (x145001 : List Int) (x145002 : Bool) : Lim (fun k => impl_ConfigValid.j0 k x32 x145000 x145001 x145002) (impl_ConfigValid.j0g x32 x145000 x145001 x145002) := Lim.of (fun k => (impl_ConfigValid.mono_l k).1 x32 x145000 x145001 x145002)
theorem impl_ConfigValid.l0g.lim (x34 : List Int) (x35 : Int) (x36 : Int) (x145000 : Int) (x145001 : List Int) (x145002 : Bool) : Lim (fun k => impl_ConfigValid.l0 k x34 x35 x36 x145000 x145001 x145002) (impl_ConfigValid.l0g x34 x35 x36 x145000 x145001 x145002) := Lim.of (fun k => (impl_ConfigValid.mono_l k).2 x34 x35 x36 x145000 x145001 x145002)
theorem impl_ConfigValid.g.lim (a0_0 : Int) (l0_1 : List Int) (a0_2 : Bool) : Lim (fun k => impl_ConfigValid.f k a0_0 l0_1 a0_2) (impl_ConfigValid.g a0_0 l0_1 a0_2) := Lim.of (fun k => impl_ConfigValid.mono a0_0 l0_1 a0_2 k)
theorem impl_ConfigValid.j0g.eq (x32 : Bool) (x145000 : Int) (x145001 : List Int) (x145002 : Bool) : impl_ConfigValid.j0g x32 x145000 x145001 x145002 = if x32 = true then (some false) else (impl_ConfigValid.l0g x145001 (x145001.length : Int) 0 x145000 x145001 x145002) := by
  refine Lim.step (fun _ => rfl) (impl_ConfigValid.j0g.lim x32 x145000 x145001 x145002).mono ?_
  simp only [impl_ConfigValid.j0]
  repeat' first | (with_reducible exact Lim.const _) | (with_reducible refine Lim.ite ?_ ?_) | exact impl_ConfigValid.l0g.lim _ _ _ _ _ _ | (with_reducible refine Lim.bind ?_ (fun _ => ?_))
theorem impl_ConfigValid.l0g.eq (x34 : List Int) (x35 : Int) (x36 : Int) (x145000 : Int) (x145001 : List Int) (x145002 : Bool) : impl_ConfigValid.l0g x34 x35 x36 x145000 x145001 x145002 = if x36 < x35 then (if 0 ≤ x36 then (if x36 < (x34.length : Int) then ((impl_nodeValid.f (rd x34 x36)).bind fun t146 => (if t146 = true then (if x36 ≤ (x145001.length : Int) then ((slices_Contains_int_int.g (x145001.take (x36 : Int).toNat) (rd x34 x36)).bind fun t148 => (if t148 = true then (some false) else (impl_ConfigValid.l0g x34 x35 (wrap64 (x36 + 1)) x145000 x145001 x145002))) else (none)) else (some false))) else (none)) else (none)) else (some true) := by
  refine Lim.step (fun _ => rfl) (impl_ConfigValid.l0g.lim x34 x35 x36 x145000 x145001 x145002).mono ?_
  simp only [impl_ConfigValid.l0]
  repeat' first | (with_reducible exact Lim.const _) | (with_reducible refine Lim.ite ?_ ?_) | exact impl_ConfigValid.l0g.lim _ _ _ _ _ _ | exact slices_Contains_int_int.g.lim _ _ | (with_reducible refine Lim.bind ?_ (fun _ => ?_))
theorem impl_ConfigValid.g.eq (a0_0 : Int) (l0_1 : List Int) (a0_2 : Bool) : impl_ConfigValid.g a0_0 l0_1 a0_2 = if a0_0 < 1 then (impl_ConfigValid.j0g true a0_0 l0_1 a0_2) else (if a0_0 > 60 then (impl_ConfigValid.j0g true a0_0 l0_1 a0_2) else (if (l0_1.length : Int) < 1 then (impl_ConfigValid.j0g true a0_0 l0_1 a0_2) else (if (l0_1.length : Int) > 4 then (impl_ConfigValid.j0g true a0_0 l0_1 a0_2) else (if a0_2 = true then (impl_ConfigValid.j0g (decide ((l0_1.length : Int) < 2)) a0_0 l0_1 a0_2) else (impl_ConfigValid.j0g false a0_0 l0_1 a0_2))))) := by
  refine Lim.eq ?_
  unfold impl_ConfigValid.f
  repeat' first | (with_reducible exact Lim.const _) | (with_reducible refine Lim.ite ?_ ?_) | exact impl_ConfigValid.j0g.lim _ _ _ _ | (with_reducible refine Lim.bind ?_ (fun _ => ?_))
noncomputable def impl_PickSpare.g (l0 : List Int) (l1 : List Bool) (a2_0 : Int) (l2_1 : List Int) (a2_2 : Bool) : Option (Int) := lim fun k => impl_PickSpare.f k l0 l1 a2_0 l2_1 a2_2
theorem impl_PickSpare.g.lim (l0 : List Int) (l1 : List Bool) (a2_0 : Int) (l2_1 : List Int) (a2_2 : Bool) : Lim (fun k => impl_PickSpare.f k l0 l1 a2_0 l2_1 a2_2) (impl_PickSpare.g l0 l1 a2_0 l2_1 a2_2) := Lim.of (fun k => impl_PickSpare.mono l0 l1 a2_0 l2_1 a2_2 k)
theorem impl_PickSpare.g.eq (l0 : List Int) (l1 : List Bool) (a2_0 : Int) (l2_1 : List Int) (a2_2 : Bool) : impl_PickSpare.g l0 l1 a2_0 l2_1 a2_2 = if (l0.length : Int) = 5 then (if (l1.length : Int) = 5 then ((impl_ConfigValid.g a2_0 l2_1 a2_2).bind fun t150 => (if t150 = true then ((impl_leastLoad.g l0 l1 l2_1).bind fun t151 => (some t151)) else (some (-1)))) else (some (-1))) else (some (-1)) := by
  refine Lim.eq ?_
  unfold impl_PickSpare.f
  repeat' first | (with_reducible exact Lim.const _) | (with_reducible refine Lim.ite ?_ ?_) | exact impl_ConfigValid.g.lim _ _ _ | exact impl_leastLoad.g.lim _ _ _ | (with_reducible refine Lim.bind ?_ (fun _ => ?_))
noncomputable def laws_eqConfig.g (a0_0 : Int) (l0_1 : List Int) (a0_2 : Bool) (a1_0 : Int) (l1_1 : List Int) (a1_2 : Bool) : Option (Bool) := lim fun k => laws_eqConfig.f k a0_0 l0_1 a0_2 a1_0 l1_1 a1_2
theorem laws_eqConfig.g.lim (a0_0 : Int) (l0_1 : List Int) (a0_2 : Bool) (a1_0 : Int) (l1_1 : List Int) (a1_2 : Bool) : Lim (fun k => laws_eqConfig.f k a0_0 l0_1 a0_2 a1_0 l1_1 a1_2) (laws_eqConfig.g a0_0 l0_1 a0_2 a1_0 l1_1 a1_2) := Lim.of (fun k => laws_eqConfig.mono a0_0 l0_1 a0_2 a1_0 l1_1 a1_2 k)
theorem laws_eqConfig.g.eq (a0_0 : Int) (l0_1 : List Int) (a0_2 : Bool) (a1_0 : Int) (l1_1 : List Int) (a1_2 : Bool) : laws_eqConfig.g a0_0 l0_1 a0_2 a1_0 l1_1 a1_2 = if a0_0 = a1_0 then ((laws_eqIntS.g l0_1 l1_1).bind fun t154 => (if t154 = true then (if (a0_2 != a1_2) = true then (some false) else (some true)) else (some false))) else (some false) := by
  refine Lim.eq ?_
  unfold laws_eqConfig.f
  repeat' first | (with_reducible exact Lim.const _) | (with_reducible refine Lim.ite ?_ ?_) | exact laws_eqIntS.g.lim _ _ | (with_reducible refine Lim.bind ?_ (fun _ => ?_))
noncomputable def laws_FnExactPickSpare.g (l0 : List Int) (l1 : List Bool) (a2_0 : Int) (l2_1 : List Int) (a2_2 : Bool) : Option (Bool) := lim fun k => laws_FnExactPickSpare.f k l0 l1 a2_0 l2_1 a2_2
theorem laws_FnExactPickSpare.g.lim (l0 : List Int) (l1 : List Bool) (a2_0 : Int) (l2_1 : List Int) (a2_2 : Bool) : Lim (fun k => laws_FnExactPickSpare.f k l0 l1 a2_0 l2_1 a2_2) (laws_FnExactPickSpare.g l0 l1 a2_0 l2_1 a2_2) := Lim.of (fun k => laws_FnExactPickSpare.mono l0 l1 a2_0 l2_1 a2_2 k)
theorem laws_FnExactPickSpare.g.eq (l0 : List Int) (l1 : List Bool) (a2_0 : Int) (l2_1 : List Int) (a2_2 : Bool) : laws_FnExactPickSpare.g l0 l1 a2_0 l2_1 a2_2 = if (l0.length : Int) > 1048576 then (some true) else (if (l1.length : Int) > 1048576 then (some true) else ((laws_szConfig.f a2_0 l2_1 a2_2 1048576).bind fun t156 => (if t156 < 0 then (some true) else ((laws_toIntS.g l0).bind fun t157 => ((laws_toBoolS.g l1).bind fun t160 => ((laws_toConfig.g a2_0 l2_1 a2_2).bind fun bt163 => ((spec_PickSpare.g t157 t160 bt163.1 bt163.2.1 bt163.2.2).bind fun t168 => ((laws_toIntS.g l0).bind fun t169 => ((laws_toBoolS.g l1).bind fun t172 => ((laws_toConfig.g a2_0 l2_1 a2_2).bind fun bt175 => ((impl_PickSpare.g t169 t172 bt175.1 bt175.2.1 bt175.2.2).bind fun t181 => (if t181 = t168 then ((laws_toIntS.g l0).bind fun t182 => ((laws_eqIntS.g t169 t182).bind fun t185 => (if t185 = true then ((laws_toBoolS.g l1).bind fun t186 => ((laws_eqBoolS.g t172 t186).bind fun t189 => (if t189 = true then ((laws_toConfig.g a2_0 l2_1 a2_2).bind fun bt190 => ((laws_eqConfig.g bt175.1 bt175.2.1 bt175.2.2 bt190.1 bt190.2.1 bt190.2.2).bind fun t195 => (if t195 = true then (some true) else (some false)))) else (some false)))) else (some false)))) else (some false))))))))))))) := by
  refine Lim.eq ?_
  unfold laws_FnExactPickSpare.f
  repeat' first | (with_reducible exact Lim.const _) | (with_reducible refine Lim.ite ?_ ?_) | exact impl_PickSpare.g.lim _ _ _ _ _ | exact laws_eqBoolS.g.lim _ _ | exact laws_eqConfig.g.lim _ _ _ _ _ _ | exact laws_eqIntS.g.lim _ _ | exact laws_toBoolS.g.lim _ | exact laws_toConfig.g.lim _ _ _ | exact laws_toIntS.g.lim _ | exact spec_PickSpare.g.lim _ _ _ _ _ | (with_reducible refine Lim.bind ?_ (fun _ => ?_))
end Go.Proofs.Ytnaloccjejmmfaa.FFnExactPickSpare
