/- The limits of the printed functions of FnExactSuspectTime, and their equations, by a program of this session (wip/gen/gen.py). No conditions. -/
import Derived.Test.YtnaloccjejmmfaaLim
import Derived.Test.YtnaloccjejmmfaaPFnExactSuspectTimex
namespace Go.Proofs.Ytnaloccjejmmfaa.PFnExactSuspectTime
open Go.RowKit Go.Proofs.YtnaloccjejmmfaaW.PrintWords Go.Proofs.YtnaloccjejmmfaaW.PrintLast Go.Proofs.YtnaloccjejmmfaaW.PrintMore Go.Proofs.YtnaloccjejmmfaaL
set_option linter.unusedVariables false
noncomputable def laws_toIntS.l0g (x0 : List Int) (x3 : List Int) (x4 : Int) : Option (List Int) := lim fun k => laws_toIntS.l0 k x0 x3 x4
noncomputable def laws_toIntS.g (l0 : List Int) : Option (List Int) := lim fun k => laws_toIntS.f k l0
theorem laws_toIntS.l0g.lim (x0 : List Int) (x3 : List Int) (x4 : Int) : Lim (fun k => laws_toIntS.l0 k x0 x3 x4) (laws_toIntS.l0g x0 x3 x4) := Lim.of (fun k => (laws_toIntS.mono_l k) x0 x3 x4)
theorem laws_toIntS.g.lim (l0 : List Int) : Lim (fun k => laws_toIntS.f k l0) (laws_toIntS.g l0) := Lim.of (fun k => laws_toIntS.mono l0 k)
theorem laws_toIntS.l0g.eq (x0 : List Int) (x3 : List Int) (x4 : Int) : laws_toIntS.l0g x0 x3 x4 = if x4 < (x0.length : Int) then (if 0 ≤ x4 then (if x4 < (x3.length : Int) then (laws_toIntS.l0g x0 (x3.set (x4 : Int).toNat (rd x0 x4)) (wrap64 (x4 + 1))) else (none)) else (none)) else (some x3) := by
  refine Lim.step (fun _ => rfl) (laws_toIntS.l0g.lim x0 x3 x4).mono ?_
  simp only [laws_toIntS.l0]
  repeat' first | (with_reducible exact Lim.const _) | (with_reducible refine Lim.ite ?_ ?_) | exact laws_toIntS.l0g.lim _ _ _ | (with_reducible refine Lim.bind ?_ (fun _ => ?_))
theorem laws_toIntS.g.eq (l0 : List Int) : laws_toIntS.g l0 = if 0 ≤ (l0.length : Int) then (if ((l0.length : Int) : Int).toNat ≤ 35184372088832 then (laws_toIntS.l0g l0 (List.replicate ((l0.length : Int) : Int).toNat 0) 0) else (none)) else (none) := by
  refine Lim.eq ?_
  unfold laws_toIntS.f
  repeat' first | (with_reducible exact Lim.const _) | (with_reducible refine Lim.ite ?_ ?_) | exact laws_toIntS.l0g.lim _ _ _ | (with_reducible refine Lim.bind ?_ (fun _ => ?_))
noncomputable def laws_eqIntS.l0g (x0 : List Int) (x1 : List Int) (x5 : Int) : Option (Bool) := lim fun k => laws_eqIntS.l0 k x0 x1 x5
noncomputable def laws_eqIntS.g (l0 : List Int) (l1 : List Int) : Option (Bool) := lim fun k => laws_eqIntS.f k l0 l1
theorem laws_eqIntS.l0g.lim (x0 : List Int) (x1 : List Int) (x5 : Int) : Lim (fun k => laws_eqIntS.l0 k x0 x1 x5) (laws_eqIntS.l0g x0 x1 x5) := Lim.of (fun k => (laws_eqIntS.mono_l k) x0 x1 x5)
theorem laws_eqIntS.g.lim (l0 : List Int) (l1 : List Int) : Lim (fun k => laws_eqIntS.f k l0 l1) (laws_eqIntS.g l0 l1) := Lim.of (fun k => laws_eqIntS.mono l0 l1 k)
theorem laws_eqIntS.l0g.eq (x0 : List Int) (x1 : List Int) (x5 : Int) : laws_eqIntS.l0g x0 x1 x5 = if x5 < (x0.length : Int) then (if 0 ≤ x5 then (if x5 < (x1.length : Int) then (if (rd x0 x5) = (rd x1 x5) then (laws_eqIntS.l0g x0 x1 (wrap64 (x5 + 1))) else (some false)) else (none)) else (none)) else (some true) := by
  refine Lim.step (fun _ => rfl) (laws_eqIntS.l0g.lim x0 x1 x5).mono ?_
  simp only [laws_eqIntS.l0]
  repeat' first | (with_reducible exact Lim.const _) | (with_reducible refine Lim.ite ?_ ?_) | exact laws_eqIntS.l0g.lim _ _ _ | (with_reducible refine Lim.bind ?_ (fun _ => ?_))
theorem laws_eqIntS.g.eq (l0 : List Int) (l1 : List Int) : laws_eqIntS.g l0 l1 = if (l0.length : Int) = (l1.length : Int) then (laws_eqIntS.l0g l0 l1 0) else (some false) := by
  refine Lim.eq ?_
  unfold laws_eqIntS.f
  repeat' first | (with_reducible exact Lim.const _) | (with_reducible refine Lim.ite ?_ ?_) | exact laws_eqIntS.l0g.lim _ _ _ | (with_reducible refine Lim.bind ?_ (fun _ => ?_))
noncomputable def spec_BeatsValid.l0g (x0 : List Int) (x3 : Int) : Option (Bool) := lim fun k => spec_BeatsValid.l0 k x0 x3
noncomputable def spec_BeatsValid.g (l0 : List Int) : Option (Bool) := lim fun k => spec_BeatsValid.f k l0
theorem spec_BeatsValid.l0g.lim (x0 : List Int) (x3 : Int) : Lim (fun k => spec_BeatsValid.l0 k x0 x3) (spec_BeatsValid.l0g x0 x3) := Lim.of (fun k => (spec_BeatsValid.mono_l k) x0 x3)
theorem spec_BeatsValid.g.lim (l0 : List Int) : Lim (fun k => spec_BeatsValid.f k l0) (spec_BeatsValid.g l0) := Lim.of (fun k => spec_BeatsValid.mono l0 k)
theorem spec_BeatsValid.l0g.eq (x0 : List Int) (x3 : Int) : spec_BeatsValid.l0g x0 x3 = if x3 < 5 then (if 0 ≤ x3 then (if x3 < (x0.length : Int) then ((spec_l1In.f (rd x0 x3) 0 200).bind fun t109 => (if t109 = true then (spec_BeatsValid.l0g x0 (wrap64 (x3 + 1))) else (some false))) else (none)) else (none)) else (some true) := by
  refine Lim.step (fun _ => rfl) (spec_BeatsValid.l0g.lim x0 x3).mono ?_
  simp only [spec_BeatsValid.l0]
  repeat' first | (with_reducible exact Lim.const _) | (with_reducible refine Lim.ite ?_ ?_) | exact spec_BeatsValid.l0g.lim _ _ | (with_reducible refine Lim.bind ?_ (fun _ => ?_))
theorem spec_BeatsValid.g.eq (l0 : List Int) : spec_BeatsValid.g l0 = if (l0.length : Int) = 5 then (spec_BeatsValid.l0g l0 0) else (some false) := by
  refine Lim.eq ?_
  unfold spec_BeatsValid.f
  repeat' first | (with_reducible exact Lim.const _) | (with_reducible refine Lim.ite ?_ ?_) | exact spec_BeatsValid.l0g.lim _ _ | (with_reducible refine Lim.bind ?_ (fun _ => ?_))
noncomputable def spec_SuspectTime.g (l0 : List Int) (a1 : Int) (a2 : Int) : Option (Int) := lim fun k => spec_SuspectTime.f k l0 a1 a2
theorem spec_SuspectTime.g.lim (l0 : List Int) (a1 : Int) (a2 : Int) : Lim (fun k => spec_SuspectTime.f k l0 a1 a2) (spec_SuspectTime.g l0 a1 a2) := Lim.of (fun k => spec_SuspectTime.mono l0 a1 a2 k)
theorem spec_SuspectTime.g.eq (l0 : List Int) (a1 : Int) (a2 : Int) : spec_SuspectTime.g l0 a1 a2 = (spec_BeatsValid.g l0).bind fun t110 => (if t110 = true then ((spec_l1In.f a1 0 4).bind fun t111 => (if t111 = true then ((spec_l1In.f a2 0 200).bind fun t112 => (if t112 = true then (if 0 ≤ a1 then (if a1 < (l0.length : Int) then (if (wrap64 ((wrap64 ((rd l0 a1) + a2)) + 1)) > 200 then (some (-1)) else (some (wrap64 ((wrap64 ((rd l0 a1) + a2)) + 1)))) else (none)) else (none)) else (some (-1)))) else (some (-1)))) else (some (-1))) := by
  refine Lim.eq ?_
  unfold spec_SuspectTime.f
  repeat' first | (with_reducible exact Lim.const _) | (with_reducible refine Lim.ite ?_ ?_) | exact spec_BeatsValid.g.lim _ | (with_reducible refine Lim.bind ?_ (fun _ => ?_))
noncomputable def impl_BeatsValid.l0g (x8 : List Int) (x9 : Int) (x10 : Int) : Option (Bool) := lim fun k => impl_BeatsValid.l0 k x8 x9 x10
noncomputable def impl_BeatsValid.g (l0 : List Int) : Option (Bool) := lim fun k => impl_BeatsValid.f k l0
theorem impl_BeatsValid.l0g.lim (x8 : List Int) (x9 : Int) (x10 : Int) : Lim (fun k => impl_BeatsValid.l0 k x8 x9 x10) (impl_BeatsValid.l0g x8 x9 x10) := Lim.of (fun k => (impl_BeatsValid.mono_l k) x8 x9 x10)
theorem impl_BeatsValid.g.lim (l0 : List Int) : Lim (fun k => impl_BeatsValid.f k l0) (impl_BeatsValid.g l0) := Lim.of (fun k => impl_BeatsValid.mono l0 k)
theorem impl_BeatsValid.l0g.eq (x8 : List Int) (x9 : Int) (x10 : Int) : impl_BeatsValid.l0g x8 x9 x10 = if x10 < x9 then (if 0 ≤ x10 then (if x10 < (x8.length : Int) then ((impl_timeValid.f (rd x8 x10)).bind fun t116 => (if t116 = true then (impl_BeatsValid.l0g x8 x9 (wrap64 (x10 + 1))) else (some false))) else (none)) else (none)) else (some true) := by
  refine Lim.step (fun _ => rfl) (impl_BeatsValid.l0g.lim x8 x9 x10).mono ?_
  simp only [impl_BeatsValid.l0]
  repeat' first | (with_reducible exact Lim.const _) | (with_reducible refine Lim.ite ?_ ?_) | exact impl_BeatsValid.l0g.lim _ _ _ | (with_reducible refine Lim.bind ?_ (fun _ => ?_))
theorem impl_BeatsValid.g.eq (l0 : List Int) : impl_BeatsValid.g l0 = if (l0.length : Int) = 5 then (impl_BeatsValid.l0g l0 (l0.length : Int) 0) else (some false) := by
  refine Lim.eq ?_
  unfold impl_BeatsValid.f
  repeat' first | (with_reducible exact Lim.const _) | (with_reducible refine Lim.ite ?_ ?_) | exact impl_BeatsValid.l0g.lim _ _ _ | (with_reducible refine Lim.bind ?_ (fun _ => ?_))
noncomputable def impl_SuspectTime.j0g (x0 : List Int) (x1 : Int) (x2 : Int) (x20 : Bool) : Option (Int) := lim fun k => impl_SuspectTime.j0 k x0 x1 x2 x20
noncomputable def impl_SuspectTime.g (l0 : List Int) (a1 : Int) (a2 : Int) : Option (Int) := lim fun k => impl_SuspectTime.f k l0 a1 a2
theorem impl_SuspectTime.j0g.lim (x0 : List Int) (x1 : Int) (x2 : Int) (x20 : Bool) : Lim (fun k => impl_SuspectTime.j0 k x0 x1 x2 x20) (impl_SuspectTime.j0g x0 x1 x2 x20) := Lim.of (fun k => (impl_SuspectTime.mono_l k) x0 x1 x2 x20)
theorem impl_SuspectTime.g.lim (l0 : List Int) (a1 : Int) (a2 : Int) : Lim (fun k => impl_SuspectTime.f k l0 a1 a2) (impl_SuspectTime.g l0 a1 a2) := Lim.of (fun k => impl_SuspectTime.mono l0 a1 a2 k)
theorem impl_SuspectTime.j0g.eq (x0 : List Int) (x1 : Int) (x2 : Int) (x20 : Bool) : impl_SuspectTime.j0g x0 x1 x2 x20 = if x20 = true then (some (-1)) else (if 0 ≤ x1 then (if x1 < (x0.length : Int) then (if (wrap64 ((wrap64 ((rd x0 x1) + x2)) + 1)) > 200 then (some (-1)) else (some (wrap64 ((wrap64 ((rd x0 x1) + x2)) + 1)))) else (none)) else (none)) := by
  refine Lim.step (fun _ => rfl) (impl_SuspectTime.j0g.lim x0 x1 x2 x20).mono ?_
  simp only [impl_SuspectTime.j0]
  repeat' first | (with_reducible exact Lim.const _) | (with_reducible refine Lim.ite ?_ ?_) | (with_reducible refine Lim.bind ?_ (fun _ => ?_))
theorem impl_SuspectTime.g.eq (l0 : List Int) (a1 : Int) (a2 : Int) : impl_SuspectTime.g l0 a1 a2 = (impl_BeatsValid.g l0).bind fun t117 => (if t117 = true then ((impl_nodeValid.f a1).bind fun t118 => (if t118 = true then ((impl_timeValid.f a2).bind fun t119 => (impl_SuspectTime.j0g l0 a1 a2 (!t119))) else (impl_SuspectTime.j0g l0 a1 a2 true))) else (impl_SuspectTime.j0g l0 a1 a2 true)) := by
  refine Lim.eq ?_
  unfold impl_SuspectTime.f
  repeat' first | (with_reducible exact Lim.const _) | (with_reducible refine Lim.ite ?_ ?_) | exact impl_BeatsValid.g.lim _ | exact impl_SuspectTime.j0g.lim _ _ _ _ | (with_reducible refine Lim.bind ?_ (fun _ => ?_))
noncomputable def laws_FnExactSuspectTime.g (l0 : List Int) (a1 : Int) (a2 : Int) : Option (Bool) := lim fun k => laws_FnExactSuspectTime.f k l0 a1 a2
theorem laws_FnExactSuspectTime.g.lim (l0 : List Int) (a1 : Int) (a2 : Int) : Lim (fun k => laws_FnExactSuspectTime.f k l0 a1 a2) (laws_FnExactSuspectTime.g l0 a1 a2) := Lim.of (fun k => laws_FnExactSuspectTime.mono l0 a1 a2 k)
theorem laws_FnExactSuspectTime.g.eq (l0 : List Int) (a1 : Int) (a2 : Int) : laws_FnExactSuspectTime.g l0 a1 a2 = if (l0.length : Int) > 1048576 then (some true) else ((laws_toIntS.g l0).bind fun t121 => ((spec_SuspectTime.g t121 a1 a2).bind fun t124 => ((laws_toIntS.g l0).bind fun t125 => ((impl_SuspectTime.g t125 a1 a2).bind fun t128 => (if t128 = t124 then ((laws_toIntS.g l0).bind fun t129 => ((laws_eqIntS.g t125 t129).bind fun t132 => (if t132 = true then (some true) else (some false)))) else (some false)))))) := by
  refine Lim.eq ?_
  unfold laws_FnExactSuspectTime.f
  repeat' first | (with_reducible exact Lim.const _) | (with_reducible refine Lim.ite ?_ ?_) | exact impl_SuspectTime.g.lim _ _ _ | exact laws_eqIntS.g.lim _ _ | exact laws_toIntS.g.lim _ | exact spec_SuspectTime.g.lim _ _ _ | (with_reducible refine Lim.bind ?_ (fun _ => ?_))
end Go.Proofs.Ytnaloccjejmmfaa.PFnExactSuspectTime
