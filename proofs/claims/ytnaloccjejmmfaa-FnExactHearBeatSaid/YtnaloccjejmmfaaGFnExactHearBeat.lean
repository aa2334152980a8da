/- The limits of the printed functions of FnExactHearBeat, and their equations, by a program of this session (wip/gen/gen.py). No conditions. -/
import Derived.Test.YtnaloccjejmmfaaLim
import Derived.Test.YtnaloccjejmmfaaFFnExactHearBeatx
namespace Go.Proofs.Ytnaloccjejmmfaa.FFnExactHearBeat
open Go.RowKit Go.Proofs.YtnaloccjejmmfaaW.PrintWords Go.Proofs.YtnaloccjejmmfaaW.PrintLast Go.Proofs.YtnaloccjejmmfaaW.PrintMore Go.Proofs.YtnaloccjejmmfaaL
set_option linter.unusedVariables false
noncomputable def laws_toIntS.l0g (x0 : List Int) (x3 : List Int) (x4 : Int) : Option (List Int) := lim fun k => laws_toIntS.l0 k x0 x3 x4
noncomputable def laws_toIntS.g (l0 : List Int) : Option (List Int) := lim fun k => laws_toIntS.f k l0
theorem laws_toIntS.l0g.lim (x0 : List Int) (x3 : List Int) (x4 : Int) : Lim (fun k => laws_toIntS.l0 k x0 x3 x4) (laws_toIntS.l0g x0 x3 x4) := Lim.of (fun k => (laws_toIntS.mono_l k) x0 x3 x4)
theorem laws_toIntS.g.lim (l0 : List Int) : Lim (fun k => laws_toIntS.f k l0) (laws_toIntS.g l0) := Lim.of (fun k => laws_toIntS.mono l0 k)
theorem laws_toIntS.l0g.eq (x0 : List Int) (x3 : List Int) (x4 : Int) : laws_toIntS.l0g x0 x3 x4 = if x4 < (x0.length : Int) then (if 0 ≤ x4 then (if x4 < (x3.length : Int) then (laws_toIntS.l0g x0 (x3.set (x4 : Int).toNat (rd x0 x4)) (wrap64 (x4 + 1))) else (none)) else (none)) else (some x3) := by
  refine Lim.step (fun _ => rfl) (laws_toIntS.l0g.lim x0 x3 x4).mono ?_
  simp only [laws_toIntS.l0]
  repeat' first | (with_reducible exact Lim.const _) | (with_reducible refine Lim.ite ?_ ?_) | exact laws_toIntS.l0g.lim _ _ _ | (with_reducible refine Lim.bind ?_ (fun _ => ?_))
theorem laws_toIntS.g.eq (l0 : List Int) : laws_toIntS.g l0 = if 0 ≤ (l0.length : Int) then (if ((l0.length : Int) : Int).toNat ≤ 35184372088832 then (laws_toIntS.l0g l0 (List.replicate ((l0.length : Int) : Int).toNat 0) 0) else (none)) else (none) := by
  refine Lim.eq ?_
  unfold laws_toIntS.f
  repeat' first | (with_reducible exact Lim.const _) | (with_reducible refine Lim.ite ?_ ?_) | exact laws_toIntS.l0g.lim _ _ _ | (with_reducible refine Lim.bind ?_ (fun _ => ?_))
noncomputable def laws_eqIntS.l0g (x0 : List Int) (x1 : List Int) (x5 : Int) : Option (Bool) := lim fun k => laws_eqIntS.l0 k x0 x1 x5
noncomputable def laws_eqIntS.g (l0 : List Int) (l1 : List Int) : Option (Bool) := lim fun k => laws_eqIntS.f k l0 l1
theorem laws_eqIntS.l0g.lim (x0 : List Int) (x1 : List Int) (x5 : Int) : Lim (fun k => laws_eqIntS.l0 k x0 x1 x5) (laws_eqIntS.l0g x0 x1 x5) := Lim.of (fun k => (laws_eqIntS.mono_l k) x0 x1 x5)
theorem laws_eqIntS.g.lim (l0 : List Int) (l1 : List Int) : Lim (fun k => laws_eqIntS.f k l0 l1) (laws_eqIntS.g l0 l1) := Lim.of (fun k => laws_eqIntS.mono l0 l1 k)
theorem laws_eqIntS.l0g.eq (x0 : List Int) (x1 : List Int) (x5 : Int) : laws_eqIntS.l0g x0 x1 x5 = if x5 < (x0.length : Int) then (if 0 ≤ x5 then (if x5 < (x1.length : Int) then (if (rd x0 x5) = (rd x1 x5) then (laws_eqIntS.l0g x0 x1 (wrap64 (x5 + 1))) else (some false)) else (none)) else (none)) else (some true) := by
  refine Lim.step (fun _ => rfl) (laws_eqIntS.l0g.lim x0 x1 x5).mono ?_
  simp only [laws_eqIntS.l0]
  repeat' first | (with_reducible exact Lim.const _) | (with_reducible refine Lim.ite ?_ ?_) | exact laws_eqIntS.l0g.lim _ _ _ | (with_reducible refine Lim.bind ?_ (fun _ => ?_))
theorem laws_eqIntS.g.eq (l0 : List Int) (l1 : List Int) : laws_eqIntS.g l0 l1 = if (l0.length : Int) = (l1.length : Int) then (laws_eqIntS.l0g l0 l1 0) else (some false) := by
  refine Lim.eq ?_
  unfold laws_eqIntS.f
  repeat' first | (with_reducible exact Lim.const _) | (with_reducible refine Lim.ite ?_ ?_) | exact laws_eqIntS.l0g.lim _ _ _ | (with_reducible refine Lim.bind ?_ (fun _ => ?_))
noncomputable def laws_markIntS.l0g (x0 : List Int) (x1 : Int) (x5 : Int) : Option (Int × List Int) := lim fun k => laws_markIntS.l0 k x0 x1 x5
noncomputable def laws_markIntS.g (l0 : List Int) (a1 : Int) : Option (Int × List Int) := lim fun k => laws_markIntS.f k l0 a1
theorem laws_markIntS.l0g.lim (x0 : List Int) (x1 : Int) (x5 : Int) : Lim (fun k => laws_markIntS.l0 k x0 x1 x5) (laws_markIntS.l0g x0 x1 x5) := Lim.of (fun k => (laws_markIntS.mono_l k) x0 x1 x5)
theorem laws_markIntS.g.lim (l0 : List Int) (a1 : Int) : Lim (fun k => laws_markIntS.f k l0 a1) (laws_markIntS.g l0 a1) := Lim.of (fun k => laws_markIntS.mono l0 a1 k)
theorem laws_markIntS.l0g.eq (x0 : List Int) (x1 : Int) (x5 : Int) : laws_markIntS.l0g x0 x1 x5 = if x5 < (x0.length : Int) then (if 0 ≤ x5 then (laws_markIntS.l0g (x0.set (x5 : Int).toNat x1) (wrap64 (x1 + 1)) (wrap64 (x5 + 1))) else (none)) else (some (x1, x0)) := by
  refine Lim.step (fun _ => rfl) (laws_markIntS.l0g.lim x0 x1 x5).mono ?_
  simp only [laws_markIntS.l0]
  repeat' first | (with_reducible exact Lim.const _) | (with_reducible refine Lim.ite ?_ ?_) | exact laws_markIntS.l0g.lim _ _ _ | (with_reducible refine Lim.bind ?_ (fun _ => ?_))
theorem laws_markIntS.g.eq (l0 : List Int) (a1 : Int) : laws_markIntS.g l0 a1 = laws_markIntS.l0g l0 a1 0 := by
  refine Lim.eq ?_
  unfold laws_markIntS.f
  repeat' first | (with_reducible exact Lim.const _) | (with_reducible refine Lim.ite ?_ ?_) | exact laws_markIntS.l0g.lim _ _ _ | (with_reducible refine Lim.bind ?_ (fun _ => ?_))
noncomputable def laws_heldIntS.l0g (x0 : List Int) (x1 : Int) (x5 : Int) : Option (Int) := lim fun k => laws_heldIntS.l0 k x0 x1 x5
noncomputable def laws_heldIntS.g (l0 : List Int) (a1 : Int) : Option (Int) := lim fun k => laws_heldIntS.f k l0 a1
theorem laws_heldIntS.l0g.lim (x0 : List Int) (x1 : Int) (x5 : Int) : Lim (fun k => laws_heldIntS.l0 k x0 x1 x5) (laws_heldIntS.l0g x0 x1 x5) := Lim.of (fun k => (laws_heldIntS.mono_l k) x0 x1 x5)
theorem laws_heldIntS.g.lim (l0 : List Int) (a1 : Int) : Lim (fun k => laws_heldIntS.f k l0 a1) (laws_heldIntS.g l0 a1) := Lim.of (fun k => laws_heldIntS.mono l0 a1 k)
theorem laws_heldIntS.l0g.eq (x0 : List Int) (x1 : Int) (x5 : Int) : laws_heldIntS.l0g x0 x1 x5 = if x5 < (x0.length : Int) then (if 0 ≤ x5 then (if (rd x0 x5) = x1 then (laws_heldIntS.l0g x0 (wrap64 (x1 + 1)) (wrap64 (x5 + 1))) else (some (-1))) else (none)) else (some x1) := by
  refine Lim.step (fun _ => rfl) (laws_heldIntS.l0g.lim x0 x1 x5).mono ?_
  simp only [laws_heldIntS.l0]
  repeat' first | (with_reducible exact Lim.const _) | (with_reducible refine Lim.ite ?_ ?_) | exact laws_heldIntS.l0g.lim _ _ _ | (with_reducible refine Lim.bind ?_ (fun _ => ?_))
theorem laws_heldIntS.g.eq (l0 : List Int) (a1 : Int) : laws_heldIntS.g l0 a1 = laws_heldIntS.l0g l0 a1 0 := by
  refine Lim.eq ?_
  unfold laws_heldIntS.f
  repeat' first | (with_reducible exact Lim.const _) | (with_reducible refine Lim.ite ?_ ?_) | exact laws_heldIntS.l0g.lim _ _ _ | (with_reducible refine Lim.bind ?_ (fun _ => ?_))
noncomputable def spec_BeatsValid.l0g (x0 : List Int) (x3 : Int) : Option (Bool) := lim fun k => spec_BeatsValid.l0 k x0 x3
noncomputable def spec_BeatsValid.g (l0 : List Int) : Option (Bool) := lim fun k => spec_BeatsValid.f k l0
theorem spec_BeatsValid.l0g.lim (x0 : List Int) (x3 : Int) : Lim (fun k => spec_BeatsValid.l0 k x0 x3) (spec_BeatsValid.l0g x0 x3) := Lim.of (fun k => (spec_BeatsValid.mono_l k) x0 x3)
theorem spec_BeatsValid.g.lim (l0 : List Int) : Lim (fun k => spec_BeatsValid.f k l0) (spec_BeatsValid.g l0) := Lim.of (fun k => spec_BeatsValid.mono l0 k)
theorem spec_BeatsValid.l0g.eq (x0 : List Int) (x3 : Int) : spec_BeatsValid.l0g x0 x3 = if x3 < 5 then (if 0 ≤ x3 then (if x3 < (x0.length : Int) then ((spec_l1In.f (rd x0 x3) 0 200).bind fun t111 => (if t111 = true then (spec_BeatsValid.l0g x0 (wrap64 (x3 + 1))) else (some false))) else (none)) else (none)) else (some true) := by
  refine Lim.step (fun _ => rfl) (spec_BeatsValid.l0g.lim x0 x3).mono ?_
  simp only [spec_BeatsValid.l0]
  repeat' first | (with_reducible exact Lim.const _) | (with_reducible refine Lim.ite ?_ ?_) | exact spec_BeatsValid.l0g.lim _ _ | (with_reducible refine Lim.bind ?_ (fun _ => ?_))
theorem spec_BeatsValid.g.eq (l0 : List Int) : spec_BeatsValid.g l0 = if (l0.length : Int) = 5 then (spec_BeatsValid.l0g l0 0) else (some false) := by
  refine Lim.eq ?_
  unfold spec_BeatsValid.f
  repeat' first | (with_reducible exact Lim.const _) | (with_reducible refine Lim.ite ?_ ?_) | exact spec_BeatsValid.l0g.lim _ _ | (with_reducible refine Lim.bind ?_ (fun _ => ?_))
noncomputable def spec_HearBeat.g (l0 : List Int) (a1 : Int) (a2 : Int) : Option (List Int) := lim fun k => spec_HearBeat.f k l0 a1 a2
theorem spec_HearBeat.g.lim (l0 : List Int) (a1 : Int) (a2 : Int) : Lim (fun k => spec_HearBeat.f k l0 a1 a2) (spec_HearBeat.g l0 a1 a2) := Lim.of (fun k => spec_HearBeat.mono l0 a1 a2 k)
theorem spec_HearBeat.g.eq (l0 : List Int) (a1 : Int) (a2 : Int) : spec_HearBeat.g l0 a1 a2 = (some (([] : List Int) : List Int)).bind fun y112 => ((spec_BeatsValid.g l0).bind fun t115 => (if t115 = true then ((spec_l1In.f a1 0 4).bind fun t116 => (if t116 = true then ((spec_l1In.f a2 0 200).bind fun t117 => (if t117 = true then (if y112.length + l0.length < 17592186044416 then ((some (y112 ++ l0 : List Int)).bind fun y118 => (if 0 ≤ a1 then (if a1 < (y118.length : Int) then (some (y118.set (a1 : Int).toNat (mx (rd y118 a1) a2))) else (none)) else (none))) else (none)) else (some y112))) else (some y112))) else (some y112))) := by
  refine Lim.eq ?_
  unfold spec_HearBeat.f
  repeat' first | (with_reducible exact Lim.const _) | (with_reducible refine Lim.ite ?_ ?_) | exact spec_BeatsValid.g.lim _ | (with_reducible refine Lim.bind ?_ (fun _ => ?_))
noncomputable def impl_BeatsValid.l0g (x8 : List Int) (x9 : Int) (x10 : Int) : Option (Bool) := lim fun k => impl_BeatsValid.l0 k x8 x9 x10
noncomputable def impl_BeatsValid.g (l0 : List Int) : Option (Bool) := lim fun k => impl_BeatsValid.f k l0
theorem impl_BeatsValid.l0g.lim (x8 : List Int) (x9 : Int) (x10 : Int) : Lim (fun k => impl_BeatsValid.l0 k x8 x9 x10) (impl_BeatsValid.l0g x8 x9 x10) := Lim.of (fun k => (impl_BeatsValid.mono_l k) x8 x9 x10)
theorem impl_BeatsValid.g.lim (l0 : List Int) : Lim (fun k => impl_BeatsValid.f k l0) (impl_BeatsValid.g l0) := Lim.of (fun k => impl_BeatsValid.mono l0 k)
theorem impl_BeatsValid.l0g.eq (x8 : List Int) (x9 : Int) (x10 : Int) : impl_BeatsValid.l0g x8 x9 x10 = if x10 < x9 then (if 0 ≤ x10 then (if x10 < (x8.length : Int) then ((impl_timeValid.f (rd x8 x10)).bind fun t124 => (if t124 = true then (impl_BeatsValid.l0g x8 x9 (wrap64 (x10 + 1))) else (some false))) else (none)) else (none)) else (some true) := by
  refine Lim.step (fun _ => rfl) (impl_BeatsValid.l0g.lim x8 x9 x10).mono ?_
  simp only [impl_BeatsValid.l0]
  repeat' first | (with_reducible exact Lim.const _) | (with_reducible refine Lim.ite ?_ ?_) | exact impl_BeatsValid.l0g.lim _ _ _ | (with_reducible refine Lim.bind ?_ (fun _ => ?_))
theorem impl_BeatsValid.g.eq (l0 : List Int) : impl_BeatsValid.g l0 = if (l0.length : Int) = 5 then (impl_BeatsValid.l0g l0 (l0.length : Int) 0) else (some false) := by
  refine Lim.eq ?_
  unfold impl_BeatsValid.f
  repeat' first | (with_reducible exact Lim.const _) | (with_reducible refine Lim.ite ?_ ?_) | exact impl_BeatsValid.l0g.lim _ _ _ | (with_reducible refine Lim.bind ?_ (fun _ => ?_))
noncomputable def impl_HearBeat.g (l0 : List Int) (a1 : Int) (a2 : Int) : Option (List Int) := lim fun k => impl_HearBeat.f k l0 a1 a2
theorem impl_HearBeat.g.lim (l0 : List Int) (a1 : Int) (a2 : Int) : Lim (fun k => impl_HearBeat.f k l0 a1 a2) (impl_HearBeat.g l0 a1 a2) := Lim.of (fun k => impl_HearBeat.mono l0 a1 a2 k)
theorem impl_HearBeat.g.eq (l0 : List Int) (a1 : Int) (a2 : Int) : impl_HearBeat.g l0 a1 a2 = (impl_BeatsValid.g l0).bind fun t139 => (if t139 = true then ((impl_nodeValid.f a1).bind fun t140 => (if t140 = true then ((impl_timeValid.f a2).bind fun t141 => (if t141 = true then (if 0 ≤ a1 then (if a1 < (l0.length : Int) then ((impl_replaced_int.f l0 a1 1 (([mx (rd l0 a1) a2] : List Int))).bind fun t146 => (some t146)) else (none)) else (none)) else (some ([] : List Int)))) else (some ([] : List Int)))) else (some ([] : List Int))) := by
  refine Lim.eq ?_
  unfold impl_HearBeat.f
  repeat' first | (with_reducible exact Lim.const _) | (with_reducible refine Lim.ite ?_ ?_) | exact impl_BeatsValid.g.lim _ | (with_reducible refine Lim.bind ?_ (fun _ => ?_))
noncomputable def laws_FnExactHearBeat.j0g (x0 : List Int) (x1 : Int) (x2 : Int) (x7 : List Int) (x9 : List Int) (x47 : Bool) : Option (Bool) := lim fun k => laws_FnExactHearBeat.j0 k x0 x1 x2 x7 x9 x47
noncomputable def laws_FnExactHearBeat.g (l0 : List Int) (a1 : Int) (a2 : Int) : Option (Bool) := lim fun k => laws_FnExactHearBeat.f k l0 a1 a2
theorem laws_FnExactHearBeat.j0g.lim (x0 : List Int) (x1 : Int) (x2 : Int) (x7 : List Int) (x9 : List Int) (x47 : Bool) : Lim (fun k => laws_FnExactHearBeat.j0 k x0 x1 x2 x7 x9 x47) (laws_FnExactHearBeat.j0g x0 x1 x2 x7 x9 x47) := Lim.of (fun k => (laws_FnExactHearBeat.mono_l k) x0 x1 x2 x7 x9 x47)
theorem laws_FnExactHearBeat.g.lim (l0 : List Int) (a1 : Int) (a2 : Int) : Lim (fun k => laws_FnExactHearBeat.f k l0 a1 a2) (laws_FnExactHearBeat.g l0 a1 a2) := Lim.of (fun k => laws_FnExactHearBeat.mono l0 a1 a2 k)
theorem laws_FnExactHearBeat.j0g.eq (x0 : List Int) (x1 : Int) (x2 : Int) (x7 : List Int) (x9 : List Int) (x47 : Bool) : laws_FnExactHearBeat.j0g x0 x1 x2 x7 x9 x47 = if x47 = true then (some false) else ((laws_markIntS.g x9 1).bind fun bt169 => ((laws_heldIntS.g bt169.2 1).bind fun t171 => (if t171 < 0 then (some false) else (if t171 = bt169.1 then ((laws_toIntS.g x0).bind fun t172 => ((impl_HearBeat.g t172 x1 x2).bind fun t175 => ((laws_eqIntS.g t175 x7).bind fun t178 => (if t178 = true then ((laws_heldIntS.g bt169.2 1).bind fun t179 => (if t179 < 0 then (some false) else (if t179 = bt169.1 then (some true) else (some false)))) else (some false))))) else (some false))))) := by
  refine Lim.step (fun _ => rfl) (laws_FnExactHearBeat.j0g.lim x0 x1 x2 x7 x9 x47).mono ?_
  simp only [laws_FnExactHearBeat.j0]
  repeat' first | (with_reducible exact Lim.const _) | (with_reducible refine Lim.ite ?_ ?_) | exact impl_HearBeat.g.lim _ _ _ | exact laws_eqIntS.g.lim _ _ | exact laws_heldIntS.g.lim _ _ | exact laws_markIntS.g.lim _ _ | exact laws_toIntS.g.lim _ | (with_reducible refine Lim.bind ?_ (fun _ => ?_))
theorem laws_FnExactHearBeat.g.eq (l0 : List Int) (a1 : Int) (a2 : Int) : laws_FnExactHearBeat.g l0 a1 a2 = if (l0.length : Int) > 1048576 then (some true) else ((laws_toIntS.g l0).bind fun t149 => ((spec_HearBeat.g t149 a1 a2).bind fun t152 => ((laws_toIntS.g l0).bind fun t155 => ((impl_HearBeat.g t155 a1 a2).bind fun t158 => ((laws_eqIntS.g t158 t152).bind fun t161 => (if t161 = true then ((laws_toIntS.g l0).bind fun t162 => ((laws_eqIntS.g t155 t162).bind fun t165 => (if t165 = true then ((laws_markIntS.g t155 1).bind fun bt166 => (if bt166.1 < 0 then (laws_FnExactHearBeat.j0g l0 a1 a2 t152 t158 true) else ((laws_eqIntS.g t158 t152).bind fun t168 => (laws_FnExactHearBeat.j0g l0 a1 a2 t152 t158 (!t168))))) else (some false)))) else (some false))))))) := by
  refine Lim.eq ?_
  unfold laws_FnExactHearBeat.f
  repeat' first | (with_reducible exact Lim.const _) | (with_reducible refine Lim.ite ?_ ?_) | exact impl_HearBeat.g.lim _ _ _ | exact laws_FnExactHearBeat.j0g.lim _ _ _ _ _ _ | exact laws_eqIntS.g.lim _ _ | exact laws_markIntS.g.lim _ _ | exact laws_toIntS.g.lim _ | exact spec_HearBeat.g.lim _ _ _ | (with_reducible refine Lim.bind ?_ (fun _ => ?_))
end Go.Proofs.Ytnaloccjejmmfaa.FFnExactHearBeat
