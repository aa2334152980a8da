/- The limits of the printed functions of FnBeatsValid, and their equations, by a program of this session (wip/gen/gen.py). No conditions. -/
import Derived.Test.YtnaloccjejmmfaaLim
import Derived.Test.YtnaloccjejmmfaaFFnBeatsValidx
namespace Go.Proofs.Ytnaloccjejmmfaa.FFnBeatsValid
open Go.RowKit Go.Proofs.YtnaloccjejmmfaaW.PrintWords Go.Proofs.YtnaloccjejmmfaaW.PrintLast Go.Proofs.YtnaloccjejmmfaaW.PrintMore Go.Proofs.YtnaloccjejmmfaaL
set_option linter.unusedVariables false
noncomputable def spec_BeatsValid.l0g (x0 : List Int) (x3 : Int) : Option (Bool) := lim fun k => spec_BeatsValid.l0 k x0 x3
noncomputable def spec_BeatsValid.g (l0 : List Int) : Option (Bool) := lim fun k => spec_BeatsValid.f k l0
theorem spec_BeatsValid.l0g.lim (x0 : List Int) (x3 : Int) : Lim (fun k => spec_BeatsValid.l0 k x0 x3) (spec_BeatsValid.l0g x0 x3) := Lim.of (fun k => (spec_BeatsValid.mono_l k) x0 x3)
theorem spec_BeatsValid.g.lim (l0 : List Int) : Lim (fun k => spec_BeatsValid.f k l0) (spec_BeatsValid.g l0) := Lim.of (fun k => spec_BeatsValid.mono l0 k)
theorem spec_BeatsValid.l0g.eq (x0 : List Int) (x3 : Int) : spec_BeatsValid.l0g x0 x3 = if x3 < 5 then (if 0 ≤ x3 then (if x3 < (x0.length : Int) then ((spec_l1In.f (rd x0 x3) 0 200).bind fun t102 => (if t102 = true then (spec_BeatsValid.l0g x0 (wrap64 (x3 + 1))) else (some false))) else (none)) else (none)) else (some true) := by
  refine Lim.step (fun _ => rfl) (spec_BeatsValid.l0g.lim x0 x3).mono ?_
  simp only [spec_BeatsValid.l0]
  repeat' first | (with_reducible exact Lim.const _) | (with_reducible refine Lim.ite ?_ ?_) | exact spec_BeatsValid.l0g.lim _ _ | (with_reducible refine Lim.bind ?_ (fun _ => ?_))
theorem spec_BeatsValid.g.eq (l0 : List Int) : spec_BeatsValid.g l0 = if (l0.length : Int) = 5 then (spec_BeatsValid.l0g l0 0) else (some false) := by
  refine Lim.eq ?_
  unfold spec_BeatsValid.f
  repeat' first | (with_reducible exact Lim.const _) | (with_reducible refine Lim.ite ?_ ?_) | exact spec_BeatsValid.l0g.lim _ _ | (with_reducible refine Lim.bind ?_ (fun _ => ?_))
noncomputable def impl_BeatsValid.l0g (x8 : List Int) (x9 : Int) (x10 : Int) : Option (Bool) := lim fun k => impl_BeatsValid.l0 k x8 x9 x10
noncomputable def impl_BeatsValid.g (l0 : List Int) : Option (Bool) := lim fun k => impl_BeatsValid.f k l0
theorem impl_BeatsValid.l0g.lim (x8 : List Int) (x9 : Int) (x10 : Int) : Lim (fun k => impl_BeatsValid.l0 k x8 x9 x10) (impl_BeatsValid.l0g x8 x9 x10) := Lim.of (fun k => (impl_BeatsValid.mono_l k) x8 x9 x10)
theorem impl_BeatsValid.g.lim (l0 : List Int) : Lim (fun k => impl_BeatsValid.f k l0) (impl_BeatsValid.g l0) := Lim.of (fun k => impl_BeatsValid.mono l0 k)
theorem impl_BeatsValid.l0g.eq (x8 : List Int) (x9 : Int) (x10 : Int) : impl_BeatsValid.l0g x8 x9 x10 = if x10 < x9 then (if 0 ≤ x10 then (if x10 < (x8.length : Int) then ((impl_timeValid.f (rd x8 x10)).bind fun t104 => (if t104 = true then (impl_BeatsValid.l0g x8 x9 (wrap64 (x10 + 1))) else (some false))) else (none)) else (none)) else (some true) := by
  refine Lim.step (fun _ => rfl) (impl_BeatsValid.l0g.lim x8 x9 x10).mono ?_
  simp only [impl_BeatsValid.l0]
  repeat' first | (with_reducible exact Lim.const _) | (with_reducible refine Lim.ite ?_ ?_) | exact impl_BeatsValid.l0g.lim _ _ _ | (with_reducible refine Lim.bind ?_ (fun _ => ?_))
theorem impl_BeatsValid.g.eq (l0 : List Int) : impl_BeatsValid.g l0 = if (l0.length : Int) = 5 then (impl_BeatsValid.l0g l0 (l0.length : Int) 0) else (some false) := by
  refine Lim.eq ?_
  unfold impl_BeatsValid.f
  repeat' first | (with_reducible exact Lim.const _) | (with_reducible refine Lim.ite ?_ ?_) | exact impl_BeatsValid.l0g.lim _ _ _ | (with_reducible refine Lim.bind ?_ (fun _ => ?_))
noncomputable def spec_l20Rd_pick.j0g (x1 : Int) (x24 : Bool) (x1000 : List Int) (x1001 : Int) : Option (Int × Int) := lim fun k => spec_l20Rd_pick.j0 k x1 x24 x1000 x1001
noncomputable def spec_l20Rd_pick.g (s0_0 : List Int) (s0_1 : Int) (a1 : Int) : Option (Int × Int) := lim fun k => spec_l20Rd_pick.f k s0_0 s0_1 a1
theorem spec_l20Rd_pick.j0g.lim (x1 : Int) (x24 : Bool) (x1000 : List Int) (x1001 : Int) : Lim (fun k => spec_l20Rd_pick.j0 k x1 x24 x1000 x1001) (spec_l20Rd_pick.j0g x1 x24 x1000 x1001) := Lim.of (fun k => (spec_l20Rd_pick.mono_l k) x1 x24 x1000 x1001)
theorem spec_l20Rd_pick.g.lim (s0_0 : List Int) (s0_1 : Int) (a1 : Int) : Lim (fun k => spec_l20Rd_pick.f k s0_0 s0_1 a1) (spec_l20Rd_pick.g s0_0 s0_1 a1) := Lim.of (fun k => spec_l20Rd_pick.mono s0_0 s0_1 a1 k)
theorem spec_l20Rd_pick.j0g.eq (x1 : Int) (x24 : Bool) (x1000 : List Int) (x1001 : Int) : spec_l20Rd_pick.j0g x1 x24 x1000 x1001 = if x24 = true then (some (0, x1001)) else (if (wrap64 (x1001 - 1)) < (x1000.length : Int) then (if 0 ≤ (wrap64 (x1001 - 1)) then (if x1 = 0 then (none) else (some (Int.tmod (wrap64 (rd x1000 (wrap64 (x1001 - 1)))) x1, x1001))) else (none)) else (if (x1000.length : Int) = 0 then (none) else (if 0 ≤ (Int.tmod (wrap64 (x1001 - 1)) (x1000.length : Int)) then (if (Int.tmod (wrap64 (x1001 - 1)) (x1000.length : Int)) < (x1000.length : Int) then (if 0 ≤ (Int.tmod (wrap64 ((wrap64 ((wrap64 (x1001 - 1)) * 7)) + 3)) (x1000.length : Int)) then (if (Int.tmod (wrap64 ((wrap64 ((wrap64 (x1001 - 1)) * 7)) + 3)) (x1000.length : Int)) < (x1000.length : Int) then (if x1 = 0 then (none) else (some (Int.tmod (Go.bits .xor .i64 (wrap64 ((wrap64 ((wrap64 ((wrap64 ((wrap64 (rd x1000 (Int.tmod (wrap64 (x1001 - 1)) (x1000.length : Int)))) * 131)) + (wrap64 ((wrap64 (rd x1000 (Int.tmod (wrap64 ((wrap64 ((wrap64 (x1001 - 1)) * 7)) + 3)) (x1000.length : Int)))) * 1117)))) + (wrap64 ((wrap64 (x1001 - 1)) * 29)))) + (wrap64 ((wrap64 (Int.tdiv (wrap64 (x1001 - 1)) (x1000.length : Int))) * 53)))) (wrap64 (Int.tdiv (wrap64 ((wrap64 ((wrap64 ((wrap64 ((wrap64 (rd x1000 (Int.tmod (wrap64 (x1001 - 1)) (x1000.length : Int)))) * 131)) + (wrap64 ((wrap64 (rd x1000 (Int.tmod (wrap64 ((wrap64 ((wrap64 (x1001 - 1)) * 7)) + 3)) (x1000.length : Int)))) * 1117)))) + (wrap64 ((wrap64 (x1001 - 1)) * 29)))) + (wrap64 ((wrap64 (Int.tdiv (wrap64 (x1001 - 1)) (x1000.length : Int))) * 53)))) 64))) x1, x1001))) else (none)) else (none)) else (none)) else (none)))) := by
  refine Lim.step (fun _ => rfl) (spec_l20Rd_pick.j0g.lim x1 x24 x1000 x1001).mono ?_
  simp only [spec_l20Rd_pick.j0]
  repeat' first | (with_reducible exact Lim.const _) | (with_reducible refine Lim.ite ?_ ?_) | (with_reducible refine Lim.bind ?_ (fun _ => ?_))
theorem spec_l20Rd_pick.g.eq (s0_0 : List Int) (s0_1 : Int) (a1 : Int) : spec_l20Rd_pick.g s0_0 s0_1 a1 = if a1 < 1 then (spec_l20Rd_pick.j0g a1 true s0_0 (wrap64 (s0_1 + 1))) else (spec_l20Rd_pick.j0g a1 ((s0_0.length : Int) == 0) s0_0 (wrap64 (s0_1 + 1))) := by
  refine Lim.eq ?_
  unfold spec_l20Rd_pick.f
  repeat' first | (with_reducible exact Lim.const _) | (with_reducible refine Lim.ite ?_ ?_) | exact spec_l20Rd_pick.j0g.lim _ _ _ _ | (with_reducible refine Lim.bind ?_ (fun _ => ?_))
noncomputable def spec_l20Rd_odd.g (s0_0 : List Int) (s0_1 : Int) (a1 : Int) : Option (Bool × Int) := lim fun k => spec_l20Rd_odd.f k s0_0 s0_1 a1
theorem spec_l20Rd_odd.g.lim (s0_0 : List Int) (s0_1 : Int) (a1 : Int) : Lim (fun k => spec_l20Rd_odd.f k s0_0 s0_1 a1) (spec_l20Rd_odd.g s0_0 s0_1 a1) := Lim.of (fun k => spec_l20Rd_odd.mono s0_0 s0_1 a1 k)
theorem spec_l20Rd_odd.g.eq (s0_0 : List Int) (s0_1 : Int) (a1 : Int) : spec_l20Rd_odd.g s0_0 s0_1 a1 = if a1 > 0 then ((spec_l20Rd_pick.g s0_0 s0_1 a1).bind fun bt108 => (some ((bt108.1 == (wrap64 (a1 - 1))), bt108.2))) else (some (false, s0_1)) := by
  refine Lim.eq ?_
  unfold spec_l20Rd_odd.f
  repeat' first | (with_reducible exact Lim.const _) | (with_reducible refine Lim.ite ?_ ?_) | exact spec_l20Rd_pick.g.lim _ _ _ | (with_reducible refine Lim.bind ?_ (fun _ => ?_))
noncomputable def spec_l20Time.g (s0_0 : List Int) (s0_1 : Int) (a1 : Int) : Option (Int × Int) := lim fun k => spec_l20Time.f k s0_0 s0_1 a1
theorem spec_l20Time.g.lim (s0_0 : List Int) (s0_1 : Int) (a1 : Int) : Lim (fun k => spec_l20Time.f k s0_0 s0_1 a1) (spec_l20Time.g s0_0 s0_1 a1) := Lim.of (fun k => spec_l20Time.mono s0_0 s0_1 a1 k)
theorem spec_l20Time.g.eq (s0_0 : List Int) (s0_1 : Int) (a1 : Int) : spec_l20Time.g s0_0 s0_1 a1 = (spec_l20Rd_odd.g s0_0 s0_1 a1).bind fun bt110 => (if bt110.1 = true then ((some (([(-1), 201] : List Int) : List Int)).bind fun y112 => ((spec_l20Rd_pick.g s0_0 bt110.2 2).bind fun bt115 => (if 0 ≤ bt115.1 then (if bt115.1 < (y112.length : Int) then (some (rd y112 bt115.1, bt115.2)) else (none)) else (none)))) else ((spec_l20Rd_pick.g s0_0 bt110.2 40).bind fun bt118 => ((some (([bt118.1, 200] : List Int) : List Int)).bind fun y120 => ((spec_l20Rd_pick.g s0_0 bt118.2 9).bind fun bt123 => (if 0 ≤ (wrap64 (Int.tdiv bt123.1 8)) then (if (wrap64 (Int.tdiv bt123.1 8)) < (y120.length : Int) then (some (rd y120 (wrap64 (Int.tdiv bt123.1 8)), bt123.2)) else (none)) else (none)))))) := by
  refine Lim.eq ?_
  unfold spec_l20Time.f
  repeat' first | (with_reducible exact Lim.const _) | (with_reducible refine Lim.ite ?_ ?_) | exact spec_l20Rd_odd.g.lim _ _ _ | exact spec_l20Rd_pick.g.lim _ _ _ | (with_reducible refine Lim.bind ?_ (fun _ => ?_))
noncomputable def spec_l20Beats.l0g (x1 : Int) (x5 : List Int) (x6 : Int) (x1000 : List Int) (x1001 : Int) : Option (List Int × Int) := lim fun k => spec_l20Beats.l0 k x1 x5 x6 x1000 x1001
noncomputable def spec_l20Beats.g (s0_0 : List Int) (s0_1 : Int) (a1 : Int) : Option (List Int × Int) := lim fun k => spec_l20Beats.f k s0_0 s0_1 a1
theorem spec_l20Beats.l0g.lim (x1 : Int) (x5 : List Int) (x6 : Int) (x1000 : List Int) (x1001 : Int) : Lim (fun k => spec_l20Beats.l0 k x1 x5 x6 x1000 x1001) (spec_l20Beats.l0g x1 x5 x6 x1000 x1001) := Lim.of (fun k => (spec_l20Beats.mono_l k) x1 x5 x6 x1000 x1001)
theorem spec_l20Beats.g.lim (s0_0 : List Int) (s0_1 : Int) (a1 : Int) : Lim (fun k => spec_l20Beats.f k s0_0 s0_1 a1) (spec_l20Beats.g s0_0 s0_1 a1) := Lim.of (fun k => spec_l20Beats.mono s0_0 s0_1 a1 k)
theorem spec_l20Beats.l0g.eq (x1 : Int) (x5 : List Int) (x6 : Int) (x1000 : List Int) (x1001 : Int) : spec_l20Beats.l0g x1 x5 x6 x1000 x1001 = if x6 < 5 then ((spec_l20Time.g x1000 x1001 0).bind fun bt129 => (if x5.length < 17592186044416 then (spec_l20Beats.l0g x1 (x5 ++ [bt129.1]) (wrap64 (x6 + 1)) x1000 bt129.2) else (none))) else ((spec_l20Rd_odd.g x1000 x1001 x1).bind fun bt134 => (if bt134.1 = true then ((spec_l20Rd_pick.g x1000 bt134.2 3).bind fun bt136 => (if bt136.1 = 0 then (if 1 ≤ (x5.length : Int) then (some ((x5.drop (1 : Int).toNat), bt136.2)) else (none)) else (if bt136.1 = 1 then ((spec_l20Rd_pick.g x1000 bt136.2 5).bind fun bt141 => ((spec_l20Time.g x1000 bt141.2 1).bind fun bt143 => (if 0 ≤ bt141.1 then (if bt141.1 < (x5.length : Int) then (some ((x5.set (bt141.1 : Int).toNat bt143.1), bt143.2)) else (none)) else (none)))) else (if x5.length < 17592186044416 then (some ((x5 ++ [0]), bt136.2)) else (none))))) else (some (x5, bt134.2)))) := by
  refine Lim.step (fun _ => rfl) (spec_l20Beats.l0g.lim x1 x5 x6 x1000 x1001).mono ?_
  simp only [spec_l20Beats.l0]
  repeat' first | (with_reducible exact Lim.const _) | (with_reducible refine Lim.ite ?_ ?_) | exact spec_l20Beats.l0g.lim _ _ _ _ _ | exact spec_l20Rd_odd.g.lim _ _ _ | exact spec_l20Rd_pick.g.lim _ _ _ | exact spec_l20Time.g.lim _ _ _ | (with_reducible refine Lim.bind ?_ (fun _ => ?_))
theorem spec_l20Beats.g.eq (s0_0 : List Int) (s0_1 : Int) (a1 : Int) : spec_l20Beats.g s0_0 s0_1 a1 = spec_l20Beats.l0g a1 (([] : List Int)) 0 s0_0 s0_1 := by
  refine Lim.eq ?_
  unfold spec_l20Beats.f
  repeat' first | (with_reducible exact Lim.const _) | (with_reducible refine Lim.ite ?_ ?_) | exact spec_l20Beats.l0g.lim _ _ _ _ _ | (with_reducible refine Lim.bind ?_ (fun _ => ?_))
noncomputable def spec_DrawBeatsValid.g (l0 : List Int) : Option (List Int) := lim fun k => spec_DrawBeatsValid.f k l0
theorem spec_DrawBeatsValid.g.lim (l0 : List Int) : Lim (fun k => spec_DrawBeatsValid.f k l0) (spec_DrawBeatsValid.g l0) := Lim.of (fun k => spec_DrawBeatsValid.mono l0 k)
theorem spec_DrawBeatsValid.g.eq (l0 : List Int) : spec_DrawBeatsValid.g l0 = (spec_l20Open.f l0).bind fun bt152 => ((spec_l20Beats.g bt152.1 bt152.2 2).bind fun bt155 => (some bt155.1)) := by
  refine Lim.eq ?_
  unfold spec_DrawBeatsValid.f
  repeat' first | (with_reducible exact Lim.const _) | (with_reducible refine Lim.ite ?_ ?_) | exact spec_l20Beats.g.lim _ _ _ | (with_reducible refine Lim.bind ?_ (fun _ => ?_))
noncomputable def impl_lettersOnly.g (a0 : ByteArray) : Option (Bool) := lim fun k => impl_lettersOnly.f k a0
theorem impl_lettersOnly.g.lim (a0 : ByteArray) : Lim (fun k => impl_lettersOnly.f k a0) (impl_lettersOnly.g a0) := Lim.of (fun k => impl_lettersOnly.mono a0 k)
theorem impl_lettersOnly.g.eq (a0 : ByteArray) : impl_lettersOnly.g a0 = if a0.toList = ([] : List UInt8) then (some true) else (if 0 < (a0.size : Int) then (if (bt a0 0) ≥ 97 then (if (bt a0 0) ≤ 122 then (if 1 ≤ (a0.size : Int) then ((impl_lettersOnly.g (a0.extract 1 a0.size)).bind fun t159 => (some t159)) else (none)) else (some false)) else (some false)) else (none)) := by
  refine Lim.step (fun _ => rfl) (impl_lettersOnly.g.lim a0).mono ?_
  simp only [impl_lettersOnly.f]
  repeat' first | (with_reducible exact Lim.const _) | (with_reducible refine Lim.ite ?_ ?_) | exact impl_lettersOnly.g.lim _ | (with_reducible refine Lim.bind ?_ (fun _ => ?_))
noncomputable def impl_KeyValid.g (a0 : ByteArray) : Option (Bool) := lim fun k => impl_KeyValid.f k a0
theorem impl_KeyValid.g.lim (a0 : ByteArray) : Lim (fun k => impl_KeyValid.f k a0) (impl_KeyValid.g a0) := Lim.of (fun k => impl_KeyValid.mono a0 k)
theorem impl_KeyValid.g.eq (a0 : ByteArray) : impl_KeyValid.g a0 = if (a0.size : Int) < 1 then (some false) else (if (a0.size : Int) > 4 then (some false) else ((impl_lettersOnly.g a0).bind fun t160 => (some t160))) := by
  refine Lim.eq ?_
  unfold impl_KeyValid.f
  repeat' first | (with_reducible exact Lim.const _) | (with_reducible refine Lim.ite ?_ ?_) | exact impl_lettersOnly.g.lim _ | (with_reducible refine Lim.bind ?_ (fun _ => ?_))
noncomputable def impl_keysFrom.g (a0 : Int) : Option (Int) := lim fun k => impl_keysFrom.f k a0
theorem impl_keysFrom.g.lim (a0 : Int) : Lim (fun k => impl_keysFrom.f k a0) (impl_keysFrom.g a0) := Lim.of (fun k => impl_keysFrom.mono a0 k)
theorem impl_keysFrom.g.eq (a0 : Int) : impl_keysFrom.g a0 = if a0 ≥ 4 then (some 1) else ((impl_keysFrom.g (wrap64 (a0 + 1))).bind fun t161 => (some (wrap64 (1 + (wrap64 (26 * t161)))))) := by
  refine Lim.step (fun _ => rfl) (impl_keysFrom.g.lim a0).mono ?_
  simp only [impl_keysFrom.f]
  repeat' first | (with_reducible exact Lim.const _) | (with_reducible refine Lim.ite ?_ ?_) | exact impl_keysFrom.g.lim _ | (with_reducible refine Lim.bind ?_ (fun _ => ?_))
noncomputable def impl_rankBelow.g (a0 : ByteArray) (a1 : Int) : Option (Int) := lim fun k => impl_rankBelow.f k a0 a1
theorem impl_rankBelow.g.lim (a0 : ByteArray) (a1 : Int) : Lim (fun k => impl_rankBelow.f k a0 a1) (impl_rankBelow.g a0 a1) := Lim.of (fun k => impl_rankBelow.mono a0 a1 k)
theorem impl_rankBelow.g.eq (a0 : ByteArray) (a1 : Int) : impl_rankBelow.g a0 a1 = if a0.toList = ([] : List UInt8) then (some 0) else (if 0 < (a0.size : Int) then ((impl_keysFrom.g a1).bind fun t162 => (if 1 ≤ (a0.size : Int) then ((impl_rankBelow.g (a0.extract 1 a0.size) (wrap64 (a1 + 1))).bind fun t163 => (some (wrap64 ((wrap64 (1 + (wrap64 ((((bt a0 0) - 97) % 256) * t162)))) + t163)))) else (none))) else (none)) := by
  refine Lim.step (fun _ => rfl) (impl_rankBelow.g.lim a0 a1).mono ?_
  simp only [impl_rankBelow.f]
  repeat' first | (with_reducible exact Lim.const _) | (with_reducible refine Lim.ite ?_ ?_) | exact impl_keysFrom.g.lim _ | exact impl_rankBelow.g.lim _ _ | (with_reducible refine Lim.bind ?_ (fun _ => ?_))
noncomputable def impl_KeyRank.g (a0 : ByteArray) : Option (Int) := lim fun k => impl_KeyRank.f k a0
theorem impl_KeyRank.g.lim (a0 : ByteArray) : Lim (fun k => impl_KeyRank.f k a0) (impl_KeyRank.g a0) := Lim.of (fun k => impl_KeyRank.mono a0 k)
theorem impl_KeyRank.g.eq (a0 : ByteArray) : impl_KeyRank.g a0 = (impl_KeyValid.g a0).bind fun t164 => (if t164 = true then ((impl_rankBelow.g a0 1).bind fun t165 => (some (wrap64 (t165 - 1)))) else (some (-1))) := by
  refine Lim.eq ?_
  unfold impl_KeyRank.f
  repeat' first | (with_reducible exact Lim.const _) | (with_reducible refine Lim.ite ?_ ?_) | exact impl_KeyValid.g.lim _ | exact impl_rankBelow.g.lim _ _ | (with_reducible refine Lim.bind ?_ (fun _ => ?_))
noncomputable def laws_alive.g : Option (Bool) := lim fun k => laws_alive.f k 
theorem laws_alive.g.lim : Lim (fun k => laws_alive.f k ) (laws_alive.g ) := Lim.of (fun k => laws_alive.mono  k)
theorem laws_alive.g.eq : laws_alive.g  = (impl_KeyRank.g (⟨#[97, 97]⟩ : ByteArray)).bind fun t166 => (if t166 = 1 then ((impl_KeyRank.g (⟨#[]⟩ : ByteArray)).bind fun t167 => (some (t167 == (-1)))) else (some false)) := by
  refine Lim.eq ?_
  unfold laws_alive.f
  repeat' first | (with_reducible exact Lim.const _) | (with_reducible refine Lim.ite ?_ ?_) | exact impl_KeyRank.g.lim _ | (with_reducible refine Lim.bind ?_ (fun _ => ?_))
noncomputable def laws_FnBeatsValid.l0g (x3 : List Int) (x4 : Bool) (x5 : List Int) (x6 : Int) : Option (Bool) := lim fun k => laws_FnBeatsValid.l0 k x3 x4 x5 x6
noncomputable def laws_FnBeatsValid.g (l0 : List Int) : Option (Bool) := lim fun k => laws_FnBeatsValid.f k l0
theorem laws_FnBeatsValid.l0g.lim (x3 : List Int) (x4 : Bool) (x5 : List Int) (x6 : Int) : Lim (fun k => laws_FnBeatsValid.l0 k x3 x4 x5 x6) (laws_FnBeatsValid.l0g x3 x4 x5 x6) := Lim.of (fun k => (laws_FnBeatsValid.mono_l k) x3 x4 x5 x6)
theorem laws_FnBeatsValid.g.lim (l0 : List Int) : Lim (fun k => laws_FnBeatsValid.f k l0) (laws_FnBeatsValid.g l0) := Lim.of (fun k => laws_FnBeatsValid.mono l0 k)
theorem laws_FnBeatsValid.l0g.eq (x3 : List Int) (x4 : Bool) (x5 : List Int) (x6 : Int) : laws_FnBeatsValid.l0g x3 x4 x5 x6 = if x6 < (x3.length : Int) then (if x5.length < 17592186044416 then (laws_FnBeatsValid.l0g x3 x4 (x5 ++ [200]) (wrap64 (x6 + 1))) else (none)) else (if x4 = true then (if (x3.length : Int) > 0 then (if 1 ≤ (x3.length : Int) then ((impl_BeatsValid.g (x3.drop 1)).bind fun t183 => (if t183 = true then (some false) else ((impl_BeatsValid.g x5).bind fun t184 => (if t184 = true then ((laws_alive.g ).bind fun t185 => (some t185)) else (some false))))) else (none)) else (some false)) else ((laws_alive.g ).bind fun t186 => (some t186))) := by
  refine Lim.step (fun _ => rfl) (laws_FnBeatsValid.l0g.lim x3 x4 x5 x6).mono ?_
  simp only [laws_FnBeatsValid.l0]
  repeat' first | (with_reducible exact Lim.const _) | (with_reducible refine Lim.ite ?_ ?_) | exact impl_BeatsValid.g.lim _ | exact laws_FnBeatsValid.l0g.lim _ _ _ _ | exact laws_alive.g.lim | (with_reducible refine Lim.bind ?_ (fun _ => ?_))
theorem laws_FnBeatsValid.g.eq (l0 : List Int) : laws_FnBeatsValid.g l0 = if (l0.length : Int) > 1048576 then (some true) else ((spec_DrawBeatsValid.g l0).bind fun t168 => ((impl_BeatsValid.g t168).bind fun t171 => ((spec_BeatsValid.g t168).bind fun t172 => (if (t171 != t172) = true then (some false) else (laws_FnBeatsValid.l0g t168 t171 (([] : List Int)) 0))))) := by
  refine Lim.eq ?_
  unfold laws_FnBeatsValid.f
  repeat' first | (with_reducible exact Lim.const _) | (with_reducible refine Lim.ite ?_ ?_) | exact impl_BeatsValid.g.lim _ | exact laws_FnBeatsValid.l0g.lim _ _ _ _ | exact spec_BeatsValid.g.lim _ | exact spec_DrawBeatsValid.g.lim _ | (with_reducible refine Lim.bind ?_ (fun _ => ?_))
end Go.Proofs.Ytnaloccjejmmfaa.FFnBeatsValid
