/- For every list of whole numbers of at most 1048576 entries the program's BeatsValid returns what the reference's returns, and leaves its argument alone. No conditions but the bounds that the statement itself gives. -/
import Derived.Test.YtnaloccjejmmfaaGFnExactBeatsValid
import Derived.Test.YtnaloccjejmmfaaBase
import Derived.Test.YtnaloccjejmmfaaReads
set_option linter.unusedVariables false
set_option linter.unusedSimpArgs false
namespace Go.Proofs.Ytnaloccjejmmfaa.PFnExactBeatsValid
open Go.RowKit Go.Proofs.YtnaloccjejmmfaaW.PrintWords Go.Proofs.YtnaloccjejmmfaaW.PrintLast Go.Proofs.YtnaloccjejmmfaaW.PrintMore Go.Proofs.YtnaloccjejmmfaaL
theorem toIntS_eq (x0 : List Int) (hn : x0.length ≤ 1048576) : laws_toIntS.g x0 = some x0 := by
  have key := loop_set (fun i acc => laws_toIntS.l0g x0 acc (i : Int)) x0 id 0 (by
    intro i h acc ha
    show laws_toIntS.l0g x0 acc i = laws_toIntS.l0g x0 (acc.set i x0[i]) ((i + 1 : Nat) : Int)
    rw [laws_toIntS.l0g.eq, if_pos (by omega), if_pos (by omega), if_pos (by omega), rd_nat h, wr_succ (by omega), Int.toNat_natCast]) (by
    intro acc ha
    show laws_toIntS.l0g x0 acc (x0.length : Int) = _
    rw [laws_toIntS.l0g.eq, if_neg (by omega)]) x0.length 0 (by omega)
  rw [laws_toIntS.g.eq, if_pos (by omega), if_pos (by omega), Int.toNat_natCast]
  simpa using key
theorem eqIntS_eq (x0 x1 : List Int) (hn : x0.length ≤ 1048576) : laws_eqIntS.g x0 x1 = some (decide (x0 = x1)) := by
  rw [laws_eqIntS.g.eq]
  by_cases hl : x0.length = x1.length
  · have key := loop_eq (fun i => laws_eqIntS.l0g x0 x1 (i : Int)) x0 x1 hl (by
      intro i h h'
      show laws_eqIntS.l0g x0 x1 i = if x0[i] = x1[i] then laws_eqIntS.l0g x0 x1 ((i + 1 : Nat) : Int) else some false
      rw [laws_eqIntS.l0g.eq, if_pos (by omega), if_pos (by omega), if_pos (by omega), rd_nat h, rd_nat h', wr_succ (by omega)]) (by
      show laws_eqIntS.l0g x0 x1 (x0.length : Int) = _
      rw [laws_eqIntS.l0g.eq, if_neg (by omega)]) x0.length 0 (by omega)
    rw [if_pos (by omega)]
    simpa using key
  · rw [if_neg (by omega)]
    have : x0 ≠ x1 := fun e => hl (by rw [e])
    simp [this]
def timeOk (x : Int) : Bool := decide (0 ≤ x) && decide (x ≤ 200)
def beatsOk (l : List Int) : Bool := decide (l.length = 5) && l.all timeOk
theorem timeValid_eq (x : Int) : impl_timeValid.f x = some (timeOk x) := by
  unfold impl_timeValid.f timeOk; split <;> simp_all <;> omega
theorem l1In_eq (x a b : Int) : spec_l1In.f x a b = some (decide (a ≤ x) && decide (x ≤ b)) := by
  unfold spec_l1In.f; split <;> simp_all <;> omega
theorem specBeatsValid_eq (x0 : List Int) : spec_BeatsValid.g x0 = some (beatsOk x0) := by
  rw [spec_BeatsValid.g.eq]
  by_cases hl : x0.length = 5
  · have key := loop_all (fun i => spec_BeatsValid.l0g x0 (i : Int)) x0 timeOk (by
      intro i h
      show spec_BeatsValid.l0g x0 i = if timeOk x0[i] = true then spec_BeatsValid.l0g x0 ((i + 1 : Nat) : Int) else some false
      rw [spec_BeatsValid.l0g.eq, if_pos (by omega), if_pos (by omega), if_pos (by omega), rd_nat h, wr_succ (by omega), l1In_eq]
      rfl) (by
      show spec_BeatsValid.l0g x0 (x0.length : Int) = _
      rw [spec_BeatsValid.l0g.eq, if_neg (by omega)]) x0.length 0 (by omega)
    rw [if_pos (by omega)]
    simpa [beatsOk, hl] using key
  · rw [if_neg (by omega)]; simp [beatsOk, hl]
theorem implBeatsValid_eq (x0 : List Int) : impl_BeatsValid.g x0 = some (beatsOk x0) := by
  rw [impl_BeatsValid.g.eq]
  by_cases hl : x0.length = 5
  · have key := loop_all (fun i => impl_BeatsValid.l0g x0 (x0.length : Int) (i : Int)) x0 timeOk (by
      intro i h
      show impl_BeatsValid.l0g x0 (x0.length : Int) i = if timeOk x0[i] = true then impl_BeatsValid.l0g x0 (x0.length : Int) ((i + 1 : Nat) : Int) else some false
      rw [impl_BeatsValid.l0g.eq, if_pos (by omega), if_pos (by omega), if_pos (by omega), rd_nat h, wr_succ (by omega), timeValid_eq]
      rfl) (by
      show impl_BeatsValid.l0g x0 (x0.length : Int) (x0.length : Int) = _
      rw [impl_BeatsValid.l0g.eq, if_neg (by omega)]) x0.length 0 (by omega)
    rw [if_pos (by omega)]
    simpa [beatsOk, hl] using key
  · rw [if_neg (by omega)]; simp [beatsOk, hl]
theorem law_holds (l0 : List Int) (f0 : FitL Fit l0) : ∃ k, laws_FnExactBeatsValid.f k l0 = some true := by
  apply rounds_of_lim (g := fun k => laws_FnExactBeatsValid.f k l0)
  show laws_FnExactBeatsValid.g l0 = some true
  rw [laws_FnExactBeatsValid.g.eq]
  by_cases h : (l0.length : Int) > 1048576
  · rw [if_pos h]
  · rw [if_neg h]
    simp [toIntS_eq l0 (by omega), eqIntS_eq l0 l0 (by omega), specBeatsValid_eq, implBeatsValid_eq]
end Go.Proofs.Ytnaloccjejmmfaa.PFnExactBeatsValid
