/- For every list of whole numbers of at most 1048576 entries and all whole numbers the program's Suspects returns what the reference's returns, a row of its own, and leaves its argument alone. No conditions but the bounds that the statement itself gives. -/
import Derived.Test.YtnaloccjejmmfaaGFnExactSuspects
import Derived.Test.YtnaloccjejmmfaaBase
import Derived.Test.YtnaloccjejmmfaaReads
set_option linter.unusedVariables false
set_option linter.unusedSimpArgs false
namespace Go.Proofs.Ytnaloccjejmmfaa.PFnExactSuspects
open Go.RowKit Go.Proofs.YtnaloccjejmmfaaW.PrintWords Go.Proofs.YtnaloccjejmmfaaW.PrintLast Go.Proofs.YtnaloccjejmmfaaW.PrintMore Go.Proofs.YtnaloccjejmmfaaL
theorem toIntS_eq (x0 : List Int) (hn : x0.length ≤ 1048576) : laws_toIntS.g x0 = some x0 := by
  have key := loop_set (fun i acc => laws_toIntS.l0g x0 acc (i : Int)) x0 id 0 (by
    intro i h acc ha
    show laws_toIntS.l0g x0 acc i = laws_toIntS.l0g x0 (acc.set i x0[i]) ((i + 1 : Nat) : Int)
    rw [laws_toIntS.l0g.eq, if_pos (by omega), if_pos (by omega), if_pos (by omega), rd_nat h, wr_succ (by omega), Int.toNat_natCast]) (by
    intro acc ha
    show laws_toIntS.l0g x0 acc (x0.length : Int) = _
    rw [laws_toIntS.l0g.eq, if_neg (by omega)]) x0.length 0 (by omega)
  rw [laws_toIntS.g.eq, if_pos (by omega), if_pos (by omega), Int.toNat_natCast]
  simpa using key
theorem eqIntS_eq (x0 x1 : List Int) (hn : x0.length ≤ 1048576) : laws_eqIntS.g x0 x1 = some (decide (x0 = x1)) := by
  rw [laws_eqIntS.g.eq]
  by_cases hl : x0.length = x1.length
  · have key := loop_eq (fun i => laws_eqIntS.l0g x0 x1 (i : Int)) x0 x1 hl (by
      intro i h h'
      show laws_eqIntS.l0g x0 x1 i = if x0[i] = x1[i] then laws_eqIntS.l0g x0 x1 ((i + 1 : Nat) : Int) else some false
      rw [laws_eqIntS.l0g.eq, if_pos (by omega), if_pos (by omega), if_pos (by omega), rd_nat h, rd_nat h', wr_succ (by omega)]) (by
      show laws_eqIntS.l0g x0 x1 (x0.length : Int) = _
      rw [laws_eqIntS.l0g.eq, if_neg (by omega)]) x0.length 0 (by omega)
    rw [if_pos (by omega)]
    simpa using key
  · rw [if_neg (by omega)]
    have : x0 ≠ x1 := fun e => hl (by rw [e])
    simp [this]
theorem markIntS_eq (xs : List Int) (k : Int) (h0 : 0 ≤ k) (h1 : k ≤ 1099511627776) (hn : xs.length ≤ 1099511627776) : laws_markIntS.g xs k = some (k + xs.length, marks xs.length k) := by
  have key := loop_mark (fun i acc c => laws_markIntS.l0g acc c (i : Int)) xs.length k (by
    intro i acc hi ha
    show laws_markIntS.l0g acc (k + i) i = laws_markIntS.l0g (acc.set i (k + i)) (k + (i + 1 : Nat)) ((i + 1 : Nat) : Int)
    rw [laws_markIntS.l0g.eq, if_pos (by omega), if_pos (by omega), wr_succ (by omega), wr_id (by omega) (by omega), Int.toNat_natCast]
    congr 1; omega) (by
    intro acc ha
    show laws_markIntS.l0g acc (k + xs.length) (xs.length : Int) = _
    rw [laws_markIntS.l0g.eq, if_neg (by omega)]) xs.length 0 xs rfl (by omega)
  rw [laws_markIntS.g.eq]
  simpa [marks] using key
theorem heldIntS_eq (n : Nat) (k : Int) (h0 : 0 ≤ k) (h1 : k ≤ 1099511627776) (hn : n ≤ 1099511627776) : laws_heldIntS.g (marks n k) k = some (k + n) := by
  have key := loop_held (fun i c => laws_heldIntS.l0g (marks n k) c (i : Int)) n k (by
    intro i hi
    show laws_heldIntS.l0g (marks n k) (k + i) i = laws_heldIntS.l0g (marks n k) (k + (i + 1 : Nat)) ((i + 1 : Nat) : Int)
    have hl := marks_len n k
    rw [laws_heldIntS.l0g.eq, if_pos (by omega), if_pos (by omega), rd_nat (by omega), marks_at, if_pos rfl, wr_succ (by omega), wr_id (by omega) (by omega)]
    congr 1; omega) (by
    show laws_heldIntS.l0g (marks n k) (k + n) (n : Int) = _
    rw [laws_heldIntS.l0g.eq, marks_len, if_neg (by omega)]) n 0 (by omega)
  rw [laws_heldIntS.g.eq]
  simpa using key
def timeOk (x : Int) : Bool := decide (0 ≤ x) && decide (x ≤ 200)
def beatsOk (l : List Int) : Bool := decide (l.length = 5) && l.all timeOk
theorem timeValid_eq (x : Int) : impl_timeValid.f x = some (timeOk x) := by
  unfold impl_timeValid.f timeOk; split <;> simp_all <;> omega
theorem l1In_eq (x a b : Int) : spec_l1In.f x a b = some (decide (a ≤ x) && decide (x ≤ b)) := by
  unfold spec_l1In.f; split <;> simp_all <;> omega
theorem specBeatsValid_eq (x0 : List Int) : spec_BeatsValid.g x0 = some (beatsOk x0) := by
  rw [spec_BeatsValid.g.eq]
  by_cases hl : x0.length = 5
  · have key := loop_all (fun i => spec_BeatsValid.l0g x0 (i : Int)) x0 timeOk (by
      intro i h
      show spec_BeatsValid.l0g x0 i = if timeOk x0[i] = true then spec_BeatsValid.l0g x0 ((i + 1 : Nat) : Int) else some false
      rw [spec_BeatsValid.l0g.eq, if_pos (by omega), if_pos (by omega), if_pos (by omega), rd_nat h, wr_succ (by omega), l1In_eq]
      rfl) (by
      show spec_BeatsValid.l0g x0 (x0.length : Int) = _
      rw [spec_BeatsValid.l0g.eq, if_neg (by omega)]) x0.length 0 (by omega)
    rw [if_pos (by omega)]
    simpa [beatsOk, hl] using key
  · rw [if_neg (by omega)]; simp [beatsOk, hl]
theorem implBeatsValid_eq (x0 : List Int) : impl_BeatsValid.g x0 = some (beatsOk x0) := by
  rw [impl_BeatsValid.g.eq]
  by_cases hl : x0.length = 5
  · have key := loop_all (fun i => impl_BeatsValid.l0g x0 (x0.length : Int) (i : Int)) x0 timeOk (by
      intro i h
      show impl_BeatsValid.l0g x0 (x0.length : Int) i = if timeOk x0[i] = true then impl_BeatsValid.l0g x0 (x0.length : Int) ((i + 1 : Nat) : Int) else some false
      rw [impl_BeatsValid.l0g.eq, if_pos (by omega), if_pos (by omega), if_pos (by omega), rd_nat h, wr_succ (by omega), timeValid_eq]
      rfl) (by
      show impl_BeatsValid.l0g x0 (x0.length : Int) (x0.length : Int) = _
      rw [impl_BeatsValid.l0g.eq, if_neg (by omega)]) x0.length 0 (by omega)
    rw [if_pos (by omega)]
    simpa [beatsOk, hl] using key
  · rw [if_neg (by omega)]; simp [beatsOk, hl]
def suspectAt (b : List Int) (now p : Int) (i : Nat) : List Int := if wrap64 (now - rd b (i : Int)) > p then [(i : Int)] else []
def suspects (b : List Int) (now p : Int) : List Int :=
  if (beatsOk b && timeOk now && timeOk p) = true then (List.range 5).flatMap (suspectAt b now p) else []
theorem beatsOk_len {b : List Int} (h : beatsOk b = true) : b.length = 5 := by unfold beatsOk at h; simp at h; exact h.1
theorem suspectAt_len (b : List Int) (now p : Int) (i : Nat) : (suspectAt b now p i).length ≤ 1 := by unfold suspectAt; split <;> simp
theorem specSuspects_loop (b : List Int) (hl : b.length = 5) (now p : Int) : spec_Suspects.l0g b now p [] 0 = some ((List.range 5).flatMap (suspectAt b now p)) := by
  have key := loop_app (fun i acc => spec_Suspects.l0g b now p acc (i : Int)) id (List.range 5) (suspectAt b now p) 0 1 (suspectAt_len b now p) (by
    intro i h acc ha
    have hi : i < 5 := by simpa using h
    show spec_Suspects.l0g b now p acc i = spec_Suspects.l0g b now p (acc ++ suspectAt b now p ((List.range 5)[i]'h)) ((i + 1 : Nat) : Int)
    rw [spec_Suspects.l0g.eq, if_pos (by omega), if_pos (by omega), if_pos (by omega), wr_succ (by omega), if_pos (by omega : acc.length < 17592186044416), List.getElem_range]
    unfold suspectAt
    split <;> simp) (by
    intro acc ha
    show spec_Suspects.l0g b now p acc ((List.range 5).length : Int) = _
    rw [spec_Suspects.l0g.eq, List.length_range, if_neg (by omega)]; rfl) 5 0 [] (by simp) (by simp)
  simpa using key
theorem implSuspects_loop (b : List Int) (hl : b.length = 5) (now p : Int) : impl_Suspects.l0g now p [] b (b.length : Int) 0 = some ((List.range 5).flatMap (suspectAt b now p)) := by
  have key := loop_app (fun i acc => impl_Suspects.l0g now p acc b (b.length : Int) (i : Int)) id (List.range 5) (suspectAt b now p) 0 1 (suspectAt_len b now p) (by
    intro i h acc ha
    have hi : i < 5 := by simpa using h
    show impl_Suspects.l0g now p acc b (b.length : Int) i = impl_Suspects.l0g now p (acc ++ suspectAt b now p ((List.range 5)[i]'h)) b (b.length : Int) ((i + 1 : Nat) : Int)
    rw [impl_Suspects.l0g.eq, if_pos (by omega), if_pos (by omega), if_pos (by omega), wr_succ (by omega), if_pos (by omega : acc.length < 17592186044416), List.getElem_range]
    unfold suspectAt
    split <;> simp) (by
    intro acc ha
    show impl_Suspects.l0g now p acc b (b.length : Int) ((List.range 5).length : Int) = _
    rw [impl_Suspects.l0g.eq, List.length_range, if_neg (by omega)]; rfl) 5 0 [] (by simp) (by simp)
  simpa using key
theorem specSuspects_eq (b : List Int) (now p : Int) : spec_Suspects.g b now p = some (suspects b now p) := by
  rw [spec_Suspects.g.eq, specBeatsValid_eq]
  simp only [Option.bind_some, l1In_eq, suspects, spec_Suspects.j0g.eq]
  change (if beatsOk b = true then (if timeOk now = true then (if (!timeOk p) = true then _ else _) else _) else _) = _
  cases hb : beatsOk b
  · simp
  cases hn : timeOk now
  · simp
  cases hp : timeOk p
  · simp
  simp [specSuspects_loop b (beatsOk_len hb)]
theorem implSuspects_eq (b : List Int) (now p : Int) : impl_Suspects.g b now p = some (suspects b now p) := by
  rw [impl_Suspects.g.eq, implBeatsValid_eq]
  simp only [Option.bind_some, timeValid_eq, suspects, impl_Suspects.j0g.eq]
  cases hb : beatsOk b
  · simp
  cases hn : timeOk now
  · simp
  cases hp : timeOk p
  · simp
  simp [implSuspects_loop b (beatsOk_len hb)]
theorem suspects_len (b : List Int) (now p : Int) : (suspects b now p).length ≤ 5 := by
  unfold suspects
  split
  · rw [List.length_flatMap]
    have : ∀ l : List Nat, (l.map fun i => (suspectAt b now p i).length).sum ≤ l.length := by
      intro l
      induction l with
      | nil => simp
      | cons x l ih => have := suspectAt_len b now p x; simp; omega
    simpa using this (List.range 5)
  · simp
theorem law_holds (l0 : List Int) (a1 a2 : Int) (f0 : FitL Fit l0) (f1 : Fit a1) (f2 : Fit a2) : ∃ k, laws_FnExactSuspects.f k l0 a1 a2 = some true := by
  apply rounds_of_lim (g := fun k => laws_FnExactSuspects.f k l0 a1 a2)
  show laws_FnExactSuspects.g l0 a1 a2 = some true
  rw [laws_FnExactSuspects.g.eq]
  by_cases h : (l0.length : Int) > 1048576
  · rw [if_pos h]
  · rw [if_neg h]
    have hs := suspects_len l0 a1 a2
    have e1 := toIntS_eq l0 (by omega)
    have e2 := eqIntS_eq l0 l0 (by omega)
    have e3 := eqIntS_eq (suspects l0 a1 a2) (suspects l0 a1 a2) (by omega)
    have e4 := markIntS_eq l0 1 (by omega) (by omega) (by omega)
    have e5 := markIntS_eq (suspects l0 a1 a2) 1 (by omega) (by omega) (by omega)
    have e6 := heldIntS_eq (suspects l0 a1 a2).length 1 (by omega) (by omega) (by omega)
    have n1 : ¬ (1 + (l0.length : Int) < 0) := by omega
    have n2 : ¬ (1 + ((suspects l0 a1 a2).length : Int) < 0) := by omega
    simp [laws_FnExactSuspects.j0g.eq, e1, e2, e3, e4, e5, e6, specSuspects_eq, implSuspects_eq, n1, n2]
end Go.Proofs.Ytnaloccjejmmfaa.PFnExactSuspects
