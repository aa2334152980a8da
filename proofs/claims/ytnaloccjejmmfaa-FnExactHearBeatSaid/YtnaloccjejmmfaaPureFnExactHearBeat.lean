/- For every list of whole numbers of at most 1048576 entries and all whole numbers the program's HearBeat returns what the reference's returns, a row of its own, and leaves its argument alone. No conditions but the bounds that the statement itself gives. -/
import Derived.Test.YtnaloccjejmmfaaGFnExactHearBeat
import Derived.Test.YtnaloccjejmmfaaBase
import Derived.Test.YtnaloccjejmmfaaReads
set_option linter.unusedVariables false
set_option linter.unusedSimpArgs false
namespace Go.Proofs.Ytnaloccjejmmfaa.FFnExactHearBeat
open Go.RowKit Go.Proofs.YtnaloccjejmmfaaW.PrintWords Go.Proofs.YtnaloccjejmmfaaW.PrintLast Go.Proofs.YtnaloccjejmmfaaW.PrintMore Go.Proofs.YtnaloccjejmmfaaL
theorem toIntS_eq (x0 : List Int) (hn : x0.length ≤ 1048576) : laws_toIntS.g x0 = some x0 := by
  have key := loop_set (fun i acc => laws_toIntS.l0g x0 acc (i : Int)) x0 id 0 (by
    intro i h acc ha
    show laws_toIntS.l0g x0 acc i = laws_toIntS.l0g x0 (acc.set i x0[i]) ((i + 1 : Nat) : Int)
    rw [laws_toIntS.l0g.eq, if_pos (by omega), if_pos (by omega), if_pos (by omega), rd_nat h, wr_succ (by omega), Int.toNat_natCast]) (by
    intro acc ha
    show laws_toIntS.l0g x0 acc (x0.length : Int) = _
    rw [laws_toIntS.l0g.eq, if_neg (by omega)]) x0.length 0 (by omega)
  rw [laws_toIntS.g.eq, if_pos (by omega), if_pos (by omega), Int.toNat_natCast]
  simpa using key
theorem eqIntS_eq (x0 x1 : List Int) (hn : x0.length ≤ 1048576) : laws_eqIntS.g x0 x1 = some (decide (x0 = x1)) := by
  rw [laws_eqIntS.g.eq]
  by_cases hl : x0.length = x1.length
  · have key := loop_eq (fun i => laws_eqIntS.l0g x0 x1 (i : Int)) x0 x1 hl (by
      intro i h h'
      show laws_eqIntS.l0g x0 x1 i = if x0[i] = x1[i] then laws_eqIntS.l0g x0 x1 ((i + 1 : Nat) : Int) else some false
      rw [laws_eqIntS.l0g.eq, if_pos (by omega), if_pos (by omega), if_pos (by omega), rd_nat h, rd_nat h', wr_succ (by omega)]) (by
      show laws_eqIntS.l0g x0 x1 (x0.length : Int) = _
      rw [laws_eqIntS.l0g.eq, if_neg (by omega)]) x0.length 0 (by omega)
    rw [if_pos (by omega)]
    simpa using key
  · rw [if_neg (by omega)]
    have : x0 ≠ x1 := fun e => hl (by rw [e])
    simp [this]
theorem markIntS_eq (xs : List Int) (k : Int) (h0 : 0 ≤ k) (h1 : k ≤ 1099511627776) (hn : xs.length ≤ 1099511627776) : laws_markIntS.g xs k = some (k + xs.length, marks xs.length k) := by
  have key := loop_mark (fun i acc c => laws_markIntS.l0g acc c (i : Int)) xs.length k (by
    intro i acc hi ha
    show laws_markIntS.l0g acc (k + i) i = laws_markIntS.l0g (acc.set i (k + i)) (k + (i + 1 : Nat)) ((i + 1 : Nat) : Int)
    rw [laws_markIntS.l0g.eq, if_pos (by omega), if_pos (by omega), wr_succ (by omega), wr_id (by omega) (by omega), Int.toNat_natCast]
    congr 1; omega) (by
    intro acc ha
    show laws_markIntS.l0g acc (k + xs.length) (xs.length : Int) = _
    rw [laws_markIntS.l0g.eq, if_neg (by omega)]) xs.length 0 xs rfl (by omega)
  rw [laws_markIntS.g.eq]
  simpa [marks] using key
theorem heldIntS_eq (n : Nat) (k : Int) (h0 : 0 ≤ k) (h1 : k ≤ 1099511627776) (hn : n ≤ 1099511627776) : laws_heldIntS.g (marks n k) k = some (k + n) := by
  have key := loop_held (fun i c => laws_heldIntS.l0g (marks n k) c (i : Int)) n k (by
    intro i hi
    show laws_heldIntS.l0g (marks n k) (k + i) i = laws_heldIntS.l0g (marks n k) (k + (i + 1 : Nat)) ((i + 1 : Nat) : Int)
    have hl := marks_len n k
    rw [laws_heldIntS.l0g.eq, if_pos (by omega), if_pos (by omega), rd_nat (by omega), marks_at, if_pos rfl, wr_succ (by omega), wr_id (by omega) (by omega)]
    congr 1; omega) (by
    show laws_heldIntS.l0g (marks n k) (k + n) (n : Int) = _
    rw [laws_heldIntS.l0g.eq, marks_len, if_neg (by omega)]) n 0 (by omega)
  rw [laws_heldIntS.g.eq]
  simpa using key
def timeOk (x : Int) : Bool := decide (0 ≤ x) && decide (x ≤ 200)
def beatsOk (l : List Int) : Bool := decide (l.length = 5) && l.all timeOk
theorem timeValid_eq (x : Int) : impl_timeValid.f x = some (timeOk x) := by
  unfold impl_timeValid.f timeOk; split <;> simp_all <;> omega
theorem l1In_eq (x a b : Int) : spec_l1In.f x a b = some (decide (a ≤ x) && decide (x ≤ b)) := by
  unfold spec_l1In.f; split <;> simp_all <;> omega
theorem specBeatsValid_eq (x0 : List Int) : spec_BeatsValid.g x0 = some (beatsOk x0) := by
  rw [spec_BeatsValid.g.eq]
  by_cases hl : x0.length = 5
  · have key := loop_all (fun i => spec_BeatsValid.l0g x0 (i : Int)) x0 timeOk (by
      intro i h
      show spec_BeatsValid.l0g x0 i = if timeOk x0[i] = true then spec_BeatsValid.l0g x0 ((i + 1 : Nat) : Int) else some false
      rw [spec_BeatsValid.l0g.eq, if_pos (by omega), if_pos (by omega), if_pos (by omega), rd_nat h, wr_succ (by omega), l1In_eq]
      rfl) (by
      show spec_BeatsValid.l0g x0 (x0.length : Int) = _
      rw [spec_BeatsValid.l0g.eq, if_neg (by omega)]) x0.length 0 (by omega)
    rw [if_pos (by omega)]
    simpa [beatsOk, hl] using key
  · rw [if_neg (by omega)]; simp [beatsOk, hl]
theorem implBeatsValid_eq (x0 : List Int) : impl_BeatsValid.g x0 = some (beatsOk x0) := by
  rw [impl_BeatsValid.g.eq]
  by_cases hl : x0.length = 5
  · have key := loop_all (fun i => impl_BeatsValid.l0g x0 (x0.length : Int) (i : Int)) x0 timeOk (by
      intro i h
      show impl_BeatsValid.l0g x0 (x0.length : Int) i = if timeOk x0[i] = true then impl_BeatsValid.l0g x0 (x0.length : Int) ((i + 1 : Nat) : Int) else some false
      rw [impl_BeatsValid.l0g.eq, if_pos (by omega), if_pos (by omega), if_pos (by omega), rd_nat h, wr_succ (by omega), timeValid_eq]
      rfl) (by
      show impl_BeatsValid.l0g x0 (x0.length : Int) (x0.length : Int) = _
      rw [impl_BeatsValid.l0g.eq, if_neg (by omega)]) x0.length 0 (by omega)
    rw [if_pos (by omega)]
    simpa [beatsOk, hl] using key
  · rw [if_neg (by omega)]; simp [beatsOk, hl]
theorem replacedInt_eq (l by_ : List Int) (a m : Nat) (hl : l.length ≤ 1099511627776) (hb : by_.length ≤ 1099511627776) (ham : a + m ≤ l.length) :
    impl_replaced_int.f l (a : Int) (m : Int) by_ = some (l.take a ++ by_ ++ l.drop (a + m)) := by
  unfold impl_replaced_int.f
  have e1 : wrap64 ((l.length : Int) - m) = (l.length : Int) - m := wr_id (by omega) (by omega)
  have e2 : wrap64 ((l.length : Int) - m + by_.length) = (l.length : Int) - m + by_.length := wr_id (by omega) (by omega)
  have e3 : wrap64 ((a : Int) + m) = ((a + m : Nat) : Int) := by rw [wr_id (by omega) (by omega)]; omega
  have t1 : (l.take a).length ≤ l.length := by simp; omega
  have t2 : (l.drop (a + m)).length ≤ l.length := by simp
  rw [e1, e2, e3, if_pos (by omega), if_pos (by omega)]
  simp only [Option.bind_some, Int.toNat_natCast, List.replicate_zero, List.nil_append, List.length_nil]
  rw [if_pos (by omega), if_pos (by omega), if_pos (by omega), if_pos (by omega), if_pos (by omega), if_pos (by omega), if_pos (by simp only [List.length_append]; omega)]
def nodeOk (x : Int) : Bool := decide (0 ≤ x) && decide (x ≤ 4)
theorem nodeValid_eq (x : Int) : impl_nodeValid.f x = some (nodeOk x) := by
  unfold impl_nodeValid.f nodeOk
  split
  · rename_i h; simp [h]; omega
  · rename_i h; simp; omega
theorem beatsOk_len {b : List Int} (h : beatsOk b = true) : b.length = 5 := by unfold beatsOk at h; simp at h; exact h.1
theorem nodeOk_iff {n : Int} : nodeOk n = true ↔ 0 ≤ n ∧ n ≤ 4 := by simp [nodeOk]
def hearBeat (b : List Int) (n t : Int) : List Int := if (beatsOk b && nodeOk n && timeOk t) = true then b.set n.toNat (mx (rd b n) t) else []
theorem specHearBeat_eq (b : List Int) (n t : Int) : spec_HearBeat.g b n t = some (hearBeat b n t) := by
  rw [spec_HearBeat.g.eq, specBeatsValid_eq]
  simp only [Option.bind_some, l1In_eq, hearBeat]
  change (if beatsOk b = true then (if nodeOk n = true then (if timeOk t = true then _ else _) else _) else _) = _
  cases hb : beatsOk b
  · simp
  cases hn : nodeOk n
  · simp
  cases hp : timeOk t
  · simp
  have hl := beatsOk_len hb
  have hn' := nodeOk_iff.1 hn
  simp only [if_true, Bool.and_self, List.nil_append, List.length_nil]
  rw [if_pos (by omega), if_pos (by omega), if_pos (by omega)]
theorem implHearBeat_eq (b : List Int) (n t : Int) : impl_HearBeat.g b n t = some (hearBeat b n t) := by
  rw [impl_HearBeat.g.eq, implBeatsValid_eq]
  simp only [Option.bind_some, nodeValid_eq, timeValid_eq, hearBeat]
  cases hb : beatsOk b
  · simp
  cases hn : nodeOk n
  · simp
  cases hp : timeOk t
  · simp
  have hl := beatsOk_len hb
  have hn' := nodeOk_iff.1 hn
  obtain ⟨m, rfl⟩ := Int.eq_ofNat_of_zero_le hn'.1
  simp only [if_true, Bool.and_self]
  have := replacedInt_eq b [mx (rd b m) t] m 1 (by omega) (by simp) (by omega)
  rw [if_pos (by omega), if_pos (by omega), show (1 : Int) = ((1 : Nat) : Int) from rfl, this, Option.bind_some, List.set_eq_take_append_cons_drop, Int.toNat_natCast, if_pos (by omega)]
  simp
theorem hearBeat_len (b : List Int) (n t : Int) : (hearBeat b n t).length ≤ 5 := by
  unfold hearBeat
  split
  · rename_i h
    simp only [Bool.and_eq_true] at h
    rw [List.length_set, beatsOk_len h.1.1]; omega
  · simp
theorem law_holds (l0 : List Int) (a1 a2 : Int) (f0 : FitL Fit l0) (f1 : Fit a1) (f2 : Fit a2) : ∃ k, laws_FnExactHearBeat.f k l0 a1 a2 = some true := by
  apply rounds_of_lim (g := fun k => laws_FnExactHearBeat.f k l0 a1 a2)
  show laws_FnExactHearBeat.g l0 a1 a2 = some true
  rw [laws_FnExactHearBeat.g.eq]
  by_cases h : (l0.length : Int) > 1048576
  · rw [if_pos h]
  · rw [if_neg h]
    have hs := hearBeat_len l0 a1 a2
    have e1 := toIntS_eq l0 (by omega)
    have e2 := eqIntS_eq l0 l0 (by omega)
    have e3 := eqIntS_eq (hearBeat l0 a1 a2) (hearBeat l0 a1 a2) (by omega)
    have e4 := markIntS_eq l0 1 (by omega) (by omega) (by omega)
    have e5 := markIntS_eq (hearBeat l0 a1 a2) 1 (by omega) (by omega) (by omega)
    have e6 := heldIntS_eq (hearBeat l0 a1 a2).length 1 (by omega) (by omega) (by omega)
    have n1 : ¬ (1 + (l0.length : Int) < 0) := by omega
    have n2 : ¬ (1 + ((hearBeat l0 a1 a2).length : Int) < 0) := by omega
    simp [laws_FnExactHearBeat.j0g.eq, e1, e2, e3, e4, e5, e6, specHearBeat_eq, implHearBeat_eq, n1, n2]
end Go.Proofs.Ytnaloccjejmmfaa.FFnExactHearBeat
