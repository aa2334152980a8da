/- For every list of whole numbers of at most 1048576 entries the program's LoadSpread returns what the reference's returns, and leaves its argument alone. No conditions but the bounds that the statement itself gives. -/
import Derived.Test.YtnaloccjejmmfaaGFnExactLoadSpread
import Derived.Test.YtnaloccjejmmfaaBase
import Derived.Test.YtnaloccjejmmfaaReads
set_option linter.unusedVariables false
set_option linter.unusedSimpArgs false
namespace Go.Proofs.Ytnaloccjejmmfaa.FFnExactLoadSpread
open Go.RowKit Go.Proofs.YtnaloccjejmmfaaW.PrintWords Go.Proofs.YtnaloccjejmmfaaW.PrintLast Go.Proofs.YtnaloccjejmmfaaW.PrintMore Go.Proofs.YtnaloccjejmmfaaL
theorem toIntS_eq (x0 : List Int) (hn : x0.length ≤ 1048576) : laws_toIntS.g x0 = some x0 := by
  have key := loop_set (fun i acc => laws_toIntS.l0g x0 acc (i : Int)) x0 id 0 (by
    intro i h acc ha
    show laws_toIntS.l0g x0 acc i = laws_toIntS.l0g x0 (acc.set i x0[i]) ((i + 1 : Nat) : Int)
    rw [laws_toIntS.l0g.eq, if_pos (by omega), if_pos (by omega), if_pos (by omega), rd_nat h, wr_succ (by omega), Int.toNat_natCast]) (by
    intro acc ha
    show laws_toIntS.l0g x0 acc (x0.length : Int) = _
    rw [laws_toIntS.l0g.eq, if_neg (by omega)]) x0.length 0 (by omega)
  rw [laws_toIntS.g.eq, if_pos (by omega), if_pos (by omega), Int.toNat_natCast]
  simpa using key
theorem eqIntS_eq (x0 x1 : List Int) (hn : x0.length ≤ 1048576) : laws_eqIntS.g x0 x1 = some (decide (x0 = x1)) := by
  rw [laws_eqIntS.g.eq]
  by_cases hl : x0.length = x1.length
  · have key := loop_eq (fun i => laws_eqIntS.l0g x0 x1 (i : Int)) x0 x1 hl (by
      intro i h h'
      show laws_eqIntS.l0g x0 x1 i = if x0[i] = x1[i] then laws_eqIntS.l0g x0 x1 ((i + 1 : Nat) : Int) else some false
      rw [laws_eqIntS.l0g.eq, if_pos (by omega), if_pos (by omega), if_pos (by omega), rd_nat h, rd_nat h', wr_succ (by omega)]) (by
      show laws_eqIntS.l0g x0 x1 (x0.length : Int) = _
      rw [laws_eqIntS.l0g.eq, if_neg (by omega)]) x0.length 0 (by omega)
    rw [if_pos (by omega)]
    simpa using key
  · rw [if_neg (by omega)]
    have : x0 ≠ x1 := fun e => hl (by rw [e])
    simp [this]
def lowest (l : List Int) : Int := l.foldl mn (rd l 0)
def highest (l : List Int) : Int := l.foldl mx (rd l 0)
def anyNeg (l : List Int) : Bool := l.any fun x => decide (x < 0)
def loadSpread (l : List Int) : Int := if l = [] then -1 else if anyNeg l = true then -1 else wrap64 (highest l - lowest l)
theorem foldl_mn_lt (c : Int) : ∀ (t : List Int) (h : Int), t.foldl mn h < c ↔ h < c ∨ ∃ x ∈ t, x < c := by
  intro t
  induction t with
  | nil => intro h; simp
  | cons y t ih =>
    intro h
    rw [List.foldl_cons, ih]
    have : mn h y < c ↔ h < c ∨ y < c := by unfold mn; split <;> omega
    rw [this]
    simp only [List.mem_cons, exists_eq_or_imp]
    exact or_assoc
theorem specLoadSpread_loop (x0 : List Int) (hn : x0.length ≤ 1099511627776) : ∀ d i lo hi, i + d = x0.length →
    spec_LoadSpread.l0g x0 lo hi (i : Int) = some (if anyNeg (x0.drop i) = true then -1 else wrap64 ((x0.drop i).foldl mx hi - (x0.drop i).foldl mn lo)) := by
  intro d
  induction d with
  | zero =>
    intro i lo hi h
    obtain rfl : i = x0.length := by omega
    rw [spec_LoadSpread.l0g.eq, if_neg (by omega)]
    simp [anyNeg]
  | succ d ih =>
    intro i lo hi h
    have hi' : i < x0.length := by omega
    rw [spec_LoadSpread.l0g.eq, if_pos (by omega), if_pos (by omega), rd_nat hi', wr_succ (by omega), ih (i + 1) _ _ (by omega), drop_at hi']
    simp only [anyNeg, List.any_cons, List.foldl_cons]
    by_cases hneg : x0[i] < 0
    · simp [hneg]
    · simp only [hneg, if_false, decide_false, Bool.false_or]; rfl
theorem minInt_loop (x0 : List Int) (hn : x0.length ≤ 1099511627776) : ∀ d i lo, i + d = x0.length → slices_Min_int_int.l0g x0 lo (i : Int) = some ((x0.drop i).foldl mn lo) := by
  intro d
  induction d with
  | zero =>
    intro i lo h
    obtain rfl : i = x0.length := by omega
    rw [slices_Min_int_int.l0g.eq, if_neg (by omega)]
    simp
  | succ d ih =>
    intro i lo h
    have hi' : i < x0.length := by omega
    rw [slices_Min_int_int.l0g.eq, if_pos (by omega), if_pos (by omega), rd_nat hi', wr_succ (by omega), ih (i + 1) _ (by omega), drop_at hi', List.foldl_cons]
theorem maxInt_loop (x0 : List Int) (hn : x0.length ≤ 1099511627776) : ∀ d i lo, i + d = x0.length → slices_Max_int_int.l0g x0 lo (i : Int) = some ((x0.drop i).foldl mx lo) := by
  intro d
  induction d with
  | zero =>
    intro i lo h
    obtain rfl : i = x0.length := by omega
    rw [slices_Max_int_int.l0g.eq, if_neg (by omega)]
    simp
  | succ d ih =>
    intro i lo h
    have hi' : i < x0.length := by omega
    rw [slices_Max_int_int.l0g.eq, if_pos (by omega), if_pos (by omega), rd_nat hi', wr_succ (by omega), ih (i + 1) _ (by omega), drop_at hi', List.foldl_cons]
theorem first_fold (f : Int → Int → Int) (hf : ∀ x, f x x = x) (l : List Int) (h : l ≠ []) : (l.drop 1).foldl f (rd l 0) = l.foldl f (rd l 0) := by
  cases l with
  | nil => exact absurd rfl h
  | cons x t => simp [rd, hf]
theorem mn_self (x : Int) : mn x x = x := by unfold mn; split <;> rfl
theorem mx_self (x : Int) : mx x x = x := by unfold mx; split <;> rfl
theorem minInt_eq (l : List Int) (hn : l.length ≤ 1099511627776) (h : l ≠ []) : slices_Min_int_int.g l = some (lowest l) := by
  have hl : 0 < l.length := List.length_pos_iff.2 h
  have := minInt_loop l hn (l.length - 1) 1 (rd l 0) (by omega)
  rw [slices_Min_int_int.g.eq, if_neg (by omega), if_pos (by omega)]
  exact this.trans (by rw [first_fold mn mn_self l h]; rfl)
theorem maxInt_eq (l : List Int) (hn : l.length ≤ 1099511627776) (h : l ≠ []) : slices_Max_int_int.g l = some (highest l) := by
  have hl : 0 < l.length := List.length_pos_iff.2 h
  have := maxInt_loop l hn (l.length - 1) 1 (rd l 0) (by omega)
  rw [slices_Max_int_int.g.eq, if_neg (by omega), if_pos (by omega)]
  exact this.trans (by rw [first_fold mx mx_self l h]; rfl)
theorem lowest_neg (l : List Int) (h : l ≠ []) : decide (lowest l < 0) = anyNeg l := by
  unfold lowest anyNeg
  rw [Bool.eq_iff_iff, decide_eq_true_iff, foldl_mn_lt, List.any_eq_true]
  constructor
  · rintro (h0 | ⟨x, hx, hx0⟩)
    · cases l with
      | nil => exact absurd rfl h
      | cons y t => exact ⟨y, List.mem_cons_self .., by simpa [rd] using h0⟩
    · exact ⟨x, hx, by simpa using hx0⟩
  · rintro ⟨x, hx, hx0⟩
    exact .inr ⟨x, hx, by simpa using hx0⟩
theorem specLoadSpread_eq (l : List Int) (hn : l.length ≤ 1099511627776) : spec_LoadSpread.g l = some (loadSpread l) := by
  rw [spec_LoadSpread.g.eq]
  unfold loadSpread
  by_cases h : l = []
  · subst h; simp
  · have hl : 0 < l.length := List.length_pos_iff.2 h
    have := specLoadSpread_loop l hn l.length 0 (rd l 0) (rd l 0) (by omega)
    rw [if_neg (by omega), if_pos (by omega), if_neg h]
    exact this
theorem implLoadSpread_eq (l : List Int) (hn : l.length ≤ 1099511627776) : impl_LoadSpread.g l = some (loadSpread l) := by
  rw [impl_LoadSpread.g.eq]
  unfold loadSpread
  by_cases h : l = []
  · subst h; simp [impl_LoadSpread.j0g.eq]
  · have hl : 0 < l.length := List.length_pos_iff.2 h
    rw [if_neg (by omega), if_neg h, minInt_eq l hn h, Option.bind_some, impl_LoadSpread.j0g.eq, lowest_neg l h, maxInt_eq l hn h, minInt_eq l hn h]
    simp only [Option.bind_some]
    split <;> rfl
theorem law_holds (l0 : List Int) (f0 : FitL Fit l0) : ∃ k, laws_FnExactLoadSpread.f k l0 = some true := by
  apply rounds_of_lim (g := fun k => laws_FnExactLoadSpread.f k l0)
  show laws_FnExactLoadSpread.g l0 = some true
  rw [laws_FnExactLoadSpread.g.eq]
  by_cases h : (l0.length : Int) > 1048576
  · rw [if_pos h]
  · rw [if_neg h]
    simp [toIntS_eq l0 (by omega), eqIntS_eq l0 l0 (by omega), specLoadSpread_eq l0 (by omega), implLoadSpread_eq l0 (by omega)]
end Go.Proofs.Ytnaloccjejmmfaa.FFnExactLoadSpread
