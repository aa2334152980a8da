/- For every pair whose key has at most 1048576 bytes the program's PairDigest returns what the reference's returns. No conditions but the bounds that the statement itself gives. -/
import Derived.Test.YtnaloccjejmmfaaGFnExactPairDigest
import Derived.Test.YtnaloccjejmmfaaBase
import Derived.Test.YtnaloccjejmmfaaReads
import Derived.Test.YtnaloccjejmmfaaStrs
set_option linter.unusedVariables false
set_option linter.unusedSimpArgs false
namespace Go.Proofs.Ytnaloccjejmmfaa.FFnExactPairDigest
open Go.RowKit Go.Proofs.YtnaloccjejmmfaaW.PrintWords Go.Proofs.YtnaloccjejmmfaaW.PrintLast Go.Proofs.YtnaloccjejmmfaaW.PrintMore Go.Proofs.YtnaloccjejmmfaaL
def letter (c : Int) : Bool := decide (97 ≤ c) && decide (c ≤ 122)
def lettersOk (l : List Int) : Bool := l.all letter
def keyOk (s : ByteArray) : Bool := decide (1 ≤ s.size) && decide (s.size ≤ 4) && lettersOk (bytesOf s)
theorem lettersOnly_eq : ∀ (n : Nat) (s : ByteArray), s.size = n → s.size ≤ 1099511627776 → impl_lettersOnly.g s = some (lettersOk (bytesOf s)) := by
  intro n
  induction n with
  | zero =>
    intro s hs _
    have h0 : bytesOf s = [] := List.length_eq_zero_iff.1 (by rw [bytesOf_length]; exact hs)
    rw [impl_lettersOnly.g.eq, if_pos ((toList_nil s).2 h0), h0]; rfl
  | succ n ih =>
    intro s hs hb
    have hl := bytesOf_length s
    have h0 : bytesOf s ≠ [] := fun e => by rw [e] at hl; simp at hl; omega
    have hd := bytesOf_drop s 1
    have he : (s.extract 1 s.size).size = n := by rw [← bytesOf_length, hd, List.length_drop, hl]; omega
    rw [impl_lettersOnly.g.eq, if_neg (fun e => h0 ((toList_nil s).1 e)), if_pos (by omega), if_pos (by omega : 1 ≤ (s.size : Int)), ih _ he (by omega), hd, ← rd_bytesOf]
    cases hc : bytesOf s with
    | nil => exact absurd hc h0
    | cons c t =>
      simp only [rd, lettersOk, List.all_cons, letter, Option.bind_some, List.drop_succ_cons, List.drop_zero, Int.toNat_zero, List.getD_cons_zero, ge_iff_le]
      by_cases h1 : 97 ≤ c
      · by_cases h2 : c ≤ 122
        · simp [h1, h2]
        · simp [h1, h2]
      · simp [h1]
theorem implKeyValid_eq (s : ByteArray) (hs : s.size ≤ 1099511627776) : impl_KeyValid.g s = some (keyOk s) := by
  rw [impl_KeyValid.g.eq, lettersOnly_eq s.size s rfl hs]
  unfold keyOk
  by_cases h1 : (s.size : Int) < 1
  · rw [if_pos h1]; simp; omega
  · rw [if_neg h1]
    by_cases h2 : (s.size : Int) > 4
    · rw [if_pos h2]; simp; omega
    · rw [if_neg h2]
      have : 1 ≤ s.size ∧ s.size ≤ 4 := by omega
      simp [this]
theorem specL1In_eq (x a b : Int) : spec_l1In.f x a b = some (decide (a ≤ x) && decide (x ≤ b)) := by
  unfold spec_l1In.f; split <;> simp_all <;> omega
theorem specKeyValid_eq (s : ByteArray) (hs : s.size ≤ 1099511627776) : spec_KeyValid.g s = some (keyOk s) := by
  have hl := bytesOf_length s
  have key := loop_all (fun i => spec_KeyValid.l0g s (i : Int)) (bytesOf s) letter (by
    intro i h
    show spec_KeyValid.l0g s i = if letter (bytesOf s)[i] = true then spec_KeyValid.l0g s ((i + 1 : Nat) : Int) else some false
    rw [spec_KeyValid.l0g.eq, if_pos (by omega), if_pos (by omega), ← rd_bytesOf, rd_nat h, wr_succ (by omega)]
    unfold letter
    by_cases h1 : (bytesOf s)[i] < 97
    · rw [if_pos h1]; simp; omega
    · rw [if_neg h1]
      by_cases h2 : (bytesOf s)[i] > 122
      · rw [if_pos h2]; simp; omega
      · rw [if_neg h2]
        have : 97 ≤ (bytesOf s)[i] ∧ (bytesOf s)[i] ≤ 122 := by omega
        simp [this]) (by
    show spec_KeyValid.l0g s ((bytesOf s).length : Int) = _
    rw [spec_KeyValid.l0g.eq, if_neg (by omega)]) (bytesOf s).length 0 (by omega)
  rw [spec_KeyValid.g.eq, specL1In_eq]
  simp only [Option.bind_some]
  have key' : spec_KeyValid.l0g s 0 = some (lettersOk (bytesOf s)) := key
  rw [key']
  unfold keyOk
  by_cases h : 1 ≤ s.size ∧ s.size ≤ 4
  · have h3 : 1 ≤ (s.size : Int) ∧ (s.size : Int) ≤ 4 := by omega
    simp [h, h3]
  · have : (decide (1 ≤ (s.size : Int)) && decide ((s.size : Int) ≤ 4)) = false := by simp; omega
    rw [this]; simp; omega
def weight : Nat → Int
  | 0 => 18279
  | 1 => 703
  | 2 => 27
  | _ => 1
def rankSum : Nat → List Int → Int
  | _, [] => 0
  | i, c :: t => 1 + ((c - 97) % 256) * weight i + rankSum (i + 1) t
theorem weight_range (i : Nat) : 1 ≤ weight i ∧ weight i ≤ 18279 := by
  unfold weight; split <;> omega
theorem term_range (c : Int) (i : Nat) : 0 ≤ ((c - 97) % 256) * weight i ∧ ((c - 97) % 256) * weight i ≤ 4661145 := by
  have h := weight_range i
  have h0 : 0 ≤ (c - 97) % 256 := Int.emod_nonneg _ (by omega)
  have h1 : (c - 97) % 256 ≤ 255 := by omega
  refine ⟨Int.mul_nonneg h0 (by omega), ?_⟩
  have := Int.mul_le_mul h1 h.2 (by omega) (by omega)
  omega
theorem rankSum_range : ∀ (l : List Int) (i : Nat), 0 ≤ rankSum i l ∧ rankSum i l ≤ 4661146 * l.length := by
  intro l
  induction l with
  | nil => intro i; simp [rankSum]
  | cons c t ih =>
    intro i
    have := ih (i + 1)
    have h2 := term_range c i
    simp only [rankSum, List.length_cons]
    omega
theorem keysFrom_eq : ∀ i : Nat, i ≤ 100 → impl_keysFrom.g ((i : Int) + 1) = some (weight i) := by
  have h4 : ∀ d : Int, 4 ≤ d → impl_keysFrom.g d = some 1 := fun d h => by rw [impl_keysFrom.g.eq, if_pos (by omega)]
  have h3 : impl_keysFrom.g 3 = some 27 := by rw [impl_keysFrom.g.eq, if_neg (by omega), wr_id (by omega) (by omega), h4 _ (by omega)]; exact congrArg some (by unfold wrap64; omega : wrap64 (1 + wrap64 (26 * 1)) = 27)
  have h2 : impl_keysFrom.g 2 = some 703 := by rw [impl_keysFrom.g.eq, if_neg (by omega), wr_id (by omega) (by omega), show (2 : Int) + 1 = 3 from rfl, h3]; exact congrArg some (by unfold wrap64; omega : wrap64 (1 + wrap64 (26 * 27)) = 703)
  have h1 : impl_keysFrom.g 1 = some 18279 := by rw [impl_keysFrom.g.eq, if_neg (by omega), wr_id (by omega) (by omega), show (1 : Int) + 1 = 2 from rfl, h2]; exact congrArg some (by unfold wrap64; omega : wrap64 (1 + wrap64 (26 * 703)) = 18279)
  intro i _
  match i with
  | 0 => exact h1
  | 1 => exact h2
  | 2 => exact h3
  | n + 3 => exact h4 _ (by omega)
theorem rankBelow_eq : ∀ (n : Nat) (s : ByteArray) (i : Nat), s.size = n → s.size + i ≤ 100 → impl_rankBelow.g s ((i : Int) + 1) = some (rankSum i (bytesOf s)) := by
  intro n
  induction n with
  | zero =>
    intro s i hs _
    have h0 : bytesOf s = [] := List.length_eq_zero_iff.1 (by rw [bytesOf_length]; exact hs)
    rw [impl_rankBelow.g.eq, if_pos ((toList_nil s).2 h0), h0]; rfl
  | succ n ih =>
    intro s i hs hb
    have hl := bytesOf_length s
    have h0 : bytesOf s ≠ [] := fun e => by rw [e] at hl; simp at hl; omega
    have hd := bytesOf_drop s 1
    have he : (s.extract 1 s.size).size = n := by rw [← bytesOf_length, hd, List.length_drop, hl]; omega
    have hi : wrap64 ((i : Int) + 1 + 1) = ((i + 1 : Nat) : Int) + 1 := by rw [wr_id (x := (i : Int) + 1 + 1) (by omega) (by omega)]; omega
    rw [impl_rankBelow.g.eq, if_neg (fun e => h0 ((toList_nil s).1 e)), if_pos (by omega), keysFrom_eq i (by omega), Option.bind_some, if_pos (by omega : 1 ≤ (s.size : Int)), hi, ih _ (i + 1) he (by omega), hd, ← rd_bytesOf, Option.bind_some]
    cases hc : bytesOf s with
    | nil => exact absurd hc h0
    | cons c t =>
      simp only [rd, rankSum, List.drop_succ_cons, List.drop_zero, Int.toNat_zero, List.getD_cons_zero]
      have ht : t.length ≤ 100 := by rw [hc] at hl; simp at hl; omega
      have r1 := term_range c i
      have r2 := rankSum_range t (i + 1)
      simp (disch := omega) only [wr_id]
theorem specKeyRank_loop (s : ByteArray) (hs : s.size ≤ 100) : ∀ (d i : Nat) (acc : Int), i + d = s.size → -1 ≤ acc → acc ≤ 4661146 * i →
    spec_KeyRank.l0g s acc (i : Int) = some (acc + rankSum i ((bytesOf s).drop i)) := by
  have hl := bytesOf_length s
  intro d
  induction d with
  | zero =>
    intro i acc hi _ _
    obtain rfl : i = s.size := by omega
    rw [spec_KeyRank.l0g.eq, if_neg (by omega), ← hl, List.drop_length]; simp [rankSum]
  | succ d ih =>
    intro i acc hi h0 h1
    have hw : spec_l1Weight.f (i : Int) = some (weight i) := by
      unfold spec_l1Weight.f
      match i with
      | 0 => rfl
      | 1 => rfl
      | 2 => rfl
      | n + 3 => rw [if_neg (by omega), if_neg (by omega), if_neg (by omega)]; rfl
    have hi' : i < (bytesOf s).length := by omega
    rw [spec_KeyRank.l0g.eq, if_pos (by omega), if_pos (by omega), hw, Option.bind_some, ← rd_bytesOf, rd_nat hi', wr_succ (by omega), drop_at hi']
    have r1 := term_range (bytesOf s)[i] i
    simp (disch := omega) only [wr_id]
    rw [ih (i + 1) _ (by omega) (by omega) (by omega)]
    simp only [rankSum]
    congr 1
    omega
theorem implKeyRank_eq (s : ByteArray) (hs : s.size ≤ 1099511627776) : impl_KeyRank.g s = some (if keyOk s = true then rankSum 0 (bytesOf s) - 1 else -1) := by
  rw [impl_KeyRank.g.eq, implKeyValid_eq s hs, Option.bind_some]
  cases hk : keyOk s
  · simp
  · have h4 : s.size ≤ 4 := by unfold keyOk at hk; simp at hk; exact hk.1.2
    have := rankBelow_eq s.size s 0 rfl (by omega)
    have r := rankSum_range (bytesOf s) 0
    have hl := bytesOf_length s
    rw [if_pos rfl, show (1 : Int) = ((0 : Nat) : Int) + 1 from rfl, this, Option.bind_some, if_pos rfl]
    congr 1
    exact wr_id (by omega) (by omega)
theorem specKeyRank_eq (s : ByteArray) (hs : s.size ≤ 1099511627776) : spec_KeyRank.g s = some (if keyOk s = true then rankSum 0 (bytesOf s) - 1 else -1) := by
  rw [spec_KeyRank.g.eq, specKeyValid_eq s hs, Option.bind_some]
  cases hk : keyOk s
  · simp
  · have h4 : s.size ≤ 4 := by unfold keyOk at hk; simp at hk; exact hk.1.2
    rw [if_pos rfl, if_pos rfl, show (0 : Int) = ((0 : Nat) : Int) from rfl, specKeyRank_loop s (by omega) s.size 0 (-1) (by omega) (by omega) (by omega), List.drop_zero]
    congr 1
    omega
theorem specPairDigest_eq (s : ByteArray) (v : Int) (hs : s.size ≤ 1099511627776) : ∃ r, spec_PairDigest.g s v = some r ∧ impl_PairDigest.g s v = some r := by
  rw [spec_PairDigest.g.eq, impl_PairDigest.g.eq, specKeyValid_eq s hs, implKeyValid_eq s hs, specL1In_eq]
  have hv : impl_valueValid.f v = some (decide (0 ≤ v) && decide (v ≤ 999)) := by unfold impl_valueValid.f; split <;> simp_all <;> omega
  simp only [Option.bind_some, hv, specKeyRank_eq s hs, implKeyRank_eq s hs]
  cases hk : keyOk s
  · exact ⟨-1, by simp⟩
  · cases hw : (decide (0 ≤ v) && decide (v ≤ 999))
    · exact ⟨-1, by simp⟩
    · exact ⟨_, rfl, rfl⟩
theorem law_holds (a0_0 : ByteArray) (a0_1 : Int) (f : FitS a0_0 ∧ Fit a0_1) : ∃ k, laws_FnExactPairDigest.f k a0_0 a0_1 = some true := by
  apply rounds_of_lim (g := fun k => laws_FnExactPairDigest.f k a0_0 a0_1)
  show laws_FnExactPairDigest.g a0_0 a0_1 = some true
  have hf := f.1
  unfold FitS at hf
  have e1 : wrap64 (1048576 - (a0_0.size : Int)) = 1048576 - (a0_0.size : Int) := wr_id (by omega) (by omega)
  rw [laws_FnExactPairDigest.g.eq]
  unfold laws_szPair.f laws_toPair.f
  rw [e1]
  by_cases h : 1048576 - (a0_0.size : Int) < 0
  · rw [if_pos h]; rfl
  · obtain ⟨r, h1, h2⟩ := specPairDigest_eq a0_0 a0_1 (by omega)
    rw [if_neg h]
    simp only [Option.bind_some, h1, h2]
    simp [h]
end Go.Proofs.Ytnaloccjejmmfaa.FFnExactPairDigest
