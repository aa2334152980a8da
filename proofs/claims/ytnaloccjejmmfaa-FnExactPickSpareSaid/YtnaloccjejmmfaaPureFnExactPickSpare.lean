/- For all loads, lists of bools and configurations of at most 1048576 entries the program's PickSpare returns what the reference's returns, and leaves its arguments alone. No conditions but the bounds that the statement itself gives. -/
import Derived.Test.YtnaloccjejmmfaaGFnExactPickSpare
import Derived.Test.YtnaloccjejmmfaaBase
import Derived.Test.YtnaloccjejmmfaaReads
set_option linter.unusedVariables false
set_option linter.unusedSimpArgs false
namespace Go.Proofs.Ytnaloccjejmmfaa.FFnExactPickSpare
open Go.RowKit Go.Proofs.YtnaloccjejmmfaaW.PrintWords Go.Proofs.YtnaloccjejmmfaaW.PrintLast Go.Proofs.YtnaloccjejmmfaaW.PrintMore Go.Proofs.YtnaloccjejmmfaaL
theorem toIntS_eq (x0 : List Int) (hn : x0.length ≤ 1048576) : laws_toIntS.g x0 = some x0 := by
  have key := loop_set (fun i acc => laws_toIntS.l0g x0 acc (i : Int)) x0 id 0 (by
    intro i h acc ha
    show laws_toIntS.l0g x0 acc i = laws_toIntS.l0g x0 (acc.set i x0[i]) ((i + 1 : Nat) : Int)
    rw [laws_toIntS.l0g.eq, if_pos (by omega), if_pos (by omega), if_pos (by omega), rd_nat h, wr_succ (by omega), Int.toNat_natCast]) (by
    intro acc ha
    show laws_toIntS.l0g x0 acc (x0.length : Int) = _
    rw [laws_toIntS.l0g.eq, if_neg (by omega)]) x0.length 0 (by omega)
  rw [laws_toIntS.g.eq, if_pos (by omega), if_pos (by omega), Int.toNat_natCast]
  simpa using key
theorem eqIntS_eq (x0 x1 : List Int) (hn : x0.length ≤ 1048576) : laws_eqIntS.g x0 x1 = some (decide (x0 = x1)) := by
  rw [laws_eqIntS.g.eq]
  by_cases hl : x0.length = x1.length
  · have key := loop_eq (fun i => laws_eqIntS.l0g x0 x1 (i : Int)) x0 x1 hl (by
      intro i h h'
      show laws_eqIntS.l0g x0 x1 i = if x0[i] = x1[i] then laws_eqIntS.l0g x0 x1 ((i + 1 : Nat) : Int) else some false
      rw [laws_eqIntS.l0g.eq, if_pos (by omega), if_pos (by omega), if_pos (by omega), rd_nat h, rd_nat h', wr_succ (by omega)]) (by
      show laws_eqIntS.l0g x0 x1 (x0.length : Int) = _
      rw [laws_eqIntS.l0g.eq, if_neg (by omega)]) x0.length 0 (by omega)
    rw [if_pos (by omega)]
    simpa using key
  · rw [if_neg (by omega)]
    have : x0 ≠ x1 := fun e => hl (by rw [e])
    simp [this]
theorem toBoolS_eq (x0 : List Bool) (hn : x0.length ≤ 1048576) : laws_toBoolS.g x0 = some x0 := by
  have key := loop_set (fun i acc => laws_toBoolS.l0g x0 acc (i : Int)) x0 id false (by
    intro i h acc ha
    show laws_toBoolS.l0g x0 acc i = laws_toBoolS.l0g x0 (acc.set i x0[i]) ((i + 1 : Nat) : Int)
    rw [laws_toBoolS.l0g.eq, if_pos (by omega), if_pos (by omega), if_pos (by omega), rdOf_nat h, wr_succ (by omega), Int.toNat_natCast]) (by
    intro acc ha
    show laws_toBoolS.l0g x0 acc (x0.length : Int) = _
    rw [laws_toBoolS.l0g.eq, if_neg (by omega)]) x0.length 0 (by omega)
  rw [laws_toBoolS.g.eq, if_pos (by omega), if_pos (by omega), Int.toNat_natCast]
  simpa using key
theorem eqBoolS_eq (x0 x1 : List Bool) (hn : x0.length ≤ 1048576) : laws_eqBoolS.g x0 x1 = some (decide (x0 = x1)) := by
  rw [laws_eqBoolS.g.eq]
  by_cases hl : x0.length = x1.length
  · have key := loop_eq (fun i => laws_eqBoolS.l0g x0 x1 (i : Int)) x0 x1 hl (by
      intro i h h'
      show laws_eqBoolS.l0g x0 x1 i = if x0[i] = x1[i] then laws_eqBoolS.l0g x0 x1 ((i + 1 : Nat) : Int) else some false
      rw [laws_eqBoolS.l0g.eq, if_pos (by omega), if_pos (by omega), if_pos (by omega), rdOf_nat h, rdOf_nat h', wr_succ (by omega)]
      by_cases he : x0[i] = x1[i] <;> simp [he]) (by
      show laws_eqBoolS.l0g x0 x1 (x0.length : Int) = _
      rw [laws_eqBoolS.l0g.eq, if_neg (by omega)]) x0.length 0 (by omega)
    rw [if_pos (by omega)]
    simpa using key
  · rw [if_neg (by omega)]
    have : x0 ≠ x1 := fun e => hl (by rw [e])
    simp [this]
/-- The first node with the least load among those that are free. -/
def bestStep (loads : List Int) (free : Nat → Bool) (b : Int) (j : Nat) : Int := if free j = true then (if b < 0 ∨ rd loads j < rd loads b then (j : Int) else b) else b
def best (loads : List Int) (free : Nat → Bool) : Int := (List.range' 0 5).foldl (bestStep loads free) (-1)
theorem bestStep_range (loads : List Int) (free : Nat → Bool) (b : Int) (j : Nat) (hj : j < 5) (hb : -1 ≤ b ∧ b ≤ 4) : -1 ≤ bestStep loads free b j ∧ bestStep loads free b j ≤ 4 := by
  unfold bestStep; split
  · split <;> omega
  · omega
theorem best_range_from (loads : List Int) (free : Nat → Bool) : ∀ (d i : Nat) (b : Int), i + d = 5 → -1 ≤ b ∧ b ≤ 4 → -1 ≤ (List.range' i d).foldl (bestStep loads free) b ∧ (List.range' i d).foldl (bestStep loads free) b ≤ 4 := by
  intro d
  induction d with
  | zero => intro i b _ hb; simpa using hb
  | succ d ih => intro i b hi hb; rw [List.range'_succ, List.foldl_cons]; exact ih (i + 1) _ (by omega) (bestStep_range loads free b i (by omega) hb)
theorem best_range (loads : List Int) (free : Nat → Bool) : -1 ≤ best loads free ∧ best loads free ≤ 4 := best_range_from loads free 5 0 (-1) rfl (by omega)
theorem indexInt_loop (xs : List Int) (v : Int) (hn : xs.length ≤ 1099511627776) : ∀ (d i : Nat), i + d = xs.length → ∃ r : Int, slices_Index_int_int.l0g xs v (xs.length : Int) (i : Int) = some r ∧ decide (r ≥ 0) = decide (v ∈ xs.drop i) := by
  intro d
  induction d with
  | zero =>
    intro i hi
    obtain rfl : i = xs.length := by omega
    rw [slices_Index_int_int.l0g.eq, if_neg (by omega)]
    exact ⟨-1, rfl, by simp⟩
  | succ d ih =>
    intro i hi
    have hi' : i < xs.length := by omega
    rw [slices_Index_int_int.l0g.eq, if_pos (by omega), if_pos (by omega), if_pos (by omega), rd_nat hi', wr_succ (by omega)]
    by_cases he : v = xs[i]
    · rw [if_pos he]
      exact ⟨i, rfl, by rw [decide_eq_true (by omega : (i : Int) ≥ 0), drop_at hi', eq_comm, decide_eq_true_eq, he]; exact List.mem_cons_self ..⟩
    · rw [if_neg he]
      obtain ⟨r, hr, hd⟩ := ih (i + 1) (by omega)
      exact ⟨r, hr, by rw [hd, drop_at hi', decide_eq_decide, List.mem_cons]; exact ⟨.inr, fun h => h.resolve_left he⟩⟩
theorem containsInt_eq (xs : List Int) (v : Int) (hn : xs.length ≤ 1099511627776) : slices_Contains_int_int.g xs v = some (decide (v ∈ xs)) := by
  obtain ⟨r, hr, hd⟩ := indexInt_loop xs v hn xs.length 0 (by omega)
  have hr' : slices_Index_int_int.g xs v = some r := by rw [slices_Index_int_int.g.eq]; exact hr
  rw [slices_Contains_int_int.g.eq, hr', Option.bind_some, hd, List.drop_zero]
def freeOf (up : List Bool) (but : List Int) (j : Nat) : Bool := rdOf false up (j : Int) && !decide ((j : Int) ∈ but)
theorem leastLoad_loop (loads : List Int) (up : List Bool) (but : List Int) (hl : loads.length = 5) (hu : up.length = 5) (hb : but.length ≤ 1099511627776) : ∀ (d i : Nat) (b : Int), i + d = 5 → -1 ≤ b ∧ b ≤ 4 →
    impl_leastLoad.l0g loads up but b (i : Int) = some ((List.range' i d).foldl (bestStep loads (freeOf up but)) b) := by
  intro d
  induction d with
  | zero => intro i b hi _; rw [impl_leastLoad.l0g.eq, if_neg (by omega)]; rfl
  | succ d ih =>
    intro i b hi hbr
    have hs := bestStep_range loads (freeOf up but) b i (by omega) hbr
    have ihs := ih (i + 1) (bestStep loads (freeOf up but) b i) (by omega) hs
    rw [impl_leastLoad.l0g.eq, if_pos (by omega), if_pos (by omega), if_pos (by omega), List.range'_succ, List.foldl_cons, ← ihs, containsInt_eq but _ hb]
    have e : bestStep loads (freeOf up but) b i = if (rdOf false up (i : Int) && !decide ((i : Int) ∈ but)) = true then (if b < 0 ∨ rd loads i < rd loads b then (i : Int) else b) else b := rfl
    rw [e]
    by_cases h1 : rdOf false up (i : Int) = true
    · rw [if_pos h1, Option.bind_some, impl_leastLoad.j1g.eq, wr_succ (by omega)]
      by_cases h2 : (i : Int) ∈ but
      · simp [h1, h2]
      · simp only [h1, h2, decide_false, Bool.false_eq_true, if_false, Bool.not_false, Bool.and_self, if_true]
        by_cases h3 : b < 0
        · rw [if_pos h3, if_pos (Or.inl h3)]
        · rw [if_neg h3, if_pos (by omega), if_pos (by omega), if_pos (by omega), if_pos (by omega)]
          by_cases h4 : rd loads i < rd loads b
          · rw [if_pos h4, if_pos (Or.inr h4)]
          · rw [if_neg h4, if_neg (by rintro (h | h) <;> omega)]
    · rw [if_neg h1, impl_leastLoad.j1g.eq, if_pos rfl, wr_succ (by omega)]
      simp [h1]
theorem leastLoad_eq (loads : List Int) (up : List Bool) (but : List Int) (hl : loads.length = 5) (hu : up.length = 5) (hb : but.length ≤ 1099511627776) : impl_leastLoad.g loads up but = some (best loads (freeOf up but)) := by
  rw [impl_leastLoad.g.eq]
  exact leastLoad_loop loads up but hl hu hb 5 0 (-1) rfl (by omega)
def nodeOk (x : Int) : Bool := decide (0 ≤ x) && decide (x ≤ 4)
theorem nodeOk_iff {n : Int} : nodeOk n = true ↔ 0 ≤ n ∧ n ≤ 4 := by simp [nodeOk]
theorem nodeValid_eq (x : Int) : impl_nodeValid.f x = some (nodeOk x) := by
  unfold impl_nodeValid.f nodeOk
  split
  · rename_i h; simp [h]; omega
  · rename_i h; simp; omega
theorem l1In_eq (x a b : Int) : spec_l1In.f x a b = some (decide (a ≤ x) && decide (x ≤ b)) := by
  unfold spec_l1In.f; split <;> simp_all <;> omega
/-- All members are nodes, and none stands twice. -/
def membersOk (ms : List Int) : Bool := (List.range' 0 ms.length).all fun i => nodeOk (rd ms i) && !decide (rd ms i ∈ ms.take i)
def configOk (e : Int) (ms : List Int) (fr : Bool) : Bool := decide (1 ≤ e) && decide (e ≤ 60) && decide (1 ≤ ms.length) && decide (ms.length ≤ 4) && !(fr && decide (ms.length < 2)) && membersOk ms
theorem range'_all (p : Nat → Bool) (i d : Nat) : (List.range' i (d + 1)).all p = (p i && (List.range' (i + 1) d).all p) := by rw [List.range'_succ, List.all_cons]
theorem implConfig_loop (e : Int) (ms : List Int) (fr : Bool) (hn : ms.length ≤ 4) : ∀ (d i : Nat), i + d = ms.length →
    impl_ConfigValid.l0g ms (ms.length : Int) (i : Int) e ms fr = some ((List.range' i d).all fun i => nodeOk (rd ms i) && !decide (rd ms i ∈ ms.take i)) := by
  intro d
  induction d with
  | zero => intro i hi; rw [impl_ConfigValid.l0g.eq, if_neg (by omega)]; rfl
  | succ d ih =>
    intro i hi
    have hi' : i < ms.length := by omega
    rw [range'_all, impl_ConfigValid.l0g.eq, if_pos (by omega), if_pos (by omega), if_pos (by omega), nodeValid_eq, Option.bind_some, wr_succ (by omega), ih (i + 1) (by omega), Int.toNat_natCast, containsInt_eq _ _ (by simp; omega), Option.bind_some]
    cases nodeOk (rd ms i)
    · simp
    · rw [if_pos rfl, if_pos (by omega)]
      by_cases hm : rd ms i ∈ ms.take i
      · simp [hm]
      · simp [hm]
theorem implConfigValid_eq (e : Int) (ms : List Int) (fr : Bool) : impl_ConfigValid.g e ms fr = some (configOk e ms fr) := by
  have no : impl_ConfigValid.j0g true e ms fr = some false := by rw [impl_ConfigValid.j0g.eq, if_pos rfl]
  have yes : ms.length ≤ 4 → impl_ConfigValid.j0g false e ms fr = some (membersOk ms) := fun h => by
    rw [impl_ConfigValid.j0g.eq, if_neg Bool.false_ne_true]; exact implConfig_loop e ms fr h ms.length 0 (by omega)
  rw [impl_ConfigValid.g.eq, no]
  unfold configOk
  by_cases h1 : e < 1
  · rw [if_pos h1, decide_eq_false (by omega : ¬ 1 ≤ e)]; simp
  rw [if_neg h1, decide_eq_true (by omega : 1 ≤ e)]
  by_cases h2 : e > 60
  · rw [if_pos h2, decide_eq_false (by omega : ¬ e ≤ 60)]; simp
  rw [if_neg h2, decide_eq_true (by omega : e ≤ 60)]
  by_cases h3 : (ms.length : Int) < 1
  · rw [if_pos h3, decide_eq_false (by omega : ¬ 1 ≤ ms.length)]; simp
  rw [if_neg h3, decide_eq_true (by omega : 1 ≤ ms.length)]
  by_cases h4 : (ms.length : Int) > 4
  · rw [if_pos h4, decide_eq_false (by omega : ¬ ms.length ≤ 4)]; simp
  rw [if_neg h4, decide_eq_true (by omega : ms.length ≤ 4), yes (by omega)]
  cases fr
  · simp
  · by_cases h5 : ms.length < 2
    · rw [if_pos rfl, decide_eq_true (by omega : (ms.length : Int) < 2), no, decide_eq_true h5]; simp
    · rw [if_pos rfl, decide_eq_false (by omega : ¬ (ms.length : Int) < 2), yes (by omega), decide_eq_false h5]; simp
theorem take_mem_iff (ms : List Int) (v : Int) (i : Nat) (hi : i ≤ ms.length) : v ∈ ms.take i ↔ ∃ j : Nat, j < i ∧ rd ms j = v := by
  rw [List.mem_take_iff_getElem]
  constructor
  · rintro ⟨j, hj, h⟩
    exact ⟨j, by omega, by rw [rd_nat (by omega)]; exact h⟩
  · rintro ⟨j, hj, h⟩
    exact ⟨j, by omega, by rw [rd_nat (by omega)] at h; exact h⟩
open Classical in
theorem specConfig_inner (e : Int) (ms : List Int) (fr : Bool) (i : Nat) (hi : i < ms.length) (hn : ms.length ≤ 4) : ∀ (d j : Nat), j + d = i →
    spec_ConfigValid.l1g (i : Int) (j : Int) e ms fr = if ∃ q : Nat, j ≤ q ∧ q < i ∧ rd ms q = rd ms i then some false else spec_ConfigValid.l0g ((i + 1 : Nat) : Int) e ms fr := by
  intro d
  induction d with
  | zero =>
    intro j hj
    rw [spec_ConfigValid.l1g.eq, if_neg (by omega), wr_succ (by omega), if_neg (by rintro ⟨q, h1, h2, _⟩; omega)]
  | succ d ih =>
    intro j hj
    rw [spec_ConfigValid.l1g.eq, if_pos (by omega), if_pos (by omega), if_pos (by omega), if_pos (by omega), if_pos (by omega), wr_succ (by omega), ih (j + 1) (by omega)]
    by_cases h : rd ms j = rd ms i
    · rw [if_pos h, if_pos ⟨j, by omega, by omega, h⟩]
    · rw [if_neg h]
      by_cases h2 : ∃ q : Nat, j + 1 ≤ q ∧ q < i ∧ rd ms q = rd ms i
      · obtain ⟨q, q1, q2, q3⟩ := h2
        rw [if_pos ⟨q, q1, q2, q3⟩, if_pos ⟨q, by omega, q2, q3⟩]
      · rw [if_neg h2, if_neg]
        rintro ⟨q, q1, q2, q3⟩
        by_cases e : q = j
        · subst e; exact h q3
        · exact h2 ⟨q, by omega, q2, q3⟩
theorem specConfig_loop (e : Int) (ms : List Int) (fr : Bool) (hn : ms.length ≤ 4) : ∀ (d i : Nat), i + d = ms.length →
    spec_ConfigValid.l0g (i : Int) e ms fr = some ((List.range' i d).all fun i => nodeOk (rd ms i) && !decide (rd ms i ∈ ms.take i)) := by
  intro d
  induction d with
  | zero => intro i hi; rw [spec_ConfigValid.l0g.eq, if_neg (by omega)]; rfl
  | succ d ih =>
    intro i hi
    have hi' : i < ms.length := by omega
    have hin := specConfig_inner e ms fr i hi' hn i 0 (by omega)
    rw [range'_all, spec_ConfigValid.l0g.eq, if_pos (by omega), if_pos (by omega), l1In_eq, Option.bind_some]
    change (if nodeOk (rd ms i) = true then _ else _) = _
    rw [show (0 : Int) = ((0 : Nat) : Int) from rfl, hin, ih (i + 1) (by omega)]
    have hiff := take_mem_iff ms (rd ms i) i (by omega)
    cases nodeOk (rd ms i)
    · simp
    · rw [if_pos rfl]
      by_cases hm : rd ms i ∈ ms.take i
      · obtain ⟨j, j1, j2⟩ := hiff.1 hm
        rw [if_pos ⟨j, by omega, j1, j2⟩]
        simp [hm]
      · rw [if_neg (by rintro ⟨q, _, q2, q3⟩; exact hm (hiff.2 ⟨q, q2, q3⟩))]
        simp [hm]
theorem specConfigValid_eq (e : Int) (ms : List Int) (fr : Bool) : spec_ConfigValid.g e ms fr = some (configOk e ms fr) := by
  have no : spec_ConfigValid.j0g true e ms fr = some false := by rw [spec_ConfigValid.j0g.eq, if_pos rfl]
  have yes : ms.length ≤ 4 → spec_ConfigValid.j0g false e ms fr = some (membersOk ms) := fun h => by
    rw [spec_ConfigValid.j0g.eq, if_neg Bool.false_ne_true]; exact specConfig_loop e ms fr h ms.length 0 (by omega)
  rw [spec_ConfigValid.g.eq, l1In_eq, l1In_eq, no]
  simp only [Option.bind_some]
  unfold configOk
  by_cases h1 : 1 ≤ e
  · by_cases h2 : e ≤ 60
    · rw [decide_eq_true h1, decide_eq_true h2]
      by_cases h3 : 1 ≤ ms.length
      · by_cases h4 : ms.length ≤ 4
        · rw [decide_eq_true h3, decide_eq_true h4, decide_eq_true (by omega : 1 ≤ (ms.length : Int)), decide_eq_true (by omega : (ms.length : Int) ≤ 4), yes h4]
          cases fr
          · simp
          · by_cases h5 : ms.length < 2
            · rw [decide_eq_true h5, decide_eq_true (by omega : (ms.length : Int) < 2), no]; simp
            · rw [decide_eq_false h5, decide_eq_false (by omega : ¬ (ms.length : Int) < 2), yes h4]; simp
        · rw [decide_eq_false h4, decide_eq_false (by omega : ¬ (ms.length : Int) ≤ 4)]; simp
      · rw [decide_eq_false h3, decide_eq_false (by omega : ¬ 1 ≤ (ms.length : Int))]; simp
    · rw [decide_eq_false h2]; simp
  · rw [decide_eq_false h1]; simp
theorem l16Index_loop (e : Int) (ms : List Int) (fr : Bool) (v : Int) (hn : ms.length ≤ 1099511627776) : ∀ (d i : Nat), i + d = ms.length →
    ∃ r : Int, spec_l16Index.l0g v (i : Int) e ms fr = some r ∧ (decide (r < 0) = !decide (v ∈ ms.drop i)) ∧ (r < 0 → r = -1) ∧ (0 ≤ r → r < ms.length ∧ rd ms r = v ∧ ∀ q : Nat, i ≤ q → (q : Int) < r → rd ms q ≠ v) := by
  intro d
  induction d with
  | zero =>
    intro i hi
    obtain rfl : i = ms.length := by omega
    rw [spec_l16Index.l0g.eq, if_neg (by omega)]
    exact ⟨-1, rfl, by simp, fun _ => rfl, fun h => by omega⟩
  | succ d ih =>
    intro i hi
    have hi' : i < ms.length := by omega
    rw [spec_l16Index.l0g.eq, if_pos (by omega), if_pos (by omega), wr_succ (by omega)]
    by_cases he : rd ms i = v
    · rw [if_pos he]
      refine ⟨i, rfl, ?_, fun h => by omega, fun _ => ⟨by omega, he, fun q h1 h2 => by omega⟩⟩
      rw [decide_eq_false (by omega : ¬ (i : Int) < 0), drop_at hi', ← he, rd_nat hi', decide_eq_true (List.mem_cons_self ..)]; rfl
    · rw [if_neg he]
      obtain ⟨r, hr, hd, h1, h2⟩ := ih (i + 1) (by omega)
      refine ⟨r, hr, ?_, h1, fun h => ⟨(h2 h).1, (h2 h).2.1, fun q q1 q2 => ?_⟩⟩
      · rw [hd, drop_at hi']
        congr 1
        rw [decide_eq_decide, List.mem_cons]
        exact ⟨.inr, fun h => h.resolve_left (fun e => he (by rw [rd_nat hi', e]))⟩
      · by_cases hq : q = i
        · rw [hq]; exact he
        · exact (h2 h).2.2 q (by omega) q2
theorem l16Index_eq (e : Int) (ms : List Int) (fr : Bool) (v : Int) (hn : ms.length ≤ 1099511627776) :
    ∃ r : Int, spec_l16Index.g e ms fr v = some r ∧ (decide (r < 0) = !decide (v ∈ ms)) ∧ (r < 0 → r = -1) ∧ (0 ≤ r → r < ms.length ∧ rd ms r = v ∧ ∀ q : Nat, (q : Int) < r → rd ms q ≠ v) := by
  obtain ⟨r, h1, h2, h3, h4⟩ := l16Index_loop e ms fr v hn ms.length 0 (by omega)
  exact ⟨r, by rw [spec_l16Index.g.eq]; exact h1, by simpa using h2, h3, fun h => ⟨(h4 h).1, (h4 h).2.1, fun q hq => (h4 h).2.2 q (by omega) hq⟩⟩
theorem szConfig_eq (e : Int) (ms : List Int) (fr : Bool) (left : Int) (h0 : 0 ≤ left) (h1 : left ≤ 1048576) (hm : ms.length ≤ 9223372036854775807) :
    laws_szConfig.f e ms fr left = some (if left - ms.length < 0 then -1 else left - ms.length) := by
  unfold laws_szConfig.f laws_szIntS.f
  rw [wr_id (by omega) (by omega)]
  by_cases h : left - (ms.length : Int) < 0
  · simp [h]
  · rw [if_neg h, if_neg h, Option.bind_some, if_neg h]
theorem toConfig_eq (e : Int) (ms : List Int) (fr : Bool) (h : ms.length ≤ 1048576) : laws_toConfig.g e ms fr = some (e, ms, fr) := by
  rw [laws_toConfig.g.eq, toIntS_eq ms h]; rfl
theorem eqConfig_eq (e : Int) (ms : List Int) (fr : Bool) (e2 : Int) (ms2 : List Int) (fr2 : Bool) (h : ms.length ≤ 1048576) : laws_eqConfig.g e ms fr e2 ms2 fr2 = some (decide (e = e2) && decide (ms = ms2) && decide (fr = fr2)) := by
  rw [laws_eqConfig.g.eq, eqIntS_eq ms ms2 h]
  by_cases h1 : e = e2
  · by_cases h2 : ms = ms2
    · cases fr <;> cases fr2 <;> simp [h1, h2]
    · simp [h1, h2]
  · simp [h1]
def pickSpare (loads : List Int) (up : List Bool) (e : Int) (ms : List Int) (fr : Bool) : Int :=
  if loads.length = 5 ∧ up.length = 5 ∧ configOk e ms fr = true then best loads (freeOf up ms) else -1
theorem configOk_len {e : Int} {ms : List Int} {fr : Bool} (h : configOk e ms fr = true) : 1 ≤ ms.length ∧ ms.length ≤ 4 := by
  unfold configOk at h; simp only [Bool.and_eq_true, decide_eq_true_eq] at h; exact ⟨h.1.1.1.2, h.1.1.2⟩
theorem implPickSpare_eq (loads : List Int) (up : List Bool) (e : Int) (ms : List Int) (fr : Bool) : impl_PickSpare.g loads up e ms fr = some (pickSpare loads up e ms fr) := by
  rw [impl_PickSpare.g.eq, implConfigValid_eq]
  unfold pickSpare
  by_cases h1 : loads.length = 5
  · by_cases h2 : up.length = 5
    · rw [if_pos (by omega), if_pos (by omega), Option.bind_some]
      cases h3 : configOk e ms fr
      · simp
      · have := configOk_len h3
        rw [if_pos rfl, if_pos ⟨h1, h2, rfl⟩, leastLoad_eq loads up ms h1 h2 (by omega)]; rfl
    · rw [if_pos (by omega), if_neg (by omega), if_neg (fun h => h2 h.2.1)]
  · rw [if_neg (by omega), if_neg (fun h => h1 h.1)]
theorem specPickSpare_loop (loads : List Int) (up : List Bool) (e : Int) (ms : List Int) (fr : Bool) (hl : loads.length = 5) (hu : up.length = 5) (hm : ms.length ≤ 4) : ∀ (d i : Nat) (b : Int), i + d = 5 → -1 ≤ b ∧ b ≤ 4 →
    spec_PickSpare.l0g loads up b (i : Int) e ms fr = some ((List.range' i d).foldl (bestStep loads (freeOf up ms)) b) := by
  intro d
  induction d with
  | zero => intro i b hi _; rw [spec_PickSpare.l0g.eq, if_neg (by omega)]; rfl
  | succ d ih =>
    intro i b hi hb
    have hs := bestStep_range loads (freeOf up ms) b i (by omega) hb
    obtain ⟨r, hr, hd, _⟩ := l16Index_eq e ms fr i (by omega)
    rw [spec_PickSpare.l0g.eq, if_pos (by omega), if_pos (by omega), if_pos (by omega), wr_succ (by omega), hr, Option.bind_some, List.range'_succ, List.foldl_cons, ← ih (i + 1) _ (by omega) hs]
    have e1 : bestStep loads (freeOf up ms) b i = if (rdOf false up (i : Int) && !decide ((i : Int) ∈ ms)) = true then (if b < 0 ∨ rd loads i < rd loads b then (i : Int) else b) else b := rfl
    rw [e1, ← hd]
    by_cases h1 : rdOf false up (i : Int) = true
    · rw [if_pos h1]
      by_cases h2 : r < 0
      · simp only [h1, h2, decide_true, Bool.and_self, if_true]
        by_cases h3 : b < 0
        · rw [if_pos h3, if_pos (Or.inl h3)]
        · rw [if_neg h3, if_pos (by omega), if_pos (by omega), if_pos (by omega)]
          by_cases h4 : rd loads i < rd loads b
          · rw [if_pos h4, if_pos (Or.inr h4)]
          · rw [if_neg h4, if_neg (by rintro (h | h) <;> omega)]
      · simp [h1, h2]
    · simp [h1]
theorem specPickSpare_eq (loads : List Int) (up : List Bool) (e : Int) (ms : List Int) (fr : Bool) : spec_PickSpare.g loads up e ms fr = some (pickSpare loads up e ms fr) := by
  have no : spec_PickSpare.j0g loads up true e ms fr = some (-1) := by rw [spec_PickSpare.j0g.eq, if_pos rfl]
  rw [spec_PickSpare.g.eq, specConfigValid_eq, no]
  unfold pickSpare
  by_cases h1 : loads.length = 5
  · by_cases h2 : up.length = 5
    · rw [if_pos (by omega), if_pos (by omega), Option.bind_some]
      cases h3 : configOk e ms fr
      · rw [Bool.not_false, no, if_neg (fun h => Bool.false_ne_true h.2.2)]
      · have := configOk_len h3
        rw [Bool.not_true, spec_PickSpare.j0g.eq, if_neg Bool.false_ne_true, if_pos ⟨h1, h2, rfl⟩]
        exact specPickSpare_loop loads up e ms fr h1 h2 this.2 5 0 (-1) rfl (by omega)
    · rw [if_pos (by omega), if_neg (by omega), if_neg (fun h => h2 h.2.1)]
  · rw [if_neg (by omega), if_neg (fun h => h1 h.1)]
theorem law_holds (l0 : List Int) (l1 : List Bool) (a2_0 : Int) (l2_1 : List Int) (a2_2 : Bool) (f0 : FitL Fit l0) (f1 : FitL (fun _ => True) l1) (f2 : Fit a2_0 ∧ FitL Fit l2_1 ∧ True) : ∃ k, laws_FnExactPickSpare.f k l0 l1 a2_0 l2_1 a2_2 = some true := by
  apply rounds_of_lim (g := fun k => laws_FnExactPickSpare.f k l0 l1 a2_0 l2_1 a2_2)
  show laws_FnExactPickSpare.g l0 l1 a2_0 l2_1 a2_2 = some true
  rw [laws_FnExactPickSpare.g.eq]
  by_cases h : (l0.length : Int) > 1048576
  · rw [if_pos h]
  by_cases h' : (l1.length : Int) > 1048576
  · rw [if_neg h, if_pos h']
  rw [if_neg h, if_neg h', szConfig_eq a2_0 l2_1 a2_2 1048576 (by omega) (by omega) f2.2.1.1, Option.bind_some]
  by_cases h3 : 1048576 - (l2_1.length : Int) < 0
  · rw [if_pos h3]; rfl
  rw [if_neg h3, if_neg h3]
  have e1 := toIntS_eq l0 (by omega)
  have e2 := eqIntS_eq l0 l0 (by omega)
  have b1 := toBoolS_eq l1 (by omega)
  have b2 := eqBoolS_eq l1 l1 (by omega)
  have c1 := toConfig_eq a2_0 l2_1 a2_2 (by omega)
  have c2 := eqConfig_eq a2_0 l2_1 a2_2 a2_0 l2_1 a2_2 (by omega)
  simp [e1, e2, b1, b2, c1, c2, specPickSpare_eq, implPickSpare_eq]
end Go.Proofs.Ytnaloccjejmmfaa.FFnExactPickSpare
