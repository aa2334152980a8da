/- For all lists of at most 1048576 entries and all whole numbers the program's PlaceMembers returns what the reference's returns, a row of its own, and leaves its arguments alone. No conditions but the bounds that the statement itself gives. -/
import Derived.Test.YtnaloccjejmmfaaGFnExactPlaceMembers
import Derived.Test.YtnaloccjejmmfaaBase
import Derived.Test.YtnaloccjejmmfaaReads
set_option linter.unusedVariables false
set_option linter.unusedSimpArgs false
namespace Go.Proofs.Ytnaloccjejmmfaa.FFnExactPlaceMembers
open Go.RowKit Go.Proofs.YtnaloccjejmmfaaW.PrintWords Go.Proofs.YtnaloccjejmmfaaW.PrintLast Go.Proofs.YtnaloccjejmmfaaW.PrintMore Go.Proofs.YtnaloccjejmmfaaL
theorem toIntS_eq (x0 : List Int) (hn : x0.length ≤ 1048576) : laws_toIntS.g x0 = some x0 := by
  have key := loop_set (fun i acc => laws_toIntS.l0g x0 acc (i : Int)) x0 id 0 (by
    intro i h acc ha
    show laws_toIntS.l0g x0 acc i = laws_toIntS.l0g x0 (acc.set i x0[i]) ((i + 1 : Nat) : Int)
    rw [laws_toIntS.l0g.eq, if_pos (by omega), if_pos (by omega), if_pos (by omega), rd_nat h, wr_succ (by omega), Int.toNat_natCast]) (by
    intro acc ha
    show laws_toIntS.l0g x0 acc (x0.length : Int) = _
    rw [laws_toIntS.l0g.eq, if_neg (by omega)]) x0.length 0 (by omega)
  rw [laws_toIntS.g.eq, if_pos (by omega), if_pos (by omega), Int.toNat_natCast]
  simpa using key
theorem eqIntS_eq (x0 x1 : List Int) (hn : x0.length ≤ 1048576) : laws_eqIntS.g x0 x1 = some (decide (x0 = x1)) := by
  rw [laws_eqIntS.g.eq]
  by_cases hl : x0.length = x1.length
  · have key := loop_eq (fun i => laws_eqIntS.l0g x0 x1 (i : Int)) x0 x1 hl (by
      intro i h h'
      show laws_eqIntS.l0g x0 x1 i = if x0[i] = x1[i] then laws_eqIntS.l0g x0 x1 ((i + 1 : Nat) : Int) else some false
      rw [laws_eqIntS.l0g.eq, if_pos (by omega), if_pos (by omega), if_pos (by omega), rd_nat h, rd_nat h', wr_succ (by omega)]) (by
      show laws_eqIntS.l0g x0 x1 (x0.length : Int) = _
      rw [laws_eqIntS.l0g.eq, if_neg (by omega)]) x0.length 0 (by omega)
    rw [if_pos (by omega)]
    simpa using key
  · rw [if_neg (by omega)]
    have : x0 ≠ x1 := fun e => hl (by rw [e])
    simp [this]
theorem markIntS_eq (xs : List Int) (k : Int) (h0 : 0 ≤ k) (h1 : k ≤ 1099511627776) (hn : xs.length ≤ 1099511627776) : laws_markIntS.g xs k = some (k + xs.length, marks xs.length k) := by
  have key := loop_mark (fun i acc c => laws_markIntS.l0g acc c (i : Int)) xs.length k (by
    intro i acc hi ha
    show laws_markIntS.l0g acc (k + i) i = laws_markIntS.l0g (acc.set i (k + i)) (k + (i + 1 : Nat)) ((i + 1 : Nat) : Int)
    rw [laws_markIntS.l0g.eq, if_pos (by omega), if_pos (by omega), wr_succ (by omega), wr_id (by omega) (by omega), Int.toNat_natCast]
    congr 1; omega) (by
    intro acc ha
    show laws_markIntS.l0g acc (k + xs.length) (xs.length : Int) = _
    rw [laws_markIntS.l0g.eq, if_neg (by omega)]) xs.length 0 xs rfl (by omega)
  rw [laws_markIntS.g.eq]
  simpa [marks] using key
theorem heldIntS_eq (n : Nat) (k : Int) (h0 : 0 ≤ k) (h1 : k ≤ 1099511627776) (hn : n ≤ 1099511627776) : laws_heldIntS.g (marks n k) k = some (k + n) := by
  have key := loop_held (fun i c => laws_heldIntS.l0g (marks n k) c (i : Int)) n k (by
    intro i hi
    show laws_heldIntS.l0g (marks n k) (k + i) i = laws_heldIntS.l0g (marks n k) (k + (i + 1 : Nat)) ((i + 1 : Nat) : Int)
    have hl := marks_len n k
    rw [laws_heldIntS.l0g.eq, if_pos (by omega), if_pos (by omega), rd_nat (by omega), marks_at, if_pos rfl, wr_succ (by omega), wr_id (by omega) (by omega)]
    congr 1; omega) (by
    show laws_heldIntS.l0g (marks n k) (k + n) (n : Int) = _
    rw [laws_heldIntS.l0g.eq, marks_len, if_neg (by omega)]) n 0 (by omega)
  rw [laws_heldIntS.g.eq]
  simpa using key
theorem toBoolS_eq (x0 : List Bool) (hn : x0.length ≤ 1048576) : laws_toBoolS.g x0 = some x0 := by
  have key := loop_set (fun i acc => laws_toBoolS.l0g x0 acc (i : Int)) x0 id false (by
    intro i h acc ha
    show laws_toBoolS.l0g x0 acc i = laws_toBoolS.l0g x0 (acc.set i x0[i]) ((i + 1 : Nat) : Int)
    rw [laws_toBoolS.l0g.eq, if_pos (by omega), if_pos (by omega), if_pos (by omega), rdOf_nat h, wr_succ (by omega), Int.toNat_natCast]) (by
    intro acc ha
    show laws_toBoolS.l0g x0 acc (x0.length : Int) = _
    rw [laws_toBoolS.l0g.eq, if_neg (by omega)]) x0.length 0 (by omega)
  rw [laws_toBoolS.g.eq, if_pos (by omega), if_pos (by omega), Int.toNat_natCast]
  simpa using key
theorem eqBoolS_eq (x0 x1 : List Bool) (hn : x0.length ≤ 1048576) : laws_eqBoolS.g x0 x1 = some (decide (x0 = x1)) := by
  rw [laws_eqBoolS.g.eq]
  by_cases hl : x0.length = x1.length
  · have key := loop_eq (fun i => laws_eqBoolS.l0g x0 x1 (i : Int)) x0 x1 hl (by
      intro i h h'
      show laws_eqBoolS.l0g x0 x1 i = if x0[i] = x1[i] then laws_eqBoolS.l0g x0 x1 ((i + 1 : Nat) : Int) else some false
      rw [laws_eqBoolS.l0g.eq, if_pos (by omega), if_pos (by omega), if_pos (by omega), rdOf_nat h, rdOf_nat h', wr_succ (by omega)]
      by_cases he : x0[i] = x1[i] <;> simp [he]) (by
      show laws_eqBoolS.l0g x0 x1 (x0.length : Int) = _
      rw [laws_eqBoolS.l0g.eq, if_neg (by omega)]) x0.length 0 (by omega)
    rw [if_pos (by omega)]
    simpa using key
  · rw [if_neg (by omega)]
    have : x0 ≠ x1 := fun e => hl (by rw [e])
    simp [this]
theorem markBoolS_loop (n : Nat) (hn : n ≤ 1099511627776) : ∀ (d i : Nat) (xs : List Bool) (k : Int), xs.length = n → i + d = n → 0 ≤ k → k ≤ 1099511627776 + i →
    ∃ r, laws_markBoolS.l0g xs k (i : Int) = some (k + d, r) := by
  intro d
  induction d with
  | zero =>
    intro i xs k hx hi h0 h1
    rw [laws_markBoolS.l0g.eq, if_neg (by omega)]
    exact ⟨xs, by simp⟩
  | succ d ih =>
    intro i xs k hx hi h0 h1
    rw [laws_markBoolS.l0g.eq, if_pos (by omega), if_pos (by omega), wr_succ (by omega), wr_id (by omega) (by omega)]
    obtain ⟨r, hr⟩ := ih (i + 1) (xs.set i ((Int.tmod k 3) == 0)) (k + 1) (by simp [hx]) (by omega) (by omega) (by omega)
    refine ⟨r, ?_⟩
    rw [Int.toNat_natCast, hr]
    congr 2
    omega
theorem markBoolS_eq (xs : List Bool) (k : Int) (hn : xs.length ≤ 1099511627776) (h0 : 0 ≤ k) (h1 : k ≤ 1099511627776) : ∃ r, laws_markBoolS.g xs k = some (k + xs.length, r) := by
  rw [laws_markBoolS.g.eq]
  exact markBoolS_loop xs.length hn xs.length 0 xs k rfl (by omega) h0 (by omega)
/-- The first node with the least load among those that are free. -/
def bestStep (loads : List Int) (free : Nat → Bool) (b : Int) (j : Nat) : Int := if free j = true then (if b < 0 ∨ rd loads j < rd loads b then (j : Int) else b) else b
def best (loads : List Int) (free : Nat → Bool) : Int := (List.range' 0 5).foldl (bestStep loads free) (-1)
theorem bestStep_range (loads : List Int) (free : Nat → Bool) (b : Int) (j : Nat) (hj : j < 5) (hb : -1 ≤ b ∧ b ≤ 4) : -1 ≤ bestStep loads free b j ∧ bestStep loads free b j ≤ 4 := by
  unfold bestStep; split
  · split <;> omega
  · omega
theorem best_range_from (loads : List Int) (free : Nat → Bool) : ∀ (d i : Nat) (b : Int), i + d = 5 → -1 ≤ b ∧ b ≤ 4 → -1 ≤ (List.range' i d).foldl (bestStep loads free) b ∧ (List.range' i d).foldl (bestStep loads free) b ≤ 4 := by
  intro d
  induction d with
  | zero => intro i b _ hb; simpa using hb
  | succ d ih => intro i b hi hb; rw [List.range'_succ, List.foldl_cons]; exact ih (i + 1) _ (by omega) (bestStep_range loads free b i (by omega) hb)
theorem best_range (loads : List Int) (free : Nat → Bool) : -1 ≤ best loads free ∧ best loads free ≤ 4 := best_range_from loads free 5 0 (-1) rfl (by omega)
theorem indexInt_loop (xs : List Int) (v : Int) (hn : xs.length ≤ 1099511627776) : ∀ (d i : Nat), i + d = xs.length → ∃ r : Int, slices_Index_int_int.l0g xs v (xs.length : Int) (i : Int) = some r ∧ decide (r ≥ 0) = decide (v ∈ xs.drop i) := by
  intro d
  induction d with
  | zero =>
    intro i hi
    obtain rfl : i = xs.length := by omega
    rw [slices_Index_int_int.l0g.eq, if_neg (by omega)]
    exact ⟨-1, rfl, by simp⟩
  | succ d ih =>
    intro i hi
    have hi' : i < xs.length := by omega
    rw [slices_Index_int_int.l0g.eq, if_pos (by omega), if_pos (by omega), if_pos (by omega), rd_nat hi', wr_succ (by omega)]
    by_cases he : v = xs[i]
    · rw [if_pos he]
      exact ⟨i, rfl, by rw [decide_eq_true (by omega : (i : Int) ≥ 0), drop_at hi', eq_comm, decide_eq_true_eq, he]; exact List.mem_cons_self ..⟩
    · rw [if_neg he]
      obtain ⟨r, hr, hd⟩ := ih (i + 1) (by omega)
      exact ⟨r, hr, by rw [hd, drop_at hi', decide_eq_decide, List.mem_cons]; exact ⟨.inr, fun h => h.resolve_left he⟩⟩
theorem containsInt_eq (xs : List Int) (v : Int) (hn : xs.length ≤ 1099511627776) : slices_Contains_int_int.g xs v = some (decide (v ∈ xs)) := by
  obtain ⟨r, hr, hd⟩ := indexInt_loop xs v hn xs.length 0 (by omega)
  have hr' : slices_Index_int_int.g xs v = some r := by rw [slices_Index_int_int.g.eq]; exact hr
  rw [slices_Contains_int_int.g.eq, hr', Option.bind_some, hd, List.drop_zero]
def freeOf (up : List Bool) (but : List Int) (j : Nat) : Bool := rdOf false up (j : Int) && !decide ((j : Int) ∈ but)
theorem leastLoad_loop (loads : List Int) (up : List Bool) (but : List Int) (hl : loads.length = 5) (hu : up.length = 5) (hb : but.length ≤ 1099511627776) : ∀ (d i : Nat) (b : Int), i + d = 5 → -1 ≤ b ∧ b ≤ 4 →
    impl_leastLoad.l0g loads up but b (i : Int) = some ((List.range' i d).foldl (bestStep loads (freeOf up but)) b) := by
  intro d
  induction d with
  | zero => intro i b hi _; rw [impl_leastLoad.l0g.eq, if_neg (by omega)]; rfl
  | succ d ih =>
    intro i b hi hbr
    have hs := bestStep_range loads (freeOf up but) b i (by omega) hbr
    have ihs := ih (i + 1) (bestStep loads (freeOf up but) b i) (by omega) hs
    rw [impl_leastLoad.l0g.eq, if_pos (by omega), if_pos (by omega), if_pos (by omega), List.range'_succ, List.foldl_cons, ← ihs, containsInt_eq but _ hb]
    have e : bestStep loads (freeOf up but) b i = if (rdOf false up (i : Int) && !decide ((i : Int) ∈ but)) = true then (if b < 0 ∨ rd loads i < rd loads b then (i : Int) else b) else b := rfl
    rw [e]
    by_cases h1 : rdOf false up (i : Int) = true
    · rw [if_pos h1, Option.bind_some, impl_leastLoad.j1g.eq, wr_succ (by omega)]
      by_cases h2 : (i : Int) ∈ but
      · simp [h1, h2]
      · simp only [h1, h2, decide_false, Bool.false_eq_true, if_false, Bool.not_false, Bool.and_self, if_true]
        by_cases h3 : b < 0
        · rw [if_pos h3, if_pos (Or.inl h3)]
        · rw [if_neg h3, if_pos (by omega), if_pos (by omega), if_pos (by omega), if_pos (by omega)]
          by_cases h4 : rd loads i < rd loads b
          · rw [if_pos h4, if_pos (Or.inr h4)]
          · rw [if_neg h4, if_neg (by rintro (h | h) <;> omega)]
    · rw [if_neg h1, impl_leastLoad.j1g.eq, if_pos rfl, wr_succ (by omega)]
      simp [h1]
theorem leastLoad_eq (loads : List Int) (up : List Bool) (but : List Int) (hl : loads.length = 5) (hu : up.length = 5) (hb : but.length ≤ 1099511627776) : impl_leastLoad.g loads up but = some (best loads (freeOf up but)) := by
  rw [impl_leastLoad.g.eq]
  exact leastLoad_loop loads up but hl hu hb 5 0 (-1) rfl (by omega)
def placeFrom (loads : List Int) (up : List Bool) : Nat → List Int → List Int × Bool
  | 0, taken => (taken, true)
  | d + 1, taken => if best loads (freeOf up taken) < 0 then ([], false) else placeFrom loads up d (taken ++ [best loads (freeOf up taken)])
def placeMembers (loads : List Int) (up : List Bool) (many : Int) : List Int × Bool :=
  if loads.length = 5 ∧ up.length = 5 ∧ 1 ≤ many ∧ many ≤ 4 then placeFrom loads up many.toNat [] else ([], false)
theorem placeFrom_len (loads : List Int) (up : List Bool) : ∀ (d : Nat) (taken : List Int), (placeFrom loads up d taken).1.length ≤ taken.length + d := by
  intro d
  induction d with
  | zero => intro taken; simp [placeFrom]
  | succ d ih =>
    intro taken
    unfold placeFrom
    split
    · simp
    · have := ih (taken ++ [best loads (freeOf up taken)])
      simp only [List.length_append, List.length_singleton] at this
      omega
theorem placeMembers_len (loads : List Int) (up : List Bool) (many : Int) : (placeMembers loads up many).1.length ≤ 4 := by
  unfold placeMembers
  split
  · have := placeFrom_len loads up many.toNat []
    simp only [List.length_nil] at this
    omega
  · simp
theorem implPlace_loop (loads : List Int) (up : List Bool) (hl : loads.length = 5) (hu : up.length = 5) (many : Int) (hm : many ≤ 4) : ∀ (d : Nat) (taken : List Int), (taken.length : Int) + d = many →
    impl_PlaceMembers.l0g loads up many taken = some (placeFrom loads up d taken) := by
  intro d
  induction d with
  | zero => intro taken h; rw [impl_PlaceMembers.l0g.eq, if_neg (by omega)]; rfl
  | succ d ih =>
    intro taken h
    rw [impl_PlaceMembers.l0g.eq, if_pos (by omega), leastLoad_eq loads up taken hl hu (by omega), Option.bind_some]
    unfold placeFrom
    split
    · rfl
    · rw [if_pos (by omega), ih _ (by simp; omega)]
theorem implPlaceMembers_eq (loads : List Int) (up : List Bool) (many : Int) : impl_PlaceMembers.g loads up many = some (placeMembers loads up many) := by
  have no : impl_PlaceMembers.j0g loads up many true = some ([], false) := by rw [impl_PlaceMembers.j0g.eq, if_pos rfl]
  rw [impl_PlaceMembers.g.eq]
  unfold placeMembers
  by_cases h1 : loads.length = 5
  · by_cases h2 : up.length = 5
    · rw [if_pos (by omega), if_pos (by omega)]
      by_cases h3 : many < 1
      · rw [if_pos h3, no, if_neg (by omega)]
      · rw [if_neg h3]
        by_cases h4 : many > 4
        · rw [decide_eq_true h4, no, if_neg (by omega)]
        · rw [decide_eq_false h4, impl_PlaceMembers.j0g.eq, if_neg Bool.false_ne_true, if_pos (by omega)]
          exact implPlace_loop loads up h1 h2 many (by omega) many.toNat [] (by simp; omega)
    · rw [if_pos (by omega), if_neg (by omega), no, if_neg (by omega)]
  · rw [if_neg (by omega), no, if_neg (by omega)]
theorem best_congr (loads : List Int) (f g : Nat → Bool) (h : ∀ j, j < 5 → f j = g j) : best loads f = best loads g := by
  unfold best
  have key : ∀ (d i : Nat) (b : Int), i + d = 5 → (List.range' i d).foldl (bestStep loads f) b = (List.range' i d).foldl (bestStep loads g) b := by
    intro d
    induction d with
    | zero => intro i b _; rfl
    | succ d ih => intro i b hi; rw [List.range'_succ, List.foldl_cons, List.foldl_cons, ih _ _ (by omega)]; unfold bestStep; rw [h i (by omega)]
  exact key 5 0 (-1) rfl
theorem specPlace_inner (loads : List Int) (many : Int) (taken : List Int) (free : List Bool) (hl : loads.length = 5) (hf : free.length = 5) : ∀ (d i : Nat) (b : Int), i + d = 5 → -1 ≤ b ∧ b ≤ 4 →
    spec_PlaceMembers.l1g loads many taken free b (i : Int) = spec_PlaceMembers.l1g loads many taken free ((List.range' i d).foldl (bestStep loads fun j => rdOf false free (j : Int)) b) 5 := by
  intro d
  induction d with
  | zero => intro i b hi _; obtain rfl : i = 5 := by omega
            rfl
  | succ d ih =>
    intro i b hi hb
    have hs := bestStep_range loads (fun j => rdOf false free (j : Int)) b i (by omega) hb
    rw [List.range'_succ, List.foldl_cons, ← ih (i + 1) _ (by omega) hs, spec_PlaceMembers.l1g.eq, if_pos (by omega), if_pos (by omega), if_pos (by omega), wr_succ (by omega)]
    unfold bestStep
    by_cases h1 : rdOf false free (i : Int) = true
    · rw [if_pos h1, if_pos h1]
      by_cases h3 : b < 0
      · rw [if_pos h3, if_pos (Or.inl h3)]
      · rw [if_neg h3, if_pos (by omega), if_pos (by omega), if_pos (by omega)]
        by_cases h4 : rd loads i < rd loads b
        · rw [if_pos h4, if_pos (Or.inr h4)]
        · rw [if_neg h4, if_neg (by rintro (h | h) <;> omega)]
    · rw [if_neg h1, if_neg h1]
theorem rdOf_set (free : List Bool) (m j : Nat) (hm : m < free.length) : rdOf false (free.set m false) (j : Int) = (rdOf false free (j : Int) && !decide (j = m)) := by
  unfold rdOf
  rw [List.getD_eq_getElem?_getD, List.getD_eq_getElem?_getD, List.getElem?_set, Int.toNat_natCast]
  by_cases h : m = j
  · subst h; simp [hm]
  · rw [if_neg h]
    have : ¬ j = m := fun e => h e.symm
    simp [this]
theorem specPlace_loop (loads : List Int) (up : List Bool) (hl : loads.length = 5) (hu : up.length = 5) (many : Int) (hm : many ≤ 4) : ∀ (d : Nat) (taken : List Int) (free : List Bool), (taken.length : Int) + d = many →
    free.length = 5 → (∀ j, j < 5 → rdOf false free ((j : Nat) : Int) = freeOf up taken j) → spec_PlaceMembers.l0g loads many taken free = some (placeFrom loads up d taken) := by
  intro d
  induction d with
  | zero => intro taken free h _ _; rw [spec_PlaceMembers.l0g.eq, if_neg (by omega)]; rfl
  | succ d ih =>
    intro taken free h hf hfr
    have hin := specPlace_inner loads many taken free hl hf 5 0 (-1) rfl (by omega)
    have hbest : (List.range' 0 5).foldl (bestStep loads fun j => rdOf false free (j : Int)) (-1) = best loads (freeOf up taken) := best_congr loads _ _ hfr
    rw [hbest] at hin
    have hr := best_range loads (freeOf up taken)
    rw [spec_PlaceMembers.l0g.eq, if_pos (by omega)]
    refine Eq.trans hin ?_
    rw [spec_PlaceMembers.l1g.eq, if_neg (by omega)]
    unfold placeFrom
    by_cases hneg : best loads (freeOf up taken) < 0
    · rw [if_pos hneg, if_pos hneg]
    · rw [if_neg hneg, if_neg hneg, if_pos (by omega), if_pos (by omega), if_pos (by omega)]
      obtain ⟨m, hm2⟩ := Int.eq_ofNat_of_zero_le (by omega : 0 ≤ best loads (freeOf up taken))
      refine ih _ _ (by simp; omega) (by simp [hf]) (fun j hj => ?_)
      have hm5 : m < free.length := by omega
      rw [hm2, Int.toNat_natCast, rdOf_set free m j hm5, hfr j hj]
      unfold freeOf
      rw [Bool.and_assoc]
      congr 1
      rw [← Bool.not_or]
      congr 1
      rw [Bool.eq_iff_iff]
      simp only [Bool.or_eq_true, decide_eq_true_eq, List.mem_append, List.mem_singleton]
      constructor
      · rintro (h | h)
        · exact .inl h
        · exact .inr (by omega)
      · rintro (h | h)
        · exact .inl h
        · exact .inr (by omega)
theorem specPlaceMembers_eq (loads : List Int) (up : List Bool) (many : Int) : spec_PlaceMembers.g loads up many = some (placeMembers loads up many) := by
  have no : spec_PlaceMembers.j0g loads up many [] true = some ([], false) := by rw [spec_PlaceMembers.j0g.eq, if_pos rfl]
  have hl1 : ∀ x a b : Int, spec_l1In.f x a b = some (decide (a ≤ x) && decide (x ≤ b)) := by intro x a b; unfold spec_l1In.f; split <;> simp_all <;> omega
  rw [spec_PlaceMembers.g.eq]
  simp only [Option.bind_some, hl1]
  unfold placeMembers
  by_cases h1 : loads.length = 5
  · by_cases h2 : up.length = 5
    · rw [if_pos (by omega), if_pos (by omega)]
      by_cases h3 : 1 ≤ many ∧ many ≤ 4
      · have hb : (!(decide (1 ≤ many) && decide (many ≤ 4))) = false := by simp [h3]
        rw [hb, if_pos ⟨h1, h2, h3⟩, spec_PlaceMembers.j0g.eq, if_neg Bool.false_ne_true, Option.bind_some, if_pos (by simp; omega), List.nil_append]
        refine specPlace_loop loads up h1 h2 many h3.2 many.toNat [] up (by simp; omega) h2 (fun j hj => ?_)
        simp [freeOf]
      · have hb : (!(decide (1 ≤ many) && decide (many ≤ 4))) = true := by simp; omega
        rw [hb, no, if_neg (by omega)]
    · rw [if_pos (by omega), if_neg (by omega), no, if_neg (by omega)]
  · rw [if_neg (by omega), no, if_neg (by omega)]
theorem law_holds (l0 : List Int) (l1 : List Bool) (a2 : Int) (f0 : FitL Fit l0) (f1 : FitL (fun _ => True) l1) (f2 : Fit a2) : ∃ k, laws_FnExactPlaceMembers.f k l0 l1 a2 = some true := by
  apply rounds_of_lim (g := fun k => laws_FnExactPlaceMembers.f k l0 l1 a2)
  show laws_FnExactPlaceMembers.g l0 l1 a2 = some true
  rw [laws_FnExactPlaceMembers.g.eq]
  by_cases h : (l0.length : Int) > 1048576
  · rw [if_pos h]
  by_cases h' : (l1.length : Int) > 1048576
  · rw [if_neg h, if_pos h']
  rw [if_neg h, if_neg h']
  have hs := placeMembers_len l0 l1 a2
  have e1 := toIntS_eq l0 (by omega)
  have e2 := eqIntS_eq l0 l0 (by omega)
  have b1 := toBoolS_eq l1 (by omega)
  have b2 := eqBoolS_eq l1 l1 (by omega)
  have e3 := eqIntS_eq (placeMembers l0 l1 a2).1 (placeMembers l0 l1 a2).1 (by omega)
  have e4 := markIntS_eq l0 1 (by omega) (by omega) (by omega)
  obtain ⟨r, b3⟩ := markBoolS_eq l1 (1 + l0.length) (by omega) (by omega) (by omega)
  have e5 := markIntS_eq (placeMembers l0 l1 a2).1 1 (by omega) (by omega) (by omega)
  have e6 := heldIntS_eq (placeMembers l0 l1 a2).1.length 1 (by omega) (by omega) (by omega)
  have n1 : ¬ (1 + (l0.length : Int) + (l1.length : Int) < 0) := by omega
  have n2 : ¬ (1 + ((placeMembers l0 l1 a2).1.length : Int) < 0) := by omega
  simp [laws_FnExactPlaceMembers.j0g.eq, laws_FnExactPlaceMembers.j1g.eq, laws_FnExactPlaceMembers.j2g.eq, e1, e2, e3, e4, e5, e6, b1, b2, b3, specPlaceMembers_eq, implPlaceMembers_eq, n1, n2]
end Go.Proofs.Ytnaloccjejmmfaa.FFnExactPlaceMembers
