/- For every code of at most 1048576 bytes: the drawn placement is the same for the program and the reference; the nodes are members of a valid configuration, all up, their loads do not descend, and no node that is up and was not taken has a lesser load than the last one. No conditions but the bounds that the statement itself gives. -/
import Derived.Test.YtbieglaagpogkaaGFnPlaceMembers
import Derived.Test.YtbieglaagpogkaaBase
import Derived.Test.YtbieglaagpogkaaReads
set_option linter.unusedVariables false
set_option linter.unusedSimpArgs false
namespace Go.Proofs.Ytbieglaagpogkaa.FFnPlaceMembers
open Go.RowKit Go.Proofs.YtbieglaagpogkaaW.PrintWords Go.Proofs.YtbieglaagpogkaaW.PrintLast Go.Proofs.YtbieglaagpogkaaW.PrintMore Go.Proofs.YtbieglaagpogkaaL
/-- The first node with the least load among those that are free. -/
def bestStep (loads : List Int) (free : Nat → Bool) (b : Int) (j : Nat) : Int := if free j = true then (if b < 0 ∨ rd loads j < rd loads b then (j : Int) else b) else b
def best (loads : List Int) (free : Nat → Bool) : Int := (List.range' 0 5).foldl (bestStep loads free) (-1)
theorem bestStep_range (loads : List Int) (free : Nat → Bool) (b : Int) (j : Nat) (hj : j < 5) (hb : -1 ≤ b ∧ b ≤ 4) : -1 ≤ bestStep loads free b j ∧ bestStep loads free b j ≤ 4 := by
  unfold bestStep; split
  · split <;> omega
  · omega
theorem best_range_from (loads : List Int) (free : Nat → Bool) : ∀ (d i : Nat) (b : Int), i + d = 5 → -1 ≤ b ∧ b ≤ 4 → -1 ≤ (List.range' i d).foldl (bestStep loads free) b ∧ (List.range' i d).foldl (bestStep loads free) b ≤ 4 := by
  intro d
  induction d with
  | zero => intro i b _ hb; simpa using hb
  | succ d ih => intro i b hi hb; rw [List.range'_succ, List.foldl_cons]; exact ih (i + 1) _ (by omega) (bestStep_range loads free b i (by omega) hb)
theorem best_range (loads : List Int) (free : Nat → Bool) : -1 ≤ best loads free ∧ best loads free ≤ 4 := best_range_from loads free 5 0 (-1) rfl (by omega)
theorem indexInt_loop (xs : List Int) (v : Int) (hn : xs.length ≤ 1099511627776) : ∀ (d i : Nat), i + d = xs.length → ∃ r : Int, slices_Index_int_int.l0g xs v (xs.length : Int) (i : Int) = some r ∧ decide (r ≥ 0) = decide (v ∈ xs.drop i) := by
  intro d
  induction d with
  | zero =>
    intro i hi
    obtain rfl : i = xs.length := by omega
    rw [slices_Index_int_int.l0g.eq, if_neg (by omega)]
    exact ⟨-1, rfl, by simp⟩
  | succ d ih =>
    intro i hi
    have hi' : i < xs.length := by omega
    rw [slices_Index_int_int.l0g.eq, if_pos (by omega), if_pos (by omega), if_pos (by omega), rd_nat hi', wr_succ (by omega)]
    by_cases he : v = xs[i]
    · rw [if_pos he]
      exact ⟨i, rfl, by rw [decide_eq_true (by omega : (i : Int) ≥ 0), drop_at hi', eq_comm, decide_eq_true_eq, he]; exact List.mem_cons_self ..⟩
    · rw [if_neg he]
      obtain ⟨r, hr, hd⟩ := ih (i + 1) (by omega)
      exact ⟨r, hr, by rw [hd, drop_at hi', decide_eq_decide, List.mem_cons]; exact ⟨.inr, fun h => h.resolve_left he⟩⟩
theorem containsInt_eq (xs : List Int) (v : Int) (hn : xs.length ≤ 1099511627776) : slices_Contains_int_int.g xs v = some (decide (v ∈ xs)) := by
  obtain ⟨r, hr, hd⟩ := indexInt_loop xs v hn xs.length 0 (by omega)
  have hr' : slices_Index_int_int.g xs v = some r := by rw [slices_Index_int_int.g.eq]; exact hr
  rw [slices_Contains_int_int.g.eq, hr', Option.bind_some, hd, List.drop_zero]
def freeOf (up : List Bool) (but : List Int) (j : Nat) : Bool := rdOf false up (j : Int) && !decide ((j : Int) ∈ but)
theorem leastLoad_loop (loads : List Int) (up : List Bool) (but : List Int) (hl : loads.length = 5) (hu : up.length = 5) (hb : but.length ≤ 1099511627776) : ∀ (d i : Nat) (b : Int), i + d = 5 → -1 ≤ b ∧ b ≤ 4 →
    impl_leastLoad.l0g loads up but b (i : Int) = some ((List.range' i d).foldl (bestStep loads (freeOf up but)) b) := by
  intro d
  induction d with
  | zero => intro i b hi _; rw [impl_leastLoad.l0g.eq, if_neg (by omega)]; rfl
  | succ d ih =>
    intro i b hi hbr
    have hs := bestStep_range loads (freeOf up but) b i (by omega) hbr
    have ihs := ih (i + 1) (bestStep loads (freeOf up but) b i) (by omega) hs
    rw [impl_leastLoad.l0g.eq, if_pos (by omega), if_pos (by omega), if_pos (by omega), List.range'_succ, List.foldl_cons, ← ihs, containsInt_eq but _ hb]
    have e : bestStep loads (freeOf up but) b i = if (rdOf false up (i : Int) && !decide ((i : Int) ∈ but)) = true then (if b < 0 ∨ rd loads i < rd loads b then (i : Int) else b) else b := rfl
    rw [e]
    by_cases h1 : rdOf false up (i : Int) = true
    · rw [if_pos h1, Option.bind_some, impl_leastLoad.j1g.eq, wr_succ (by omega)]
      by_cases h2 : (i : Int) ∈ but
      · simp [h1, h2]
      · simp only [h1, h2, decide_false, Bool.false_eq_true, if_false, Bool.not_false, Bool.and_self, if_true]
        by_cases h3 : b < 0
        · rw [if_pos h3, if_pos (Or.inl h3)]
        · rw [if_neg h3, if_pos (by omega), if_pos (by omega), if_pos (by omega), if_pos (by omega)]
          by_cases h4 : rd loads i < rd loads b
          · rw [if_pos h4, if_pos (Or.inr h4)]
          · rw [if_neg h4, if_neg (by rintro (h | h) <;> omega)]
    · rw [if_neg h1, impl_leastLoad.j1g.eq, if_pos rfl, wr_succ (by omega)]
      simp [h1]
theorem leastLoad_eq (loads : List Int) (up : List Bool) (but : List Int) (hl : loads.length = 5) (hu : up.length = 5) (hb : but.length ≤ 1099511627776) : impl_leastLoad.g loads up but = some (best loads (freeOf up but)) := by
  rw [impl_leastLoad.g.eq]
  exact leastLoad_loop loads up but hl hu hb 5 0 (-1) rfl (by omega)
def placeFrom (loads : List Int) (up : List Bool) : Nat → List Int → List Int × Bool
  | 0, taken => (taken, true)
  | d + 1, taken => if best loads (freeOf up taken) < 0 then ([], false) else placeFrom loads up d (taken ++ [best loads (freeOf up taken)])
def placeMembers (loads : List Int) (up : List Bool) (many : Int) : List Int × Bool :=
  if loads.length = 5 ∧ up.length = 5 ∧ 1 ≤ many ∧ many ≤ 4 then placeFrom loads up many.toNat [] else ([], false)
theorem placeFrom_len (loads : List Int) (up : List Bool) : ∀ (d : Nat) (taken : List Int), (placeFrom loads up d taken).1.length ≤ taken.length + d := by
  intro d
  induction d with
  | zero => intro taken; simp [placeFrom]
  | succ d ih =>
    intro taken
    unfold placeFrom
    split
    · simp
    · have := ih (taken ++ [best loads (freeOf up taken)])
      simp only [List.length_append, List.length_singleton] at this
      omega
theorem placeMembers_len (loads : List Int) (up : List Bool) (many : Int) : (placeMembers loads up many).1.length ≤ 4 := by
  unfold placeMembers
  split
  · have := placeFrom_len loads up many.toNat []
    simp only [List.length_nil] at this
    omega
  · simp
theorem implPlace_loop (loads : List Int) (up : List Bool) (hl : loads.length = 5) (hu : up.length = 5) (many : Int) (hm : many ≤ 4) : ∀ (d : Nat) (taken : List Int), (taken.length : Int) + d = many →
    impl_PlaceMembers.l0g loads up many taken = some (placeFrom loads up d taken) := by
  intro d
  induction d with
  | zero => intro taken h; rw [impl_PlaceMembers.l0g.eq, if_neg (by omega)]; rfl
  | succ d ih =>
    intro taken h
    rw [impl_PlaceMembers.l0g.eq, if_pos (by omega), leastLoad_eq loads up taken hl hu (by omega), Option.bind_some]
    unfold placeFrom
    split
    · rfl
    · rw [if_pos (by omega), ih _ (by simp; omega)]
theorem implPlaceMembers_eq (loads : List Int) (up : List Bool) (many : Int) : impl_PlaceMembers.g loads up many = some (placeMembers loads up many) := by
  have no : impl_PlaceMembers.j0g loads up many true = some ([], false) := by rw [impl_PlaceMembers.j0g.eq, if_pos rfl]
  rw [impl_PlaceMembers.g.eq]
  unfold placeMembers
  by_cases h1 : loads.length = 5
  · by_cases h2 : up.length = 5
    · rw [if_pos (by omega), if_pos (by omega)]
      by_cases h3 : many < 1
      · rw [if_pos h3, no, if_neg (by omega)]
      · rw [if_neg h3]
        by_cases h4 : many > 4
        · rw [decide_eq_true h4, no, if_neg (by omega)]
        · rw [decide_eq_false h4, impl_PlaceMembers.j0g.eq, if_neg Bool.false_ne_true, if_pos (by omega)]
          exact implPlace_loop loads up h1 h2 many (by omega) many.toNat [] (by simp; omega)
    · rw [if_pos (by omega), if_neg (by omega), no, if_neg (by omega)]
  · rw [if_neg (by omega), no, if_neg (by omega)]
theorem best_congr (loads : List Int) (f g : Nat → Bool) (h : ∀ j, j < 5 → f j = g j) : best loads f = best loads g := by
  unfold best
  have key : ∀ (d i : Nat) (b : Int), i + d = 5 → (List.range' i d).foldl (bestStep loads f) b = (List.range' i d).foldl (bestStep loads g) b := by
    intro d
    induction d with
    | zero => intro i b _; rfl
    | succ d ih => intro i b hi; rw [List.range'_succ, List.foldl_cons, List.foldl_cons, ih _ _ (by omega)]; unfold bestStep; rw [h i (by omega)]
  exact key 5 0 (-1) rfl
theorem specPlace_inner (loads : List Int) (many : Int) (taken : List Int) (free : List Bool) (hl : loads.length = 5) (hf : free.length = 5) : ∀ (d i : Nat) (b : Int), i + d = 5 → -1 ≤ b ∧ b ≤ 4 →
    spec_PlaceMembers.l1g loads many taken free b (i : Int) = spec_PlaceMembers.l1g loads many taken free ((List.range' i d).foldl (bestStep loads fun j => rdOf false free (j : Int)) b) 5 := by
  intro d
  induction d with
  | zero => intro i b hi _; obtain rfl : i = 5 := by omega
            rfl
  | succ d ih =>
    intro i b hi hb
    have hs := bestStep_range loads (fun j => rdOf false free (j : Int)) b i (by omega) hb
    rw [List.range'_succ, List.foldl_cons, ← ih (i + 1) _ (by omega) hs, spec_PlaceMembers.l1g.eq, if_pos (by omega), if_pos (by omega), if_pos (by omega), wr_succ (by omega)]
    unfold bestStep
    by_cases h1 : rdOf false free (i : Int) = true
    · rw [if_pos h1, if_pos h1]
      by_cases h3 : b < 0
      · rw [if_pos h3, if_pos (Or.inl h3)]
      · rw [if_neg h3, if_pos (by omega), if_pos (by omega), if_pos (by omega)]
        by_cases h4 : rd loads i < rd loads b
        · rw [if_pos h4, if_pos (Or.inr h4)]
        · rw [if_neg h4, if_neg (by rintro (h | h) <;> omega)]
    · rw [if_neg h1, if_neg h1]
theorem rdOf_set (free : List Bool) (m j : Nat) (hm : m < free.length) : rdOf false (free.set m false) (j : Int) = (rdOf false free (j : Int) && !decide (j = m)) := by
  unfold rdOf
  rw [List.getD_eq_getElem?_getD, List.getD_eq_getElem?_getD, List.getElem?_set, Int.toNat_natCast]
  by_cases h : m = j
  · subst h; simp [hm]
  · rw [if_neg h]
    have : ¬ j = m := fun e => h e.symm
    simp [this]
theorem specPlace_loop (loads : List Int) (up : List Bool) (hl : loads.length = 5) (hu : up.length = 5) (many : Int) (hm : many ≤ 4) : ∀ (d : Nat) (taken : List Int) (free : List Bool), (taken.length : Int) + d = many →
    free.length = 5 → (∀ j, j < 5 → rdOf false free ((j : Nat) : Int) = freeOf up taken j) → spec_PlaceMembers.l0g loads many taken free = some (placeFrom loads up d taken) := by
  intro d
  induction d with
  | zero => intro taken free h _ _; rw [spec_PlaceMembers.l0g.eq, if_neg (by omega)]; rfl
  | succ d ih =>
    intro taken free h hf hfr
    have hin := specPlace_inner loads many taken free hl hf 5 0 (-1) rfl (by omega)
    have hbest : (List.range' 0 5).foldl (bestStep loads fun j => rdOf false free (j : Int)) (-1) = best loads (freeOf up taken) := best_congr loads _ _ hfr
    rw [hbest] at hin
    have hr := best_range loads (freeOf up taken)
    rw [spec_PlaceMembers.l0g.eq, if_pos (by omega)]
    refine Eq.trans hin ?_
    rw [spec_PlaceMembers.l1g.eq, if_neg (by omega)]
    unfold placeFrom
    by_cases hneg : best loads (freeOf up taken) < 0
    · rw [if_pos hneg, if_pos hneg]
    · rw [if_neg hneg, if_neg hneg, if_pos (by omega), if_pos (by omega), if_pos (by omega)]
      obtain ⟨m, hm2⟩ := Int.eq_ofNat_of_zero_le (by omega : 0 ≤ best loads (freeOf up taken))
      refine ih _ _ (by simp; omega) (by simp [hf]) (fun j hj => ?_)
      have hm5 : m < free.length := by omega
      rw [hm2, Int.toNat_natCast, rdOf_set free m j hm5, hfr j hj]
      unfold freeOf
      rw [Bool.and_assoc]
      congr 1
      rw [← Bool.not_or]
      congr 1
      rw [Bool.eq_iff_iff]
      simp only [Bool.or_eq_true, decide_eq_true_eq, List.mem_append, List.mem_singleton]
      constructor
      · rintro (h | h)
        · exact .inl h
        · exact .inr (by omega)
      · rintro (h | h)
        · exact .inl h
        · exact .inr (by omega)
theorem specPlaceMembers_eq (loads : List Int) (up : List Bool) (many : Int) : spec_PlaceMembers.g loads up many = some (placeMembers loads up many) := by
  have no : spec_PlaceMembers.j0g loads up many [] true = some ([], false) := by rw [spec_PlaceMembers.j0g.eq, if_pos rfl]
  have hl1 : ∀ x a b : Int, spec_l1In.f x a b = some (decide (a ≤ x) && decide (x ≤ b)) := by intro x a b; unfold spec_l1In.f; split <;> simp_all <;> omega
  rw [spec_PlaceMembers.g.eq]
  simp only [Option.bind_some, hl1]
  unfold placeMembers
  by_cases h1 : loads.length = 5
  · by_cases h2 : up.length = 5
    · rw [if_pos (by omega), if_pos (by omega)]
      by_cases h3 : 1 ≤ many ∧ many ≤ 4
      · have hb : (!(decide (1 ≤ many) && decide (many ≤ 4))) = false := by simp [h3]
        rw [hb, if_pos ⟨h1, h2, h3⟩, spec_PlaceMembers.j0g.eq, if_neg Bool.false_ne_true, Option.bind_some, if_pos (by simp; omega), List.nil_append]
        refine specPlace_loop loads up h1 h2 many h3.2 many.toNat [] up (by simp; omega) h2 (fun j hj => ?_)
        simp [freeOf]
      · have hb : (!(decide (1 ≤ many) && decide (many ≤ 4))) = true := by simp; omega
        rw [hb, no, if_neg (by omega)]
    · rw [if_pos (by omega), if_neg (by omega), no, if_neg (by omega)]
  · rw [if_neg (by omega), no, if_neg (by omega)]
def nodeOk (x : Int) : Bool := decide (0 ≤ x) && decide (x ≤ 4)
theorem nodeOk_iff {n : Int} : nodeOk n = true ↔ 0 ≤ n ∧ n ≤ 4 := by simp [nodeOk]
theorem nodeValid_eq (x : Int) : impl_nodeValid.f x = some (nodeOk x) := by
  unfold impl_nodeValid.f nodeOk
  split
  · rename_i h; simp [h]; omega
  · rename_i h; simp; omega
theorem l1In_eq (x a b : Int) : spec_l1In.f x a b = some (decide (a ≤ x) && decide (x ≤ b)) := by
  unfold spec_l1In.f; split <;> simp_all <;> omega
/-- All members are nodes, and none stands twice. -/
def membersOk (ms : List Int) : Bool := (List.range' 0 ms.length).all fun i => nodeOk (rd ms i) && !decide (rd ms i ∈ ms.take i)
def configOk (e : Int) (ms : List Int) (fr : Bool) : Bool := decide (1 ≤ e) && decide (e ≤ 60) && decide (1 ≤ ms.length) && decide (ms.length ≤ 4) && !(fr && decide (ms.length < 2)) && membersOk ms
theorem range'_all (p : Nat → Bool) (i d : Nat) : (List.range' i (d + 1)).all p = (p i && (List.range' (i + 1) d).all p) := by rw [List.range'_succ, List.all_cons]
theorem implConfig_loop (e : Int) (ms : List Int) (fr : Bool) (hn : ms.length ≤ 4) : ∀ (d i : Nat), i + d = ms.length →
    impl_ConfigValid.l0g ms (ms.length : Int) (i : Int) e ms fr = some ((List.range' i d).all fun i => nodeOk (rd ms i) && !decide (rd ms i ∈ ms.take i)) := by
  intro d
  induction d with
  | zero => intro i hi; rw [impl_ConfigValid.l0g.eq, if_neg (by omega)]; rfl
  | succ d ih =>
    intro i hi
    have hi' : i < ms.length := by omega
    rw [range'_all, impl_ConfigValid.l0g.eq, if_pos (by omega), if_pos (by omega), if_pos (by omega), nodeValid_eq, Option.bind_some, wr_succ (by omega), ih (i + 1) (by omega), Int.toNat_natCast, containsInt_eq _ _ (by simp; omega), Option.bind_some]
    cases nodeOk (rd ms i)
    · simp
    · rw [if_pos rfl, if_pos (by omega)]
      by_cases hm : rd ms i ∈ ms.take i
      · simp [hm]
      · simp [hm]
theorem implConfigValid_eq (e : Int) (ms : List Int) (fr : Bool) : impl_ConfigValid.g e ms fr = some (configOk e ms fr) := by
  have no : impl_ConfigValid.j0g true e ms fr = some false := by rw [impl_ConfigValid.j0g.eq, if_pos rfl]
  have yes : ms.length ≤ 4 → impl_ConfigValid.j0g false e ms fr = some (membersOk ms) := fun h => by
    rw [impl_ConfigValid.j0g.eq, if_neg Bool.false_ne_true]; exact implConfig_loop e ms fr h ms.length 0 (by omega)
  rw [impl_ConfigValid.g.eq, no]
  unfold configOk
  by_cases h1 : e < 1
  · rw [if_pos h1, decide_eq_false (by omega : ¬ 1 ≤ e)]; simp
  rw [if_neg h1, decide_eq_true (by omega : 1 ≤ e)]
  by_cases h2 : e > 60
  · rw [if_pos h2, decide_eq_false (by omega : ¬ e ≤ 60)]; simp
  rw [if_neg h2, decide_eq_true (by omega : e ≤ 60)]
  by_cases h3 : (ms.length : Int) < 1
  · rw [if_pos h3, decide_eq_false (by omega : ¬ 1 ≤ ms.length)]; simp
  rw [if_neg h3, decide_eq_true (by omega : 1 ≤ ms.length)]
  by_cases h4 : (ms.length : Int) > 4
  · rw [if_pos h4, decide_eq_false (by omega : ¬ ms.length ≤ 4)]; simp
  rw [if_neg h4, decide_eq_true (by omega : ms.length ≤ 4), yes (by omega)]
  cases fr
  · simp
  · by_cases h5 : ms.length < 2
    · rw [if_pos rfl, decide_eq_true (by omega : (ms.length : Int) < 2), no, decide_eq_true h5]; simp
    · rw [if_pos rfl, decide_eq_false (by omega : ¬ (ms.length : Int) < 2), yes (by omega), decide_eq_false h5]; simp
theorem take_mem_iff (ms : List Int) (v : Int) (i : Nat) (hi : i ≤ ms.length) : v ∈ ms.take i ↔ ∃ j : Nat, j < i ∧ rd ms j = v := by
  rw [List.mem_take_iff_getElem]
  constructor
  · rintro ⟨j, hj, h⟩
    exact ⟨j, by omega, by rw [rd_nat (by omega)]; exact h⟩
  · rintro ⟨j, hj, h⟩
    exact ⟨j, by omega, by rw [rd_nat (by omega)] at h; exact h⟩
def Code (s : List Int) : Prop := s.length ≤ 2000 ∧ ∀ x ∈ s, 0 ≤ x ∧ x ≤ 255
theorem Code.rd_b {s : List Int} (h : Code s) (i : Int) : 0 ≤ rd s i ∧ rd s i ≤ 255 := by
  unfold rd
  rw [List.getD_eq_getElem?_getD]
  cases hi : s[i.toNat]? with
  | none => simp
  | some x => exact h.2 x (List.mem_of_getElem? hi)
theorem xor_nonneg {a b : Int} (ha : 0 ≤ a) (ha' : a < 4611686018427387904) (hb : 0 ≤ b) (hb' : b < 4611686018427387904) : 0 ≤ Go.bits .xor .i64 a b := by
  obtain ⟨m, rfl⟩ := Int.eq_ofNat_of_zero_le ha
  obtain ⟨n, rfl⟩ := Int.eq_ofNat_of_zero_le hb
  have h62 : (4611686018427387904 : Nat) = 2 ^ 62 := by decide
  have e1 : (BitVec.ofInt IntKind.i64.bits (m : Int)).toNat = m := by
    rw [BitVec.toNat_ofInt]
    show (((m : Int) % ((2 ^ 64 : Nat) : Int)).toNat) = m
    omega
  have e2 : (BitVec.ofInt IntKind.i64.bits (n : Int)).toNat = n := by
    rw [BitVec.toNat_ofInt]
    show (((n : Int) % ((2 ^ 64 : Nat) : Int)).toNat) = n
    omega
  have hx : m ^^^ n < 2 ^ 62 := Nat.xor_lt_two_pow (by omega) (by omega)
  have key : Go.bits .xor .i64 (m : Int) (n : Int) = IntKind.i64.wrap (((m ^^^ n : Nat)) : Int) := by
    show IntKind.i64.wrap (((BitVec.ofInt IntKind.i64.bits (m : Int) ^^^ BitVec.ofInt IntKind.i64.bits (n : Int)).toNat : Nat) : Int) = _
    rw [BitVec.toNat_xor, e1, e2]
  rw [key, IntKind.wrap_i64]
  omega
theorem pick_total {s : List Int} (hs : Code s) (p n : Int) (h0 : 0 ≤ p) (h1 : p ≤ 1099511627776) : ∃ v, spec_l20Rd_pick.g s p n = some (v, p + 1) ∧ 0 ≤ v ∧ (1 ≤ n → v < n) := by
  have e1 : wrap64 (p + 1) = p + 1 := wr_id (by omega) (by omega)
  have e2 : wrap64 (p + 1 - 1) = p := by rw [wr_id (x := p + 1 - 1) (by omega) (by omega)]; omega
  rw [spec_l20Rd_pick.g.eq, e1]
  by_cases hn : n < 1
  · rw [if_pos hn, spec_l20Rd_pick.j0g.eq, if_pos rfl]
    exact ⟨0, rfl, by omega, fun h => by omega⟩
  rw [if_neg hn]
  by_cases hl : s.length = 0
  · rw [spec_l20Rd_pick.j0g.eq, if_pos (by simp [hl])]
    exact ⟨0, rfl, by omega, fun h => by omega⟩
  have hl2 : ((s.length : Int) == 0) = false := beq_eq_false_iff_ne.2 (by omega)
  rw [spec_l20Rd_pick.j0g.eq, hl2, if_neg Bool.false_ne_true, e2]
  by_cases hp : p < s.length
  · have hb := hs.rd_b p
    rw [if_pos hp, if_pos h0, if_neg (by omega), wr_id (by omega) (by omega)]
    exact ⟨_, rfl, Int.tmod_nonneg _ hb.1, fun h => Int.tmod_lt_of_pos _ (by omega)⟩
  rw [if_neg hp, if_neg (by omega)]
  have q0 : 0 ≤ p.tmod s.length := Int.tmod_nonneg _ h0
  have q1 : p.tmod s.length < s.length := Int.tmod_lt_of_pos _ (by omega)
  have e3 : wrap64 (wrap64 (p * 7) + 3) = p * 7 + 3 := by rw [wr_id (x := p * 7) (by omega) (by omega), wr_id (by omega) (by omega)]
  have r0 : 0 ≤ (p * 7 + 3).tmod s.length := Int.tmod_nonneg _ (by omega)
  have r1 : (p * 7 + 3).tmod s.length < s.length := Int.tmod_lt_of_pos _ (by omega)
  have d0 : 0 ≤ p.tdiv s.length := Int.tdiv_nonneg h0 (by omega)
  have d1 : p.tdiv s.length ≤ p := Int.tdiv_le_self _ h0
  rw [if_pos q0, if_pos q1, e3, if_pos r0, if_pos r1, if_neg (by omega)]
  have ha := hs.rd_b (p.tmod s.length)
  have hb := hs.rd_b ((p * 7 + 3).tmod s.length)
  generalize rd s (p.tmod s.length) = a at ha ⊢
  generalize rd s ((p * 7 + 3).tmod s.length) = b at hb ⊢
  generalize p.tdiv s.length = q at d0 d1 ⊢
  simp (disch := omega) only [wr_id]
  have hA : 0 ≤ a * 131 + b * 1117 + p * 29 + q * 53 := by omega
  have hA' : a * 131 + b * 1117 + p * 29 + q * 53 < 4611686018427387904 := by omega
  generalize a * 131 + b * 1117 + p * 29 + q * 53 = A at hA hA' ⊢
  have hB : 0 ≤ A.tdiv 64 := Int.tdiv_nonneg hA (by omega)
  have hB' : A.tdiv 64 ≤ A := Int.tdiv_le_self _ hA
  rw [wr_id (x := A.tdiv 64) (by omega) (by omega)]
  exact ⟨_, rfl, Int.tmod_nonneg _ (xor_nonneg hA hA' hB (by omega)), fun h => Int.tmod_lt_of_pos _ (by omega)⟩
theorem open_total (code : List Int) (h : ∀ x ∈ code, 0 ≤ x ∧ x ≤ 255) : ∃ s, spec_l20Open.f code = some (s, 0) ∧ Code s := by
  unfold spec_l20Open.f
  by_cases hl : (code.length : Int) > 2000
  · rw [if_pos hl, if_pos (by omega)]
    exact ⟨_, rfl, by simp; omega, fun x hx => h x (List.mem_of_mem_take hx)⟩
  · rw [if_neg hl]
    exact ⟨_, rfl, by omega, h⟩
theorem alive_eq : laws_alive.g = some true := lim_of laws_alive.g.lim.mono (k := 40) (by decide +kernel)
theorem hasInt_eq (xs : List Int) (v : Int) (hn : xs.length ≤ 1099511627776) : laws_hasInt.g xs v = some (decide (v ∈ xs)) := by
  have key := loop_any (fun i => laws_hasInt.l0g xs v (i : Int)) xs (fun x => decide (x = v)) (by
    intro i h
    show laws_hasInt.l0g xs v i = if decide (xs[i] = v) = true then some true else laws_hasInt.l0g xs v ((i + 1 : Nat) : Int)
    rw [laws_hasInt.l0g.eq, if_pos (by omega), if_pos (by omega), rd_nat h, wr_succ (by omega)]
    simp only [decide_eq_true_eq]) (by
    show laws_hasInt.l0g xs v (xs.length : Int) = _
    rw [laws_hasInt.l0g.eq, if_neg (by omega)]) xs.length 0 (by omega)
  rw [laws_hasInt.g.eq]
  have key' : laws_hasInt.l0g xs v 0 = some (xs.any fun x => decide (x = v)) := key
  rw [key']
  congr 1
  rw [Bool.eq_iff_iff]
  simp
theorem sameInts_eq (x0 x1 : List Int) (hn : x0.length ≤ 1048576) : laws_sameInts.g x0 x1 = some (decide (x0 = x1)) := by
  rw [laws_sameInts.g.eq]
  by_cases hl : x0.length = x1.length
  · have key := loop_eq (fun i => laws_sameInts.l0g x0 x1 (i : Int)) x0 x1 hl (by
      intro i h h'
      show laws_sameInts.l0g x0 x1 i = if x0[i] = x1[i] then laws_sameInts.l0g x0 x1 ((i + 1 : Nat) : Int) else some false
      rw [laws_sameInts.l0g.eq, if_pos (by omega), if_pos (by omega), if_pos (by omega), rd_nat h, rd_nat h', wr_succ (by omega)]) (by
      show laws_sameInts.l0g x0 x1 (x0.length : Int) = _
      rw [laws_sameInts.l0g.eq, if_neg (by omega)]) x0.length 0 (by omega)
    rw [if_pos (by omega)]
    simpa using key
  · rw [if_neg (by omega)]
    have : x0 ≠ x1 := fun e => hl (by rw [e])
    simp [this]
theorem best_spec_from (loads : List Int) (free : Nat → Bool) : ∀ (d i : Nat) (b : Int), i + d = 5 →
    (b < 0 → b = -1 ∧ ∀ j, j < i → free j = false) → (0 ≤ b → ∃ m : Nat, b = m ∧ m < i ∧ free m = true ∧ ∀ j, j < i → free j = true → rd loads b ≤ rd loads j) →
    ((List.range' i d).foldl (bestStep loads free) b < 0 → ∀ j, j < 5 → free j = false) ∧
    (0 ≤ (List.range' i d).foldl (bestStep loads free) b → ∃ m : Nat, (List.range' i d).foldl (bestStep loads free) b = m ∧ m < 5 ∧ free m = true ∧ ∀ j, j < 5 → free j = true → rd loads m ≤ rd loads j) := by
  intro d
  induction d with
  | zero =>
    intro i b hi h1 h2
    obtain rfl : i = 5 := by omega
    simp only [List.range'_zero, List.foldl_nil]
    exact ⟨fun h => (h1 h).2, fun h => by obtain ⟨m, rfl, a, c, e⟩ := h2 h; exact ⟨m, rfl, a, c, e⟩⟩
  | succ d ih =>
    intro i b hi h1 h2
    rw [List.range'_succ, List.foldl_cons]
    refine ih (i + 1) _ (by omega) ?_ ?_
    · intro hneg
      unfold bestStep at hneg ⊢
      by_cases hf : free i = true
      · rw [if_pos hf] at hneg
        split at hneg
        · omega
        · rename_i hc; exact absurd (Or.inl hneg) hc
      · rw [if_neg hf] at hneg ⊢
        refine ⟨(h1 hneg).1, fun j hj => ?_⟩
        by_cases e : j = i
        · subst e; simpa using hf
        · exact (h1 hneg).2 j (by omega)
    · intro hpos
      unfold bestStep at hpos ⊢
      by_cases hf : free i = true
      · rw [if_pos hf] at hpos ⊢
        by_cases hc : b < 0 ∨ rd loads i < rd loads b
        · rw [if_pos hc]
          refine ⟨i, rfl, by omega, hf, fun j hj hfj => ?_⟩
          by_cases e : j = i
          · subst e; omega
          · by_cases hb : b < 0
            · have := (h1 hb).2 j (by omega); rw [this] at hfj; cases hfj
            · obtain ⟨m, _, _, _, q⟩ := h2 (by omega)
              have := q j (by omega) hfj
              rcases hc with hc | hc <;> omega
        · rw [if_neg hc] at hpos ⊢
          obtain ⟨m, e1, e2, e3, q⟩ := h2 hpos
          refine ⟨m, e1, by omega, e3, fun j hj hfj => ?_⟩
          by_cases e : j = i
          · subst e; omega
          · exact q j (by omega) hfj
      · rw [if_neg hf] at hpos ⊢
        obtain ⟨m, e1, e2, e3, q⟩ := h2 hpos
        refine ⟨m, e1, by omega, e3, fun j hj hfj => ?_⟩
        by_cases e : j = i
        · subst e; exact absurd hfj hf
        · exact q j (by omega) hfj
theorem best_spec (loads : List Int) (free : Nat → Bool) : (best loads free < 0 → ∀ j, j < 5 → free j = false) ∧
    (0 ≤ best loads free → ∃ m : Nat, best loads free = m ∧ m < 5 ∧ free m = true ∧ ∀ j, j < 5 → free j = true → rd loads m ≤ rd loads j) :=
  best_spec_from loads free 5 0 (-1) rfl (fun _ => ⟨rfl, fun j h => by omega⟩) (fun h => by omega)
theorem rd_left (T : List Int) (x : Int) (i : Nat) (h : i < T.length) : rd (T ++ [x]) (i : Int) = rd T i := by
  unfold rd; rw [List.getD_eq_getElem?_getD, List.getD_eq_getElem?_getD, Int.toNat_natCast, List.getElem?_append_left h]
theorem rd_last (T : List Int) (x : Int) : rd (T ++ [x]) (T.length : Int) = x := by
  unfold rd; rw [List.getD_eq_getElem?_getD, Int.toNat_natCast, List.getElem?_append_right (Nat.le_refl _), Nat.sub_self]; rfl
theorem membersOk_iff (ms : List Int) : membersOk ms = true ↔ ∀ i : Nat, i < ms.length → nodeOk (rd ms i) = true ∧ rd ms i ∉ ms.take i := by
  unfold membersOk
  rw [List.all_eq_true]
  constructor
  · intro h i hi
    have := h i (by rw [List.mem_range'_1]; omega)
    simpa using this
  · intro h i hi
    rw [List.mem_range'_1] at hi
    have := h i (by omega)
    simpa using this
/-- What is kept while nodes are placed. -/
structure Placed (loads : List Int) (up : List Bool) (T : List Int) : Prop where
  ok : membersOk T = true
  isUp : ∀ i : Nat, i < T.length → rdOf false up (rd T i) = true
  rise : ∀ i : Nat, i + 1 < T.length → rd loads (rd T i) ≤ rd loads (rd T (i + 1 : Nat))
  rest : ∀ j : Nat, j < 5 → freeOf up T j = true → ∀ i : Nat, i + 1 = T.length → rd loads (rd T i) ≤ rd loads j
theorem Placed.nil (loads : List Int) (up : List Bool) : Placed loads up [] :=
  ⟨by decide, fun i h => by simp at h, fun i h => by simp at h, fun j _ _ i h => by simp at h⟩
theorem freeOf_cons (up : List Bool) (T : List Int) (x : Int) (j : Nat) (h : freeOf up (T ++ [x]) j = true) : freeOf up T j = true := by
  unfold freeOf at *
  simp only [Bool.and_eq_true, Bool.not_eq_true', decide_eq_false_iff_not, List.mem_append, not_or] at *
  exact ⟨h.1, h.2.1⟩
theorem Placed.step {loads : List Int} {up : List Bool} {T : List Int} (h : Placed loads up T) {m : Nat} (hm : m < 5) (hf : freeOf up T m = true) (hle : ∀ j, j < 5 → freeOf up T j = true → rd loads m ≤ rd loads j) : Placed loads up (T ++ [(m : Int)]) := by
  have hf' := hf
  unfold freeOf at hf'
  simp only [Bool.and_eq_true, Bool.not_eq_true', decide_eq_false_iff_not] at hf'
  refine ⟨?_, fun i hi => ?_, fun i hi => ?_, fun j hj hfj i hi => ?_⟩
  · rw [membersOk_iff]
    have hok := (membersOk_iff T).1 h.ok
    intro i hi
    rw [List.length_append, List.length_singleton] at hi
    by_cases e : i = T.length
    · subst e
      rw [rd_last, List.take_left]
      exact ⟨nodeOk_iff.2 (by omega), hf'.2⟩
    · rw [rd_left T _ i (by omega), List.take_append_of_le_length (by omega)]
      exact hok i (by omega)
  · rw [List.length_append, List.length_singleton] at hi
    by_cases e : i = T.length
    · subst e; rw [rd_last]; exact hf'.1
    · rw [rd_left T _ i (by omega)]; exact h.isUp i (by omega)
  · rw [List.length_append, List.length_singleton] at hi
    rw [rd_left T _ i (by omega)]
    by_cases e : i + 1 = T.length
    · have := h.rest m hm hf i e
      rw [e, rd_last]; exact this
    · rw [rd_left T _ (i + 1) (by omega)]; exact h.rise i (by omega)
  · rw [List.length_append, List.length_singleton] at hi
    obtain rfl : i = T.length := by omega
    rw [rd_last]
    exact hle j hj (freeOf_cons up T m j hfj)
theorem placeFrom_spec (loads : List Int) (up : List Bool) : ∀ (d : Nat) (T : List Int), Placed loads up T →
    ((placeFrom loads up d T).2 = false ∧ (placeFrom loads up d T).1 = []) ∨ ((placeFrom loads up d T).2 = true ∧ (placeFrom loads up d T).1.length = T.length + d ∧ Placed loads up (placeFrom loads up d T).1) := by
  intro d
  induction d with
  | zero => intro T h; exact .inr ⟨rfl, rfl, h⟩
  | succ d ih =>
    intro T h
    unfold placeFrom
    split
    · exact .inl ⟨rfl, rfl⟩
    · rename_i hb
      obtain ⟨m, e, hm, hf, hle⟩ := (best_spec loads (freeOf up T)).2 (by omega)
      rw [e]
      rcases ih (T ++ [(m : Int)]) (h.step hm hf hle) with h1 | ⟨h1, h2, h3⟩
      · exact .inl h1
      · exact .inr ⟨h1, by rw [h2]; simp; omega, h3⟩
theorem drawLoads_loop {s : List Int} (hs : Code s) : ∀ (d i : Nat) (acc : List Int) (p : Int), i + d = 5 → acc.length = i → 0 ≤ p → p ≤ 1000000 + i →
    ∃ v p', spec_l20Loads.l0g acc (i : Int) s p = some (v, p') ∧ p ≤ p' ∧ p' ≤ p + d ∧ v.length = 5 := by
  intro d
  induction d with
  | zero =>
    intro i acc p hi ha h0 h1
    rw [spec_l20Loads.l0g.eq, if_neg (by omega)]
    exact ⟨_, _, rfl, by omega, by omega, by omega⟩
  | succ d ih =>
    intro i acc p hi ha h0 h1
    obtain ⟨v, e2, a2, b2⟩ := pick_total hs p 5 h0 (by omega)
    rw [spec_l20Loads.l0g.eq, if_pos (by omega), e2, Option.bind_some]
    rw [if_pos (by omega), wr_succ (by omega)]
    obtain ⟨w, p', e5, a5, b5, c5⟩ := ih (i + 1) (acc ++ [v]) (p + 1) (by omega) (by simp; omega) (by omega) (by omega)
    exact ⟨w, p', e5, by omega, by omega, c5⟩
theorem drawUps_loop {s : List Int} (hs : Code s) : ∀ (d i : Nat) (acc : List Bool) (p : Int), i + d = 5 → acc.length = i → 0 ≤ p → p ≤ 1000000 + i →
    ∃ v p', spec_l20Ups.l0g acc (i : Int) s p = some (v, p') ∧ p ≤ p' ∧ p' ≤ p + d ∧ v.length = 5 := by
  intro d
  induction d with
  | zero =>
    intro i acc p hi ha h0 h1
    rw [spec_l20Ups.l0g.eq, if_neg (by omega)]
    exact ⟨_, _, rfl, by omega, by omega, by omega⟩
  | succ d ih =>
    intro i acc p hi ha h0 h1
    obtain ⟨v, e2, a2, b2⟩ := pick_total hs p 4 h0 (by omega)
    rw [spec_l20Ups.l0g.eq, if_pos (by omega), e2, Option.bind_some]
    rw [if_pos (by omega), wr_succ (by omega)]
    obtain ⟨w, p', e5, a5, b5, c5⟩ := ih (i + 1) (acc ++ [decide (v > 0)]) (p + 1) (by omega) (by simp; omega) (by omega) (by omega)
    exact ⟨w, p', e5, by omega, by omega, c5⟩
theorem draw_total (l0 : List Int) (h : ∀ x ∈ l0, 0 ≤ x ∧ x ≤ 255) : ∃ v u m, spec_DrawPlaceMembers.g l0 = some (v, u, m) := by
  obtain ⟨s, e0, hs⟩ := open_total l0 h
  obtain ⟨v, p1, e1, a1, b1, c1⟩ := drawLoads_loop hs 5 0 [] 0 (by omega) rfl (by omega) (by omega)
  have e1' : spec_l20Loads.g s 0 = some (v, p1) := by rw [spec_l20Loads.g.eq]; exact e1
  obtain ⟨u, p2, e2, a2, b2, c2⟩ := drawUps_loop hs 5 0 [] p1 (by omega) rfl (by omega) (by omega)
  have e2' : spec_l20Ups.g s p1 = some (u, p2) := by rw [spec_l20Ups.g.eq]; exact e2
  obtain ⟨q, e3, a3, b3⟩ := pick_total hs p2 12 (by omega) (by omega)
  obtain ⟨r, e4, a4, b4⟩ := pick_total hs (p2 + 1) 6 (by omega) (by omega)
  rw [spec_DrawPlaceMembers.g.eq, e0]
  simp only [Option.bind_some, e1', e2', e3, e4]
  by_cases q0 : q = 0
  · rw [if_pos q0, if_pos (by omega)]; exact ⟨_, _, _, rfl⟩
  rw [if_neg q0]
  by_cases q1 : q = 1
  · rw [if_pos q1, if_pos (by omega)]; exact ⟨_, _, _, rfl⟩
  · rw [if_neg q1]; exact ⟨_, _, _, rfl⟩
theorem loop0 (loads : List Int) (up : List Bool) (m : Int) (T : List Int) (hl : loads.length = 5) (hu : up.length = 5) (h : Placed loads up T) (hT : T.length ≤ 4) : ∀ (d i : Nat), i + d = T.length →
    laws_FnPlaceMembers.l0g loads up m T (i : Int) = laws_FnPlaceMembers.l1g loads up m T 0 := by
  have hok := (membersOk_iff T).1 h.ok
  intro d
  induction d with
  | zero => intro i hi; rw [laws_FnPlaceMembers.l0g.eq, if_neg (by omega)]
  | succ d ih =>
    intro i hi
    have n1 := nodeOk_iff.1 (hok i (by omega)).1
    rw [laws_FnPlaceMembers.l0g.eq, if_pos (by omega), if_pos (by omega), if_pos (by omega), if_pos (by omega), if_pos (h.isUp i (by omega)), wr_succ (by omega), ih (i + 1) (by omega)]
    by_cases h0 : (i : Int) > 0
    · obtain ⟨q, rfl⟩ : ∃ q, i = q + 1 := ⟨i - 1, by omega⟩
      have n2 := nodeOk_iff.1 (hok q (by omega)).1
      have e : wrap64 (((q + 1 : Nat) : Int) - 1) = (q : Int) := by rw [wr_id (by omega) (by omega)]; omega
      have hr := h.rise q (by omega)
      rw [if_pos h0, e, if_pos (by omega), if_pos (by omega), if_pos (by omega), if_pos (by omega), if_pos (by omega), if_neg (by omega)]
    · rw [if_neg h0]
theorem loop1 (loads : List Int) (up : List Bool) (m : Int) (T : List Int) (hl : loads.length = 5) (hu : up.length = 5) (h : Placed loads up T) (hT : T.length ≤ 4) (hm : (T.length : Int) = m) (h1 : 1 ≤ T.length) : ∀ (d i : Nat), i + d = 5 →
    laws_FnPlaceMembers.l1g loads up m T (i : Int) = some true := by
  have hok := (membersOk_iff T).1 h.ok
  intro d
  induction d with
  | zero => intro i hi; rw [laws_FnPlaceMembers.l1g.eq, if_neg (by omega)]
  | succ d ih =>
    intro i hi
    rw [laws_FnPlaceMembers.l1g.eq, if_pos (by omega), if_pos (by omega), wr_succ (by omega), ih (i + 1) (by omega)]
    by_cases hup : rdOf false up (i : Int) = true
    · rw [if_pos hup, hasInt_eq _ _ (by omega), Option.bind_some]
      by_cases hmem : (i : Int) ∈ T
      · rw [decide_eq_true hmem, if_pos rfl]
      · rw [decide_eq_false hmem, if_neg Bool.false_ne_true]
        have e : wrap64 (m - 1) = ((T.length - 1 : Nat) : Int) := by rw [wr_id (by omega) (by omega)]; omega
        have n2 := nodeOk_iff.1 (hok (T.length - 1) (by omega)).1
        have hr := h.rest i (by omega) (by simp [freeOf, hup, hmem]) (T.length - 1) (by omega)
        rw [e, if_pos (by omega), if_pos (by omega), if_pos (by omega), if_pos (by omega), if_pos (by omega), if_neg (by omega)]
    · rw [if_neg hup]
theorem law_holds (l0 : List Int) (f0 : FitL FitB l0) : ∃ k, laws_FnPlaceMembers.f k l0 = some true := by
  apply rounds_of_lim (g := fun k => laws_FnPlaceMembers.f k l0)
  show laws_FnPlaceMembers.g l0 = some true
  rw [laws_FnPlaceMembers.g.eq]
  by_cases h : (l0.length : Int) > 1048576
  · rw [if_pos h]
  rw [if_neg h]
  obtain ⟨loads, up, m, e0⟩ := draw_total l0 f0.2
  have hx := placeMembers_len loads up m
  simp only [e0, Option.bind_some, implPlaceMembers_eq, specPlaceMembers_eq, sameInts_eq (placeMembers loads up m).1 _ (by omega)]
  rw [if_pos (by simp), bne_self_eq_false, laws_FnPlaceMembers.j0g.eq, if_neg Bool.false_ne_true, alive_eq]
  by_cases hc : loads.length = 5 ∧ up.length = 5 ∧ 1 ≤ m ∧ m ≤ 4
  · have e1 : placeMembers loads up m = placeFrom loads up m.toNat [] := by unfold placeMembers; rw [if_pos hc]
    rcases placeFrom_spec loads up m.toNat [] (Placed.nil loads up) with ⟨h1, h2⟩ | ⟨h1, h2, h3⟩
    · rw [e1, h1, h2]; simp
    · rw [e1, h1, if_pos rfl]
      generalize (placeFrom loads up m.toNat []).1 = T at h2 h3 ⊢
      simp only [List.length_nil, Nat.zero_add] at h2
      have hcfg : configOk 1 T false = true := by
        unfold configOk
        rw [h3.ok]
        have : 1 ≤ T.length ∧ T.length ≤ 4 := by omega
        simp [this]
      rw [if_pos (by omega), implConfigValid_eq, hcfg, Option.bind_some, laws_FnPlaceMembers.j1g.eq, Bool.not_true, if_neg Bool.false_ne_true]
      have l0' := loop0 loads up m T hc.1 hc.2.1 h3 (by omega) T.length 0 (by omega)
      have l1' := loop1 loads up m T hc.1 hc.2.1 h3 (by omega) (by omega) (by omega) 5 0 rfl
      exact l0'.trans l1'
  · have e1 : placeMembers loads up m = ([], false) := by unfold placeMembers; rw [if_neg hc]
    rw [e1]; simp
end Go.Proofs.Ytbieglaagpogkaa.FFnPlaceMembers
