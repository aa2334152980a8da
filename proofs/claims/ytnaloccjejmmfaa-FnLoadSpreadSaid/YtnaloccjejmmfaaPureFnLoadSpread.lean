/- For every code of at most 1048576 bytes: the drawn loads' spread is the same for the program and the reference; no load differs from the first by more, it is 0 for one load alone, and it stays when all loads grow by one. No conditions but the bounds that the statement itself gives. -/
import Derived.Test.YtnaloccjejmmfaaGFnLoadSpread
import Derived.Test.YtnaloccjejmmfaaBase
import Derived.Test.YtnaloccjejmmfaaReads
set_option linter.unusedVariables false
set_option linter.unusedSimpArgs false
namespace Go.Proofs.Ytnaloccjejmmfaa.FFnLoadSpread
open Go.RowKit Go.Proofs.YtnaloccjejmmfaaW.PrintWords Go.Proofs.YtnaloccjejmmfaaW.PrintLast Go.Proofs.YtnaloccjejmmfaaW.PrintMore Go.Proofs.YtnaloccjejmmfaaL
def lowest (l : List Int) : Int := l.foldl mn (rd l 0)
def highest (l : List Int) : Int := l.foldl mx (rd l 0)
def anyNeg (l : List Int) : Bool := l.any fun x => decide (x < 0)
def loadSpread (l : List Int) : Int := if l = [] then -1 else if anyNeg l = true then -1 else wrap64 (highest l - lowest l)
theorem foldl_mn_lt (c : Int) : ∀ (t : List Int) (h : Int), t.foldl mn h < c ↔ h < c ∨ ∃ x ∈ t, x < c := by
  intro t
  induction t with
  | nil => intro h; simp
  | cons y t ih =>
    intro h
    rw [List.foldl_cons, ih]
    have : mn h y < c ↔ h < c ∨ y < c := by unfold mn; split <;> omega
    rw [this]
    simp only [List.mem_cons, exists_eq_or_imp]
    exact or_assoc
theorem specLoadSpread_loop (x0 : List Int) (hn : x0.length ≤ 1099511627776) : ∀ d i lo hi, i + d = x0.length →
    spec_LoadSpread.l0g x0 lo hi (i : Int) = some (if anyNeg (x0.drop i) = true then -1 else wrap64 ((x0.drop i).foldl mx hi - (x0.drop i).foldl mn lo)) := by
  intro d
  induction d with
  | zero =>
    intro i lo hi h
    obtain rfl : i = x0.length := by omega
    rw [spec_LoadSpread.l0g.eq, if_neg (by omega)]
    simp [anyNeg]
  | succ d ih =>
    intro i lo hi h
    have hi' : i < x0.length := by omega
    rw [spec_LoadSpread.l0g.eq, if_pos (by omega), if_pos (by omega), rd_nat hi', wr_succ (by omega), ih (i + 1) _ _ (by omega), drop_at hi']
    simp only [anyNeg, List.any_cons, List.foldl_cons]
    by_cases hneg : x0[i] < 0
    · simp [hneg]
    · simp only [hneg, if_false, decide_false, Bool.false_or]; rfl
theorem minInt_loop (x0 : List Int) (hn : x0.length ≤ 1099511627776) : ∀ d i lo, i + d = x0.length → slices_Min_int_int.l0g x0 lo (i : Int) = some ((x0.drop i).foldl mn lo) := by
  intro d
  induction d with
  | zero =>
    intro i lo h
    obtain rfl : i = x0.length := by omega
    rw [slices_Min_int_int.l0g.eq, if_neg (by omega)]
    simp
  | succ d ih =>
    intro i lo h
    have hi' : i < x0.length := by omega
    rw [slices_Min_int_int.l0g.eq, if_pos (by omega), if_pos (by omega), rd_nat hi', wr_succ (by omega), ih (i + 1) _ (by omega), drop_at hi', List.foldl_cons]
theorem maxInt_loop (x0 : List Int) (hn : x0.length ≤ 1099511627776) : ∀ d i lo, i + d = x0.length → slices_Max_int_int.l0g x0 lo (i : Int) = some ((x0.drop i).foldl mx lo) := by
  intro d
  induction d with
  | zero =>
    intro i lo h
    obtain rfl : i = x0.length := by omega
    rw [slices_Max_int_int.l0g.eq, if_neg (by omega)]
    simp
  | succ d ih =>
    intro i lo h
    have hi' : i < x0.length := by omega
    rw [slices_Max_int_int.l0g.eq, if_pos (by omega), if_pos (by omega), rd_nat hi', wr_succ (by omega), ih (i + 1) _ (by omega), drop_at hi', List.foldl_cons]
theorem first_fold (f : Int → Int → Int) (hf : ∀ x, f x x = x) (l : List Int) (h : l ≠ []) : (l.drop 1).foldl f (rd l 0) = l.foldl f (rd l 0) := by
  cases l with
  | nil => exact absurd rfl h
  | cons x t => simp [rd, hf]
theorem mn_self (x : Int) : mn x x = x := by unfold mn; split <;> rfl
theorem mx_self (x : Int) : mx x x = x := by unfold mx; split <;> rfl
theorem minInt_eq (l : List Int) (hn : l.length ≤ 1099511627776) (h : l ≠ []) : slices_Min_int_int.g l = some (lowest l) := by
  have hl : 0 < l.length := List.length_pos_iff.2 h
  have := minInt_loop l hn (l.length - 1) 1 (rd l 0) (by omega)
  rw [slices_Min_int_int.g.eq, if_neg (by omega), if_pos (by omega)]
  exact this.trans (by rw [first_fold mn mn_self l h]; rfl)
theorem maxInt_eq (l : List Int) (hn : l.length ≤ 1099511627776) (h : l ≠ []) : slices_Max_int_int.g l = some (highest l) := by
  have hl : 0 < l.length := List.length_pos_iff.2 h
  have := maxInt_loop l hn (l.length - 1) 1 (rd l 0) (by omega)
  rw [slices_Max_int_int.g.eq, if_neg (by omega), if_pos (by omega)]
  exact this.trans (by rw [first_fold mx mx_self l h]; rfl)
theorem lowest_neg (l : List Int) (h : l ≠ []) : decide (lowest l < 0) = anyNeg l := by
  unfold lowest anyNeg
  rw [Bool.eq_iff_iff, decide_eq_true_iff, foldl_mn_lt, List.any_eq_true]
  constructor
  · rintro (h0 | ⟨x, hx, hx0⟩)
    · cases l with
      | nil => exact absurd rfl h
      | cons y t => exact ⟨y, List.mem_cons_self .., by simpa [rd] using h0⟩
    · exact ⟨x, hx, by simpa using hx0⟩
  · rintro ⟨x, hx, hx0⟩
    exact .inr ⟨x, hx, by simpa using hx0⟩
theorem specLoadSpread_eq (l : List Int) (hn : l.length ≤ 1099511627776) : spec_LoadSpread.g l = some (loadSpread l) := by
  rw [spec_LoadSpread.g.eq]
  unfold loadSpread
  by_cases h : l = []
  · subst h; simp
  · have hl : 0 < l.length := List.length_pos_iff.2 h
    have := specLoadSpread_loop l hn l.length 0 (rd l 0) (rd l 0) (by omega)
    rw [if_neg (by omega), if_pos (by omega), if_neg h]
    exact this
theorem implLoadSpread_eq (l : List Int) (hn : l.length ≤ 1099511627776) : impl_LoadSpread.g l = some (loadSpread l) := by
  rw [impl_LoadSpread.g.eq]
  unfold loadSpread
  by_cases h : l = []
  · subst h; simp [impl_LoadSpread.j0g.eq]
  · have hl : 0 < l.length := List.length_pos_iff.2 h
    rw [if_neg (by omega), if_neg h, minInt_eq l hn h, Option.bind_some, impl_LoadSpread.j0g.eq, lowest_neg l h, maxInt_eq l hn h, minInt_eq l hn h]
    simp only [Option.bind_some]
    split <;> rfl
def Code (s : List Int) : Prop := s.length ≤ 2000 ∧ ∀ x ∈ s, 0 ≤ x ∧ x ≤ 255
theorem Code.rd_b {s : List Int} (h : Code s) (i : Int) : 0 ≤ rd s i ∧ rd s i ≤ 255 := by
  unfold rd
  rw [List.getD_eq_getElem?_getD]
  cases hi : s[i.toNat]? with
  | none => simp
  | some x => exact h.2 x (List.mem_of_getElem? hi)
theorem xor_nonneg {a b : Int} (ha : 0 ≤ a) (ha' : a < 4611686018427387904) (hb : 0 ≤ b) (hb' : b < 4611686018427387904) : 0 ≤ Go.bits .xor .i64 a b := by
  obtain ⟨m, rfl⟩ := Int.eq_ofNat_of_zero_le ha
  obtain ⟨n, rfl⟩ := Int.eq_ofNat_of_zero_le hb
  have h62 : (4611686018427387904 : Nat) = 2 ^ 62 := by decide
  have e1 : (BitVec.ofInt IntKind.i64.bits (m : Int)).toNat = m := by
    rw [BitVec.toNat_ofInt]
    show (((m : Int) % ((2 ^ 64 : Nat) : Int)).toNat) = m
    omega
  have e2 : (BitVec.ofInt IntKind.i64.bits (n : Int)).toNat = n := by
    rw [BitVec.toNat_ofInt]
    show (((n : Int) % ((2 ^ 64 : Nat) : Int)).toNat) = n
    omega
  have hx : m ^^^ n < 2 ^ 62 := Nat.xor_lt_two_pow (by omega) (by omega)
  have key : Go.bits .xor .i64 (m : Int) (n : Int) = IntKind.i64.wrap (((m ^^^ n : Nat)) : Int) := by
    show IntKind.i64.wrap (((BitVec.ofInt IntKind.i64.bits (m : Int) ^^^ BitVec.ofInt IntKind.i64.bits (n : Int)).toNat : Nat) : Int) = _
    rw [BitVec.toNat_xor, e1, e2]
  rw [key, IntKind.wrap_i64]
  omega
theorem pick_total {s : List Int} (hs : Code s) (p n : Int) (h0 : 0 ≤ p) (h1 : p ≤ 1099511627776) : ∃ v, spec_l20Rd_pick.g s p n = some (v, p + 1) ∧ 0 ≤ v ∧ (1 ≤ n → v < n) := by
  have e1 : wrap64 (p + 1) = p + 1 := wr_id (by omega) (by omega)
  have e2 : wrap64 (p + 1 - 1) = p := by rw [wr_id (x := p + 1 - 1) (by omega) (by omega)]; omega
  rw [spec_l20Rd_pick.g.eq, e1]
  by_cases hn : n < 1
  · rw [if_pos hn, spec_l20Rd_pick.j0g.eq, if_pos rfl]
    exact ⟨0, rfl, by omega, fun h => by omega⟩
  rw [if_neg hn]
  by_cases hl : s.length = 0
  · rw [spec_l20Rd_pick.j0g.eq, if_pos (by simp [hl])]
    exact ⟨0, rfl, by omega, fun h => by omega⟩
  have hl2 : ((s.length : Int) == 0) = false := beq_eq_false_iff_ne.2 (by omega)
  rw [spec_l20Rd_pick.j0g.eq, hl2, if_neg Bool.false_ne_true, e2]
  by_cases hp : p < s.length
  · have hb := hs.rd_b p
    rw [if_pos hp, if_pos h0, if_neg (by omega), wr_id (by omega) (by omega)]
    exact ⟨_, rfl, Int.tmod_nonneg _ hb.1, fun h => Int.tmod_lt_of_pos _ (by omega)⟩
  rw [if_neg hp, if_neg (by omega)]
  have q0 : 0 ≤ p.tmod s.length := Int.tmod_nonneg _ h0
  have q1 : p.tmod s.length < s.length := Int.tmod_lt_of_pos _ (by omega)
  have e3 : wrap64 (wrap64 (p * 7) + 3) = p * 7 + 3 := by rw [wr_id (x := p * 7) (by omega) (by omega), wr_id (by omega) (by omega)]
  have r0 : 0 ≤ (p * 7 + 3).tmod s.length := Int.tmod_nonneg _ (by omega)
  have r1 : (p * 7 + 3).tmod s.length < s.length := Int.tmod_lt_of_pos _ (by omega)
  have d0 : 0 ≤ p.tdiv s.length := Int.tdiv_nonneg h0 (by omega)
  have d1 : p.tdiv s.length ≤ p := Int.tdiv_le_self _ h0
  rw [if_pos q0, if_pos q1, e3, if_pos r0, if_pos r1, if_neg (by omega)]
  have ha := hs.rd_b (p.tmod s.length)
  have hb := hs.rd_b ((p * 7 + 3).tmod s.length)
  generalize rd s (p.tmod s.length) = a at ha ⊢
  generalize rd s ((p * 7 + 3).tmod s.length) = b at hb ⊢
  generalize p.tdiv s.length = q at d0 d1 ⊢
  simp (disch := omega) only [wr_id]
  have hA : 0 ≤ a * 131 + b * 1117 + p * 29 + q * 53 := by omega
  have hA' : a * 131 + b * 1117 + p * 29 + q * 53 < 4611686018427387904 := by omega
  generalize a * 131 + b * 1117 + p * 29 + q * 53 = A at hA hA' ⊢
  have hB : 0 ≤ A.tdiv 64 := Int.tdiv_nonneg hA (by omega)
  have hB' : A.tdiv 64 ≤ A := Int.tdiv_le_self _ hA
  rw [wr_id (x := A.tdiv 64) (by omega) (by omega)]
  exact ⟨_, rfl, Int.tmod_nonneg _ (xor_nonneg hA hA' hB (by omega)), fun h => Int.tmod_lt_of_pos _ (by omega)⟩
theorem open_total (code : List Int) (h : ∀ x ∈ code, 0 ≤ x ∧ x ≤ 255) : ∃ s, spec_l20Open.f code = some (s, 0) ∧ Code s := by
  unfold spec_l20Open.f
  by_cases hl : (code.length : Int) > 2000
  · rw [if_pos hl, if_pos (by omega)]
    exact ⟨_, rfl, by simp; omega, fun x hx => h x (List.mem_of_mem_take hx)⟩
  · rw [if_neg hl]
    exact ⟨_, rfl, by omega, h⟩
theorem alive_eq : laws_alive.g = some true := lim_of laws_alive.g.lim.mono (k := 40) (by decide +kernel)
theorem foldl_mx_ge : ∀ (t : List Int) (h : Int), h ≤ t.foldl mx h ∧ ∀ x ∈ t, x ≤ t.foldl mx h := by
  intro t
  induction t with
  | nil => intro h; simp
  | cons y t ih =>
    intro h
    have := ih (mx h y)
    have h1 : h ≤ mx h y ∧ y ≤ mx h y := by unfold mx; split <;> omega
    rw [List.foldl_cons]
    refine ⟨by omega, fun x hx => ?_⟩
    rcases List.mem_cons.1 hx with rfl | hx
    · omega
    · exact this.2 x hx
theorem foldl_mx_le (c : Int) : ∀ (t : List Int) (h : Int), h ≤ c → (∀ x ∈ t, x ≤ c) → t.foldl mx h ≤ c := by
  intro t
  induction t with
  | nil => intro h h1 _; simpa using h1
  | cons y t ih =>
    intro h h1 h2
    have hy := h2 y (List.mem_cons_self ..)
    exact ih _ (by unfold mx; split <;> omega) (fun x hx => h2 x (List.mem_cons_of_mem _ hx))
theorem foldl_mn_le : ∀ (t : List Int) (h : Int), t.foldl mn h ≤ h ∧ ∀ x ∈ t, t.foldl mn h ≤ x := by
  intro t
  induction t with
  | nil => intro h; simp
  | cons y t ih =>
    intro h
    have := ih (mn h y)
    have h1 : mn h y ≤ h ∧ mn h y ≤ y := by unfold mn; split <;> omega
    rw [List.foldl_cons]
    refine ⟨by omega, fun x hx => ?_⟩
    rcases List.mem_cons.1 hx with rfl | hx
    · omega
    · exact this.2 x hx
theorem foldl_mn_ge (c : Int) : ∀ (t : List Int) (h : Int), c ≤ h → (∀ x ∈ t, c ≤ x) → c ≤ t.foldl mn h := by
  intro t
  induction t with
  | nil => intro h h1 _; simpa using h1
  | cons y t ih =>
    intro h h1 h2
    have hy := h2 y (List.mem_cons_self ..)
    exact ih _ (by unfold mn; split <;> omega) (fun x hx => h2 x (List.mem_cons_of_mem _ hx))
theorem foldl_mx_one : ∀ (t : List Int) (h : Int), (t.map (· + 1)).foldl mx (h + 1) = t.foldl mx h + 1 := by
  intro t
  induction t with
  | nil => intro h; rfl
  | cons y t ih =>
    intro h
    rw [List.map_cons, List.foldl_cons, List.foldl_cons, ← ih]
    congr 1
    unfold mx; split <;> split <;> omega
theorem foldl_mn_one : ∀ (t : List Int) (h : Int), (t.map (· + 1)).foldl mn (h + 1) = t.foldl mn h + 1 := by
  intro t
  induction t with
  | nil => intro h; rfl
  | cons y t ih =>
    intro h
    rw [List.map_cons, List.foldl_cons, List.foldl_cons, ← ih]
    congr 1
    unfold mn; split <;> split <;> omega
theorem drawLoads_loop {s : List Int} (hs : Code s) : ∀ (d i : Nat) (acc : List Int) (p : Int), i + d = 5 → acc.length = i → (∀ x ∈ acc, 0 ≤ x ∧ x ≤ 4) → 0 ≤ p → p ≤ 1000000 + i →
    ∃ v p', spec_l20Loads.l0g acc (i : Int) s p = some (v, p') ∧ p ≤ p' ∧ p' ≤ p + d ∧ v.length = 5 ∧ ∀ x ∈ v, 0 ≤ x ∧ x ≤ 4 := by
  intro d
  induction d with
  | zero =>
    intro i acc p hi ha hx h0 h1
    rw [spec_l20Loads.l0g.eq, if_neg (by omega)]
    exact ⟨_, _, rfl, by omega, by omega, by omega, hx⟩
  | succ d ih =>
    intro i acc p hi ha hx h0 h1
    obtain ⟨v, e2, a2, b2⟩ := pick_total hs p 5 h0 (by omega)
    have b2' := b2 (by omega)
    rw [spec_l20Loads.l0g.eq, if_pos (by omega), e2, Option.bind_some]
    rw [if_pos (by omega), wr_succ (by omega)]
    obtain ⟨w, p', e5, a5, b5, c5, d5⟩ := ih (i + 1) (acc ++ [v]) (p + 1) (by omega) (by simp; omega) (fun x h => by
      rcases List.mem_append.1 h with h | h
      · exact hx x h
      · rw [List.mem_singleton.1 h]; omega) (by omega) (by omega)
    exact ⟨w, p', e5, by omega, by omega, c5, d5⟩
theorem draw_total (l0 : List Int) (h : ∀ x ∈ l0, 0 ≤ x ∧ x ≤ 255) : ∃ v, spec_DrawLoadSpread.g l0 = some v ∧ v.length ≤ 6 ∧ ∀ x ∈ v, -1 ≤ x ∧ x ≤ 4 := by
  obtain ⟨s, e0, hs⟩ := open_total l0 h
  obtain ⟨v, p1, e1, a1, b1, c1, d1⟩ := drawLoads_loop hs 5 0 [] 0 (by omega) rfl (by simp) (by omega) (by omega)
  have e1' : spec_l20Loads.g s 0 = some (v, p1) := by rw [spec_l20Loads.g.eq]; exact e1
  obtain ⟨u, e2, a2, b2⟩ := pick_total hs p1 6 (by omega) (by omega)
  have d2 : ∀ x ∈ v, -1 ≤ x ∧ x ≤ 4 := fun x hx => by have := d1 x hx; omega
  rw [spec_DrawLoadSpread.g.eq, e0]
  simp only [Option.bind_some, e1', e2]
  by_cases u0 : u = 0
  · rw [if_pos u0]; exact ⟨_, rfl, by simp, by simp⟩
  rw [if_neg u0]
  by_cases u1 : u = 1
  · rw [if_pos u1, if_pos (by omega)]
    exact ⟨_, rfl, by simp; omega, fun x hx => by
      rcases List.mem_append.1 hx with h | h
      · exact d2 x h
      · rw [List.mem_singleton.1 h]; omega⟩
  rw [if_neg u1]
  by_cases u2 : u = 2
  · rw [if_pos u2, if_pos (by omega)]
    exact ⟨_, rfl, by simp; omega, fun x hx => d2 x (List.mem_of_mem_take hx)⟩
  · rw [if_neg u2]; exact ⟨_, rfl, by omega, d2⟩
theorem more_loop (v : List Int) (n : Int) (hv : v.length ≤ 6) (h0 : v ≠ []) (hx : ∀ x ∈ v, -1 ≤ x ∧ x ≤ 4) (hn : ∀ x ∈ v, x - rd v 0 ≤ n ∧ rd v 0 - x ≤ n) (h1 : -1 ≤ rd v 0 ∧ rd v 0 ≤ 4) :
    ∀ (d i : Nat), i + d = v.length → laws_FnLoadSpread.l0g v n ((v.take i).map (· + 1)) (i : Int) = laws_FnLoadSpread.l0g v n (v.map (· + 1)) (v.length : Int) := by
  intro d
  induction d with
  | zero => intro i hi; obtain rfl : i = v.length := by omega
            rw [List.take_length]
  | succ d ih =>
    intro i hi
    have hi' : i < v.length := by omega
    have hb := hx _ (List.getElem_mem hi')
    have hc := hn _ (List.getElem_mem hi')
    have hl : 0 < v.length := List.length_pos_iff.2 h0
    rw [laws_FnLoadSpread.l0g.eq, if_pos (by omega), if_pos (by omega), if_pos (by omega), rd_nat hi', wr_succ (by omega)]
    rw [wr_id (x := v[i] - rd v 0) (by omega) (by omega), wr_id (x := rd v 0 - v[i]) (by omega) (by omega), wr_id (x := v[i] + 1) (by omega) (by omega), if_neg (by omega), if_neg (by omega), if_pos (by simp; omega), ← ih (i + 1) (by omega), List.take_succ_eq_append_getElem hi', List.map_append]
    rfl
theorem law_holds (l0 : List Int) (f0 : FitL FitB l0) : ∃ k, laws_FnLoadSpread.f k l0 = some true := by
  apply rounds_of_lim (g := fun k => laws_FnLoadSpread.f k l0)
  show laws_FnLoadSpread.g l0 = some true
  rw [laws_FnLoadSpread.g.eq]
  by_cases h : (l0.length : Int) > 1048576
  · rw [if_pos h]
  rw [if_neg h]
  obtain ⟨v, e0, hv, hx⟩ := draw_total l0 f0.2
  simp only [e0, Option.bind_some, implLoadSpread_eq v (by omega), specLoadSpread_eq v (by omega), alive_eq, if_true]
  by_cases hnil : v = []
  · subst hnil; simp [loadSpread]
  cases hneg : anyNeg v
  · have hl : 0 < v.length := List.length_pos_iff.2 hnil
    have h1 : -1 ≤ rd v 0 ∧ rd v 0 ≤ 4 := by
      rw [show (0 : Int) = ((0 : Nat) : Int) from rfl, rd_nat hl]; exact hx _ (List.getElem_mem hl)
    have m1 := foldl_mx_ge v (rd v 0)
    have m2 := foldl_mn_le v (rd v 0)
    have m3 := foldl_mx_le 4 v (rd v 0) h1.2 (fun x h => (hx x h).2)
    have m4 := foldl_mn_ge (-1) v (rd v 0) h1.1 (fun x h => (hx x h).1)
    have m5 : 0 ≤ lowest v := by have := lowest_neg v hnil; rw [hneg] at this; simpa using this
    have es : loadSpread v = highest v - lowest v := by unfold loadSpread; rw [if_neg hnil, hneg, if_neg Bool.false_ne_true]; unfold highest lowest; exact wr_id (by omega) (by omega)
    have hge : lowest v ≤ highest v := by unfold lowest highest; omega
    have key := more_loop v (highest v - lowest v) hv hnil hx (fun x hxv => by
      have q1 := m1.2 x hxv
      have q2 := m2.2 x hxv
      unfold highest lowest
      omega) h1 v.length 0 (by omega)
    have key' : laws_FnLoadSpread.l0g v (highest v - lowest v) [] 0 = laws_FnLoadSpread.l0g v (highest v - lowest v) (v.map (· + 1)) (v.length : Int) := key
    rw [es, if_neg (by omega), key', laws_FnLoadSpread.l0g.eq, if_neg (by omega), if_pos (by omega), if_pos (by omega), implLoadSpread_eq _ (by simp; omega), implLoadSpread_eq _ (by simp; omega)]
    have e1 : loadSpread (v.take 1) = 0 := by
      cases v with
      | nil => exact absurd rfl hnil
      | cons a t =>
        have ha : ¬ a < 0 := by
          intro hlt
          simp [anyNeg, hlt] at hneg
        simp [loadSpread, anyNeg, highest, lowest, rd, ha, mx_self, mn_self, wrap64]
    have e2 : loadSpread (v.map (· + 1)) = highest v - lowest v := by
      have hnil2 : v.map (· + 1) ≠ [] := by simpa using hnil
      have r0 : rd (v.map (· + 1)) 0 = rd v 0 + 1 := by
        cases v with
        | nil => exact absurd rfl hnil
        | cons a t => rfl
      have q1 : highest (v.map (· + 1)) = highest v + 1 := by unfold highest; rw [r0, foldl_mx_one]
      have q2 : lowest (v.map (· + 1)) = lowest v + 1 := by unfold lowest; rw [r0, foldl_mn_one]
      have q3 : anyNeg (v.map (· + 1)) = false := by
        rw [← lowest_neg _ hnil2, q2]; simp; omega
      unfold loadSpread
      rw [if_neg hnil2, q3, if_neg Bool.false_ne_true, q1, q2]
      have : highest v + 1 - (lowest v + 1) = highest v - lowest v := by omega
      rw [this]
      unfold highest lowest at *
      exact wr_id (by omega) (by omega)
    simp only [Option.bind_some, e1, e2]
    simp
  · have es : loadSpread v = -1 := by unfold loadSpread; rw [if_neg hnil, hneg, if_pos rfl]
    rw [es]; simp
end Go.Proofs.Ytnaloccjejmmfaa.FFnLoadSpread
