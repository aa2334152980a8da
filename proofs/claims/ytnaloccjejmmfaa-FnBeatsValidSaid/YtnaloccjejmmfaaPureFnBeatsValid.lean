/- For every code of at most 1048576 bytes: the drawn beats are valid for the program just if they are for the reference; without the first one valid beats are not valid, and later beats of all are. No conditions but the bounds that the statement itself gives. -/
import Derived.Test.YtnaloccjejmmfaaGFnBeatsValid
import Derived.Test.YtnaloccjejmmfaaBase
import Derived.Test.YtnaloccjejmmfaaReads
set_option linter.unusedVariables false
set_option linter.unusedSimpArgs false
namespace Go.Proofs.Ytnaloccjejmmfaa.FFnBeatsValid
open Go.RowKit Go.Proofs.YtnaloccjejmmfaaW.PrintWords Go.Proofs.YtnaloccjejmmfaaW.PrintLast Go.Proofs.YtnaloccjejmmfaaW.PrintMore Go.Proofs.YtnaloccjejmmfaaL
def timeOk (x : Int) : Bool := decide (0 ≤ x) && decide (x ≤ 200)
def beatsOk (l : List Int) : Bool := decide (l.length = 5) && l.all timeOk
theorem timeValid_eq (x : Int) : impl_timeValid.f x = some (timeOk x) := by
  unfold impl_timeValid.f timeOk; split <;> simp_all <;> omega
theorem l1In_eq (x a b : Int) : spec_l1In.f x a b = some (decide (a ≤ x) && decide (x ≤ b)) := by
  unfold spec_l1In.f; split <;> simp_all <;> omega
theorem specBeatsValid_eq (x0 : List Int) : spec_BeatsValid.g x0 = some (beatsOk x0) := by
  rw [spec_BeatsValid.g.eq]
  by_cases hl : x0.length = 5
  · have key := loop_all (fun i => spec_BeatsValid.l0g x0 (i : Int)) x0 timeOk (by
      intro i h
      show spec_BeatsValid.l0g x0 i = if timeOk x0[i] = true then spec_BeatsValid.l0g x0 ((i + 1 : Nat) : Int) else some false
      rw [spec_BeatsValid.l0g.eq, if_pos (by omega), if_pos (by omega), if_pos (by omega), rd_nat h, wr_succ (by omega), l1In_eq]
      rfl) (by
      show spec_BeatsValid.l0g x0 (x0.length : Int) = _
      rw [spec_BeatsValid.l0g.eq, if_neg (by omega)]) x0.length 0 (by omega)
    rw [if_pos (by omega)]
    simpa [beatsOk, hl] using key
  · rw [if_neg (by omega)]; simp [beatsOk, hl]
theorem implBeatsValid_eq (x0 : List Int) : impl_BeatsValid.g x0 = some (beatsOk x0) := by
  rw [impl_BeatsValid.g.eq]
  by_cases hl : x0.length = 5
  · have key := loop_all (fun i => impl_BeatsValid.l0g x0 (x0.length : Int) (i : Int)) x0 timeOk (by
      intro i h
      show impl_BeatsValid.l0g x0 (x0.length : Int) i = if timeOk x0[i] = true then impl_BeatsValid.l0g x0 (x0.length : Int) ((i + 1 : Nat) : Int) else some false
      rw [impl_BeatsValid.l0g.eq, if_pos (by omega), if_pos (by omega), if_pos (by omega), rd_nat h, wr_succ (by omega), timeValid_eq]
      rfl) (by
      show impl_BeatsValid.l0g x0 (x0.length : Int) (x0.length : Int) = _
      rw [impl_BeatsValid.l0g.eq, if_neg (by omega)]) x0.length 0 (by omega)
    rw [if_pos (by omega)]
    simpa [beatsOk, hl] using key
  · rw [if_neg (by omega)]; simp [beatsOk, hl]
def Code (s : List Int) : Prop := s.length ≤ 2000 ∧ ∀ x ∈ s, 0 ≤ x ∧ x ≤ 255
theorem Code.rd_b {s : List Int} (h : Code s) (i : Int) : 0 ≤ rd s i ∧ rd s i ≤ 255 := by
  unfold rd
  rw [List.getD_eq_getElem?_getD]
  cases hi : s[i.toNat]? with
  | none => simp
  | some x => exact h.2 x (List.mem_of_getElem? hi)
theorem xor_nonneg {a b : Int} (ha : 0 ≤ a) (ha' : a < 4611686018427387904) (hb : 0 ≤ b) (hb' : b < 4611686018427387904) : 0 ≤ Go.bits .xor .i64 a b := by
  obtain ⟨m, rfl⟩ := Int.eq_ofNat_of_zero_le ha
  obtain ⟨n, rfl⟩ := Int.eq_ofNat_of_zero_le hb
  have h62 : (4611686018427387904 : Nat) = 2 ^ 62 := by decide
  have e1 : (BitVec.ofInt IntKind.i64.bits (m : Int)).toNat = m := by
    rw [BitVec.toNat_ofInt]
    show (((m : Int) % ((2 ^ 64 : Nat) : Int)).toNat) = m
    omega
  have e2 : (BitVec.ofInt IntKind.i64.bits (n : Int)).toNat = n := by
    rw [BitVec.toNat_ofInt]
    show (((n : Int) % ((2 ^ 64 : Nat) : Int)).toNat) = n
    omega
  have hx : m ^^^ n < 2 ^ 62 := Nat.xor_lt_two_pow (by omega) (by omega)
  have key : Go.bits .xor .i64 (m : Int) (n : Int) = IntKind.i64.wrap (((m ^^^ n : Nat)) : Int) := by
    show IntKind.i64.wrap (((BitVec.ofInt IntKind.i64.bits (m : Int) ^^^ BitVec.ofInt IntKind.i64.bits (n : Int)).toNat : Nat) : Int) = _
    rw [BitVec.toNat_xor, e1, e2]
  rw [key, IntKind.wrap_i64]
  omega
theorem pick_total {s : List Int} (hs : Code s) (p n : Int) (h0 : 0 ≤ p) (h1 : p ≤ 1099511627776) : ∃ v, spec_l20Rd_pick.g s p n = some (v, p + 1) ∧ 0 ≤ v ∧ (1 ≤ n → v < n) := by
  have e1 : wrap64 (p + 1) = p + 1 := wr_id (by omega) (by omega)
  have e2 : wrap64 (p + 1 - 1) = p := by rw [wr_id (x := p + 1 - 1) (by omega) (by omega)]; omega
  rw [spec_l20Rd_pick.g.eq, e1]
  by_cases hn : n < 1
  · rw [if_pos hn, spec_l20Rd_pick.j0g.eq, if_pos rfl]
    exact ⟨0, rfl, by omega, fun h => by omega⟩
  rw [if_neg hn]
  by_cases hl : s.length = 0
  · rw [spec_l20Rd_pick.j0g.eq, if_pos (by simp [hl])]
    exact ⟨0, rfl, by omega, fun h => by omega⟩
  have hl2 : ((s.length : Int) == 0) = false := beq_eq_false_iff_ne.2 (by omega)
  rw [spec_l20Rd_pick.j0g.eq, hl2, if_neg Bool.false_ne_true, e2]
  by_cases hp : p < s.length
  · have hb := hs.rd_b p
    rw [if_pos hp, if_pos h0, if_neg (by omega), wr_id (by omega) (by omega)]
    exact ⟨_, rfl, Int.tmod_nonneg _ hb.1, fun h => Int.tmod_lt_of_pos _ (by omega)⟩
  rw [if_neg hp, if_neg (by omega)]
  have q0 : 0 ≤ p.tmod s.length := Int.tmod_nonneg _ h0
  have q1 : p.tmod s.length < s.length := Int.tmod_lt_of_pos _ (by omega)
  have e3 : wrap64 (wrap64 (p * 7) + 3) = p * 7 + 3 := by rw [wr_id (x := p * 7) (by omega) (by omega), wr_id (by omega) (by omega)]
  have r0 : 0 ≤ (p * 7 + 3).tmod s.length := Int.tmod_nonneg _ (by omega)
  have r1 : (p * 7 + 3).tmod s.length < s.length := Int.tmod_lt_of_pos _ (by omega)
  have d0 : 0 ≤ p.tdiv s.length := Int.tdiv_nonneg h0 (by omega)
  have d1 : p.tdiv s.length ≤ p := Int.tdiv_le_self _ h0
  rw [if_pos q0, if_pos q1, e3, if_pos r0, if_pos r1, if_neg (by omega)]
  have ha := hs.rd_b (p.tmod s.length)
  have hb := hs.rd_b ((p * 7 + 3).tmod s.length)
  generalize rd s (p.tmod s.length) = a at ha ⊢
  generalize rd s ((p * 7 + 3).tmod s.length) = b at hb ⊢
  generalize p.tdiv s.length = q at d0 d1 ⊢
  simp (disch := omega) only [wr_id]
  have hA : 0 ≤ a * 131 + b * 1117 + p * 29 + q * 53 := by omega
  have hA' : a * 131 + b * 1117 + p * 29 + q * 53 < 4611686018427387904 := by omega
  generalize a * 131 + b * 1117 + p * 29 + q * 53 = A at hA hA' ⊢
  have hB : 0 ≤ A.tdiv 64 := Int.tdiv_nonneg hA (by omega)
  have hB' : A.tdiv 64 ≤ A := Int.tdiv_le_self _ hA
  rw [wr_id (x := A.tdiv 64) (by omega) (by omega)]
  exact ⟨_, rfl, Int.tmod_nonneg _ (xor_nonneg hA hA' hB (by omega)), fun h => Int.tmod_lt_of_pos _ (by omega)⟩
theorem odd_total {s : List Int} (hs : Code s) (p n : Int) (h0 : 0 ≤ p) (h1 : p ≤ 1099511627776) : ∃ b p', spec_l20Rd_odd.g s p n = some (b, p') ∧ p ≤ p' ∧ p' ≤ p + 1 := by
  rw [spec_l20Rd_odd.g.eq]
  by_cases hn : n > 0
  · obtain ⟨v, hv, _⟩ := pick_total hs p n h0 h1
    rw [if_pos hn, hv]
    exact ⟨_, _, rfl, by show p ≤ p + 1; omega, by show p + 1 ≤ p + 1; omega⟩
  · rw [if_neg hn]
    exact ⟨_, _, rfl, by omega, by omega⟩
theorem open_total (code : List Int) (h : ∀ x ∈ code, 0 ≤ x ∧ x ≤ 255) : ∃ s, spec_l20Open.f code = some (s, 0) ∧ Code s := by
  unfold spec_l20Open.f
  by_cases hl : (code.length : Int) > 2000
  · rw [if_pos hl, if_pos (by omega)]
    exact ⟨_, rfl, by simp; omega, fun x hx => h x (List.mem_of_mem_take hx)⟩
  · rw [if_neg hl]
    exact ⟨_, rfl, by omega, h⟩
theorem drawTime_total {s : List Int} (hs : Code s) (p n : Int) (h0 : 0 ≤ p) (h1 : p ≤ 1000000000) : ∃ v p', spec_l20Time.g s p n = some (v, p') ∧ p ≤ p' ∧ p' ≤ p + 3 ∧ -1 ≤ v ∧ v ≤ 201 := by
  rw [spec_l20Time.g.eq]
  obtain ⟨b, p1, e1, a1, b1⟩ := odd_total hs p n h0 (by omega)
  rw [e1, Option.bind_some]
  cases b
  · obtain ⟨v, e2, a2, b2⟩ := pick_total hs p1 40 (by omega) (by omega)
    obtain ⟨u, e3, a3, b3⟩ := pick_total hs (p1 + 1) 9 (by omega) (by omega)
    have b2' := b2 (by omega)
    have b3' := b3 (by omega)
    simp only [e2, e3, Option.bind_some, Bool.false_eq_true, if_false, List.length_cons, List.length_nil]
    have hd : 0 ≤ u.tdiv 8 ∧ u.tdiv 8 ≤ 1 := by rw [Int.tdiv_eq_ediv_of_nonneg a3]; omega
    rw [wr_id (by omega) (by omega), if_pos (by omega), if_pos (by omega)]
    refine ⟨_, _, rfl, by show p ≤ p1 + 1 + 1; omega, by show p1 + 1 + 1 ≤ p + 3; omega, ?_⟩
    have : u.tdiv 8 = 0 ∨ u.tdiv 8 = 1 := by omega
    rcases this with h | h <;> rw [h] <;> simp [rd] <;> omega
  · obtain ⟨v, e2, a2, b2⟩ := pick_total hs p1 2 (by omega) (by omega)
    have b2' := b2 (by omega)
    simp only [e2, Option.bind_some, if_true, List.length_cons, List.length_nil]
    rw [if_pos (by omega), if_pos (by omega)]
    refine ⟨_, _, rfl, by show p ≤ p1 + 1; omega, by show p1 + 1 ≤ p + 3; omega, ?_⟩
    have : v = 0 ∨ v = 1 := by omega
    rcases this with h | h <;> rw [h] <;> simp [rd]
theorem drawBeats_loop {s : List Int} (hs : Code s) (n : Int) : ∀ (d i : Nat) (acc : List Int) (p : Int), i + d = 5 → acc.length = i → 0 ≤ p → p ≤ 1000000 + 100 * i →
    ∃ v p', spec_l20Beats.l0g n acc (i : Int) s p = some (v, p') ∧ p ≤ p' ∧ p' ≤ p + 3 * d + 10 ∧ v.length ≤ 6 := by
  intro d
  induction d with
  | zero =>
    intro i acc p hi ha h0 h1
    rw [spec_l20Beats.l0g.eq, if_neg (by omega)]
    obtain ⟨b, p1, e1, a1, b1⟩ := odd_total hs p n h0 (by omega)
    rw [e1, Option.bind_some]
    cases b
    · exact ⟨_, _, rfl, by omega, by omega, by omega⟩
    · obtain ⟨v, e2, a2, b2⟩ := pick_total hs p1 3 (by omega) (by omega)
      have b2' := b2 (by omega)
      simp only [e2, Option.bind_some, if_true]
      by_cases v0 : v = 0
      · rw [if_pos v0, if_pos (by omega)]
        exact ⟨_, _, rfl, by omega, by omega, by simp; omega⟩
      · rw [if_neg v0]
        by_cases v1 : v = 1
        · obtain ⟨u, e3, a3, b3⟩ := pick_total hs (p1 + 1) 5 (by omega) (by omega)
          have b3' := b3 (by omega)
          obtain ⟨t, p2, e4, a4, b4, _⟩ := drawTime_total hs (p1 + 1 + 1) 1 (by omega) (by omega)
          simp only [e3, e4, Option.bind_some]
          rw [if_pos v1, if_pos (by omega), if_pos (by omega)]
          exact ⟨_, _, rfl, by omega, by omega, by simp; omega⟩
        · rw [if_neg v1, if_pos (by omega)]
          exact ⟨_, _, rfl, by omega, by omega, by simp; omega⟩
  | succ d ih =>
    intro i acc p hi ha h0 h1
    rw [spec_l20Beats.l0g.eq, if_pos (by omega)]
    obtain ⟨t, p2, e4, a4, b4, _⟩ := drawTime_total hs p 0 (by omega) (by omega)
    simp only [e4, Option.bind_some]
    rw [if_pos (by omega), wr_succ (by omega)]
    obtain ⟨v, p', e5, a5, b5, c5⟩ := ih (i + 1) (acc ++ [t]) p2 (by omega) (by simp; omega) (by omega) (by omega)
    exact ⟨v, p', e5, by omega, by omega, c5⟩
theorem drawBeats_total {s : List Int} (hs : Code s) (p n : Int) (h0 : 0 ≤ p) (h1 : p ≤ 1000000) : ∃ v p', spec_l20Beats.g s p n = some (v, p') ∧ p ≤ p' ∧ p' ≤ p + 25 ∧ v.length ≤ 6 := by
  rw [spec_l20Beats.g.eq]
  obtain ⟨v, p', e, a, b, c⟩ := drawBeats_loop hs n 5 0 [] p (by omega) rfl h0 (by omega)
  exact ⟨v, p', e, a, by omega, c⟩
theorem alive_eq : laws_alive.g = some true := lim_of laws_alive.g.lim.mono (k := 40) (by decide +kernel)
theorem late_loop (b : List Int) (ok : Bool) (hb : b.length ≤ 6) : ∀ d i acc, i + d = b.length → acc.length = i →
    laws_FnBeatsValid.l0g b ok acc (i : Int) = laws_FnBeatsValid.l0g b ok (acc ++ List.replicate d 200) (b.length : Int) := by
  intro d
  induction d with
  | zero => intro i acc hi ha; obtain rfl : i = b.length := by omega
            simp
  | succ d ih =>
    intro i acc hi ha
    rw [laws_FnBeatsValid.l0g.eq, if_pos (by omega), if_pos (by omega), wr_succ (by omega), ih (i + 1) (acc ++ [200]) (by omega) (by simp; omega)]
    simp [List.replicate_succ]
theorem law_holds (l0 : List Int) (f0 : FitL FitB l0) : ∃ k, laws_FnBeatsValid.f k l0 = some true := by
  apply rounds_of_lim (g := fun k => laws_FnBeatsValid.f k l0)
  show laws_FnBeatsValid.g l0 = some true
  rw [laws_FnBeatsValid.g.eq]
  by_cases h : (l0.length : Int) > 1048576
  · rw [if_pos h]
  rw [if_neg h]
  obtain ⟨s, e0, hs⟩ := open_total l0 f0.2
  obtain ⟨b, p', e1, _, _, hb⟩ := drawBeats_total hs 0 2 (by omega) (by omega)
  have e2 : spec_DrawBeatsValid.g l0 = some b := by rw [spec_DrawBeatsValid.g.eq, e0]; simp only [Option.bind_some, e1]
  simp only [e2, Option.bind_some, specBeatsValid_eq, implBeatsValid_eq, bne_self_eq_false, Bool.false_eq_true, if_false]
  have e3 := late_loop b (beatsOk b) hb b.length 0 [] (by omega) rfl
  rw [show (0 : Int) = ((0 : Nat) : Int) from rfl, e3, laws_FnBeatsValid.l0g.eq, if_neg (by omega)]
  simp only [implBeatsValid_eq, alive_eq, Option.bind_some]
  cases hok : beatsOk b
  · simp
  · have hl : b.length = 5 := by unfold beatsOk at hok; simp at hok; exact hok.1
    have n1 : beatsOk b.tail = false := by simp [beatsOk, hl]
    have n2 : beatsOk [200, 200, 200, 200, 200] = true := by decide
    simp [hl, n1, n2]
end Go.Proofs.Ytnaloccjejmmfaa.FFnBeatsValid
