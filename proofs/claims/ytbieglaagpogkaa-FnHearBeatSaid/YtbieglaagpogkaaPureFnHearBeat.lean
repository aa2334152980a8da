/- For every code of at most 1048576 bytes: the drawn beats after one was heard are the same for the program and the reference; the node that was heard is not suspected then, and the other nodes keep their beats. No conditions but the bounds that the statement itself gives. -/
import Derived.Test.YtbieglaagpogkaaGFnHearBeat
import Derived.Test.YtbieglaagpogkaaBase
import Derived.Test.YtbieglaagpogkaaReads
set_option linter.unusedVariables false
set_option linter.unusedSimpArgs false
namespace Go.Proofs.Ytbieglaagpogkaa.FFnHearBeat
open Go.RowKit Go.Proofs.YtbieglaagpogkaaW.PrintWords Go.Proofs.YtbieglaagpogkaaW.PrintLast Go.Proofs.YtbieglaagpogkaaW.PrintMore Go.Proofs.YtbieglaagpogkaaL
def timeOk (x : Int) : Bool := decide (0 ≤ x) && decide (x ≤ 200)
def beatsOk (l : List Int) : Bool := decide (l.length = 5) && l.all timeOk
theorem beatsOk_len {b : List Int} (h : beatsOk b = true) : b.length = 5 := by unfold beatsOk at h; simp at h; exact h.1
theorem timeValid_eq (x : Int) : impl_timeValid.f x = some (timeOk x) := by
  unfold impl_timeValid.f timeOk; split <;> simp_all <;> omega
theorem l1In_eq (x a b : Int) : spec_l1In.f x a b = some (decide (a ≤ x) && decide (x ≤ b)) := by
  unfold spec_l1In.f; split <;> simp_all <;> omega
theorem specBeatsValid_eq (x0 : List Int) : spec_BeatsValid.g x0 = some (beatsOk x0) := by
  rw [spec_BeatsValid.g.eq]
  by_cases hl : x0.length = 5
  · have key := loop_all (fun i => spec_BeatsValid.l0g x0 (i : Int)) x0 timeOk (by
      intro i h
      show spec_BeatsValid.l0g x0 i = if timeOk x0[i] = true then spec_BeatsValid.l0g x0 ((i + 1 : Nat) : Int) else some false
      rw [spec_BeatsValid.l0g.eq, if_pos (by omega), if_pos (by omega), if_pos (by omega), rd_nat h, wr_succ (by omega), l1In_eq]
      rfl) (by
      show spec_BeatsValid.l0g x0 (x0.length : Int) = _
      rw [spec_BeatsValid.l0g.eq, if_neg (by omega)]) x0.length 0 (by omega)
    rw [if_pos (by omega)]
    simpa [beatsOk, hl] using key
  · rw [if_neg (by omega)]; simp [beatsOk, hl]
theorem implBeatsValid_eq (x0 : List Int) : impl_BeatsValid.g x0 = some (beatsOk x0) := by
  rw [impl_BeatsValid.g.eq]
  by_cases hl : x0.length = 5
  · have key := loop_all (fun i => impl_BeatsValid.l0g x0 (x0.length : Int) (i : Int)) x0 timeOk (by
      intro i h
      show impl_BeatsValid.l0g x0 (x0.length : Int) i = if timeOk x0[i] = true then impl_BeatsValid.l0g x0 (x0.length : Int) ((i + 1 : Nat) : Int) else some false
      rw [impl_BeatsValid.l0g.eq, if_pos (by omega), if_pos (by omega), if_pos (by omega), rd_nat h, wr_succ (by omega), timeValid_eq]
      rfl) (by
      show impl_BeatsValid.l0g x0 (x0.length : Int) (x0.length : Int) = _
      rw [impl_BeatsValid.l0g.eq, if_neg (by omega)]) x0.length 0 (by omega)
    rw [if_pos (by omega)]
    simpa [beatsOk, hl] using key
  · rw [if_neg (by omega)]; simp [beatsOk, hl]
theorem replacedInt_eq (l by_ : List Int) (a m : Nat) (hl : l.length ≤ 1099511627776) (hb : by_.length ≤ 1099511627776) (ham : a + m ≤ l.length) :
    impl_replaced_int.f l (a : Int) (m : Int) by_ = some (l.take a ++ by_ ++ l.drop (a + m)) := by
  unfold impl_replaced_int.f
  have e1 : wrap64 ((l.length : Int) - m) = (l.length : Int) - m := wr_id (by omega) (by omega)
  have e2 : wrap64 ((l.length : Int) - m + by_.length) = (l.length : Int) - m + by_.length := wr_id (by omega) (by omega)
  have e3 : wrap64 ((a : Int) + m) = ((a + m : Nat) : Int) := by rw [wr_id (by omega) (by omega)]; omega
  have t1 : (l.take a).length ≤ l.length := by simp; omega
  have t2 : (l.drop (a + m)).length ≤ l.length := by simp
  rw [e1, e2, e3, if_pos (by omega), if_pos (by omega)]
  simp only [Option.bind_some, Int.toNat_natCast, List.replicate_zero, List.nil_append, List.length_nil]
  rw [if_pos (by omega), if_pos (by omega), if_pos (by omega), if_pos (by omega), if_pos (by omega), if_pos (by omega), if_pos (by simp only [List.length_append]; omega)]
def nodeOk (x : Int) : Bool := decide (0 ≤ x) && decide (x ≤ 4)
theorem nodeValid_eq (x : Int) : impl_nodeValid.f x = some (nodeOk x) := by
  unfold impl_nodeValid.f nodeOk
  split
  · rename_i h; simp [h]; omega
  · rename_i h; simp; omega
theorem nodeOk_iff {n : Int} : nodeOk n = true ↔ 0 ≤ n ∧ n ≤ 4 := by simp [nodeOk]
def hearBeat (b : List Int) (n t : Int) : List Int := if (beatsOk b && nodeOk n && timeOk t) = true then b.set n.toNat (mx (rd b n) t) else []
theorem specHearBeat_eq (b : List Int) (n t : Int) : spec_HearBeat.g b n t = some (hearBeat b n t) := by
  rw [spec_HearBeat.g.eq, specBeatsValid_eq]
  simp only [Option.bind_some, l1In_eq, hearBeat]
  change (if beatsOk b = true then (if nodeOk n = true then (if timeOk t = true then _ else _) else _) else _) = _
  cases hb : beatsOk b
  · simp
  cases hn : nodeOk n
  · simp
  cases hp : timeOk t
  · simp
  have hl := beatsOk_len hb
  have hn' := nodeOk_iff.1 hn
  simp only [if_true, Bool.and_self, List.nil_append, List.length_nil]
  rw [if_pos (by omega), if_pos (by omega), if_pos (by omega)]
theorem implHearBeat_eq (b : List Int) (n t : Int) : impl_HearBeat.g b n t = some (hearBeat b n t) := by
  rw [impl_HearBeat.g.eq, implBeatsValid_eq]
  simp only [Option.bind_some, nodeValid_eq, timeValid_eq, hearBeat]
  cases hb : beatsOk b
  · simp
  cases hn : nodeOk n
  · simp
  cases hp : timeOk t
  · simp
  have hl := beatsOk_len hb
  have hn' := nodeOk_iff.1 hn
  obtain ⟨m, rfl⟩ := Int.eq_ofNat_of_zero_le hn'.1
  simp only [if_true, Bool.and_self]
  have := replacedInt_eq b [mx (rd b m) t] m 1 (by omega) (by simp) (by omega)
  rw [if_pos (by omega), if_pos (by omega), show (1 : Int) = ((1 : Nat) : Int) from rfl, this, Option.bind_some, List.set_eq_take_append_cons_drop, Int.toNat_natCast, if_pos (by omega)]
  simp
theorem hearBeat_len (b : List Int) (n t : Int) : (hearBeat b n t).length ≤ 5 := by
  unfold hearBeat
  split
  · rename_i h
    simp only [Bool.and_eq_true] at h
    rw [List.length_set, beatsOk_len h.1.1]; omega
  · simp
def suspectAt (b : List Int) (now p : Int) (i : Nat) : List Int := if wrap64 (now - rd b (i : Int)) > p then [(i : Int)] else []
def suspects (b : List Int) (now p : Int) : List Int :=
  if (beatsOk b && timeOk now && timeOk p) = true then (List.range 5).flatMap (suspectAt b now p) else []
theorem suspectAt_len (b : List Int) (now p : Int) (i : Nat) : (suspectAt b now p i).length ≤ 1 := by unfold suspectAt; split <;> simp
theorem implSuspects_loop (b : List Int) (hl : b.length = 5) (now p : Int) : impl_Suspects.l0g now p [] b (b.length : Int) 0 = some ((List.range 5).flatMap (suspectAt b now p)) := by
  have key := loop_app (fun i acc => impl_Suspects.l0g now p acc b (b.length : Int) (i : Int)) id (List.range 5) (suspectAt b now p) 0 1 (suspectAt_len b now p) (by
    intro i h acc ha
    have hi : i < 5 := by simpa using h
    show impl_Suspects.l0g now p acc b (b.length : Int) i = impl_Suspects.l0g now p (acc ++ suspectAt b now p ((List.range 5)[i]'h)) b (b.length : Int) ((i + 1 : Nat) : Int)
    rw [impl_Suspects.l0g.eq, if_pos (by omega), if_pos (by omega), if_pos (by omega), wr_succ (by omega), if_pos (by omega : acc.length < 17592186044416), List.getElem_range]
    unfold suspectAt
    split <;> simp) (by
    intro acc ha
    show impl_Suspects.l0g now p acc b (b.length : Int) ((List.range 5).length : Int) = _
    rw [impl_Suspects.l0g.eq, List.length_range, if_neg (by omega)]; rfl) 5 0 [] (by simp) (by simp)
  simpa using key
theorem implSuspects_eq (b : List Int) (now p : Int) : impl_Suspects.g b now p = some (suspects b now p) := by
  rw [impl_Suspects.g.eq, implBeatsValid_eq]
  simp only [Option.bind_some, timeValid_eq, suspects, impl_Suspects.j0g.eq]
  cases hb : beatsOk b
  · simp
  cases hn : timeOk now
  · simp
  cases hp : timeOk p
  · simp
  simp [implSuspects_loop b (beatsOk_len hb)]
def Code (s : List Int) : Prop := s.length ≤ 2000 ∧ ∀ x ∈ s, 0 ≤ x ∧ x ≤ 255
theorem Code.rd_b {s : List Int} (h : Code s) (i : Int) : 0 ≤ rd s i ∧ rd s i ≤ 255 := by
  unfold rd
  rw [List.getD_eq_getElem?_getD]
  cases hi : s[i.toNat]? with
  | none => simp
  | some x => exact h.2 x (List.mem_of_getElem? hi)
theorem xor_nonneg {a b : Int} (ha : 0 ≤ a) (ha' : a < 4611686018427387904) (hb : 0 ≤ b) (hb' : b < 4611686018427387904) : 0 ≤ Go.bits .xor .i64 a b := by
  obtain ⟨m, rfl⟩ := Int.eq_ofNat_of_zero_le ha
  obtain ⟨n, rfl⟩ := Int.eq_ofNat_of_zero_le hb
  have h62 : (4611686018427387904 : Nat) = 2 ^ 62 := by decide
  have e1 : (BitVec.ofInt IntKind.i64.bits (m : Int)).toNat = m := by
    rw [BitVec.toNat_ofInt]
    show (((m : Int) % ((2 ^ 64 : Nat) : Int)).toNat) = m
    omega
  have e2 : (BitVec.ofInt IntKind.i64.bits (n : Int)).toNat = n := by
    rw [BitVec.toNat_ofInt]
    show (((n : Int) % ((2 ^ 64 : Nat) : Int)).toNat) = n
    omega
  have hx : m ^^^ n < 2 ^ 62 := Nat.xor_lt_two_pow (by omega) (by omega)
  have key : Go.bits .xor .i64 (m : Int) (n : Int) = IntKind.i64.wrap (((m ^^^ n : Nat)) : Int) := by
    show IntKind.i64.wrap (((BitVec.ofInt IntKind.i64.bits (m : Int) ^^^ BitVec.ofInt IntKind.i64.bits (n : Int)).toNat : Nat) : Int) = _
    rw [BitVec.toNat_xor, e1, e2]
  rw [key, IntKind.wrap_i64]
  omega
theorem pick_total {s : List Int} (hs : Code s) (p n : Int) (h0 : 0 ≤ p) (h1 : p ≤ 1099511627776) : ∃ v, spec_l20Rd_pick.g s p n = some (v, p + 1) ∧ 0 ≤ v ∧ (1 ≤ n → v < n) := by
  have e1 : wrap64 (p + 1) = p + 1 := wr_id (by omega) (by omega)
  have e2 : wrap64 (p + 1 - 1) = p := by rw [wr_id (x := p + 1 - 1) (by omega) (by omega)]; omega
  rw [spec_l20Rd_pick.g.eq, e1]
  by_cases hn : n < 1
  · rw [if_pos hn, spec_l20Rd_pick.j0g.eq, if_pos rfl]
    exact ⟨0, rfl, by omega, fun h => by omega⟩
  rw [if_neg hn]
  by_cases hl : s.length = 0
  · rw [spec_l20Rd_pick.j0g.eq, if_pos (by simp [hl])]
    exact ⟨0, rfl, by omega, fun h => by omega⟩
  have hl2 : ((s.length : Int) == 0) = false := beq_eq_false_iff_ne.2 (by omega)
  rw [spec_l20Rd_pick.j0g.eq, hl2, if_neg Bool.false_ne_true, e2]
  by_cases hp : p < s.length
  · have hb := hs.rd_b p
    rw [if_pos hp, if_pos h0, if_neg (by omega), wr_id (by omega) (by omega)]
    exact ⟨_, rfl, Int.tmod_nonneg _ hb.1, fun h => Int.tmod_lt_of_pos _ (by omega)⟩
  rw [if_neg hp, if_neg (by omega)]
  have q0 : 0 ≤ p.tmod s.length := Int.tmod_nonneg _ h0
  have q1 : p.tmod s.length < s.length := Int.tmod_lt_of_pos _ (by omega)
  have e3 : wrap64 (wrap64 (p * 7) + 3) = p * 7 + 3 := by rw [wr_id (x := p * 7) (by omega) (by omega), wr_id (by omega) (by omega)]
  have r0 : 0 ≤ (p * 7 + 3).tmod s.length := Int.tmod_nonneg _ (by omega)
  have r1 : (p * 7 + 3).tmod s.length < s.length := Int.tmod_lt_of_pos _ (by omega)
  have d0 : 0 ≤ p.tdiv s.length := Int.tdiv_nonneg h0 (by omega)
  have d1 : p.tdiv s.length ≤ p := Int.tdiv_le_self _ h0
  rw [if_pos q0, if_pos q1, e3, if_pos r0, if_pos r1, if_neg (by omega)]
  have ha := hs.rd_b (p.tmod s.length)
  have hb := hs.rd_b ((p * 7 + 3).tmod s.length)
  generalize rd s (p.tmod s.length) = a at ha ⊢
  generalize rd s ((p * 7 + 3).tmod s.length) = b at hb ⊢
  generalize p.tdiv s.length = q at d0 d1 ⊢
  simp (disch := omega) only [wr_id]
  have hA : 0 ≤ a * 131 + b * 1117 + p * 29 + q * 53 := by omega
  have hA' : a * 131 + b * 1117 + p * 29 + q * 53 < 4611686018427387904 := by omega
  generalize a * 131 + b * 1117 + p * 29 + q * 53 = A at hA hA' ⊢
  have hB : 0 ≤ A.tdiv 64 := Int.tdiv_nonneg hA (by omega)
  have hB' : A.tdiv 64 ≤ A := Int.tdiv_le_self _ hA
  rw [wr_id (x := A.tdiv 64) (by omega) (by omega)]
  exact ⟨_, rfl, Int.tmod_nonneg _ (xor_nonneg hA hA' hB (by omega)), fun h => Int.tmod_lt_of_pos _ (by omega)⟩
theorem odd_total {s : List Int} (hs : Code s) (p n : Int) (h0 : 0 ≤ p) (h1 : p ≤ 1099511627776) : ∃ b p', spec_l20Rd_odd.g s p n = some (b, p') ∧ p ≤ p' ∧ p' ≤ p + 1 := by
  rw [spec_l20Rd_odd.g.eq]
  by_cases hn : n > 0
  · obtain ⟨v, hv, _⟩ := pick_total hs p n h0 h1
    rw [if_pos hn, hv]
    exact ⟨_, _, rfl, by show p ≤ p + 1; omega, by show p + 1 ≤ p + 1; omega⟩
  · rw [if_neg hn]
    exact ⟨_, _, rfl, by omega, by omega⟩
theorem open_total (code : List Int) (h : ∀ x ∈ code, 0 ≤ x ∧ x ≤ 255) : ∃ s, spec_l20Open.f code = some (s, 0) ∧ Code s := by
  unfold spec_l20Open.f
  by_cases hl : (code.length : Int) > 2000
  · rw [if_pos hl, if_pos (by omega)]
    exact ⟨_, rfl, by simp; omega, fun x hx => h x (List.mem_of_mem_take hx)⟩
  · rw [if_neg hl]
    exact ⟨_, rfl, by omega, h⟩
theorem drawTime_total {s : List Int} (hs : Code s) (p n : Int) (h0 : 0 ≤ p) (h1 : p ≤ 1000000000) : ∃ v p', spec_l20Time.g s p n = some (v, p') ∧ p ≤ p' ∧ p' ≤ p + 3 ∧ -1 ≤ v ∧ v ≤ 201 := by
  rw [spec_l20Time.g.eq]
  obtain ⟨b, p1, e1, a1, b1⟩ := odd_total hs p n h0 (by omega)
  rw [e1, Option.bind_some]
  cases b
  · obtain ⟨v, e2, a2, b2⟩ := pick_total hs p1 40 (by omega) (by omega)
    obtain ⟨u, e3, a3, b3⟩ := pick_total hs (p1 + 1) 9 (by omega) (by omega)
    have b2' := b2 (by omega)
    have b3' := b3 (by omega)
    simp only [e2, e3, Option.bind_some, Bool.false_eq_true, if_false, List.length_cons, List.length_nil]
    have hd : 0 ≤ u.tdiv 8 ∧ u.tdiv 8 ≤ 1 := by rw [Int.tdiv_eq_ediv_of_nonneg a3]; omega
    rw [wr_id (by omega) (by omega), if_pos (by omega), if_pos (by omega)]
    refine ⟨_, _, rfl, by show p ≤ p1 + 1 + 1; omega, by show p1 + 1 + 1 ≤ p + 3; omega, ?_⟩
    have : u.tdiv 8 = 0 ∨ u.tdiv 8 = 1 := by omega
    rcases this with h | h <;> rw [h] <;> simp [rd] <;> omega
  · obtain ⟨v, e2, a2, b2⟩ := pick_total hs p1 2 (by omega) (by omega)
    have b2' := b2 (by omega)
    simp only [e2, Option.bind_some, if_true, List.length_cons, List.length_nil]
    rw [if_pos (by omega), if_pos (by omega)]
    refine ⟨_, _, rfl, by show p ≤ p1 + 1; omega, by show p1 + 1 ≤ p + 3; omega, ?_⟩
    have : v = 0 ∨ v = 1 := by omega
    rcases this with h | h <;> rw [h] <;> simp [rd]
theorem drawBeats_loop {s : List Int} (hs : Code s) (n : Int) : ∀ (d i : Nat) (acc : List Int) (p : Int), i + d = 5 → acc.length = i → 0 ≤ p → p ≤ 1000000 + 100 * i →
    ∃ v p', spec_l20Beats.l0g n acc (i : Int) s p = some (v, p') ∧ p ≤ p' ∧ p' ≤ p + 3 * d + 10 ∧ v.length ≤ 6 := by
  intro d
  induction d with
  | zero =>
    intro i acc p hi ha h0 h1
    rw [spec_l20Beats.l0g.eq, if_neg (by omega)]
    obtain ⟨b, p1, e1, a1, b1⟩ := odd_total hs p n h0 (by omega)
    rw [e1, Option.bind_some]
    cases b
    · exact ⟨_, _, rfl, by omega, by omega, by omega⟩
    · obtain ⟨v, e2, a2, b2⟩ := pick_total hs p1 3 (by omega) (by omega)
      have b2' := b2 (by omega)
      simp only [e2, Option.bind_some, if_true]
      by_cases v0 : v = 0
      · rw [if_pos v0, if_pos (by omega)]
        exact ⟨_, _, rfl, by omega, by omega, by simp; omega⟩
      · rw [if_neg v0]
        by_cases v1 : v = 1
        · obtain ⟨u, e3, a3, b3⟩ := pick_total hs (p1 + 1) 5 (by omega) (by omega)
          have b3' := b3 (by omega)
          obtain ⟨t, p2, e4, a4, b4, _⟩ := drawTime_total hs (p1 + 1 + 1) 1 (by omega) (by omega)
          simp only [e3, e4, Option.bind_some]
          rw [if_pos v1, if_pos (by omega), if_pos (by omega)]
          exact ⟨_, _, rfl, by omega, by omega, by simp; omega⟩
        · rw [if_neg v1, if_pos (by omega)]
          exact ⟨_, _, rfl, by omega, by omega, by simp; omega⟩
  | succ d ih =>
    intro i acc p hi ha h0 h1
    rw [spec_l20Beats.l0g.eq, if_pos (by omega)]
    obtain ⟨t, p2, e4, a4, b4, _⟩ := drawTime_total hs p 0 (by omega) (by omega)
    simp only [e4, Option.bind_some]
    rw [if_pos (by omega), wr_succ (by omega)]
    obtain ⟨v, p', e5, a5, b5, c5⟩ := ih (i + 1) (acc ++ [t]) p2 (by omega) (by simp; omega) (by omega) (by omega)
    exact ⟨v, p', e5, by omega, by omega, c5⟩
theorem drawBeats_total {s : List Int} (hs : Code s) (p n : Int) (h0 : 0 ≤ p) (h1 : p ≤ 1000000) : ∃ v p', spec_l20Beats.g s p n = some (v, p') ∧ p ≤ p' ∧ p' ≤ p + 25 ∧ v.length ≤ 6 := by
  rw [spec_l20Beats.g.eq]
  obtain ⟨v, p', e, a, b, c⟩ := drawBeats_loop hs n 5 0 [] p (by omega) rfl h0 (by omega)
  exact ⟨v, p', e, a, by omega, c⟩
theorem drawNode_total {s : List Int} (hs : Code s) (p n : Int) (h0 : 0 ≤ p) (h1 : p ≤ 1000000000) : ∃ v p', spec_l20Node.g s p n = some (v, p') ∧ p ≤ p' ∧ p' ≤ p + 2 ∧ -1 ≤ v ∧ v ≤ 5 := by
  rw [spec_l20Node.g.eq]
  obtain ⟨b, p1, e1, a1, b1⟩ := odd_total hs p n h0 (by omega)
  rw [e1, Option.bind_some]
  cases b
  · obtain ⟨v, e2, a2, b2⟩ := pick_total hs p1 5 (by omega) (by omega)
    have b2' := b2 (by omega)
    simp only [e2, Option.bind_some, Bool.false_eq_true, if_false]
    exact ⟨_, _, rfl, by omega, by omega, by omega, by omega⟩
  · obtain ⟨v, e2, a2, b2⟩ := pick_total hs p1 2 (by omega) (by omega)
    have b2' := b2 (by omega)
    simp only [e2, Option.bind_some, if_true, List.length_cons, List.length_nil]
    rw [if_pos (by omega), if_pos (by omega)]
    refine ⟨_, _, rfl, by show p ≤ p1 + 1; omega, by show p1 + 1 ≤ p + 2; omega, ?_⟩
    have : v = 0 ∨ v = 1 := by omega
    rcases this with h | h <;> rw [h] <;> simp [rd]
theorem alive_eq : laws_alive.g = some true := lim_of laws_alive.g.lim.mono (k := 40) (by decide +kernel)
theorem hasInt_eq (xs : List Int) (v : Int) (hn : xs.length ≤ 1099511627776) : laws_hasInt.g xs v = some (decide (v ∈ xs)) := by
  have key := loop_any (fun i => laws_hasInt.l0g xs v (i : Int)) xs (fun x => decide (x = v)) (by
    intro i h
    show laws_hasInt.l0g xs v i = if decide (xs[i] = v) = true then some true else laws_hasInt.l0g xs v ((i + 1 : Nat) : Int)
    rw [laws_hasInt.l0g.eq, if_pos (by omega), if_pos (by omega), rd_nat h, wr_succ (by omega)]
    simp only [decide_eq_true_eq]) (by
    show laws_hasInt.l0g xs v (xs.length : Int) = _
    rw [laws_hasInt.l0g.eq, if_neg (by omega)]) xs.length 0 (by omega)
  rw [laws_hasInt.g.eq]
  have key' : laws_hasInt.l0g xs v 0 = some (xs.any fun x => decide (x = v)) := key
  rw [key']
  congr 1
  rw [Bool.eq_iff_iff]
  simp
theorem sameInts_eq (x0 x1 : List Int) (hn : x0.length ≤ 1048576) : laws_sameInts.g x0 x1 = some (decide (x0 = x1)) := by
  rw [laws_sameInts.g.eq]
  by_cases hl : x0.length = x1.length
  · have key := loop_eq (fun i => laws_sameInts.l0g x0 x1 (i : Int)) x0 x1 hl (by
      intro i h h'
      show laws_sameInts.l0g x0 x1 i = if x0[i] = x1[i] then laws_sameInts.l0g x0 x1 ((i + 1 : Nat) : Int) else some false
      rw [laws_sameInts.l0g.eq, if_pos (by omega), if_pos (by omega), if_pos (by omega), rd_nat h, rd_nat h', wr_succ (by omega)]) (by
      show laws_sameInts.l0g x0 x1 (x0.length : Int) = _
      rw [laws_sameInts.l0g.eq, if_neg (by omega)]) x0.length 0 (by omega)
    rw [if_pos (by omega)]
    simpa using key
  · rw [if_neg (by omega)]
    have : x0 ≠ x1 := fun e => hl (by rw [e])
    simp [this]
theorem suspects_len (b : List Int) (now p : Int) : (suspects b now p).length ≤ 5 := by
  unfold suspects
  split
  · rw [List.length_flatMap]
    have : ∀ l : List Nat, (l.map fun i => (suspectAt b now p i).length).sum ≤ l.length := by
      intro l
      induction l with
      | nil => simp
      | cons x l ih => have := suspectAt_len b now p x; simp; omega
    simpa using this (List.range 5)
  · simp
theorem suspects_mem (b : List Int) (now p x : Int) : x ∈ suspects b now p ↔ (beatsOk b = true ∧ timeOk now = true ∧ timeOk p = true) ∧ ∃ i : Nat, i < 5 ∧ x = (i : Int) ∧ wrap64 (now - rd b i) > p := by
  unfold suspects
  split
  · rename_i h
    simp only [Bool.and_eq_true] at h
    simp only [List.mem_flatMap, List.mem_range, suspectAt, h, and_self, true_and]
    constructor
    · rintro ⟨i, hi, hx⟩
      by_cases hc : wrap64 (now - rd b i) > p
      · rw [if_pos hc] at hx; exact ⟨i, hi, by simpa using hx, hc⟩
      · rw [if_neg hc] at hx; simp at hx
    · rintro ⟨i, hi, hx, hc⟩
      exact ⟨i, hi, by rw [if_pos hc]; simp [hx]⟩
  · rename_i h
    simp only [Bool.and_eq_true, not_and] at h
    simp only [List.not_mem_nil, false_iff]
    rintro ⟨⟨h1, h2, h3⟩, _⟩
    exact h ⟨h1, h2⟩ h3
theorem timeOk_iff {x : Int} : timeOk x = true ↔ 0 ≤ x ∧ x ≤ 200 := by simp [timeOk]
theorem beatsOk_rd {b : List Int} (h : beatsOk b = true) (i : Nat) (hi : i < 5) : 0 ≤ rd b i ∧ rd b i ≤ 200 := by
  have hl : i < b.length := by rw [beatsOk_len h]; exact hi
  rw [rd_nat hl]
  unfold beatsOk at h
  simp only [Bool.and_eq_true, List.all_eq_true] at h
  exact timeOk_iff.1 (h.2 _ (List.getElem_mem hl))
theorem draw_total (l0 : List Int) (h : ∀ x ∈ l0, 0 ≤ x ∧ x ≤ 255) : ∃ b n t, spec_DrawHearBeat.g l0 = some (b, n, t) ∧ b.length ≤ 6 ∧ -1 ≤ n ∧ n ≤ 5 ∧ -1 ≤ t ∧ t ≤ 201 := by
  obtain ⟨s, e0, hs⟩ := open_total l0 h
  obtain ⟨b, p1, e1, a1, b1, hb⟩ := drawBeats_total hs 0 12 (by omega) (by omega)
  obtain ⟨n, p2, e2, a2, b2, c2, d2⟩ := drawNode_total hs p1 12 (by omega) (by omega)
  obtain ⟨t, p3, e3, a3, b3, c3, d3⟩ := drawTime_total hs p2 12 (by omega) (by omega)
  refine ⟨b, n, t, ?_, hb, c2, d2, c3, d3⟩
  rw [spec_DrawHearBeat.g.eq, e0]
  simp only [Option.bind_some, e1, e2, e3]
theorem rd_set (b : List Int) (m i : Nat) (v : Int) (hm : m < b.length) : rd (b.set m v) (i : Int) = if i = m then v else rd b i := by
  unfold rd
  rw [List.getD_eq_getElem?_getD, List.getD_eq_getElem?_getD, List.getElem?_set, Int.toNat_natCast]
  by_cases h : m = i
  · subst h; simp [hm]
  · rw [if_neg h, if_neg (fun e => h e.symm)]
theorem heard_loop (b : List Int) (m : Nat) (t : Int) (hl : b.length = 5) (hm : m < 5) : ∀ (d i : Nat), i + d = 5 →
    laws_FnHearBeat.l0g b m t (b.set m (mx (rd b m) t)) (i : Int) = laws_FnHearBeat.l0g b m t (b.set m (mx (rd b m) t)) 5 := by
  have hl2 : (b.set m (mx (rd b m) t)).length = 5 := by rw [List.length_set, hl]
  intro d
  induction d with
  | zero => intro i hi; obtain rfl : i = 5 := by omega
            rfl
  | succ d ih =>
    intro i hi
    have hs := rd_set b m i (mx (rd b m) t) (by omega)
    rw [laws_FnHearBeat.l0g.eq, if_pos (by omega), decide_eq_true (by omega : (i : Int) < ((b.set m (mx (rd b m) t)).length : Int)), laws_FnHearBeat.j1g.eq, if_pos rfl, wr_succ (by omega), ih (i + 1) (by omega), hs]
    have hmx : rd b m ≤ mx (rd b m) t := by unfold mx; split <;> omega
    by_cases h : i = m
    · subst h
      rw [if_pos rfl, if_pos (by omega), if_pos (by omega), if_pos (by omega), if_pos rfl, if_neg (by omega)]
    · rw [if_neg (by omega), if_pos (by omega), if_pos (by omega), if_pos (by omega), if_neg h, if_pos rfl, if_neg (by omega)]
theorem law_holds (l0 : List Int) (f0 : FitL FitB l0) : ∃ k, laws_FnHearBeat.f k l0 = some true := by
  apply rounds_of_lim (g := fun k => laws_FnHearBeat.f k l0)
  show laws_FnHearBeat.g l0 = some true
  rw [laws_FnHearBeat.g.eq]
  by_cases h : (l0.length : Int) > 1048576
  · rw [if_pos h]
  rw [if_neg h]
  obtain ⟨b, n, t, e0, hb, n0, n1, t0, t1⟩ := draw_total l0 f0.2
  have hx := hearBeat_len b n t
  simp only [e0, Option.bind_some, implHearBeat_eq, specHearBeat_eq, sameInts_eq (hearBeat b n t) _ (by omega), alive_eq]
  rw [if_pos (by simp)]
  by_cases hv : (beatsOk b && nodeOk n && timeOk t) = true
  · have hv' := hv
    simp only [Bool.and_eq_true] at hv'
    obtain ⟨⟨v1, v2⟩, v3⟩ := hv'
    have hn := nodeOk_iff.1 v2
    have ht := timeOk_iff.1 v3
    have hl := beatsOk_len v1
    obtain ⟨m, rfl⟩ := Int.eq_ofNat_of_zero_le hn.1
    have e1 : hearBeat b m t = b.set m (mx (rd b m) t) := by unfold hearBeat; rw [if_pos hv, Int.toNat_natCast]
    have hl2 : (b.set m (mx (rd b m) t)).length = 5 := by rw [List.length_set, hl]
    have hr := beatsOk_rd v1 m (by omega)
    have hmx : t ≤ mx (rd b m) t ∧ 0 ≤ mx (rd b m) t ∧ mx (rd b m) t ≤ 200 := by unfold mx; split <;> omega
    have v4 : beatsOk (b.set m (mx (rd b m) t)) = true := by
      unfold beatsOk at v1 ⊢
      simp only [Bool.and_eq_true, decide_eq_true_eq, List.all_eq_true] at v1 ⊢
      refine ⟨hl2, fun x hx => ?_⟩
      rcases List.mem_or_eq_of_mem_set hx with h | h
      · exact v1.2 x h
      · rw [h]; exact timeOk_iff.2 hmx.2
    have key := heard_loop b m t hl (by omega) 5 0 rfl
    have key' : laws_FnHearBeat.l0g b m t (b.set m (mx (rd b m) t)) 0 = laws_FnHearBeat.l0g b m t (b.set m (mx (rd b m) t)) 5 := key
    have nm : decide ((m : Int) ∈ suspects (b.set m (mx (rd b m) t)) t 0) = false := by
      rw [decide_eq_false_iff_not, suspects_mem]
      rintro ⟨_, i, hi, hmi, hwi⟩
      obtain rfl : m = i := by omega
      rw [rd_set b m m _ (by omega), if_pos rfl, wr_id (by omega) (by omega)] at hwi
      omega
    have hsl := suspects_len (b.set m (mx (rd b m) t)) t 0
    rw [e1, if_neg (by omega), key', laws_FnHearBeat.l0g.eq, if_neg (by omega), laws_FnHearBeat.j1g.eq, if_neg Bool.false_ne_true, implBeatsValid_eq, v4, Option.bind_some, if_pos rfl, implSuspects_eq, Option.bind_some, hasInt_eq _ _ (by omega), nm]
    rfl
  · have e1 : hearBeat b n t = [] := by unfold hearBeat; rw [if_neg hv]
    rw [e1, if_pos (by simp)]
end Go.Proofs.Ytbieglaagpogkaa.FFnHearBeat
