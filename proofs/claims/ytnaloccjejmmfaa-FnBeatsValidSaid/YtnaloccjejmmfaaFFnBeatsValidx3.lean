/- Functions that the law FnBeatsValid reaches, as plain functions of Lean, and that the machine's calls come to them: written out of the translation by a program of this session over the kit's printer. Conditions: as each lemma states them. -/
import Derived.Test.YtnaloccjejmmfaaFFnBeatsValidx0
import Derived.Test.YtnaloccjejmmfaaFFnBeatsValidx1
import Derived.Test.YtnaloccjejmmfaaFFnBeatsValidx2
namespace Go.Proofs.Ytnaloccjejmmfaa.FFnBeatsValid
open Go.RowKit Go.Proofs.YtnaloccjejmmfaaW.PrintWords Go.Proofs.YtnaloccjejmmfaaW.PrintLast Go.Proofs.YtnaloccjejmmfaaW.PrintMore
attribute [local go_sem] max2_int min2_int max_two min_two max_three min_three max_four min_four   -- for this text's walks alone
set_option linter.unusedVariables false
set_option linter.unusedSimpArgs false

/-! ### laws_FnBeatsValid: function 9 -/
def laws_FnBeatsValid.l0 : Nat → List Int → Bool → List Int → Int → Option (Bool)
  | 0, _, _, _, _ => none
  | k + 1, x3, x4, x5, x6 => if x6 < (x3.length : Int) then (if x5.length < 17592186044416 then (laws_FnBeatsValid.l0 k x3 x4 (x5 ++ [200]) (wrap64 (x6 + 1))) else (none)) else (if x4 = true then (if (x3.length : Int) > 0 then (if 1 ≤ (x3.length : Int) then ((impl_BeatsValid.f k (x3.drop 1)).bind fun t183 => (if t183 = true then (some false) else ((impl_BeatsValid.f k x5).bind fun t184 => (if t184 = true then ((laws_alive.f k).bind fun t185 => (some t185)) else (some false))))) else (none)) else (some false)) else ((laws_alive.f k).bind fun t186 => (some t186)))
def laws_FnBeatsValid.f (k : Nat) (l0 : List Int) : Option (Bool) := if (l0.length : Int) > 1048576 then (some true) else ((spec_DrawBeatsValid.f k l0).bind fun t168 => ((impl_BeatsValid.f k t168).bind fun t171 => ((spec_BeatsValid.f k t168).bind fun t172 => (if (t171 != t172) = true then (some false) else (laws_FnBeatsValid.l0 k t168 t171 (([] : List Int)) 0)))))
theorem laws_FnBeatsValid.mono_l : ∀ k, (∀ y0 y1 y2 y3, LeO (laws_FnBeatsValid.l0 k y0 y1 y2 y3) (laws_FnBeatsValid.l0 (k + 1) y0 y1 y2 y3))
  | 0 => fun _ _ _ _ r h => by simp [laws_FnBeatsValid.l0] at h
  | k + 1 => by
    have ih0 := laws_FnBeatsValid.mono_l k
    · intro y0 y1 y2 y3
      unfold laws_FnBeatsValid.l0
      repeat' first
      | (with_reducible exact ih0 _ _ _ _)
      | (with_reducible exact impl_BeatsValid.mono _ _)
      | (with_reducible exact laws_alive.mono _)
      | (with_reducible exact spec_BeatsValid.mono _ _)
      | (with_reducible exact spec_DrawBeatsValid.mono _ _)
      | (with_reducible exact LeO.refl _)
      | (with_reducible exact LeO.none _)
      | (with_reducible refine LeO.ite ?_ ?_)
      | (with_reducible refine LeO.bind ?_ (fun _ => ?_))
      | exact ih0 _ _ _ _
      | exact impl_BeatsValid.mono _ _
      | exact laws_alive.mono _
      | exact spec_BeatsValid.mono _ _
      | exact spec_DrawBeatsValid.mono _ _
      | exact LeO.none _
      | refine LeO.ite ?_ ?_
      | refine LeO.bind ?_ (fun _ => ?_)
theorem laws_FnBeatsValid.mono : ∀ a0 k, LeO (laws_FnBeatsValid.f k a0) (laws_FnBeatsValid.f (k + 1) a0) := by
  intro a0 k
  have ih0 := laws_FnBeatsValid.mono_l k
  unfold laws_FnBeatsValid.f
  repeat' first
      | (with_reducible exact ih0 _ _ _ _)
      | (with_reducible exact impl_BeatsValid.mono _ _)
      | (with_reducible exact laws_alive.mono _)
      | (with_reducible exact spec_BeatsValid.mono _ _)
      | (with_reducible exact spec_DrawBeatsValid.mono _ _)
      | (with_reducible exact LeO.refl _)
      | (with_reducible exact LeO.none _)
      | (with_reducible refine LeO.ite ?_ ?_)
      | (with_reducible refine LeO.bind ?_ (fun _ => ?_))
      | exact ih0 _ _ _ _
      | exact impl_BeatsValid.mono _ _
      | exact laws_alive.mono _
      | exact spec_BeatsValid.mono _ _
      | exact spec_DrawBeatsValid.mono _ _
      | exact LeO.none _
      | refine LeO.ite ?_ ?_
      | refine LeO.bind ?_ (fun _ => ?_)
set_option maxHeartbeats 8000000 in
set_option maxRecDepth 100000 in
theorem laws_FnBeatsValid.calls (k : Nat) (A0 : Option Addr) (c0 : Nat) (l0 : List Int) (r : Bool) (w : World) (hr0 : Kd.C (Kd.int .u8) w A0 l0.length l0) (hc0 : l0.length ≤ c0) (h : laws_FnBeatsValid.f k l0 = some r) :
    Calls Try.prog 9 #[.slice A0 l0.length c0] w fun e w' => e = .returned (.bool r) ∧ Below w.heap.size w w' := by
  have HR0 := Aside0.mk hr0
  have HC0 := Aside0.mk hc0
  clear hr0 hc0
  have HB := Aside0.mk (Below.refl w.heap.size w)
  have H : (if (l0.length : Int) > 1048576 then (some true) else ((spec_DrawBeatsValid.f k l0).bind fun t168 => ((impl_BeatsValid.f k t168).bind fun t171 => ((spec_BeatsValid.f k t168).bind fun t172 => (if (t171 != t172) = true then (some false) else (laws_FnBeatsValid.l0 k t168 t171 (([] : List Int)) 0)))))) = some r := h
  clear h
  by_cases c2 : (l0.length : Int) > 1048576
  · rw [if_pos c2] at H
    have c2b0 : decide (1048576 < (l0.length : Int)) = true := decide_eq_true c2
    have c2b1 : decide (1048576 < l0.length) = true := decide_eq_true (by omega)
    clear c2
    obtain rfl := Option.some.inj H
    go_enter Try.func9, Try.ntmps9
    go_wp2
    go_ret
    exact ⟨by first | rfl | (simp [errW_none, errW_some] <;> rfl) | (simp [*, errW_none, errW_some] <;> rfl) | (simp only [u8_w, wr_u8]; first | rfl | (simp [errW_none, errW_some] <;> rfl)), by repeat (first | (with_reducible first | exact HB.out | apply below_alloc | apply pw_below_drewN | apply below_drew1) | exact HB.out)⟩
  · rw [if_neg c2] at H
    have c2b0 : decide (1048576 < (l0.length : Int)) = false := decide_eq_false c2
    have c2b1 : decide (1048576 < l0.length) = false := decide_eq_false (by omega)
    clear c2
    replace H := Option.bind_eq_some_iff.mp H
    obtain ⟨t168, A30, H⟩ := H
    replace H : ((impl_BeatsValid.f k t168).bind fun t171 => ((spec_BeatsValid.f k t168).bind fun t172 => (if (t171 != t172) = true then (some false) else (laws_FnBeatsValid.l0 k t168 t171 (([] : List Int)) 0)))) = some r := H
    have A3 := Aside0.mk A30
    clear A30
    replace H := Option.bind_eq_some_iff.mp H
    obtain ⟨t171, A40, H⟩ := H
    replace H : ((spec_BeatsValid.f k t168).bind fun t172 => (if (t171 != t172) = true then (some false) else (laws_FnBeatsValid.l0 k t168 t171 (([] : List Int)) 0))) = some r := H
    have A4 := Aside0.mk A40
    clear A40
    replace H := Option.bind_eq_some_iff.mp H
    obtain ⟨t172, A50, H⟩ := H
    replace H : (if (t171 != t172) = true then (some false) else (laws_FnBeatsValid.l0 k t168 t171 (([] : List Int)) 0)) = some r := H
    have A5 := Aside0.mk A50
    clear A50
    by_cases c6 : (t171 != t172) = true
    · rw [if_pos c6] at H
      have c6b0 : (t171 != t172) = true := c6
      (try (have c6b1 : decide (t171 = t172) = false := by simpa using c6))
      (try (have c6b2 : (t171 == t172) = false := by simpa using c6))
      (try (have c6b3 : ¬ (t171 = t172) := by simpa using c6))
      clear c6
      obtain rfl := Option.some.inj H
      go_enter Try.func9, Try.ntmps9
      go_wp2_with (first | ((with_reducible refine gate_callee (f := 33) rfl ?_); refine goesL_ (some 11) rfl rfl Try.func33 (by kernel_rfl) rfl #[.slice A0 l0.length c0] rfl (by (try simp only [List.map_toArray, List.map_cons, List.map_nil]); first | done | rfl | (simp only [List.length_drop, List.length_take]; rfl)) ?_; (with_reducible refine (spec_DrawBeatsValid.calls k _ _ l0 t168 _ ?side1 ?side2 A3.out).mono ?_); (case side1 => repeat (first | exact HR0.out | (with_reducible refine Kd.C_alloc ?_ _) | (with_reducible refine Kd.C_drewN ?_ _) | (with_reducible refine Kd.C_drew ?_))); (case side2 => exact HC0.out); rintro e w7 ⟨v169, rfl, ho0, hb⟩; refine ⟨_, rfl, ?_⟩; have n0_ := Aside0.mk (Kd.Q_lower ho0 (below_size (by repeat (first | (with_reducible first | exact HB.out | apply below_alloc | apply pw_below_drewN | apply below_drew1) | exact HB.out)))); have n1_ := Aside0.mk (below_step (by repeat (first | (with_reducible first | exact HB.out | apply below_alloc | apply pw_below_drewN | apply below_drew1) | exact HB.out)) hb); clear HB; have HO170 := n0_; have HB := n1_; clear n0_ n1_; (try clear hb); (try clear hb2); (try clear hk); (try clear hi); (try clear ho0); obtain ⟨Ao8, co8, eo8, _⟩ := Kd.Q_slice HO170.out; subst eo8) | ((with_reducible refine gate_callee (f := 17) rfl ?_); refine goesL_ (some 13) rfl rfl Try.func17 (by kernel_rfl) rfl #[.slice Ao8 t168.length co8] rfl (by (try simp only [List.map_toArray, List.map_cons, List.map_nil]); first | done | rfl | (simp only [List.length_drop, List.length_take]; rfl)) ?_; (with_reducible refine (impl_BeatsValid.calls k _ _ t168 t171 _ ?side1 ?side2 A4.out).mono ?_); (case side1 => repeat (first | exact (Kd.Q_reads' HO170.out).2.2 | (with_reducible refine Kd.C_alloc ?_ _) | (with_reducible refine Kd.C_drewN ?_ _) | (with_reducible refine Kd.C_drew ?_))); (case side2 => exact (Kd.Q_reads' HO170.out).2.1); rintro e w' ⟨rfl, ⟨nd, rfl⟩⟩; refine ⟨_, rfl, ?_⟩) | ((with_reducible refine gate_callee (f := 15) rfl ?_); refine goesL_ (some 16) rfl rfl Try.func15 (by kernel_rfl) rfl #[.slice Ao8 t168.length co8] rfl (by (try simp only [List.map_toArray, List.map_cons, List.map_nil]); first | done | rfl | (simp only [List.length_drop, List.length_take]; rfl)) ?_; (with_reducible refine (spec_BeatsValid.calls k _ _ t168 t172 _ ?side1 ?side2 A5.out).mono ?_); (case side1 => repeat (first | exact (Kd.Q_reads' HO170.out).2.2 | (with_reducible refine Kd.C_alloc ?_ _) | (with_reducible refine Kd.C_drewN ?_ _) | (with_reducible refine Kd.C_drew ?_))); (case side2 => exact (Kd.Q_reads' HO170.out).2.1); rintro e w' ⟨rfl, ⟨nd, rfl⟩⟩; refine ⟨_, rfl, ?_⟩))
      go_ret
      exact ⟨by first | rfl | (simp [errW_none, errW_some] <;> rfl) | (simp [*, errW_none, errW_some] <;> rfl) | (simp only [u8_w, wr_u8]; first | rfl | (simp [errW_none, errW_some] <;> rfl)), by repeat (first | (with_reducible first | exact HB.out | apply below_alloc | apply pw_below_drewN | apply below_drew1) | exact HB.out)⟩
    · rw [if_neg c6] at H
      have c6b0 : (t171 != t172) = false := by simpa using c6
      (try (have c6b1 : decide (t171 = t172) = true := by simpa using c6))
      (try (have c6b2 : (t171 == t172) = true := by simpa using c6))
      clear c6
      obtain ⟨y173, hy173⟩ : ∃ y_ : List Int, y_ = (([] : List Int)) := ⟨_, rfl⟩
      replace H : (laws_FnBeatsValid.l0 k t168 t171 y173 0) = some r := by first | (rw [hy173]; with_reducible exact H) | (have H2_ := (Option.bind_some _ _).symm.trans H; rw [hy173]; with_reducible exact H2_) | (have H2_ := (Option.bind_some _ _).symm.trans H; with_reducible exact H2_) | with_reducible exact H | (rw [hy173]; exact H) | exact H
      have Ny173 := Aside0.mk hy173
      clear hy173
      have H' := Aside0.mk H
      clear H
      go_enter Try.func9, Try.ntmps9
      go_wp2_with (first | ((with_reducible refine gate_callee (f := 33) rfl ?_); refine goesL_ (some 11) rfl rfl Try.func33 (by kernel_rfl) rfl #[.slice A0 l0.length c0] rfl (by (try simp only [List.map_toArray, List.map_cons, List.map_nil]); first | done | rfl | (simp only [List.length_drop, List.length_take]; rfl)) ?_; (with_reducible refine (spec_DrawBeatsValid.calls k _ _ l0 t168 _ ?side1 ?side2 A3.out).mono ?_); (case side1 => repeat (first | exact HR0.out | (with_reducible refine Kd.C_alloc ?_ _) | (with_reducible refine Kd.C_drewN ?_ _) | (with_reducible refine Kd.C_drew ?_))); (case side2 => exact HC0.out); rintro e w9 ⟨v169, rfl, ho0, hb⟩; refine ⟨_, rfl, ?_⟩; have n0_ := Aside0.mk (Kd.Q_lower ho0 (below_size (by repeat (first | (with_reducible first | exact HB.out | apply below_alloc | apply pw_below_drewN | apply below_drew1) | exact HB.out)))); have n1_ := Aside0.mk (below_step (by repeat (first | (with_reducible first | exact HB.out | apply below_alloc | apply pw_below_drewN | apply below_drew1) | exact HB.out)) hb); clear HB; have HO170 := n0_; have HB := n1_; clear n0_ n1_; (try clear hb); (try clear hb2); (try clear hk); (try clear hi); (try clear ho0); obtain ⟨Ao10, co10, eo10, _⟩ := Kd.Q_slice HO170.out; subst eo10) | ((with_reducible refine gate_callee (f := 17) rfl ?_); refine goesL_ (some 13) rfl rfl Try.func17 (by kernel_rfl) rfl #[.slice Ao10 t168.length co10] rfl (by (try simp only [List.map_toArray, List.map_cons, List.map_nil]); first | done | rfl | (simp only [List.length_drop, List.length_take]; rfl)) ?_; (with_reducible refine (impl_BeatsValid.calls k _ _ t168 t171 _ ?side1 ?side2 A4.out).mono ?_); (case side1 => repeat (first | exact (Kd.Q_reads' HO170.out).2.2 | (with_reducible refine Kd.C_alloc ?_ _) | (with_reducible refine Kd.C_drewN ?_ _) | (with_reducible refine Kd.C_drew ?_))); (case side2 => exact (Kd.Q_reads' HO170.out).2.1); rintro e w' ⟨rfl, ⟨nd, rfl⟩⟩; refine ⟨_, rfl, ?_⟩) | ((with_reducible refine gate_callee (f := 15) rfl ?_); refine goesL_ (some 16) rfl rfl Try.func15 (by kernel_rfl) rfl #[.slice Ao10 t168.length co10] rfl (by (try simp only [List.map_toArray, List.map_cons, List.map_nil]); first | done | rfl | (simp only [List.length_drop, List.length_take]; rfl)) ?_; (with_reducible refine (spec_BeatsValid.calls k _ _ t168 t172 _ ?side1 ?side2 A5.out).mono ?_); (case side1 => repeat (first | exact (Kd.Q_reads' HO170.out).2.2 | (with_reducible refine Kd.C_alloc ?_ _) | (with_reducible refine Kd.C_drewN ?_ _) | (with_reducible refine Kd.C_drew ?_))); (case side2 => exact (Kd.Q_reads' HO170.out).2.1); rintro e w' ⟨rfl, ⟨nd, rfl⟩⟩; refine ⟨_, rfl, ?_⟩) | ((with_reducible refine gate_dst (N := 18) rfl ?_); (try (refine gate_guard (by rfl) ?_; dsimp only)); refine Kd.R_lit (Kd.int .i64) _ 3 ?hg (N := 18) ?hd (xs := ([] : List Int)) (inner := []) (ok := fun _ => True) (okp := fun _ => True) ?hr ?hp (fun _ hk => hk) trivial (Below.refl _ _) (Nat.le_refl _) (by simp) ?_; (case hd => rfl); (case hg => rfl); (case hr => first | (go_simp; done) | (go_simp; rfl)); (case hp => exact (Reps.none _ _)); intro v174 w11 ho12 hb hg_ hnew_; clear hg_ hnew_; (first | rw [← Ny173.out] at ho12 | (simp only [Int.reduceToNat] at ho12; rw [← Ny173.out] at ho12)); have n0_ := Aside0.mk (Kd.Q_elder' (by (with_reducible repeat (first | apply Kd.Q_alloc | apply Kd.Q_drewN | apply Kd.Q_drew)); exact HO170.out) (Kd.R_base ho12) hb); have n1_ := Aside0.mk (Kd.R_lower (Kd.R_new' ho12 (Kd.Q_lt (by (with_reducible repeat (first | apply Kd.Q_alloc | apply Kd.Q_drewN | apply Kd.Q_drew)); exact HO170.out))) (below_size (by repeat (first | (with_reducible first | exact HB.out | apply below_alloc | apply pw_below_drewN | apply below_drew1) | exact HB.out)))); have n2_ := Aside0.mk (below_step (by repeat (first | (with_reducible first | exact HB.out | apply below_alloc | apply pw_below_drewN | apply below_drew1) | exact HB.out)) hb); clear HO170; clear HB; have HO170 := n0_; have HO175 := n1_; have HB := n2_; clear n0_ n1_ n2_; clear hb ho12))
      go_loopg [5, 6] k (fun kq v5 v6 w' => ∃ (x5_1 : List Int) (x6_1 : Int), v6 = .int .i64 x6_1 ∧ Aside0 (laws_FnBeatsValid.l0 kq t168 t171 x5_1 x6_1 = some r) ∧ Aside0 (kq ≤ k) ∧ Aside0 (Kd.Q (Kd.int .i64) 3 w' w.heap.size (fun k_ => some k_ ≠ (v5 : Value).ownBlock) (.slice Ao10 t168.length co10) t168) ∧ Aside0 (Kd.R (Kd.int .i64) 3 w' w.heap.size (fun k_ => some k_ ≠ ((.slice Ao10 t168.length co10) : Value).ownBlock) v5 x5_1) ∧ Aside0 (Below w.heap.size w w'))
      case atStart => exact ⟨(y173), (0), (by first | rfl | (simp; done) | (simp [*]; done)), H', ⟨Nat.le_refl _⟩, ⟨by (with_reducible repeat (first | apply Kd.Q_alloc | apply Kd.Q_drewN | apply Kd.Q_drew)); exact Kd.Q_mono HO170.out (fun _ hk => hk.2)⟩, ⟨by (with_reducible repeat (first | apply Kd.R_alloc | apply Kd.R_drewN | apply Kd.R_drew)); exact Kd.R_mono HO175.out (fun _ hk => hk.2)⟩, ⟨by repeat (first | (with_reducible first | exact HB.out | apply below_alloc | apply pw_below_drewN | apply below_drew1) | exact HB.out)⟩⟩
      case round =>
        clear H'
        try clear c1
        try clear c2
        try clear c2b0
        try clear c2b1
        try clear p2
        try clear c3
        try clear c6
        try clear c6b0
        try clear c6b1
        try clear c6b2
        try clear c9
        obtain ⟨x5_1, x6_1, rfl, HA, HK1, HO_3, HO_5, HB⟩ := hrel
        cases gk with
        | zero => exact absurd HA.out (by simp [laws_FnBeatsValid.l0])
        | succ k1 =>
          have H := HA.out
          clear HA
          simp only [laws_FnBeatsValid.l0] at H
          by_cases c13 : x6_1 < (t168.length : Int)
          · rw [if_pos c13] at H
            have c13b0 : decide (x6_1 < (t168.length : Int)) = true := decide_eq_true c13
            clear c13
            by_cases c14 : x5_1.length < 17592186044416
            · rw [if_pos c14] at H
              have LMc14 := Aside0.mk c14
              clear c14
              obtain ⟨y176, hy176⟩ : ∃ y_ : List Int, y_ = (x5_1 ++ [200]) := ⟨_, rfl⟩
              replace H : (laws_FnBeatsValid.l0 k1 t168 t171 y176 (wrap64 (x6_1 + 1))) = some r := by first | (rw [hy176]; with_reducible exact H) | (have H2_ := (Option.bind_some _ _).symm.trans H; rw [hy176]; with_reducible exact H2_) | (have H2_ := (Option.bind_some _ _).symm.trans H; with_reducible exact H2_) | with_reducible exact H | (rw [hy176]; exact H) | exact H
              have Ny176 := Aside0.mk hy176
              clear hy176
              have H' := Aside0.mk H
              clear H
              go_wp2_with (first | ((with_reducible refine gate_builtin (b := .append) (xs := #[.tmp 25, .tmp 26]) rfl ?_); (try (refine gate_guard (by rfl) ?_; dsimp only)); at_builtin; refine Kd.R_append (Kd.int .i64) (w0 := w) w.heap.size rfl (.tmp 25) (.tmp 26) 22 3 (.int .i64 0) 8 rfl Try.underlying22 info3 rfl (by decide) (by omega) u5 x5_1 200 [.int .i64 200] (fun k_ => some k_ ≠ (.slice Ao10 t168.length co10 : Value).ownBlock) (fun _ => False) rfl rfl ?aP (fun _ hk => hk.elim) ?aF ?aO ?aB ?aS ?aL ?_; (case aP => exact rfl); (case aB => exact (by repeat (first | (with_reducible first | exact HB.out | apply below_alloc | apply pw_below_drewN | apply below_drew1) | exact HB.out))); (case aF => exact (fun k_ hk => Kd.fresh' (Kd.Q_lt (by (with_reducible repeat (first | apply Kd.Q_alloc | apply Kd.Q_drewN | apply Kd.Q_drew)); exact HO_3.out)) k_ hk)); (case aO => exact (by (with_reducible repeat (first | apply Kd.R_alloc | apply Kd.R_drewN | apply Kd.R_drew)); exact HO_5.out)); (case aS => exact (below_size (by repeat (first | (with_reducible first | exact HB.out | apply below_alloc | apply pw_below_drewN | apply below_drew1) | exact HB.out)))); (case aL => have := LMc14.out; omega); intro v177 w15 ho hb hg hat; rw [← Ny176.out] at ho; have n0_ := Aside0.mk (Kd.Q_after (ok := (fun _ => True)) (by (with_reducible repeat (first | apply Kd.Q_alloc | apply Kd.Q_drewN | apply Kd.Q_drew)); exact Kd.Q_mono HO_3.out (fun _ hk => ⟨trivial, hk⟩)) hg hat); have n1_ := Aside0.mk (hb); have n2_ := Aside0.mk (ho); clear HO_3; clear HB; clear HO_5; have HO_3 := n0_; have HB := n1_; have HO178 := n2_; clear n0_ n1_ n2_; clear ho hb hg hat))
              go_roundg k1
              case measure => have := HK1.out; omega
              case rel => exact ⟨(y176), (wrap64 (x6_1 + 1)), (by first | rfl | (simp; done) | (simp [*]; done)), H', ⟨by have := HK1.out; omega⟩, ⟨by (with_reducible repeat (first | apply Kd.Q_alloc | apply Kd.Q_drewN | apply Kd.Q_drew)); exact Kd.Q_mono HO_3.out (fun _ hk => hk.2)⟩, ⟨by (with_reducible repeat (first | apply Kd.R_alloc | apply Kd.R_drewN | apply Kd.R_drew)); exact HO178.out⟩, ⟨by repeat (first | (with_reducible first | exact HB.out | apply below_alloc | apply pw_below_drewN | apply below_drew1) | exact HB.out)⟩⟩
            · rw [if_neg c14] at H
              exact absurd H (by simp)
          · rw [if_neg c13] at H
            have c13b0 : decide (x6_1 < (t168.length : Int)) = false := decide_eq_false c13
            clear c13
            by_cases c16 : t171 = true
            · subst c16
              have H1 : (if (t168.length : Int) > 0 then (if 1 ≤ (t168.length : Int) then ((impl_BeatsValid.f k1 (t168.drop 1)).bind fun t183 => (if t183 = true then (some false) else ((impl_BeatsValid.f k1 x5_1).bind fun t184 => (if t184 = true then ((laws_alive.f k1).bind fun t185 => (some t185)) else (some false))))) else (none)) else (some false)) = some r := by rw [if_pos rfl] at H; exact H
              clear H
              have H := H1
              clear H1
              by_cases c17 : (t168.length : Int) > 0
              · rw [if_pos c17] at H
                have c17b0 : decide (0 < (t168.length : Int)) = true := decide_eq_true c17
                have c17b1 : decide (0 < t168.length) = true := decide_eq_true (by omega)
                clear c17
                by_cases c18 : 1 ≤ (t168.length : Int)
                · rw [if_pos c18] at H
                  have c18b0 := eq_true c18
                  have c18b1 : decide (1 ≤ (t168.length : Int)) = true := decide_eq_true c18
                  clear c18
                  obtain ⟨y179, hy179⟩ : ∃ y_ : List Int, y_ = (t168.drop 1) := ⟨_, rfl⟩
                  replace H : ((impl_BeatsValid.f k1 y179).bind fun t183 => (if t183 = true then (some false) else ((impl_BeatsValid.f k1 x5_1).bind fun t184 => (if t184 = true then ((laws_alive.f k1).bind fun t185 => (some t185)) else (some false))))) = some r := by first | (rw [hy179]; with_reducible exact H) | (have H2_ := (Option.bind_some _ _).symm.trans H; rw [hy179]; with_reducible exact H2_) | (have H2_ := (Option.bind_some _ _).symm.trans H; with_reducible exact H2_) | with_reducible exact H | (rw [hy179]; exact H) | exact H
                  have Ny179 := Aside0.mk hy179
                  clear hy179
                  replace H := Option.bind_eq_some_iff.mp H
                  obtain ⟨t183, A190, H⟩ := H
                  replace H : (if t183 = true then (some false) else ((impl_BeatsValid.f k1 x5_1).bind fun t184 => (if t184 = true then ((laws_alive.f k1).bind fun t185 => (some t185)) else (some false)))) = some r := H
                  have A19 := Aside0.mk A190
                  clear A190
                  by_cases c20 : t183 = true
                  · subst c20
                    have H1 : (some false) = some r := by rw [if_pos rfl] at H; exact H
                    clear H
                    have H := H1
                    clear H1
                    obtain rfl := Option.some.inj H
                    have q21 : (1 : Int) ≤ ((t168.length : Int) : Int) := of_decide_eq_true (by first | (with_reducible assumption) | assumption)
                    obtain ⟨i021, hi021, _, hsz21, _⟩ := info_parts info3
                    have hroom21 : t168.length ≤ co10 := (Kd.Q_reads' HO_3.out).2.1
                    have hC21 : Kd.C (Kd.int .i64) _ Ao10 t168.length t168 := (Kd.Q_reads' HO_3.out).2.2
                    have hcut21 := cut_from (P := Try.prog) 22 3 .i64 Try.underlying22 hi021 1 hsz21 Ao10 t168.length co10 1 (by omega) q21
                    have hr21 := Kd.C_drop (m := (1 : Int).toNat) (c := co10) hC21 (by omega) hroom21
                    obtain ⟨A21, hA21⟩ : ∃ A1, A1 = (if co10 = (1 : Int).toNat then Ao10 else (Ao10 : Option Addr).map (·.add ((1 : Int).toNat * 1))) := ⟨_, rfl⟩
                    obtain ⟨c21, hc21⟩ : ∃ c1, c1 = co10 - (1 : Int).toNat := ⟨_, rfl⟩
                    have hy21 : y179.length = t168.length - (1 : Int).toNat := (by rw [Ny179.out, List.length_drop] <;> omega)
                    rw [show (t168).drop (1 : Int).toNat = y179 from Ny179.out.symm] at hr21
                    replace hr21 : Kd.C (Kd.int .i64) _ A21 y179.length y179 := (by rw [hA21]; exact hr21)
                    rw [← hy21, ← hA21, ← hc21] at hcut21
                    have HR182 := Aside0.mk hr21
                    have HC182 := Aside0.mk (show y179.length ≤ c21 from by rw [hy21, hc21]; exact Nat.sub_le_sub_right hroom21 _)
                    clear hr21 hC21 hroom21 hi021 hsz21 hc21
                    have KY21 := Aside0.mk hy21
                    have KA21 := Aside0.mk hA21
                    clear hy21 hA21
                    have KL21 := Aside0.mk (show 1 ≤ t168.length from by omega)
                    replace q21 := eq_true q21
                    go_wp2_with (first | (go_at_call 17; (with_reducible refine (impl_BeatsValid.calls k1 _ _ y179 true _ ?side1 ?side2 A19.out).mono ?_); (case side1 => repeat (first | exact (by repeat (first | (with_reducible exact HR182.out) | (with_reducible refine Kd.C_alloc ?_ _) | (with_reducible refine Kd.C_drewN ?_ _) | (with_reducible refine Kd.C_drew ?_) | exact HR182.out)) | (with_reducible refine Kd.C_alloc ?_ _) | (with_reducible refine Kd.C_drewN ?_ _) | (with_reducible refine Kd.C_drew ?_))); (case side2 => exact HC182.out); rintro e w' ⟨rfl, ⟨nd, rfl⟩⟩))
                    go_ret
                    exact ⟨by first | rfl | (simp [errW_none, errW_some] <;> rfl) | (simp [*, errW_none, errW_some] <;> rfl) | (simp only [u8_w, wr_u8]; first | rfl | (simp [errW_none, errW_some] <;> rfl)), by repeat (first | (with_reducible first | exact HB.out | apply below_alloc | apply pw_below_drewN | apply below_drew1) | exact HB.out)⟩
                  · replace c20 := Bool.eq_false_iff.mpr c20
                    subst c20
                    have H1 : ((impl_BeatsValid.f k1 x5_1).bind fun t184 => (if t184 = true then ((laws_alive.f k1).bind fun t185 => (some t185)) else (some false))) = some r := by rw [if_neg (show ¬ (false = true) by decide)] at H; exact H
                    clear H
                    have H := H1
                    clear H1
                    replace H := Option.bind_eq_some_iff.mp H
                    obtain ⟨t184, A220, H⟩ := H
                    replace H : (if t184 = true then ((laws_alive.f k1).bind fun t185 => (some t185)) else (some false)) = some r := H
                    have A22 := Aside0.mk A220
                    clear A220
                    by_cases c23 : t184 = true
                    · subst c23
                      have H1 : ((laws_alive.f k1).bind fun t185 => (some t185)) = some r := by rw [if_pos rfl] at H; exact H
                      clear H
                      have H := H1
                      clear H1
                      replace H := Option.bind_eq_some_iff.mp H
                      obtain ⟨t185, A240, H⟩ := H
                      replace H : (some t185) = some r := H
                      have A24 := Aside0.mk A240
                      clear A240
                      obtain rfl := Option.some.inj H
                      have q25 : (1 : Int) ≤ ((t168.length : Int) : Int) := of_decide_eq_true (by first | (with_reducible assumption) | assumption)
                      obtain ⟨i025, hi025, _, hsz25, _⟩ := info_parts info3
                      have hroom25 : t168.length ≤ co10 := (Kd.Q_reads' HO_3.out).2.1
                      have hC25 : Kd.C (Kd.int .i64) _ Ao10 t168.length t168 := (Kd.Q_reads' HO_3.out).2.2
                      have hcut25 := cut_from (P := Try.prog) 22 3 .i64 Try.underlying22 hi025 1 hsz25 Ao10 t168.length co10 1 (by omega) q25
                      have hr25 := Kd.C_drop (m := (1 : Int).toNat) (c := co10) hC25 (by omega) hroom25
                      obtain ⟨A25, hA25⟩ : ∃ A1, A1 = (if co10 = (1 : Int).toNat then Ao10 else (Ao10 : Option Addr).map (·.add ((1 : Int).toNat * 1))) := ⟨_, rfl⟩
                      obtain ⟨c25, hc25⟩ : ∃ c1, c1 = co10 - (1 : Int).toNat := ⟨_, rfl⟩
                      have hy25 : y179.length = t168.length - (1 : Int).toNat := (by rw [Ny179.out, List.length_drop] <;> omega)
                      rw [show (t168).drop (1 : Int).toNat = y179 from Ny179.out.symm] at hr25
                      replace hr25 : Kd.C (Kd.int .i64) _ A25 y179.length y179 := (by rw [hA25]; exact hr25)
                      rw [← hy25, ← hA25, ← hc25] at hcut25
                      have HR182 := Aside0.mk hr25
                      have HC182 := Aside0.mk (show y179.length ≤ c25 from by rw [hy25, hc25]; exact Nat.sub_le_sub_right hroom25 _)
                      clear hr25 hC25 hroom25 hi025 hsz25 hc25
                      have KY25 := Aside0.mk hy25
                      have KA25 := Aside0.mk hA25
                      clear hy25 hA25
                      have KL25 := Aside0.mk (show 1 ≤ t168.length from by omega)
                      replace q25 := eq_true q25
                      go_wp2_with (first | (go_at_call 17; (with_reducible refine (impl_BeatsValid.calls k1 _ _ y179 false _ ?side1 ?side2 A19.out).mono ?_); (case side1 => repeat (first | exact (by repeat (first | (with_reducible exact HR182.out) | (with_reducible refine Kd.C_alloc ?_ _) | (with_reducible refine Kd.C_drewN ?_ _) | (with_reducible refine Kd.C_drew ?_) | exact HR182.out)) | (with_reducible refine Kd.C_alloc ?_ _) | (with_reducible refine Kd.C_drewN ?_ _) | (with_reducible refine Kd.C_drew ?_))); (case side2 => exact HC182.out); rintro e w' ⟨rfl, ⟨nd, rfl⟩⟩; obtain ⟨Ao26, co26, eo26⟩ := Kd.R_slice HO_5.out; subst eo26) | (go_at_call 17; (with_reducible refine (impl_BeatsValid.calls k1 _ _ x5_1 true _ ?side1 ?side2 A22.out).mono ?_); (case side1 => repeat (first | exact (Kd.R_reads' HO_5.out).2.2 | (with_reducible refine Kd.C_alloc ?_ _) | (with_reducible refine Kd.C_drewN ?_ _) | (with_reducible refine Kd.C_drew ?_))); (case side2 => exact (Kd.R_reads' HO_5.out).2.1); rintro e w' ⟨rfl, ⟨nd, rfl⟩⟩) | (go_at_call 34; (with_reducible refine (laws_alive.calls k1  t185 _ A24.out).mono ?_); rintro e w27 ⟨rfl, hb⟩; have n0_ := Aside0.mk (Kd.Q_below (by (with_reducible repeat (first | apply Kd.Q_alloc | apply Kd.Q_drewN | apply Kd.Q_drew)); exact HO_3.out) hb); have n1_ := Aside0.mk (Kd.R_below (by (with_reducible repeat (first | apply Kd.R_alloc | apply Kd.R_drewN | apply Kd.R_drew)); exact HO_5.out) hb); have n2_ := Aside0.mk (Kd.C_below (by repeat (first | (with_reducible exact HR182.out) | (with_reducible refine Kd.C_alloc ?_ _) | (with_reducible refine Kd.C_drewN ?_ _) | (with_reducible refine Kd.C_drew ?_) | exact HR182.out)) hb); have n3_ := Aside0.mk (below_step (by repeat (first | (with_reducible first | exact HB.out | apply below_alloc | apply pw_below_drewN | apply below_drew1) | exact HB.out)) hb); clear HO_3; clear HO_5; clear HR182; clear HB; have HO_3 := n0_; have HO_5 := n1_; have HR182 := n2_; have HB := n3_; clear n0_ n1_ n2_ n3_; (try clear hb); (try clear hb2); (try clear hk); (try clear hi)))
                      go_ret
                      exact ⟨by first | rfl | (simp [errW_none, errW_some] <;> rfl) | (simp [*, errW_none, errW_some] <;> rfl) | (simp only [u8_w, wr_u8]; first | rfl | (simp [errW_none, errW_some] <;> rfl)), by repeat (first | (with_reducible first | exact HB.out | apply below_alloc | apply pw_below_drewN | apply below_drew1) | exact HB.out)⟩
                    · replace c23 := Bool.eq_false_iff.mpr c23
                      subst c23
                      have H1 : (some false) = some r := by rw [if_neg (show ¬ (false = true) by decide)] at H; exact H
                      clear H
                      have H := H1
                      clear H1
                      obtain rfl := Option.some.inj H
                      have q28 : (1 : Int) ≤ ((t168.length : Int) : Int) := of_decide_eq_true (by first | (with_reducible assumption) | assumption)
                      obtain ⟨i028, hi028, _, hsz28, _⟩ := info_parts info3
                      have hroom28 : t168.length ≤ co10 := (Kd.Q_reads' HO_3.out).2.1
                      have hC28 : Kd.C (Kd.int .i64) _ Ao10 t168.length t168 := (Kd.Q_reads' HO_3.out).2.2
                      have hcut28 := cut_from (P := Try.prog) 22 3 .i64 Try.underlying22 hi028 1 hsz28 Ao10 t168.length co10 1 (by omega) q28
                      have hr28 := Kd.C_drop (m := (1 : Int).toNat) (c := co10) hC28 (by omega) hroom28
                      obtain ⟨A28, hA28⟩ : ∃ A1, A1 = (if co10 = (1 : Int).toNat then Ao10 else (Ao10 : Option Addr).map (·.add ((1 : Int).toNat * 1))) := ⟨_, rfl⟩
                      obtain ⟨c28, hc28⟩ : ∃ c1, c1 = co10 - (1 : Int).toNat := ⟨_, rfl⟩
                      have hy28 : y179.length = t168.length - (1 : Int).toNat := (by rw [Ny179.out, List.length_drop] <;> omega)
                      rw [show (t168).drop (1 : Int).toNat = y179 from Ny179.out.symm] at hr28
                      replace hr28 : Kd.C (Kd.int .i64) _ A28 y179.length y179 := (by rw [hA28]; exact hr28)
                      rw [← hy28, ← hA28, ← hc28] at hcut28
                      have HR182 := Aside0.mk hr28
                      have HC182 := Aside0.mk (show y179.length ≤ c28 from by rw [hy28, hc28]; exact Nat.sub_le_sub_right hroom28 _)
                      clear hr28 hC28 hroom28 hi028 hsz28 hc28
                      have KY28 := Aside0.mk hy28
                      have KA28 := Aside0.mk hA28
                      clear hy28 hA28
                      have KL28 := Aside0.mk (show 1 ≤ t168.length from by omega)
                      replace q28 := eq_true q28
                      go_wp2_with (first | (go_at_call 17; (with_reducible refine (impl_BeatsValid.calls k1 _ _ y179 false _ ?side1 ?side2 A19.out).mono ?_); (case side1 => repeat (first | exact (by repeat (first | (with_reducible exact HR182.out) | (with_reducible refine Kd.C_alloc ?_ _) | (with_reducible refine Kd.C_drewN ?_ _) | (with_reducible refine Kd.C_drew ?_) | exact HR182.out)) | (with_reducible refine Kd.C_alloc ?_ _) | (with_reducible refine Kd.C_drewN ?_ _) | (with_reducible refine Kd.C_drew ?_))); (case side2 => exact HC182.out); rintro e w' ⟨rfl, ⟨nd, rfl⟩⟩; obtain ⟨Ao29, co29, eo29⟩ := Kd.R_slice HO_5.out; subst eo29) | (go_at_call 17; (with_reducible refine (impl_BeatsValid.calls k1 _ _ x5_1 false _ ?side1 ?side2 A22.out).mono ?_); (case side1 => repeat (first | exact (Kd.R_reads' HO_5.out).2.2 | (with_reducible refine Kd.C_alloc ?_ _) | (with_reducible refine Kd.C_drewN ?_ _) | (with_reducible refine Kd.C_drew ?_))); (case side2 => exact (Kd.R_reads' HO_5.out).2.1); rintro e w' ⟨rfl, ⟨nd, rfl⟩⟩))
                      go_ret
                      exact ⟨by first | rfl | (simp [errW_none, errW_some] <;> rfl) | (simp [*, errW_none, errW_some] <;> rfl) | (simp only [u8_w, wr_u8]; first | rfl | (simp [errW_none, errW_some] <;> rfl)), by repeat (first | (with_reducible first | exact HB.out | apply below_alloc | apply pw_below_drewN | apply below_drew1) | exact HB.out)⟩
                · rw [if_neg c18] at H
                  exact absurd H (by simp)
              · rw [if_neg c17] at H
                have c17b0 : decide (0 < (t168.length : Int)) = false := decide_eq_false c17
                have c17b1 : decide (0 < t168.length) = false := decide_eq_false (by omega)
                clear c17
                obtain rfl := Option.some.inj H
                go_wp2
                go_ret
                exact ⟨by first | rfl | (simp [errW_none, errW_some] <;> rfl) | (simp [*, errW_none, errW_some] <;> rfl) | (simp only [u8_w, wr_u8]; first | rfl | (simp [errW_none, errW_some] <;> rfl)), by repeat (first | (with_reducible first | exact HB.out | apply below_alloc | apply pw_below_drewN | apply below_drew1) | exact HB.out)⟩
            · replace c16 := Bool.eq_false_iff.mpr c16
              subst c16
              have H1 : ((laws_alive.f k1).bind fun t186 => (some t186)) = some r := by rw [if_neg (show ¬ (false = true) by decide)] at H; exact H
              clear H
              have H := H1
              clear H1
              replace H := Option.bind_eq_some_iff.mp H
              obtain ⟨t186, A300, H⟩ := H
              replace H : (some t186) = some r := H
              have A30 := Aside0.mk A300
              clear A300
              obtain rfl := Option.some.inj H
              go_wp2_with (first | (go_at_call 34; (with_reducible refine (laws_alive.calls k1  t186 _ A30.out).mono ?_); rintro e w31 ⟨rfl, hb⟩; have n0_ := Aside0.mk (Kd.Q_below (by (with_reducible repeat (first | apply Kd.Q_alloc | apply Kd.Q_drewN | apply Kd.Q_drew)); exact HO_3.out) hb); have n1_ := Aside0.mk (Kd.R_below (by (with_reducible repeat (first | apply Kd.R_alloc | apply Kd.R_drewN | apply Kd.R_drew)); exact HO_5.out) hb); have n2_ := Aside0.mk (below_step (by repeat (first | (with_reducible first | exact HB.out | apply below_alloc | apply pw_below_drewN | apply below_drew1) | exact HB.out)) hb); clear HO_3; clear HO_5; clear HB; have HO_3 := n0_; have HO_5 := n1_; have HB := n2_; clear n0_ n1_ n2_; (try clear hb); (try clear hb2); (try clear hk); (try clear hi)))
              go_ret
              exact ⟨by first | rfl | (simp [errW_none, errW_some] <;> rfl) | (simp [*, errW_none, errW_some] <;> rfl) | (simp only [u8_w, wr_u8]; first | rfl | (simp [errW_none, errW_some] <;> rfl)), by repeat (first | (with_reducible first | exact HB.out | apply below_alloc | apply pw_below_drewN | apply below_drew1) | exact HB.out)⟩

/-- THE ONE PURE STATEMENT of laws_FnBeatsValid: yours. -/
def laws_FnBeatsValid.Pure : Prop := ∀ (l0 : List Int), l0.length ≤ maxLen → l0.length * 1 ≤ 140737488351232 → (∀ x ∈ l0, (Lit.int .u8 x).wf = true) → ∃ k, laws_FnBeatsValid.f k l0 = some true
theorem laws_FnBeatsValid.walk (P : laws_FnBeatsValid.Pure) (a0 : Option Addr) (len0 cap0 : Nat) (z0 : List Int) (w : World) (w0 : (a0 = none ∧ len0 = 0 ∧ cap0 = 0 ∧ z0 = []) ∨ ∃ x, a0 = some x ∧ len0 ≤ cap0 ∧ cap0 ≤ maxLen ∧ z0.length = cap0 ∧ (∀ i, i < z0.length → w.cell? (x.add i) = some (.int .u8 (z0.getD i 0))) ∧ ∀ n ∈ z0, (Lit.int .u8 n).wf = true) (y0 : len0 * 1 ≤ 140737488351232) :
    Calls Try.prog 9 #[.slice a0 len0 cap0] w fun e w' => e = .returned (.bool true) ∧ Below w.heap.size w w' := by
  obtain ⟨l0, rfl, hr0, hm0, hw0, hc0⟩ := ReadsInt.ofRowC w0
  obtain ⟨k, h⟩ := P l0 hm0 y0 hw0
  refine (laws_FnBeatsValid.calls k _ _ l0 true w (Kd.C_of_reads (d := (0 : Int)) (h1 := fun _ => rfl) hr0) hc0 h).mono ?_
  rintro e w' ⟨rfl, hd⟩
  exact ⟨rfl, hd⟩

end Go.Proofs.Ytnaloccjejmmfaa.FFnBeatsValid
