/- Functions that the law FnPlaceMembers reaches, as plain functions of Lean, and that the machine's calls come to them: written out of the translation by a program of this session over the kit's printer. Conditions: as each lemma states them. -/
import Derived.Test.YtbieglaagpogkaaFFnPlaceMembersx0
import Derived.Test.YtbieglaagpogkaaFFnPlaceMembersx1
import Derived.Test.YtbieglaagpogkaaFFnPlaceMembersx2
import Derived.Test.YtbieglaagpogkaaFFnPlaceMembersx3
import Derived.Test.YtbieglaagpogkaaFFnPlaceMembersx4
import Derived.Test.YtbieglaagpogkaaFFnPlaceMembersx5
namespace Go.Proofs.Ytbieglaagpogkaa.FFnPlaceMembers
open Go.RowKit Go.Proofs.YtbieglaagpogkaaW.PrintWords Go.Proofs.YtbieglaagpogkaaW.PrintLast Go.Proofs.YtbieglaagpogkaaW.PrintMore
attribute [local go_sem] max2_int min2_int max_two min_two max_three min_three max_four min_four   -- for this text's walks alone
set_option linter.unusedVariables false
set_option linter.unusedSimpArgs false

/-! ### laws_FnPlaceMembers: function 4 -/
mutual
def laws_FnPlaceMembers.j0 : Nat → List Int → List Bool → Int → List Int → Bool → Bool → Option (Bool)
  | 0, _, _, _, _, _, _ => none
  | k + 1, x3, x4, x5, x6, x7, x43 => if x43 = true then (some false) else (if x7 = true then (if (x6.length : Int) = x5 then ((impl_ConfigValid.f k 1 x6 false).bind fun t212 => (laws_FnPlaceMembers.j1 k x3 x4 x5 x6 (!t212))) else (laws_FnPlaceMembers.j1 k x3 x4 x5 x6 true)) else (if (x6.length : Int) = 0 then ((laws_alive.f k).bind fun t211 => (some t211)) else (some false)))
def laws_FnPlaceMembers.j1 : Nat → List Int → List Bool → Int → List Int → Bool → Option (Bool)
  | 0, _, _, _, _, _ => none
  | k + 1, x3, x4, x5, x6, x61 => if x61 = true then (some false) else (laws_FnPlaceMembers.l0 k x3 x4 x5 x6 0)
def laws_FnPlaceMembers.l0 : Nat → List Int → List Bool → Int → List Int → Int → Option (Bool)
  | 0, _, _, _, _, _ => none
  | k + 1, x3, x4, x5, x6, x10 => if x10 < (x6.length : Int) then (if 0 ≤ x10 then (if 0 ≤ (rd x6 x10) then (if (rd x6 x10) < (x4.length : Int) then (if (rdOf false x4 (rd x6 x10) = true) then (if x10 > 0 then (if (rd x6 x10) < (x3.length : Int) then (if 0 ≤ (wrap64 (x10 - 1)) then (if (wrap64 (x10 - 1)) < (x6.length : Int) then (if 0 ≤ (rd x6 (wrap64 (x10 - 1))) then (if (rd x6 (wrap64 (x10 - 1))) < (x3.length : Int) then (if (rd x3 (rd x6 x10)) < (rd x3 (rd x6 (wrap64 (x10 - 1)))) then (some false) else (laws_FnPlaceMembers.l0 k x3 x4 x5 x6 (wrap64 (x10 + 1)))) else (none)) else (none)) else (none)) else (none)) else (none)) else (laws_FnPlaceMembers.l0 k x3 x4 x5 x6 (wrap64 (x10 + 1)))) else (some false)) else (none)) else (none)) else (none)) else (laws_FnPlaceMembers.l1 k x3 x4 x5 x6 0)
def laws_FnPlaceMembers.l1 : Nat → List Int → List Bool → Int → List Int → Int → Option (Bool)
  | 0, _, _, _, _, _ => none
  | k + 1, x3, x4, x5, x6, x11 => if x11 < (x4.length : Int) then (if 0 ≤ x11 then (if rdOf false x4 x11 = true then ((laws_hasInt.f k x6 x11).bind fun t220 => (if t220 = true then (laws_FnPlaceMembers.l1 k x3 x4 x5 x6 (wrap64 (x11 + 1))) else (if x11 < (x3.length : Int) then (if 0 ≤ (wrap64 (x5 - 1)) then (if (wrap64 (x5 - 1)) < (x6.length : Int) then (if 0 ≤ (rd x6 (wrap64 (x5 - 1))) then (if (rd x6 (wrap64 (x5 - 1))) < (x3.length : Int) then (if (rd x3 x11) < (rd x3 (rd x6 (wrap64 (x5 - 1)))) then (some false) else (laws_FnPlaceMembers.l1 k x3 x4 x5 x6 (wrap64 (x11 + 1)))) else (none)) else (none)) else (none)) else (none)) else (none)))) else (laws_FnPlaceMembers.l1 k x3 x4 x5 x6 (wrap64 (x11 + 1)))) else (none)) else (some true)
end
def laws_FnPlaceMembers.f (k : Nat) (l0 : List Int) : Option (Bool) := if (l0.length : Int) > 1048576 then (some true) else ((spec_DrawPlaceMembers.f k l0).bind fun bt195 => ((impl_PlaceMembers.f k bt195.1 bt195.2.1 bt195.2.2).bind fun bt202 => ((spec_PlaceMembers.f k bt195.1 bt195.2.1 bt195.2.2).bind fun bt206 => ((laws_sameInts.f k bt202.1 bt206.1).bind fun t210 => (if t210 = true then (laws_FnPlaceMembers.j0 k bt195.1 bt195.2.1 bt195.2.2 bt202.1 bt202.2 (bt202.2 != bt206.2)) else (laws_FnPlaceMembers.j0 k bt195.1 bt195.2.1 bt195.2.2 bt202.1 bt202.2 true))))))
theorem laws_FnPlaceMembers.mono_l : ∀ k, (∀ y0 y1 y2 y3 y4 y5, LeO (laws_FnPlaceMembers.j0 k y0 y1 y2 y3 y4 y5) (laws_FnPlaceMembers.j0 (k + 1) y0 y1 y2 y3 y4 y5)) ∧ (∀ y0 y1 y2 y3 y4, LeO (laws_FnPlaceMembers.j1 k y0 y1 y2 y3 y4) (laws_FnPlaceMembers.j1 (k + 1) y0 y1 y2 y3 y4)) ∧ (∀ y0 y1 y2 y3 y4, LeO (laws_FnPlaceMembers.l0 k y0 y1 y2 y3 y4) (laws_FnPlaceMembers.l0 (k + 1) y0 y1 y2 y3 y4)) ∧ (∀ y0 y1 y2 y3 y4, LeO (laws_FnPlaceMembers.l1 k y0 y1 y2 y3 y4) (laws_FnPlaceMembers.l1 (k + 1) y0 y1 y2 y3 y4))
  | 0 => ⟨fun _ _ _ _ _ _ r h => by simp [laws_FnPlaceMembers.j0] at h, fun _ _ _ _ _ r h => by simp [laws_FnPlaceMembers.j1] at h, fun _ _ _ _ _ r h => by simp [laws_FnPlaceMembers.l0] at h, fun _ _ _ _ _ r h => by simp [laws_FnPlaceMembers.l1] at h⟩
  | k + 1 => by
    obtain ⟨ih0, ih1, ih2, ih3⟩ := laws_FnPlaceMembers.mono_l k
    refine ⟨?_, ?_, ?_, ?_⟩
    · intro y0 y1 y2 y3 y4 y5
      unfold laws_FnPlaceMembers.j0
      repeat' first
      | (with_reducible exact ih0 _ _ _ _ _ _)
      | (with_reducible exact ih1 _ _ _ _ _)
      | (with_reducible exact ih2 _ _ _ _ _)
      | (with_reducible exact ih3 _ _ _ _ _)
      | (with_reducible exact impl_ConfigValid.mono _ _ _ _)
      | (with_reducible exact impl_PlaceMembers.mono _ _ _ _)
      | (with_reducible exact laws_alive.mono _)
      | (with_reducible exact laws_hasInt.mono _ _ _)
      | (with_reducible exact laws_sameInts.mono _ _ _)
      | (with_reducible exact spec_DrawPlaceMembers.mono _ _)
      | (with_reducible exact spec_PlaceMembers.mono _ _ _ _)
      | (with_reducible exact LeO.refl _)
      | (with_reducible exact LeO.none _)
      | (with_reducible refine LeO.ite ?_ ?_)
      | (with_reducible refine LeO.bind ?_ (fun _ => ?_))
      | exact ih0 _ _ _ _ _ _
      | exact ih1 _ _ _ _ _
      | exact ih2 _ _ _ _ _
      | exact ih3 _ _ _ _ _
      | exact impl_ConfigValid.mono _ _ _ _
      | exact impl_PlaceMembers.mono _ _ _ _
      | exact laws_alive.mono _
      | exact laws_hasInt.mono _ _ _
      | exact laws_sameInts.mono _ _ _
      | exact spec_DrawPlaceMembers.mono _ _
      | exact spec_PlaceMembers.mono _ _ _ _
      | exact LeO.none _
      | refine LeO.ite ?_ ?_
      | refine LeO.bind ?_ (fun _ => ?_)
    · intro y0 y1 y2 y3 y4
      unfold laws_FnPlaceMembers.j1
      repeat' first
      | (with_reducible exact ih0 _ _ _ _ _ _)
      | (with_reducible exact ih1 _ _ _ _ _)
      | (with_reducible exact ih2 _ _ _ _ _)
      | (with_reducible exact ih3 _ _ _ _ _)
      | (with_reducible exact impl_ConfigValid.mono _ _ _ _)
      | (with_reducible exact impl_PlaceMembers.mono _ _ _ _)
      | (with_reducible exact laws_alive.mono _)
      | (with_reducible exact laws_hasInt.mono _ _ _)
      | (with_reducible exact laws_sameInts.mono _ _ _)
      | (with_reducible exact spec_DrawPlaceMembers.mono _ _)
      | (with_reducible exact spec_PlaceMembers.mono _ _ _ _)
      | (with_reducible exact LeO.refl _)
      | (with_reducible exact LeO.none _)
      | (with_reducible refine LeO.ite ?_ ?_)
      | (with_reducible refine LeO.bind ?_ (fun _ => ?_))
      | exact ih0 _ _ _ _ _ _
      | exact ih1 _ _ _ _ _
      | exact ih2 _ _ _ _ _
      | exact ih3 _ _ _ _ _
      | exact impl_ConfigValid.mono _ _ _ _
      | exact impl_PlaceMembers.mono _ _ _ _
      | exact laws_alive.mono _
      | exact laws_hasInt.mono _ _ _
      | exact laws_sameInts.mono _ _ _
      | exact spec_DrawPlaceMembers.mono _ _
      | exact spec_PlaceMembers.mono _ _ _ _
      | exact LeO.none _
      | refine LeO.ite ?_ ?_
      | refine LeO.bind ?_ (fun _ => ?_)
    · intro y0 y1 y2 y3 y4
      unfold laws_FnPlaceMembers.l0
      repeat' first
      | (with_reducible exact ih0 _ _ _ _ _ _)
      | (with_reducible exact ih1 _ _ _ _ _)
      | (with_reducible exact ih2 _ _ _ _ _)
      | (with_reducible exact ih3 _ _ _ _ _)
      | (with_reducible exact impl_ConfigValid.mono _ _ _ _)
      | (with_reducible exact impl_PlaceMembers.mono _ _ _ _)
      | (with_reducible exact laws_alive.mono _)
      | (with_reducible exact laws_hasInt.mono _ _ _)
      | (with_reducible exact laws_sameInts.mono _ _ _)
      | (with_reducible exact spec_DrawPlaceMembers.mono _ _)
      | (with_reducible exact spec_PlaceMembers.mono _ _ _ _)
      | (with_reducible exact LeO.refl _)
      | (with_reducible exact LeO.none _)
      | (with_reducible refine LeO.ite ?_ ?_)
      | (with_reducible refine LeO.bind ?_ (fun _ => ?_))
      | exact ih0 _ _ _ _ _ _
      | exact ih1 _ _ _ _ _
      | exact ih2 _ _ _ _ _
      | exact ih3 _ _ _ _ _
      | exact impl_ConfigValid.mono _ _ _ _
      | exact impl_PlaceMembers.mono _ _ _ _
      | exact laws_alive.mono _
      | exact laws_hasInt.mono _ _ _
      | exact laws_sameInts.mono _ _ _
      | exact spec_DrawPlaceMembers.mono _ _
      | exact spec_PlaceMembers.mono _ _ _ _
      | exact LeO.none _
      | refine LeO.ite ?_ ?_
      | refine LeO.bind ?_ (fun _ => ?_)
    · intro y0 y1 y2 y3 y4
      unfold laws_FnPlaceMembers.l1
      repeat' first
      | (with_reducible exact ih0 _ _ _ _ _ _)
      | (with_reducible exact ih1 _ _ _ _ _)
      | (with_reducible exact ih2 _ _ _ _ _)
      | (with_reducible exact ih3 _ _ _ _ _)
      | (with_reducible exact impl_ConfigValid.mono _ _ _ _)
      | (with_reducible exact impl_PlaceMembers.mono _ _ _ _)
      | (with_reducible exact laws_alive.mono _)
      | (with_reducible exact laws_hasInt.mono _ _ _)
      | (with_reducible exact laws_sameInts.mono _ _ _)
      | (with_reducible exact spec_DrawPlaceMembers.mono _ _)
      | (with_reducible exact spec_PlaceMembers.mono _ _ _ _)
      | (with_reducible exact LeO.refl _)
      | (with_reducible exact LeO.none _)
      | (with_reducible refine LeO.ite ?_ ?_)
      | (with_reducible refine LeO.bind ?_ (fun _ => ?_))
      | exact ih0 _ _ _ _ _ _
      | exact ih1 _ _ _ _ _
      | exact ih2 _ _ _ _ _
      | exact ih3 _ _ _ _ _
      | exact impl_ConfigValid.mono _ _ _ _
      | exact impl_PlaceMembers.mono _ _ _ _
      | exact laws_alive.mono _
      | exact laws_hasInt.mono _ _ _
      | exact laws_sameInts.mono _ _ _
      | exact spec_DrawPlaceMembers.mono _ _
      | exact spec_PlaceMembers.mono _ _ _ _
      | exact LeO.none _
      | refine LeO.ite ?_ ?_
      | refine LeO.bind ?_ (fun _ => ?_)
theorem laws_FnPlaceMembers.mono : ∀ a0 k, LeO (laws_FnPlaceMembers.f k a0) (laws_FnPlaceMembers.f (k + 1) a0) := by
  intro a0 k
  obtain ⟨ih0, ih1, ih2, ih3⟩ := laws_FnPlaceMembers.mono_l k
  unfold laws_FnPlaceMembers.f
  repeat' first
      | (with_reducible exact ih0 _ _ _ _ _ _)
      | (with_reducible exact ih1 _ _ _ _ _)
      | (with_reducible exact ih2 _ _ _ _ _)
      | (with_reducible exact ih3 _ _ _ _ _)
      | (with_reducible exact impl_ConfigValid.mono _ _ _ _)
      | (with_reducible exact impl_PlaceMembers.mono _ _ _ _)
      | (with_reducible exact laws_alive.mono _)
      | (with_reducible exact laws_hasInt.mono _ _ _)
      | (with_reducible exact laws_sameInts.mono _ _ _)
      | (with_reducible exact spec_DrawPlaceMembers.mono _ _)
      | (with_reducible exact spec_PlaceMembers.mono _ _ _ _)
      | (with_reducible exact LeO.refl _)
      | (with_reducible exact LeO.none _)
      | (with_reducible refine LeO.ite ?_ ?_)
      | (with_reducible refine LeO.bind ?_ (fun _ => ?_))
      | exact ih0 _ _ _ _ _ _
      | exact ih1 _ _ _ _ _
      | exact ih2 _ _ _ _ _
      | exact ih3 _ _ _ _ _
      | exact impl_ConfigValid.mono _ _ _ _
      | exact impl_PlaceMembers.mono _ _ _ _
      | exact laws_alive.mono _
      | exact laws_hasInt.mono _ _ _
      | exact laws_sameInts.mono _ _ _
      | exact spec_DrawPlaceMembers.mono _ _
      | exact spec_PlaceMembers.mono _ _ _ _
      | exact LeO.none _
      | refine LeO.ite ?_ ?_
      | refine LeO.bind ?_ (fun _ => ?_)
set_option maxHeartbeats 8000000 in
set_option maxRecDepth 100000 in
theorem laws_FnPlaceMembers.calls (k : Nat) (A0 : Option Addr) (c0 : Nat) (l0 : List Int) (r : Bool) (w : World) (hr0 : Kd.C (Kd.int .u8) w A0 l0.length l0) (hc0 : l0.length ≤ c0) (h : laws_FnPlaceMembers.f k l0 = some r) :
    Calls Try.prog 4 #[.slice A0 l0.length c0] w fun e w' => e = .returned (.bool r) ∧ Below w.heap.size w w' := by
  have hu40 := Try.underlying40
  have HR0 := Aside0.mk hr0
  have HC0 := Aside0.mk hc0
  clear hr0 hc0
  have HB := Aside0.mk (Below.refl w.heap.size w)
  have H : (if (l0.length : Int) > 1048576 then (some true) else ((spec_DrawPlaceMembers.f k l0).bind fun bt195 => ((impl_PlaceMembers.f k bt195.1 bt195.2.1 bt195.2.2).bind fun bt202 => ((spec_PlaceMembers.f k bt195.1 bt195.2.1 bt195.2.2).bind fun bt206 => ((laws_sameInts.f k bt202.1 bt206.1).bind fun t210 => (if t210 = true then (laws_FnPlaceMembers.j0 k bt195.1 bt195.2.1 bt195.2.2 bt202.1 bt202.2 (bt202.2 != bt206.2)) else (laws_FnPlaceMembers.j0 k bt195.1 bt195.2.1 bt195.2.2 bt202.1 bt202.2 true))))))) = some r := h
  clear h
  by_cases c2 : (l0.length : Int) > 1048576
  · rw [if_pos c2] at H
    have c2b0 : decide (1048576 < (l0.length : Int)) = true := decide_eq_true c2
    have c2b1 : decide (1048576 < l0.length) = true := decide_eq_true (by omega)
    clear c2
    obtain rfl := Option.some.inj H
    go_enter Try.func4, Try.ntmps4
    go_wp2
    repeat (go_quiet (fail); try go_wp2)
    go_ret
    exact ⟨by first | rfl | (simp [errW_none, errW_some] <;> rfl) | (simp [*, errW_none, errW_some] <;> rfl) | (simp only [u8_w, wr_u8]; first | rfl | (simp [errW_none, errW_some] <;> rfl)), by repeat (first | (with_reducible first | exact HB.out | apply below_alloc | apply pw_below_drewN | apply below_drew1) | exact HB.out)⟩
  · rw [if_neg c2] at H
    have c2b0 : decide (1048576 < (l0.length : Int)) = false := decide_eq_false c2
    have c2b1 : decide (1048576 < l0.length) = false := decide_eq_false (by omega)
    clear c2
    replace H := Option.bind_eq_some_iff.mp H
    obtain ⟨⟨t195, t196, t197⟩, A30, H⟩ := H
    replace H : ((impl_PlaceMembers.f k t195 t196 t197).bind fun bt202 => ((spec_PlaceMembers.f k t195 t196 t197).bind fun bt206 => ((laws_sameInts.f k bt202.1 bt206.1).bind fun t210 => (if t210 = true then (laws_FnPlaceMembers.j0 k t195 t196 t197 bt202.1 bt202.2 (bt202.2 != bt206.2)) else (laws_FnPlaceMembers.j0 k t195 t196 t197 bt202.1 bt202.2 true))))) = some r := H
    have A3 := Aside0.mk A30
    clear A30
    replace H := Option.bind_eq_some_iff.mp H
    obtain ⟨⟨t202, t203⟩, A40, H⟩ := H
    replace H : ((spec_PlaceMembers.f k t195 t196 t197).bind fun bt206 => ((laws_sameInts.f k t202 bt206.1).bind fun t210 => (if t210 = true then (laws_FnPlaceMembers.j0 k t195 t196 t197 t202 t203 (t203 != bt206.2)) else (laws_FnPlaceMembers.j0 k t195 t196 t197 t202 t203 true)))) = some r := H
    have A4 := Aside0.mk A40
    clear A40
    replace H := Option.bind_eq_some_iff.mp H
    obtain ⟨⟨t206, t207⟩, A50, H⟩ := H
    replace H : ((laws_sameInts.f k t202 t206).bind fun t210 => (if t210 = true then (laws_FnPlaceMembers.j0 k t195 t196 t197 t202 t203 (t203 != t207)) else (laws_FnPlaceMembers.j0 k t195 t196 t197 t202 t203 true))) = some r := H
    have A5 := Aside0.mk A50
    clear A50
    have HC6 := Aside0.mk H
    clear H
    go_enter Try.func4, Try.ntmps4
    go_upto_region 6 with (first | (go_at_call 22; (with_reducible refine (spec_DrawPlaceMembers.calls k _ _ l0 t195 t196 t197 _ ?side1 ?side2 A3.out).mono ?_); (case side1 => repeat (first | exact HR0.out | (with_reducible refine Kd.C_alloc ?_ _) | (with_reducible refine Kd.C_drewN ?_ _) | (with_reducible refine Kd.C_drew ?_))); (case side2 => exact HC0.out); rintro e w7 ⟨v198, v200, rfl, ho0, ho1, hb⟩; have n0_ := Aside0.mk (Kd.Q_lower ho0 (below_size (by repeat (first | (with_reducible first | exact HB.out | apply below_alloc | apply pw_below_drewN | apply below_drew1) | exact HB.out)))); have n1_ := Aside0.mk (Kd.Q_lower ho1 (below_size (by repeat (first | (with_reducible first | exact HB.out | apply below_alloc | apply pw_below_drewN | apply below_drew1) | exact HB.out)))); have n2_ := Aside0.mk (below_step (by repeat (first | (with_reducible first | exact HB.out | apply below_alloc | apply pw_below_drewN | apply below_drew1) | exact HB.out)) hb); clear HB; have HO199 := n0_; have HO201 := n1_; have HB := n2_; clear n0_ n1_ n2_; (try clear hb); (try clear hb2); (try clear hk); (try clear hi); (try clear ho0); (try clear ho1); obtain ⟨Ao8, co8, eo8, _⟩ := Kd.Q_slice HO199.out; subst eo8; obtain ⟨Ao9, co9, eo9, _⟩ := Kd.Q_slice HO201.out; subst eo9) | (go_at_call 23; (with_reducible refine (impl_PlaceMembers.calls k _ _ t195 _ _ t196 t197 t202 t203 _ ?side1 ?side2 ?side3 ?side4 A4.out).mono ?_); (case side1 => repeat (first | exact (Kd.Q_reads' HO199.out).2.2 | (with_reducible refine Kd.C_alloc ?_ _) | (with_reducible refine Kd.C_drewN ?_ _) | (with_reducible refine Kd.C_drew ?_))); (case side2 => exact (Kd.Q_reads' HO199.out).2.1); (case side3 => repeat (first | exact (Kd.Q_reads' HO201.out).2.2 | (with_reducible refine Kd.C_alloc ?_ _) | (with_reducible refine Kd.C_drewN ?_ _) | (with_reducible refine Kd.C_drew ?_))); (case side4 => exact (Kd.Q_reads' HO201.out).2.1); rintro e w10 ⟨v204, rfl, ho0, hb⟩; have n0_ := Aside0.mk (Kd.Q_elder' (by (with_reducible repeat (first | apply Kd.Q_alloc | apply Kd.Q_drewN | apply Kd.Q_drew)); exact HO199.out) (Kd.R_base ho0) hb); have n1_ := Aside0.mk (Kd.Q_below (by (with_reducible repeat (first | apply Kd.Q_alloc | apply Kd.Q_drewN | apply Kd.Q_drew)); exact HO201.out) hb); have n2_ := Aside0.mk (Kd.R_lower (Kd.R_new' ho0 (Kd.Q_lt (by (with_reducible repeat (first | apply Kd.Q_alloc | apply Kd.Q_drewN | apply Kd.Q_drew)); exact HO199.out))) (below_size (by repeat (first | (with_reducible first | exact HB.out | apply below_alloc | apply pw_below_drewN | apply below_drew1) | exact HB.out)))); have n3_ := Aside0.mk (below_step (by repeat (first | (with_reducible first | exact HB.out | apply below_alloc | apply pw_below_drewN | apply below_drew1) | exact HB.out)) hb); clear HO199; clear HO201; clear HB; have HO199 := n0_; have HO201 := n1_; have HO205 := n2_; have HB := n3_; clear n0_ n1_ n2_ n3_; (try clear hb); (try clear hb2); (try clear hk); (try clear hi); (try clear ho0)) | (go_at_call 24; (with_reducible refine (spec_PlaceMembers.calls k _ _ t195 _ _ t196 t197 t206 t207 _ ?side1 ?side2 ?side3 ?side4 A5.out).mono ?_); (case side1 => repeat (first | exact (Kd.Q_reads' HO199.out).2.2 | (with_reducible refine Kd.C_alloc ?_ _) | (with_reducible refine Kd.C_drewN ?_ _) | (with_reducible refine Kd.C_drew ?_))); (case side2 => exact (Kd.Q_reads' HO199.out).2.1); (case side3 => repeat (first | exact (Kd.Q_reads' HO201.out).2.2 | (with_reducible refine Kd.C_alloc ?_ _) | (with_reducible refine Kd.C_drewN ?_ _) | (with_reducible refine Kd.C_drew ?_))); (case side4 => exact (Kd.Q_reads' HO201.out).2.1); rintro e w11 ⟨v208, rfl, ho0, hb⟩; have n0_ := Aside0.mk (Kd.Q_elder' (by (with_reducible repeat (first | apply Kd.Q_alloc | apply Kd.Q_drewN | apply Kd.Q_drew)); exact HO199.out) (Kd.R_base ho0) hb); have n1_ := Aside0.mk (Kd.Q_below (by (with_reducible repeat (first | apply Kd.Q_alloc | apply Kd.Q_drewN | apply Kd.Q_drew)); exact HO201.out) hb); have n2_ := Aside0.mk (Kd.R_elder' (by (with_reducible repeat (first | apply Kd.R_alloc | apply Kd.R_drewN | apply Kd.R_drew)); exact HO205.out) (Kd.R_base ho0) hb); have n3_ := Aside0.mk (Kd.R_lower (Kd.R_new' (Kd.R_new' ho0 (Kd.Q_lt (by (with_reducible repeat (first | apply Kd.Q_alloc | apply Kd.Q_drewN | apply Kd.Q_drew)); exact HO199.out))) (Kd.R_lt (by (with_reducible repeat (first | apply Kd.R_alloc | apply Kd.R_drewN | apply Kd.R_drew)); exact HO205.out))) (below_size (by repeat (first | (with_reducible first | exact HB.out | apply below_alloc | apply pw_below_drewN | apply below_drew1) | exact HB.out)))); have n4_ := Aside0.mk (below_step (by repeat (first | (with_reducible first | exact HB.out | apply below_alloc | apply pw_below_drewN | apply below_drew1) | exact HB.out)) hb); clear HO199; clear HO201; clear HO205; clear HB; have HO199 := n0_; have HO201 := n1_; have HO205 := n2_; have HO209 := n3_; have HB := n4_; clear n0_ n1_ n2_ n3_ n4_; (try clear hb); (try clear hb2); (try clear hk); (try clear hi); (try clear ho0)))
    repeat (go_quiet (first | (go_at_call 22; (with_reducible refine (spec_DrawPlaceMembers.calls k _ _ l0 t195 t196 t197 _ ?side1 ?side2 A3.out).mono ?_); (case side1 => repeat (first | exact HR0.out | (with_reducible refine Kd.C_alloc ?_ _) | (with_reducible refine Kd.C_drewN ?_ _) | (with_reducible refine Kd.C_drew ?_))); (case side2 => exact HC0.out); rintro e w7 ⟨v198, v200, rfl, ho0, ho1, hb⟩; have n0_ := Aside0.mk (Kd.Q_lower ho0 (below_size (by repeat (first | (with_reducible first | exact HB.out | apply below_alloc | apply pw_below_drewN | apply below_drew1) | exact HB.out)))); have n1_ := Aside0.mk (Kd.Q_lower ho1 (below_size (by repeat (first | (with_reducible first | exact HB.out | apply below_alloc | apply pw_below_drewN | apply below_drew1) | exact HB.out)))); have n2_ := Aside0.mk (below_step (by repeat (first | (with_reducible first | exact HB.out | apply below_alloc | apply pw_below_drewN | apply below_drew1) | exact HB.out)) hb); clear HB; have HO199 := n0_; have HO201 := n1_; have HB := n2_; clear n0_ n1_ n2_; (try clear hb); (try clear hb2); (try clear hk); (try clear hi); (try clear ho0); (try clear ho1); obtain ⟨Ao8, co8, eo8, _⟩ := Kd.Q_slice HO199.out; subst eo8; obtain ⟨Ao9, co9, eo9, _⟩ := Kd.Q_slice HO201.out; subst eo9) | (go_at_call 23; (with_reducible refine (impl_PlaceMembers.calls k _ _ t195 _ _ t196 t197 t202 t203 _ ?side1 ?side2 ?side3 ?side4 A4.out).mono ?_); (case side1 => repeat (first | exact (Kd.Q_reads' HO199.out).2.2 | (with_reducible refine Kd.C_alloc ?_ _) | (with_reducible refine Kd.C_drewN ?_ _) | (with_reducible refine Kd.C_drew ?_))); (case side2 => exact (Kd.Q_reads' HO199.out).2.1); (case side3 => repeat (first | exact (Kd.Q_reads' HO201.out).2.2 | (with_reducible refine Kd.C_alloc ?_ _) | (with_reducible refine Kd.C_drewN ?_ _) | (with_reducible refine Kd.C_drew ?_))); (case side4 => exact (Kd.Q_reads' HO201.out).2.1); rintro e w10 ⟨v204, rfl, ho0, hb⟩; have n0_ := Aside0.mk (Kd.Q_elder' (by (with_reducible repeat (first | apply Kd.Q_alloc | apply Kd.Q_drewN | apply Kd.Q_drew)); exact HO199.out) (Kd.R_base ho0) hb); have n1_ := Aside0.mk (Kd.Q_below (by (with_reducible repeat (first | apply Kd.Q_alloc | apply Kd.Q_drewN | apply Kd.Q_drew)); exact HO201.out) hb); have n2_ := Aside0.mk (Kd.R_lower (Kd.R_new' ho0 (Kd.Q_lt (by (with_reducible repeat (first | apply Kd.Q_alloc | apply Kd.Q_drewN | apply Kd.Q_drew)); exact HO199.out))) (below_size (by repeat (first | (with_reducible first | exact HB.out | apply below_alloc | apply pw_below_drewN | apply below_drew1) | exact HB.out)))); have n3_ := Aside0.mk (below_step (by repeat (first | (with_reducible first | exact HB.out | apply below_alloc | apply pw_below_drewN | apply below_drew1) | exact HB.out)) hb); clear HO199; clear HO201; clear HB; have HO199 := n0_; have HO201 := n1_; have HO205 := n2_; have HB := n3_; clear n0_ n1_ n2_ n3_; (try clear hb); (try clear hb2); (try clear hk); (try clear hi); (try clear ho0)) | (go_at_call 24; (with_reducible refine (spec_PlaceMembers.calls k _ _ t195 _ _ t196 t197 t206 t207 _ ?side1 ?side2 ?side3 ?side4 A5.out).mono ?_); (case side1 => repeat (first | exact (Kd.Q_reads' HO199.out).2.2 | (with_reducible refine Kd.C_alloc ?_ _) | (with_reducible refine Kd.C_drewN ?_ _) | (with_reducible refine Kd.C_drew ?_))); (case side2 => exact (Kd.Q_reads' HO199.out).2.1); (case side3 => repeat (first | exact (Kd.Q_reads' HO201.out).2.2 | (with_reducible refine Kd.C_alloc ?_ _) | (with_reducible refine Kd.C_drewN ?_ _) | (with_reducible refine Kd.C_drew ?_))); (case side4 => exact (Kd.Q_reads' HO201.out).2.1); rintro e w11 ⟨v208, rfl, ho0, hb⟩; have n0_ := Aside0.mk (Kd.Q_elder' (by (with_reducible repeat (first | apply Kd.Q_alloc | apply Kd.Q_drewN | apply Kd.Q_drew)); exact HO199.out) (Kd.R_base ho0) hb); have n1_ := Aside0.mk (Kd.Q_below (by (with_reducible repeat (first | apply Kd.Q_alloc | apply Kd.Q_drewN | apply Kd.Q_drew)); exact HO201.out) hb); have n2_ := Aside0.mk (Kd.R_elder' (by (with_reducible repeat (first | apply Kd.R_alloc | apply Kd.R_drewN | apply Kd.R_drew)); exact HO205.out) (Kd.R_base ho0) hb); have n3_ := Aside0.mk (Kd.R_lower (Kd.R_new' (Kd.R_new' ho0 (Kd.Q_lt (by (with_reducible repeat (first | apply Kd.Q_alloc | apply Kd.Q_drewN | apply Kd.Q_drew)); exact HO199.out))) (Kd.R_lt (by (with_reducible repeat (first | apply Kd.R_alloc | apply Kd.R_drewN | apply Kd.R_drew)); exact HO205.out))) (below_size (by repeat (first | (with_reducible first | exact HB.out | apply below_alloc | apply pw_below_drewN | apply below_drew1) | exact HB.out)))); have n4_ := Aside0.mk (below_step (by repeat (first | (with_reducible first | exact HB.out | apply below_alloc | apply pw_below_drewN | apply below_drew1) | exact HB.out)) hb); clear HO199; clear HO201; clear HO205; clear HB; have HO199 := n0_; have HO201 := n1_; have HO205 := n2_; have HO209 := n3_; have HB := n4_; clear n0_ n1_ n2_ n3_ n4_; (try clear hb); (try clear hb2); (try clear hk); (try clear hi); (try clear ho0))); go_upto_region 6 with (first | (go_at_call 22; (with_reducible refine (spec_DrawPlaceMembers.calls k _ _ l0 t195 t196 t197 _ ?side1 ?side2 A3.out).mono ?_); (case side1 => repeat (first | exact HR0.out | (with_reducible refine Kd.C_alloc ?_ _) | (with_reducible refine Kd.C_drewN ?_ _) | (with_reducible refine Kd.C_drew ?_))); (case side2 => exact HC0.out); rintro e w7 ⟨v198, v200, rfl, ho0, ho1, hb⟩; have n0_ := Aside0.mk (Kd.Q_lower ho0 (below_size (by repeat (first | (with_reducible first | exact HB.out | apply below_alloc | apply pw_below_drewN | apply below_drew1) | exact HB.out)))); have n1_ := Aside0.mk (Kd.Q_lower ho1 (below_size (by repeat (first | (with_reducible first | exact HB.out | apply below_alloc | apply pw_below_drewN | apply below_drew1) | exact HB.out)))); have n2_ := Aside0.mk (below_step (by repeat (first | (with_reducible first | exact HB.out | apply below_alloc | apply pw_below_drewN | apply below_drew1) | exact HB.out)) hb); clear HB; have HO199 := n0_; have HO201 := n1_; have HB := n2_; clear n0_ n1_ n2_; (try clear hb); (try clear hb2); (try clear hk); (try clear hi); (try clear ho0); (try clear ho1); obtain ⟨Ao8, co8, eo8, _⟩ := Kd.Q_slice HO199.out; subst eo8; obtain ⟨Ao9, co9, eo9, _⟩ := Kd.Q_slice HO201.out; subst eo9) | (go_at_call 23; (with_reducible refine (impl_PlaceMembers.calls k _ _ t195 _ _ t196 t197 t202 t203 _ ?side1 ?side2 ?side3 ?side4 A4.out).mono ?_); (case side1 => repeat (first | exact (Kd.Q_reads' HO199.out).2.2 | (with_reducible refine Kd.C_alloc ?_ _) | (with_reducible refine Kd.C_drewN ?_ _) | (with_reducible refine Kd.C_drew ?_))); (case side2 => exact (Kd.Q_reads' HO199.out).2.1); (case side3 => repeat (first | exact (Kd.Q_reads' HO201.out).2.2 | (with_reducible refine Kd.C_alloc ?_ _) | (with_reducible refine Kd.C_drewN ?_ _) | (with_reducible refine Kd.C_drew ?_))); (case side4 => exact (Kd.Q_reads' HO201.out).2.1); rintro e w10 ⟨v204, rfl, ho0, hb⟩; have n0_ := Aside0.mk (Kd.Q_elder' (by (with_reducible repeat (first | apply Kd.Q_alloc | apply Kd.Q_drewN | apply Kd.Q_drew)); exact HO199.out) (Kd.R_base ho0) hb); have n1_ := Aside0.mk (Kd.Q_below (by (with_reducible repeat (first | apply Kd.Q_alloc | apply Kd.Q_drewN | apply Kd.Q_drew)); exact HO201.out) hb); have n2_ := Aside0.mk (Kd.R_lower (Kd.R_new' ho0 (Kd.Q_lt (by (with_reducible repeat (first | apply Kd.Q_alloc | apply Kd.Q_drewN | apply Kd.Q_drew)); exact HO199.out))) (below_size (by repeat (first | (with_reducible first | exact HB.out | apply below_alloc | apply pw_below_drewN | apply below_drew1) | exact HB.out)))); have n3_ := Aside0.mk (below_step (by repeat (first | (with_reducible first | exact HB.out | apply below_alloc | apply pw_below_drewN | apply below_drew1) | exact HB.out)) hb); clear HO199; clear HO201; clear HB; have HO199 := n0_; have HO201 := n1_; have HO205 := n2_; have HB := n3_; clear n0_ n1_ n2_ n3_; (try clear hb); (try clear hb2); (try clear hk); (try clear hi); (try clear ho0)) | (go_at_call 24; (with_reducible refine (spec_PlaceMembers.calls k _ _ t195 _ _ t196 t197 t206 t207 _ ?side1 ?side2 ?side3 ?side4 A5.out).mono ?_); (case side1 => repeat (first | exact (Kd.Q_reads' HO199.out).2.2 | (with_reducible refine Kd.C_alloc ?_ _) | (with_reducible refine Kd.C_drewN ?_ _) | (with_reducible refine Kd.C_drew ?_))); (case side2 => exact (Kd.Q_reads' HO199.out).2.1); (case side3 => repeat (first | exact (Kd.Q_reads' HO201.out).2.2 | (with_reducible refine Kd.C_alloc ?_ _) | (with_reducible refine Kd.C_drewN ?_ _) | (with_reducible refine Kd.C_drew ?_))); (case side4 => exact (Kd.Q_reads' HO201.out).2.1); rintro e w11 ⟨v208, rfl, ho0, hb⟩; have n0_ := Aside0.mk (Kd.Q_elder' (by (with_reducible repeat (first | apply Kd.Q_alloc | apply Kd.Q_drewN | apply Kd.Q_drew)); exact HO199.out) (Kd.R_base ho0) hb); have n1_ := Aside0.mk (Kd.Q_below (by (with_reducible repeat (first | apply Kd.Q_alloc | apply Kd.Q_drewN | apply Kd.Q_drew)); exact HO201.out) hb); have n2_ := Aside0.mk (Kd.R_elder' (by (with_reducible repeat (first | apply Kd.R_alloc | apply Kd.R_drewN | apply Kd.R_drew)); exact HO205.out) (Kd.R_base ho0) hb); have n3_ := Aside0.mk (Kd.R_lower (Kd.R_new' (Kd.R_new' ho0 (Kd.Q_lt (by (with_reducible repeat (first | apply Kd.Q_alloc | apply Kd.Q_drewN | apply Kd.Q_drew)); exact HO199.out))) (Kd.R_lt (by (with_reducible repeat (first | apply Kd.R_alloc | apply Kd.R_drewN | apply Kd.R_drew)); exact HO205.out))) (below_size (by repeat (first | (with_reducible first | exact HB.out | apply below_alloc | apply pw_below_drewN | apply below_drew1) | exact HB.out)))); have n4_ := Aside0.mk (below_step (by repeat (first | (with_reducible first | exact HB.out | apply below_alloc | apply pw_below_drewN | apply below_drew1) | exact HB.out)) hb); clear HO199; clear HO201; clear HO205; clear HB; have HO199 := n0_; have HO201 := n1_; have HO205 := n2_; have HO209 := n3_; have HB := n4_; clear n0_ n1_ n2_ n3_ n4_; (try clear hb); (try clear hb2); (try clear hk); (try clear hi); (try clear ho0))))
    (try simp only [Act.put, List.setIfInBounds_toArray, List.set_cons_zero, List.set_cons_succ])
    go_cut [43] (fun v43 wc => ∃ (kq : Nat) (x43_5 : Bool), v43 = .bool x43_5 ∧ Aside0 (laws_FnPlaceMembers.j0 kq t195 t196 t197 t202 t203 x43_5 = some r) ∧ Aside0 (kq ≤ k) ∧ Aside0 (Kd.Q (Kd.int .i64) 3 wc w.heap.size (fun k_ => some k_ ≠ (v204 : Value).ownBlock) (.slice Ao8 t195.length co8) t195) ∧ Aside0 (Kd.Q Kd.bool 4 wc w.heap.size (fun _ => True) (.slice Ao9 t196.length co9) t196) ∧ Aside0 (Kd.R (Kd.int .i64) 3 wc w.heap.size (fun k_ => some k_ ≠ ((.slice Ao8 t195.length co8) : Value).ownBlock) v204 t202) ∧ Aside0 (Below w.heap.size w wc))
    case first =>
      have H := HC6.out
      clear HC6
      replace H := Option.bind_eq_some_iff.mp H
      obtain ⟨t210, A120, H⟩ := H
      replace H : (if t210 = true then (laws_FnPlaceMembers.j0 k t195 t196 t197 t202 t203 (t203 != t207)) else (laws_FnPlaceMembers.j0 k t195 t196 t197 t202 t203 true)) = some r := H
      have A12 := Aside0.mk A120
      clear A120
      by_cases c13 : t210 = true
      · subst c13
        have H1 : (laws_FnPlaceMembers.j0 k t195 t196 t197 t202 t203 (t203 != t207)) = some r := by rw [if_pos rfl] at H; exact H
        clear H
        have H := H1
        clear H1
        have H' := Aside0.mk H
        clear H
        obtain ⟨Ao14, co14, eo14⟩ := Kd.R_slice HO205.out
        subst eo14
        obtain ⟨Ao15, co15, eo15⟩ := Kd.R_slice HO209.out
        subst eo15
        go_wp2_with (first | (go_at_call 25; (with_reducible refine (laws_sameInts.calls k _ _ t202 _ _ t206 true _ ?side1 ?side2 ?side3 ?side4 A12.out).mono ?_); (case side1 => repeat (first | exact (Kd.R_reads' HO205.out).2.2 | (with_reducible refine Kd.C_alloc ?_ _) | (with_reducible refine Kd.C_drewN ?_ _) | (with_reducible refine Kd.C_drew ?_))); (case side2 => exact (Kd.R_reads' HO205.out).2.1); (case side3 => repeat (first | exact (Kd.R_reads' HO209.out).2.2 | (with_reducible refine Kd.C_alloc ?_ _) | (with_reducible refine Kd.C_drewN ?_ _) | (with_reducible refine Kd.C_drew ?_))); (case side4 => exact (Kd.R_reads' HO209.out).2.1); rintro e w' ⟨rfl, ⟨nd, rfl⟩⟩; (try first | exact ⟨rfl, _, World.drewN_drewN _ _ _⟩ | exact ⟨rfl, _, Eq.trans (World.drewN_drewN _ _ _) (congrArg (World.drewN _) (Nat.add_assoc _ _ _))⟩)))
        repeat (go_quiet (first | (go_at_call 25; (with_reducible refine (laws_sameInts.calls k _ _ t202 _ _ t206 true _ ?side1 ?side2 ?side3 ?side4 A12.out).mono ?_); (case side1 => repeat (first | exact (Kd.R_reads' HO205.out).2.2 | (with_reducible refine Kd.C_alloc ?_ _) | (with_reducible refine Kd.C_drewN ?_ _) | (with_reducible refine Kd.C_drew ?_))); (case side2 => exact (Kd.R_reads' HO205.out).2.1); (case side3 => repeat (first | exact (Kd.R_reads' HO209.out).2.2 | (with_reducible refine Kd.C_alloc ?_ _) | (with_reducible refine Kd.C_drewN ?_ _) | (with_reducible refine Kd.C_drew ?_))); (case side4 => exact (Kd.R_reads' HO209.out).2.1); rintro e w' ⟨rfl, ⟨nd, rfl⟩⟩; (try first | exact ⟨rfl, _, World.drewN_drewN _ _ _⟩ | exact ⟨rfl, _, Eq.trans (World.drewN_drewN _ _ _) (congrArg (World.drewN _) (Nat.add_assoc _ _ _))⟩))); try go_wp2_with (first | (go_at_call 25; (with_reducible refine (laws_sameInts.calls k _ _ t202 _ _ t206 true _ ?side1 ?side2 ?side3 ?side4 A12.out).mono ?_); (case side1 => repeat (first | exact (Kd.R_reads' HO205.out).2.2 | (with_reducible refine Kd.C_alloc ?_ _) | (with_reducible refine Kd.C_drewN ?_ _) | (with_reducible refine Kd.C_drew ?_))); (case side2 => exact (Kd.R_reads' HO205.out).2.1); (case side3 => repeat (first | exact (Kd.R_reads' HO209.out).2.2 | (with_reducible refine Kd.C_alloc ?_ _) | (with_reducible refine Kd.C_drewN ?_ _) | (with_reducible refine Kd.C_drew ?_))); (case side4 => exact (Kd.R_reads' HO209.out).2.1); rintro e w' ⟨rfl, ⟨nd, rfl⟩⟩; (try first | exact ⟨rfl, _, World.drewN_drewN _ _ _⟩ | exact ⟨rfl, _, Eq.trans (World.drewN_drewN _ _ _) (congrArg (World.drewN _) (Nat.add_assoc _ _ _))⟩))))
        go_meet
        case rel => exact ⟨_, ((t203 != t207)), (by first | rfl | (simp; done) | (simp [*]; done)), H', ⟨by first | omega | exact Nat.le_refl _⟩, ⟨by (with_reducible repeat (first | apply Kd.Q_alloc | apply Kd.Q_drewN | apply Kd.Q_drew)); exact Kd.Q_mono HO199.out (fun _ hk => hk.1.2)⟩, ⟨by (with_reducible repeat (first | apply Kd.Q_alloc | apply Kd.Q_drewN | apply Kd.Q_drew)); exact HO201.out⟩, ⟨by (with_reducible repeat (first | apply Kd.R_alloc | apply Kd.R_drewN | apply Kd.R_drew)); exact Kd.R_mono HO205.out (fun _ hk => hk.1.2)⟩, ⟨by repeat (first | (with_reducible first | exact HB.out | apply below_alloc | apply pw_below_drewN | apply below_drew1) | exact HB.out)⟩⟩
      · replace c13 := Bool.eq_false_iff.mpr c13
        subst c13
        have H1 : (laws_FnPlaceMembers.j0 k t195 t196 t197 t202 t203 true) = some r := by rw [if_neg (show ¬ (false = true) by decide)] at H; exact H
        clear H
        have H := H1
        clear H1
        have H' := Aside0.mk H
        clear H
        obtain ⟨Ao16, co16, eo16⟩ := Kd.R_slice HO205.out
        subst eo16
        obtain ⟨Ao17, co17, eo17⟩ := Kd.R_slice HO209.out
        subst eo17
        go_wp2_with (first | (go_at_call 25; (with_reducible refine (laws_sameInts.calls k _ _ t202 _ _ t206 false _ ?side1 ?side2 ?side3 ?side4 A12.out).mono ?_); (case side1 => repeat (first | exact (Kd.R_reads' HO205.out).2.2 | (with_reducible refine Kd.C_alloc ?_ _) | (with_reducible refine Kd.C_drewN ?_ _) | (with_reducible refine Kd.C_drew ?_))); (case side2 => exact (Kd.R_reads' HO205.out).2.1); (case side3 => repeat (first | exact (Kd.R_reads' HO209.out).2.2 | (with_reducible refine Kd.C_alloc ?_ _) | (with_reducible refine Kd.C_drewN ?_ _) | (with_reducible refine Kd.C_drew ?_))); (case side4 => exact (Kd.R_reads' HO209.out).2.1); rintro e w' ⟨rfl, ⟨nd, rfl⟩⟩; (try first | exact ⟨rfl, _, World.drewN_drewN _ _ _⟩ | exact ⟨rfl, _, Eq.trans (World.drewN_drewN _ _ _) (congrArg (World.drewN _) (Nat.add_assoc _ _ _))⟩)))
        repeat (go_quiet (first | (go_at_call 25; (with_reducible refine (laws_sameInts.calls k _ _ t202 _ _ t206 false _ ?side1 ?side2 ?side3 ?side4 A12.out).mono ?_); (case side1 => repeat (first | exact (Kd.R_reads' HO205.out).2.2 | (with_reducible refine Kd.C_alloc ?_ _) | (with_reducible refine Kd.C_drewN ?_ _) | (with_reducible refine Kd.C_drew ?_))); (case side2 => exact (Kd.R_reads' HO205.out).2.1); (case side3 => repeat (first | exact (Kd.R_reads' HO209.out).2.2 | (with_reducible refine Kd.C_alloc ?_ _) | (with_reducible refine Kd.C_drewN ?_ _) | (with_reducible refine Kd.C_drew ?_))); (case side4 => exact (Kd.R_reads' HO209.out).2.1); rintro e w' ⟨rfl, ⟨nd, rfl⟩⟩; (try first | exact ⟨rfl, _, World.drewN_drewN _ _ _⟩ | exact ⟨rfl, _, Eq.trans (World.drewN_drewN _ _ _) (congrArg (World.drewN _) (Nat.add_assoc _ _ _))⟩))); try go_wp2_with (first | (go_at_call 25; (with_reducible refine (laws_sameInts.calls k _ _ t202 _ _ t206 false _ ?side1 ?side2 ?side3 ?side4 A12.out).mono ?_); (case side1 => repeat (first | exact (Kd.R_reads' HO205.out).2.2 | (with_reducible refine Kd.C_alloc ?_ _) | (with_reducible refine Kd.C_drewN ?_ _) | (with_reducible refine Kd.C_drew ?_))); (case side2 => exact (Kd.R_reads' HO205.out).2.1); (case side3 => repeat (first | exact (Kd.R_reads' HO209.out).2.2 | (with_reducible refine Kd.C_alloc ?_ _) | (with_reducible refine Kd.C_drewN ?_ _) | (with_reducible refine Kd.C_drew ?_))); (case side4 => exact (Kd.R_reads' HO209.out).2.1); rintro e w' ⟨rfl, ⟨nd, rfl⟩⟩; (try first | exact ⟨rfl, _, World.drewN_drewN _ _ _⟩ | exact ⟨rfl, _, Eq.trans (World.drewN_drewN _ _ _) (congrArg (World.drewN _) (Nat.add_assoc _ _ _))⟩))))
        go_meet
        case rel => exact ⟨_, (true), (by first | rfl | (simp; done) | (simp [*]; done)), H', ⟨by first | omega | exact Nat.le_refl _⟩, ⟨by (with_reducible repeat (first | apply Kd.Q_alloc | apply Kd.Q_drewN | apply Kd.Q_drew)); exact Kd.Q_mono HO199.out (fun _ hk => hk.1.2)⟩, ⟨by (with_reducible repeat (first | apply Kd.Q_alloc | apply Kd.Q_drewN | apply Kd.Q_drew)); exact HO201.out⟩, ⟨by (with_reducible repeat (first | apply Kd.R_alloc | apply Kd.R_drewN | apply Kd.R_drew)); exact Kd.R_mono HO205.out (fun _ hk => hk.1.2)⟩, ⟨by repeat (first | (with_reducible first | exact HB.out | apply below_alloc | apply pw_below_drewN | apply below_drew1) | exact HB.out)⟩⟩
    case rest =>
      clear HC6
      try clear c1
      try clear c2
      try clear c2b0
      try clear c2b1
      try clear p2
      try clear c4
      try clear c13
      obtain ⟨kq, x43_5, rfl, HA, HJ5, HO_3, HO_4, HO_6, HB⟩ := hcut
      cases kq with
      | zero => exact absurd HA.out (by simp [laws_FnPlaceMembers.j0])
      | succ kj5 =>
        have H := HA.out
        clear HA
        simp only [laws_FnPlaceMembers.j0] at H
        by_cases c18 : x43_5 = true
        · subst c18
          have H1 : (some false) = some r := by rw [if_pos rfl] at H; exact H
          clear H
          have H := H1
          clear H1
          obtain rfl := Option.some.inj H
          go_wp2
          repeat (go_quiet (fail); try go_wp2)
          go_ret
          exact ⟨by first | rfl | (simp [errW_none, errW_some] <;> rfl) | (simp [*, errW_none, errW_some] <;> rfl) | (simp only [u8_w, wr_u8]; first | rfl | (simp [errW_none, errW_some] <;> rfl)), by repeat (first | (with_reducible first | exact HB.out | apply below_alloc | apply pw_below_drewN | apply below_drew1) | exact HB.out)⟩
        · replace c18 := Bool.eq_false_iff.mpr c18
          subst c18
          have H1 : (if t203 = true then (if (t202.length : Int) = t197 then ((impl_ConfigValid.f kj5 1 t202 false).bind fun t212 => (laws_FnPlaceMembers.j1 kj5 t195 t196 t197 t202 (!t212))) else (laws_FnPlaceMembers.j1 kj5 t195 t196 t197 t202 true)) else (if (t202.length : Int) = 0 then ((laws_alive.f kj5).bind fun t211 => (some t211)) else (some false))) = some r := by rw [if_neg (show ¬ (false = true) by decide)] at H; exact H
          clear H
          have H := H1
          clear H1
          by_cases c19 : t203 = true
          · subst c19
            have H1 : (if (t202.length : Int) = t197 then ((impl_ConfigValid.f kj5 1 t202 false).bind fun t212 => (laws_FnPlaceMembers.j1 kj5 t195 t196 t197 t202 (!t212))) else (laws_FnPlaceMembers.j1 kj5 t195 t196 t197 t202 true)) = some r := by rw [if_pos rfl] at H; exact H
            clear H
            have H := H1
            clear H1
            have HC20 := Aside0.mk H
            clear H
            go_upto_region 10 with (fail)
            repeat (go_quiet (fail); go_upto_region 10 with (fail))
            go_cut [61] (fun v61 wc => ∃ (kq : Nat) (x61_19 : Bool), v61 = .bool x61_19 ∧ Aside0 (laws_FnPlaceMembers.j1 kq t195 t196 t197 t202 x61_19 = some r) ∧ Aside0 (kq ≤ kj5) ∧ Aside0 (Kd.Q (Kd.int .i64) 3 wc w.heap.size (fun k_ => some k_ ≠ (v204 : Value).ownBlock) (.slice Ao8 t195.length co8) t195) ∧ Aside0 (Kd.Q Kd.bool 4 wc w.heap.size (fun _ => True) (.slice Ao9 t196.length co9) t196) ∧ Aside0 (Kd.R (Kd.int .i64) 3 wc w.heap.size (fun k_ => some k_ ≠ ((.slice Ao8 t195.length co8) : Value).ownBlock) v204 t202) ∧ Aside0 (Below w.heap.size w wc))
            case first =>
              have H := HC20.out
              clear HC20
              by_cases c21 : (t202.length : Int) = t197
              · rw [if_pos c21] at H
                have c21b0 : ((t202.length : Int) == t197) = true := beq_iff_eq.mpr c21
                have c21b1 : ((t202.length : Int) != t197) = false := bne_eq_false_iff_eq.mpr c21
                clear c21
                (first | rw [c21b0] | (simp only [i64_w, i32_w]; rw [c21b0]) | skip)
                replace H := Option.bind_eq_some_iff.mp H
                obtain ⟨t212, A220, H⟩ := H
                replace H : (laws_FnPlaceMembers.j1 kj5 t195 t196 t197 t202 (!t212)) = some r := H
                have A22 := Aside0.mk A220
                clear A220
                have H' := Aside0.mk H
                clear H
                obtain ⟨Ao23, co23, eo23⟩ := Kd.R_slice HO_6.out
                subst eo23
                go_wp2_with (first | (go_at_call 26; (with_reducible refine (impl_ConfigValid.calls kj5 1 _ _ t202 false t212 _ ?side1 ?side2 A22.out).mono ?_); (case side1 => repeat (first | exact (Kd.R_reads' HO_6.out).2.2 | (with_reducible refine Kd.C_alloc ?_ _) | (with_reducible refine Kd.C_drewN ?_ _) | (with_reducible refine Kd.C_drew ?_))); (case side2 => exact (Kd.R_reads' HO_6.out).2.1); rintro e w24 ⟨rfl, hb⟩; have n0_ := Aside0.mk (Kd.Q_below (by (with_reducible repeat (first | apply Kd.Q_alloc | apply Kd.Q_drewN | apply Kd.Q_drew)); exact HO_3.out) hb); have n1_ := Aside0.mk (Kd.Q_below (by (with_reducible repeat (first | apply Kd.Q_alloc | apply Kd.Q_drewN | apply Kd.Q_drew)); exact HO_4.out) hb); have n2_ := Aside0.mk (Kd.R_below (by (with_reducible repeat (first | apply Kd.R_alloc | apply Kd.R_drewN | apply Kd.R_drew)); exact HO_6.out) hb); have n3_ := Aside0.mk (below_step (by repeat (first | (with_reducible first | exact HB.out | apply below_alloc | apply pw_below_drewN | apply below_drew1) | exact HB.out)) hb); clear HO_3; clear HO_4; clear HO_6; clear HB; have HO_3 := n0_; have HO_4 := n1_; have HO_6 := n2_; have HB := n3_; clear n0_ n1_ n2_ n3_; (try clear hb); (try clear hb2); (try clear hk); (try clear hi)))
                repeat (go_quiet (first | (go_at_call 26; (with_reducible refine (impl_ConfigValid.calls kj5 1 _ _ t202 false t212 _ ?side1 ?side2 A22.out).mono ?_); (case side1 => repeat (first | exact (Kd.R_reads' HO_6.out).2.2 | (with_reducible refine Kd.C_alloc ?_ _) | (with_reducible refine Kd.C_drewN ?_ _) | (with_reducible refine Kd.C_drew ?_))); (case side2 => exact (Kd.R_reads' HO_6.out).2.1); rintro e w24 ⟨rfl, hb⟩; have n0_ := Aside0.mk (Kd.Q_below (by (with_reducible repeat (first | apply Kd.Q_alloc | apply Kd.Q_drewN | apply Kd.Q_drew)); exact HO_3.out) hb); have n1_ := Aside0.mk (Kd.Q_below (by (with_reducible repeat (first | apply Kd.Q_alloc | apply Kd.Q_drewN | apply Kd.Q_drew)); exact HO_4.out) hb); have n2_ := Aside0.mk (Kd.R_below (by (with_reducible repeat (first | apply Kd.R_alloc | apply Kd.R_drewN | apply Kd.R_drew)); exact HO_6.out) hb); have n3_ := Aside0.mk (below_step (by repeat (first | (with_reducible first | exact HB.out | apply below_alloc | apply pw_below_drewN | apply below_drew1) | exact HB.out)) hb); clear HO_3; clear HO_4; clear HO_6; clear HB; have HO_3 := n0_; have HO_4 := n1_; have HO_6 := n2_; have HB := n3_; clear n0_ n1_ n2_ n3_; (try clear hb); (try clear hb2); (try clear hk); (try clear hi))); try go_wp2_with (first | (go_at_call 26; (with_reducible refine (impl_ConfigValid.calls kj5 1 _ _ t202 false t212 _ ?side1 ?side2 A22.out).mono ?_); (case side1 => repeat (first | exact (Kd.R_reads' HO_6.out).2.2 | (with_reducible refine Kd.C_alloc ?_ _) | (with_reducible refine Kd.C_drewN ?_ _) | (with_reducible refine Kd.C_drew ?_))); (case side2 => exact (Kd.R_reads' HO_6.out).2.1); rintro e w24 ⟨rfl, hb⟩; have n0_ := Aside0.mk (Kd.Q_below (by (with_reducible repeat (first | apply Kd.Q_alloc | apply Kd.Q_drewN | apply Kd.Q_drew)); exact HO_3.out) hb); have n1_ := Aside0.mk (Kd.Q_below (by (with_reducible repeat (first | apply Kd.Q_alloc | apply Kd.Q_drewN | apply Kd.Q_drew)); exact HO_4.out) hb); have n2_ := Aside0.mk (Kd.R_below (by (with_reducible repeat (first | apply Kd.R_alloc | apply Kd.R_drewN | apply Kd.R_drew)); exact HO_6.out) hb); have n3_ := Aside0.mk (below_step (by repeat (first | (with_reducible first | exact HB.out | apply below_alloc | apply pw_below_drewN | apply below_drew1) | exact HB.out)) hb); clear HO_3; clear HO_4; clear HO_6; clear HB; have HO_3 := n0_; have HO_4 := n1_; have HO_6 := n2_; have HB := n3_; clear n0_ n1_ n2_ n3_; (try clear hb); (try clear hb2); (try clear hk); (try clear hi))))
                go_meet
                case rel => exact ⟨_, (!t212), (by first | rfl | (simp; done) | (simp [*]; done)), H', ⟨by have := HJ5.out; first | omega | exact Nat.le_refl _⟩, ⟨by (with_reducible repeat (first | apply Kd.Q_alloc | apply Kd.Q_drewN | apply Kd.Q_drew)); exact HO_3.out⟩, ⟨by (with_reducible repeat (first | apply Kd.Q_alloc | apply Kd.Q_drewN | apply Kd.Q_drew)); exact HO_4.out⟩, ⟨by (with_reducible repeat (first | apply Kd.R_alloc | apply Kd.R_drewN | apply Kd.R_drew)); exact HO_6.out⟩, ⟨by repeat (first | (with_reducible first | exact HB.out | apply below_alloc | apply pw_below_drewN | apply below_drew1) | exact HB.out)⟩⟩
              · rw [if_neg c21] at H
                have c21b0 : ((t202.length : Int) == t197) = false := beq_eq_false_iff_ne.mpr c21
                have c21b1 : ((t202.length : Int) != t197) = true := bne_iff_ne.mpr c21
                (first | rw [c21b0] | (simp only [i64_w, i32_w]; rw [c21b0]) | skip)
                have H' := Aside0.mk H
                clear H
                obtain ⟨Ao25, co25, eo25⟩ := Kd.R_slice HO_6.out
                subst eo25
                go_wp2
                repeat (go_quiet (fail); try go_wp2)
                go_meet
                case rel => exact ⟨_, (true), (by first | rfl | (simp; done) | (simp [*]; done)), H', ⟨by have := HJ5.out; first | omega | exact Nat.le_refl _⟩, ⟨by (with_reducible repeat (first | apply Kd.Q_alloc | apply Kd.Q_drewN | apply Kd.Q_drew)); exact HO_3.out⟩, ⟨by (with_reducible repeat (first | apply Kd.Q_alloc | apply Kd.Q_drewN | apply Kd.Q_drew)); exact HO_4.out⟩, ⟨by (with_reducible repeat (first | apply Kd.R_alloc | apply Kd.R_drewN | apply Kd.R_drew)); exact HO_6.out⟩, ⟨by repeat (first | (with_reducible first | exact HB.out | apply below_alloc | apply pw_below_drewN | apply below_drew1) | exact HB.out)⟩⟩
            case rest =>
              clear HC20
              try clear c1
              try clear c2
              try clear c2b0
              try clear c2b1
              try clear p2
              try clear c4
              try clear c13
              try clear c18
              try clear c19
              try clear c21
              try clear c21b0
              try clear c21b1
              try clear p2
              obtain ⟨kq, x61_19, rfl, HA, HJ19, HO_3, HO_4, HO_6, HB⟩ := hcut
              cases kq with
              | zero => exact absurd HA.out (by simp [laws_FnPlaceMembers.j1])
              | succ kj19 =>
                have H := HA.out
                clear HA
                simp only [laws_FnPlaceMembers.j1] at H
                by_cases c26 : x61_19 = true
                · subst c26
                  have H1 : (some false) = some r := by rw [if_pos rfl] at H; exact H
                  clear H
                  have H := H1
                  clear H1
                  obtain rfl := Option.some.inj H
                  go_wp2
                  repeat (go_quiet (fail); try go_wp2)
                  go_ret
                  exact ⟨by first | rfl | (simp [errW_none, errW_some] <;> rfl) | (simp [*, errW_none, errW_some] <;> rfl) | (simp only [u8_w, wr_u8]; first | rfl | (simp [errW_none, errW_some] <;> rfl)), by repeat (first | (with_reducible first | exact HB.out | apply below_alloc | apply pw_below_drewN | apply below_drew1) | exact HB.out)⟩
                · replace c26 := Bool.eq_false_iff.mpr c26
                  subst c26
                  have H1 : (laws_FnPlaceMembers.l0 kj19 t195 t196 t197 t202 0) = some r := by rw [if_neg (show ¬ (false = true) by decide)] at H; exact H
                  clear H
                  have H := H1
                  clear H1
                  have H' := Aside0.mk H
                  clear H
                  go_wp2
                  repeat (go_quiet (fail); try go_wp2)
                  go_loopg [10] kj19 (fun kq v10 w' => ∃ (x10_3 : Int), v10 = .int .i64 x10_3 ∧ Aside0 (laws_FnPlaceMembers.l0 kq t195 t196 t197 t202 x10_3 = some r) ∧ Aside0 (kq ≤ kj19) ∧ Aside0 (Kd.Q (Kd.int .i64) 3 w' w.heap.size (fun k_ => some k_ ≠ (v204 : Value).ownBlock) (.slice Ao8 t195.length co8) t195) ∧ Aside0 (Kd.Q Kd.bool 4 w' w.heap.size (fun _ => True) (.slice Ao9 t196.length co9) t196) ∧ Aside0 (Kd.R (Kd.int .i64) 3 w' w.heap.size (fun k_ => some k_ ≠ ((.slice Ao8 t195.length co8) : Value).ownBlock) v204 t202) ∧ Aside0 (Below w.heap.size w w'))
                  case atStart => exact ⟨(0), (by first | rfl | (simp; done) | (simp [*]; done)), H', ⟨Nat.le_refl _⟩, ⟨by (with_reducible repeat (first | apply Kd.Q_alloc | apply Kd.Q_drewN | apply Kd.Q_drew)); exact HO_3.out⟩, ⟨by (with_reducible repeat (first | apply Kd.Q_alloc | apply Kd.Q_drewN | apply Kd.Q_drew)); exact HO_4.out⟩, ⟨by (with_reducible repeat (first | apply Kd.R_alloc | apply Kd.R_drewN | apply Kd.R_drew)); exact HO_6.out⟩, ⟨by repeat (first | (with_reducible first | exact HB.out | apply below_alloc | apply pw_below_drewN | apply below_drew1) | exact HB.out)⟩⟩
                  case round =>
                    clear H'
                    try clear c1
                    try clear c2
                    try clear c2b0
                    try clear c2b1
                    try clear p2
                    try clear c4
                    try clear c13
                    try clear c18
                    try clear c19
                    try clear c21
                    try clear c21b0
                    try clear c21b1
                    try clear c26
                    try clear p2
                    obtain ⟨x10_3, rfl, HA, HK3, HO_3, HO_4, HO_6, HB⟩ := hrel
                    cases gk with
                    | zero => exact absurd HA.out (by simp [laws_FnPlaceMembers.l0])
                    | succ k3 =>
                      have H := HA.out
                      clear HA
                      simp only [laws_FnPlaceMembers.l0] at H
                      by_cases c27 : x10_3 < (t202.length : Int)
                      · rw [if_pos c27] at H
                        have c27b0 : decide (x10_3 < (t202.length : Int)) = true := decide_eq_true c27
                        clear c27
                        by_cases c28 : 0 ≤ x10_3
                        · rw [if_pos c28] at H
                          have c28b0 : decide (0 ≤ x10_3) = true := decide_eq_true c28
                          clear c28
                          by_cases c29 : 0 ≤ (rd t202 x10_3)
                          · rw [if_pos c29] at H
                            have c29b0 : decide (0 ≤ (rd t202 x10_3)) = true := decide_eq_true c29
                            clear c29
                            by_cases c30 : (rd t202 x10_3) < (t196.length : Int)
                            · rw [if_pos c30] at H
                              have c30b0 : decide ((rd t202 x10_3) < (t196.length : Int)) = true := decide_eq_true c30
                              clear c30
                              obtain ⟨bq31, hbq31⟩ : ∃ b_ : Bool, b_ = (rdOf false t196 (rd t202 x10_3)) := ⟨_, rfl⟩
                              replace H : (if (bq31 = true) then (if x10_3 > 0 then (if (rd t202 x10_3) < (t195.length : Int) then (if 0 ≤ (wrap64 (x10_3 - 1)) then (if (wrap64 (x10_3 - 1)) < (t202.length : Int) then (if 0 ≤ (rd t202 (wrap64 (x10_3 - 1))) then (if (rd t202 (wrap64 (x10_3 - 1))) < (t195.length : Int) then (if (rd t195 (rd t202 x10_3)) < (rd t195 (rd t202 (wrap64 (x10_3 - 1)))) then (some false) else (laws_FnPlaceMembers.l0 k3 t195 t196 t197 t202 (wrap64 (x10_3 + 1)))) else (none)) else (none)) else (none)) else (none)) else (none)) else (laws_FnPlaceMembers.l0 k3 t195 t196 t197 t202 (wrap64 (x10_3 + 1)))) else (some false)) = some r := by rw [← hbq31] at H; exact H
                              have Nbq31 := Aside0.mk hbq31
                              clear hbq31
                              by_cases c32 : (bq31 = true)
                              · subst c32
                                have H1 : (if x10_3 > 0 then (if (rd t202 x10_3) < (t195.length : Int) then (if 0 ≤ (wrap64 (x10_3 - 1)) then (if (wrap64 (x10_3 - 1)) < (t202.length : Int) then (if 0 ≤ (rd t202 (wrap64 (x10_3 - 1))) then (if (rd t202 (wrap64 (x10_3 - 1))) < (t195.length : Int) then (if (rd t195 (rd t202 x10_3)) < (rd t195 (rd t202 (wrap64 (x10_3 - 1)))) then (some false) else (laws_FnPlaceMembers.l0 k3 t195 t196 t197 t202 (wrap64 (x10_3 + 1)))) else (none)) else (none)) else (none)) else (none)) else (none)) else (laws_FnPlaceMembers.l0 k3 t195 t196 t197 t202 (wrap64 (x10_3 + 1)))) = some r := by rw [if_pos rfl] at H; exact H
                                clear H
                                have H := H1
                                clear H1
                                by_cases c33 : x10_3 > 0
                                · rw [if_pos c33] at H
                                  have c33b0 : decide (0 < x10_3) = true := decide_eq_true c33
                                  clear c33
                                  by_cases c34 : (rd t202 x10_3) < (t195.length : Int)
                                  · rw [if_pos c34] at H
                                    have c34b0 : decide ((rd t202 x10_3) < (t195.length : Int)) = true := decide_eq_true c34
                                    clear c34
                                    obtain ⟨ji35, hji35⟩ : ∃ j_ : Int, (wrap64 (x10_3 - 1)) = j_ := ⟨_, rfl⟩
                                    replace H : (if 0 ≤ (ji35) then (if (ji35) < (t202.length : Int) then (if 0 ≤ (rd t202 (ji35)) then (if (rd t202 (ji35)) < (t195.length : Int) then (if (rd t195 (rd t202 x10_3)) < (rd t195 (rd t202 (ji35))) then (some false) else (laws_FnPlaceMembers.l0 k3 t195 t196 t197 t202 (wrap64 (x10_3 + 1)))) else (none)) else (none)) else (none)) else (none)) = some r := by first | (rw [hji35] at H; exact H) | (simp only [hji35] at H ⊢; exact H)
                                    have hji35w : (IntKind.i64.wrap (x10_3 - 1)) = ji35 := (i64_w _).trans hji35
                                    by_cases c36 : 0 ≤ (ji35)
                                    · rw [if_pos c36] at H
                                      have c36b0 : decide (0 ≤ (ji35)) = true := decide_eq_true c36
                                      clear c36
                                      by_cases c37 : (ji35) < (t202.length : Int)
                                      · rw [if_pos c37] at H
                                        have c37b0 : decide ((ji35) < (t202.length : Int)) = true := decide_eq_true c37
                                        clear c37
                                        by_cases c38 : 0 ≤ (rd t202 (ji35))
                                        · rw [if_pos c38] at H
                                          have c38b0 : decide (0 ≤ (rd t202 (ji35))) = true := decide_eq_true c38
                                          clear c38
                                          by_cases c39 : (rd t202 (ji35)) < (t195.length : Int)
                                          · rw [if_pos c39] at H
                                            have c39b0 : decide ((rd t202 (ji35)) < (t195.length : Int)) = true := decide_eq_true c39
                                            clear c39
                                            by_cases c40 : (rd t195 (rd t202 x10_3)) < (rd t195 (rd t202 (ji35)))
                                            · rw [if_pos c40] at H
                                              have c40b0 : decide ((rd t195 (rd t202 x10_3)) < (rd t195 (rd t202 (ji35)))) = true := decide_eq_true c40
                                              clear c40
                                              obtain rfl := Option.some.inj H
                                              obtain ⟨Ao41, co41, eo41⟩ := Kd.R_slice HO_6.out
                                              subst eo41
                                              have p213 : 0 ≤ (x10_3 : Int) := of_decide_eq_true (by first | (with_reducible assumption) | assumption)
                                              have q213 : x10_3 < (t202.length : Int) := of_decide_eq_true (by first | (with_reducible assumption) | assumption)
                                              obtain ⟨ad213, e213, hx213_0⟩ := Kd.at_int (Kd.R_reads' HO_6.out).2.2 x10_3 p213 q213
                                              cases e213
                                              replace p213 := eq_true p213
                                              replace q213 := eq_true q213
                                              have p214 : 0 ≤ ((rd t202 x10_3) : Int) := of_decide_eq_true (by first | (with_reducible assumption) | assumption)
                                              have q214 : (rd t202 x10_3) < (t196.length : Int) := of_decide_eq_true (by first | (with_reducible assumption) | assumption)
                                              obtain ⟨ad214, e214, hx214_0⟩ := Kd.at_bool (Kd.Q_reads' HO_4.out).2.2 (rd t202 x10_3) p214 q214
                                              (try rw [← Nbq31.out] at hx214_0)
                                              (try rw [← Nbq31.out] at hw214_0)
                                              cases e214
                                              replace p214 := eq_true p214
                                              replace q214 := eq_true q214
                                              have p215 : 0 ≤ (x10_3 : Int) := of_decide_eq_true (by first | (with_reducible assumption) | assumption)
                                              have q215 : x10_3 < (t202.length : Int) := of_decide_eq_true (by first | (with_reducible assumption) | assumption)
                                              obtain ⟨ad215, e215, hx215_0⟩ := Kd.at_int (Kd.R_reads' HO_6.out).2.2 x10_3 p215 q215
                                              obtain rfl : ad213 = ad215 := (by injection e215)
                                              replace p215 := eq_true p215
                                              replace q215 := eq_true q215
                                              have p216 : 0 ≤ ((rd t202 x10_3) : Int) := of_decide_eq_true (by first | (with_reducible assumption) | assumption)
                                              have q216 : (rd t202 x10_3) < (t195.length : Int) := of_decide_eq_true (by first | (with_reducible assumption) | assumption)
                                              obtain ⟨ad216, e216, hx216_0⟩ := Kd.at_int (Kd.Q_reads' HO_3.out).2.2 (rd t202 x10_3) p216 q216
                                              cases e216
                                              replace p216 := eq_true p216
                                              replace q216 := eq_true q216
                                              have p217 : 0 ≤ ((ji35) : Int) := of_decide_eq_true (by first | (with_reducible assumption) | assumption)
                                              have q217 : (ji35) < (t202.length : Int) := of_decide_eq_true (by first | (with_reducible assumption) | assumption)
                                              obtain ⟨ad217, e217, hx217_0⟩ := Kd.at_int (Kd.R_reads' HO_6.out).2.2 (ji35) p217 q217
                                              obtain rfl : ad213 = ad217 := (by injection e217)
                                              replace p217 := eq_true p217
                                              replace q217 := eq_true q217
                                              have p218 : 0 ≤ ((rd t202 (ji35)) : Int) := of_decide_eq_true (by first | (with_reducible assumption) | assumption)
                                              have q218 : (rd t202 (ji35)) < (t195.length : Int) := of_decide_eq_true (by first | (with_reducible assumption) | assumption)
                                              obtain ⟨ad218, e218, hx218_0⟩ := Kd.at_int (Kd.Q_reads' HO_3.out).2.2 (rd t202 (ji35)) p218 q218
                                              obtain rfl : ad216 = ad218 := (by injection e218)
                                              replace p218 := eq_true p218
                                              replace q218 := eq_true q218
                                              go_wp2
                                              repeat (go_quiet (fail); try go_wp2)
                                              go_ret
                                              exact ⟨by first | rfl | (simp [errW_none, errW_some] <;> rfl) | (simp only [← hji35]; first | rfl | (simp [errW_none, errW_some] <;> rfl)) | (simp [*, errW_none, errW_some] <;> rfl) | (simp only [u8_w, wr_u8]; first | rfl | (simp [errW_none, errW_some] <;> rfl)), by repeat (first | (with_reducible first | exact HB.out | apply below_alloc | apply pw_below_drewN | apply below_drew1) | exact HB.out)⟩
                                            · rw [if_neg c40] at H
                                              have c40b0 : decide ((rd t195 (rd t202 x10_3)) < (rd t195 (rd t202 (ji35)))) = false := decide_eq_false c40
                                              clear c40
                                              have H' := Aside0.mk H
                                              clear H
                                              obtain ⟨Ao42, co42, eo42⟩ := Kd.R_slice HO_6.out
                                              subst eo42
                                              have p213 : 0 ≤ (x10_3 : Int) := of_decide_eq_true (by first | (with_reducible assumption) | assumption)
                                              have q213 : x10_3 < (t202.length : Int) := of_decide_eq_true (by first | (with_reducible assumption) | assumption)
                                              obtain ⟨ad213, e213, hx213_0⟩ := Kd.at_int (Kd.R_reads' HO_6.out).2.2 x10_3 p213 q213
                                              cases e213
                                              replace p213 := eq_true p213
                                              replace q213 := eq_true q213
                                              have p214 : 0 ≤ ((rd t202 x10_3) : Int) := of_decide_eq_true (by first | (with_reducible assumption) | assumption)
                                              have q214 : (rd t202 x10_3) < (t196.length : Int) := of_decide_eq_true (by first | (with_reducible assumption) | assumption)
                                              obtain ⟨ad214, e214, hx214_0⟩ := Kd.at_bool (Kd.Q_reads' HO_4.out).2.2 (rd t202 x10_3) p214 q214
                                              (try rw [← Nbq31.out] at hx214_0)
                                              (try rw [← Nbq31.out] at hw214_0)
                                              cases e214
                                              replace p214 := eq_true p214
                                              replace q214 := eq_true q214
                                              have p215 : 0 ≤ (x10_3 : Int) := of_decide_eq_true (by first | (with_reducible assumption) | assumption)
                                              have q215 : x10_3 < (t202.length : Int) := of_decide_eq_true (by first | (with_reducible assumption) | assumption)
                                              obtain ⟨ad215, e215, hx215_0⟩ := Kd.at_int (Kd.R_reads' HO_6.out).2.2 x10_3 p215 q215
                                              obtain rfl : ad213 = ad215 := (by injection e215)
                                              replace p215 := eq_true p215
                                              replace q215 := eq_true q215
                                              have p216 : 0 ≤ ((rd t202 x10_3) : Int) := of_decide_eq_true (by first | (with_reducible assumption) | assumption)
                                              have q216 : (rd t202 x10_3) < (t195.length : Int) := of_decide_eq_true (by first | (with_reducible assumption) | assumption)
                                              obtain ⟨ad216, e216, hx216_0⟩ := Kd.at_int (Kd.Q_reads' HO_3.out).2.2 (rd t202 x10_3) p216 q216
                                              cases e216
                                              replace p216 := eq_true p216
                                              replace q216 := eq_true q216
                                              have p217 : 0 ≤ ((ji35) : Int) := of_decide_eq_true (by first | (with_reducible assumption) | assumption)
                                              have q217 : (ji35) < (t202.length : Int) := of_decide_eq_true (by first | (with_reducible assumption) | assumption)
                                              obtain ⟨ad217, e217, hx217_0⟩ := Kd.at_int (Kd.R_reads' HO_6.out).2.2 (ji35) p217 q217
                                              obtain rfl : ad213 = ad217 := (by injection e217)
                                              replace p217 := eq_true p217
                                              replace q217 := eq_true q217
                                              have p218 : 0 ≤ ((rd t202 (ji35)) : Int) := of_decide_eq_true (by first | (with_reducible assumption) | assumption)
                                              have q218 : (rd t202 (ji35)) < (t195.length : Int) := of_decide_eq_true (by first | (with_reducible assumption) | assumption)
                                              obtain ⟨ad218, e218, hx218_0⟩ := Kd.at_int (Kd.Q_reads' HO_3.out).2.2 (rd t202 (ji35)) p218 q218
                                              obtain rfl : ad216 = ad218 := (by injection e218)
                                              replace p218 := eq_true p218
                                              replace q218 := eq_true q218
                                              go_wp2
                                              repeat (go_quiet (fail); try go_wp2)
                                              go_roundg k3
                                              case measure => have := HJ5.out; have := HJ19.out; have := HK3.out; omega
                                              case rel => exact ⟨(wrap64 (x10_3 + 1)), (by first | rfl | (simp; done) | (simp [*]; done)), H', ⟨by have := HJ5.out; have := HJ19.out; have := HK3.out; omega⟩, ⟨by (with_reducible repeat (first | apply Kd.Q_alloc | apply Kd.Q_drewN | apply Kd.Q_drew)); exact HO_3.out⟩, ⟨by (with_reducible repeat (first | apply Kd.Q_alloc | apply Kd.Q_drewN | apply Kd.Q_drew)); exact HO_4.out⟩, ⟨by (with_reducible repeat (first | apply Kd.R_alloc | apply Kd.R_drewN | apply Kd.R_drew)); exact HO_6.out⟩, ⟨by repeat (first | (with_reducible first | exact HB.out | apply below_alloc | apply pw_below_drewN | apply below_drew1) | exact HB.out)⟩⟩
                                          · rw [if_neg c39] at H
                                            exact absurd H (by simp)
                                        · rw [if_neg c38] at H
                                          exact absurd H (by simp)
                                      · rw [if_neg c37] at H
                                        exact absurd H (by simp)
                                    · rw [if_neg c36] at H
                                      exact absurd H (by simp)
                                  · rw [if_neg c34] at H
                                    exact absurd H (by simp)
                                · rw [if_neg c33] at H
                                  have c33b0 : decide (0 < x10_3) = false := decide_eq_false c33
                                  clear c33
                                  have H' := Aside0.mk H
                                  clear H
                                  obtain ⟨Ao43, co43, eo43⟩ := Kd.R_slice HO_6.out
                                  subst eo43
                                  have p213 : 0 ≤ (x10_3 : Int) := of_decide_eq_true (by first | (with_reducible assumption) | assumption)
                                  have q213 : x10_3 < (t202.length : Int) := of_decide_eq_true (by first | (with_reducible assumption) | assumption)
                                  obtain ⟨ad213, e213, hx213_0⟩ := Kd.at_int (Kd.R_reads' HO_6.out).2.2 x10_3 p213 q213
                                  cases e213
                                  replace p213 := eq_true p213
                                  replace q213 := eq_true q213
                                  have p214 : 0 ≤ ((rd t202 x10_3) : Int) := of_decide_eq_true (by first | (with_reducible assumption) | assumption)
                                  have q214 : (rd t202 x10_3) < (t196.length : Int) := of_decide_eq_true (by first | (with_reducible assumption) | assumption)
                                  obtain ⟨ad214, e214, hx214_0⟩ := Kd.at_bool (Kd.Q_reads' HO_4.out).2.2 (rd t202 x10_3) p214 q214
                                  (try rw [← Nbq31.out] at hx214_0)
                                  (try rw [← Nbq31.out] at hw214_0)
                                  cases e214
                                  replace p214 := eq_true p214
                                  replace q214 := eq_true q214
                                  go_wp2
                                  repeat (go_quiet (fail); try go_wp2)
                                  go_roundg k3
                                  case measure => have := HJ5.out; have := HJ19.out; have := HK3.out; omega
                                  case rel => exact ⟨(wrap64 (x10_3 + 1)), (by first | rfl | (simp; done) | (simp [*]; done)), H', ⟨by have := HJ5.out; have := HJ19.out; have := HK3.out; omega⟩, ⟨by (with_reducible repeat (first | apply Kd.Q_alloc | apply Kd.Q_drewN | apply Kd.Q_drew)); exact HO_3.out⟩, ⟨by (with_reducible repeat (first | apply Kd.Q_alloc | apply Kd.Q_drewN | apply Kd.Q_drew)); exact HO_4.out⟩, ⟨by (with_reducible repeat (first | apply Kd.R_alloc | apply Kd.R_drewN | apply Kd.R_drew)); exact HO_6.out⟩, ⟨by repeat (first | (with_reducible first | exact HB.out | apply below_alloc | apply pw_below_drewN | apply below_drew1) | exact HB.out)⟩⟩
                              · replace c32 := Bool.eq_false_iff.mpr c32
                                subst c32
                                have H1 : (some false) = some r := by rw [if_neg (show ¬ (false = true) by decide)] at H; exact H
                                clear H
                                have H := H1
                                clear H1
                                obtain rfl := Option.some.inj H
                                obtain ⟨Ao44, co44, eo44⟩ := Kd.R_slice HO_6.out
                                subst eo44
                                have p213 : 0 ≤ (x10_3 : Int) := of_decide_eq_true (by first | (with_reducible assumption) | assumption)
                                have q213 : x10_3 < (t202.length : Int) := of_decide_eq_true (by first | (with_reducible assumption) | assumption)
                                obtain ⟨ad213, e213, hx213_0⟩ := Kd.at_int (Kd.R_reads' HO_6.out).2.2 x10_3 p213 q213
                                cases e213
                                replace p213 := eq_true p213
                                replace q213 := eq_true q213
                                have p214 : 0 ≤ ((rd t202 x10_3) : Int) := of_decide_eq_true (by first | (with_reducible assumption) | assumption)
                                have q214 : (rd t202 x10_3) < (t196.length : Int) := of_decide_eq_true (by first | (with_reducible assumption) | assumption)
                                obtain ⟨ad214, e214, hx214_0⟩ := Kd.at_bool (Kd.Q_reads' HO_4.out).2.2 (rd t202 x10_3) p214 q214
                                (try rw [← Nbq31.out] at hx214_0)
                                (try rw [← Nbq31.out] at hw214_0)
                                cases e214
                                replace p214 := eq_true p214
                                replace q214 := eq_true q214
                                go_wp2
                                repeat (go_quiet (fail); try go_wp2)
                                go_ret
                                exact ⟨by first | rfl | (simp [errW_none, errW_some] <;> rfl) | (simp [*, errW_none, errW_some] <;> rfl) | (simp only [u8_w, wr_u8]; first | rfl | (simp [errW_none, errW_some] <;> rfl)), by repeat (first | (with_reducible first | exact HB.out | apply below_alloc | apply pw_below_drewN | apply below_drew1) | exact HB.out)⟩
                            · rw [if_neg c30] at H
                              exact absurd H (by simp)
                          · rw [if_neg c29] at H
                            exact absurd H (by simp)
                        · rw [if_neg c28] at H
                          exact absurd H (by simp)
                      · rw [if_neg c27] at H
                        have c27b0 : decide (x10_3 < (t202.length : Int)) = false := decide_eq_false c27
                        clear c27
                        have H' := Aside0.mk H
                        clear H
                        obtain ⟨Ao45, co45, eo45⟩ := Kd.R_slice HO_6.out
                        subst eo45
                        go_wp2
                        repeat (go_quiet (fail); try go_wp2)
                        go_loopg [11] k3 (fun kq v11 w' => ∃ (x11_4 : Int), v11 = .int .i64 x11_4 ∧ Aside0 (laws_FnPlaceMembers.l1 kq t195 t196 t197 t202 x11_4 = some r) ∧ Aside0 (kq ≤ k3) ∧ Aside0 (Kd.Q (Kd.int .i64) 3 w' w.heap.size (fun k_ => some k_ ≠ ((.slice Ao45 t202.length co45) : Value).ownBlock) (.slice Ao8 t195.length co8) t195) ∧ Aside0 (Kd.Q Kd.bool 4 w' w.heap.size (fun _ => True) (.slice Ao9 t196.length co9) t196) ∧ Aside0 (Kd.R (Kd.int .i64) 3 w' w.heap.size (fun k_ => some k_ ≠ ((.slice Ao8 t195.length co8) : Value).ownBlock) (.slice Ao45 t202.length co45) t202) ∧ Aside0 (Below w.heap.size w w'))
                        case atStart => exact ⟨(0), (by first | rfl | (simp; done) | (simp [*]; done)), H', ⟨Nat.le_refl _⟩, ⟨by (with_reducible repeat (first | apply Kd.Q_alloc | apply Kd.Q_drewN | apply Kd.Q_drew)); exact HO_3.out⟩, ⟨by (with_reducible repeat (first | apply Kd.Q_alloc | apply Kd.Q_drewN | apply Kd.Q_drew)); exact HO_4.out⟩, ⟨by (with_reducible repeat (first | apply Kd.R_alloc | apply Kd.R_drewN | apply Kd.R_drew)); exact HO_6.out⟩, ⟨by repeat (first | (with_reducible first | exact HB.out | apply below_alloc | apply pw_below_drewN | apply below_drew1) | exact HB.out)⟩⟩
                        case round =>
                          clear H'
                          try clear c1
                          try clear c2
                          try clear c2b0
                          try clear c2b1
                          try clear p2
                          try clear q2
                          try clear hx2
                          try clear c3
                          try clear q3
                          try clear c4
                          try clear p6
                          try clear c13
                          try clear c18
                          try clear c19
                          try clear c21
                          try clear c21b0
                          try clear c21b1
                          try clear p21
                          try clear q21
                          try clear hx21
                          try clear c26
                          try clear c27
                          try clear c27b0
                          try clear c28
                          try clear c28b0
                          try clear c29
                          try clear c29b0
                          try clear c30
                          try clear c30b0
                          try clear q31
                          try clear c32
                          try clear c33
                          try clear c33b0
                          try clear c34
                          try clear c34b0
                          try clear c36
                          try clear c36b0
                          try clear c37
                          try clear c37b0
                          try clear c38
                          try clear c38b0
                          try clear c39
                          try clear c39b0
                          try clear c40
                          try clear c40b0
                          try clear hx213_0
                          try clear hx214_0
                          try clear hx215_0
                          try clear hx216_0
                          try clear hx217_0
                          try clear hx218_0
                          try clear p2
                          try clear p213
                          try clear p214
                          try clear p215
                          try clear p216
                          try clear p217
                          try clear p218
                          try clear q213
                          try clear q214
                          try clear q215
                          try clear q216
                          try clear q217
                          try clear q218
                          obtain ⟨x11_4, rfl, HA, HK4, HO_3, HO_4, HO_6, HB⟩ := hrel
                          cases gk with
                          | zero => exact absurd HA.out (by simp [laws_FnPlaceMembers.l1])
                          | succ k4 =>
                            have H := HA.out
                            clear HA
                            simp only [laws_FnPlaceMembers.l1] at H
                            by_cases c46 : x11_4 < (t196.length : Int)
                            · rw [if_pos c46] at H
                              have c46b0 : decide (x11_4 < (t196.length : Int)) = true := decide_eq_true c46
                              clear c46
                              by_cases c47 : 0 ≤ x11_4
                              · rw [if_pos c47] at H
                                have c47b0 : decide (0 ≤ x11_4) = true := decide_eq_true c47
                                clear c47
                                obtain ⟨bq48, hbq48⟩ : ∃ b_ : Bool, b_ = (rdOf false t196 x11_4) := ⟨_, rfl⟩
                                replace H : (if bq48 = true then ((laws_hasInt.f k4 t202 x11_4).bind fun t220 => (if t220 = true then (laws_FnPlaceMembers.l1 k4 t195 t196 t197 t202 (wrap64 (x11_4 + 1))) else (if x11_4 < (t195.length : Int) then (if 0 ≤ (wrap64 (t197 - 1)) then (if (wrap64 (t197 - 1)) < (t202.length : Int) then (if 0 ≤ (rd t202 (wrap64 (t197 - 1))) then (if (rd t202 (wrap64 (t197 - 1))) < (t195.length : Int) then (if (rd t195 x11_4) < (rd t195 (rd t202 (wrap64 (t197 - 1)))) then (some false) else (laws_FnPlaceMembers.l1 k4 t195 t196 t197 t202 (wrap64 (x11_4 + 1)))) else (none)) else (none)) else (none)) else (none)) else (none)))) else (laws_FnPlaceMembers.l1 k4 t195 t196 t197 t202 (wrap64 (x11_4 + 1)))) = some r := by rw [← hbq48] at H; exact H
                                have Nbq48 := Aside0.mk hbq48
                                clear hbq48
                                by_cases c49 : bq48 = true
                                · subst c49
                                  have H1 : ((laws_hasInt.f k4 t202 x11_4).bind fun t220 => (if t220 = true then (laws_FnPlaceMembers.l1 k4 t195 t196 t197 t202 (wrap64 (x11_4 + 1))) else (if x11_4 < (t195.length : Int) then (if 0 ≤ (wrap64 (t197 - 1)) then (if (wrap64 (t197 - 1)) < (t202.length : Int) then (if 0 ≤ (rd t202 (wrap64 (t197 - 1))) then (if (rd t202 (wrap64 (t197 - 1))) < (t195.length : Int) then (if (rd t195 x11_4) < (rd t195 (rd t202 (wrap64 (t197 - 1)))) then (some false) else (laws_FnPlaceMembers.l1 k4 t195 t196 t197 t202 (wrap64 (x11_4 + 1)))) else (none)) else (none)) else (none)) else (none)) else (none)))) = some r := by rw [if_pos rfl] at H; exact H
                                  clear H
                                  have H := H1
                                  clear H1
                                  replace H := Option.bind_eq_some_iff.mp H
                                  obtain ⟨t220, A500, H⟩ := H
                                  replace H : (if t220 = true then (laws_FnPlaceMembers.l1 k4 t195 t196 t197 t202 (wrap64 (x11_4 + 1))) else (if x11_4 < (t195.length : Int) then (if 0 ≤ (wrap64 (t197 - 1)) then (if (wrap64 (t197 - 1)) < (t202.length : Int) then (if 0 ≤ (rd t202 (wrap64 (t197 - 1))) then (if (rd t202 (wrap64 (t197 - 1))) < (t195.length : Int) then (if (rd t195 x11_4) < (rd t195 (rd t202 (wrap64 (t197 - 1)))) then (some false) else (laws_FnPlaceMembers.l1 k4 t195 t196 t197 t202 (wrap64 (x11_4 + 1)))) else (none)) else (none)) else (none)) else (none)) else (none))) = some r := H
                                  have A50 := Aside0.mk A500
                                  clear A500
                                  by_cases c51 : t220 = true
                                  · subst c51
                                    have H1 : (laws_FnPlaceMembers.l1 k4 t195 t196 t197 t202 (wrap64 (x11_4 + 1))) = some r := by rw [if_pos rfl] at H; exact H
                                    clear H
                                    have H := H1
                                    clear H1
                                    have H' := Aside0.mk H
                                    clear H
                                    have p219 : 0 ≤ (x11_4 : Int) := of_decide_eq_true (by first | (with_reducible assumption) | assumption)
                                    have q219 : x11_4 < (t196.length : Int) := of_decide_eq_true (by first | (with_reducible assumption) | assumption)
                                    obtain ⟨ad219, e219, hx219_0⟩ := Kd.at_bool (Kd.Q_reads' HO_4.out).2.2 x11_4 p219 q219
                                    (try rw [← Nbq48.out] at hx219_0)
                                    (try rw [← Nbq48.out] at hw219_0)
                                    cases e219
                                    replace p219 := eq_true p219
                                    replace q219 := eq_true q219
                                    go_wp2_with (first | (go_at_call 19; (with_reducible refine (laws_hasInt.calls k4 _ _ t202 x11_4 true _ ?side1 ?side2 A50.out).mono ?_); (case side1 => repeat (first | exact (Kd.R_reads' HO_6.out).2.2 | (with_reducible refine Kd.C_alloc ?_ _) | (with_reducible refine Kd.C_drewN ?_ _) | (with_reducible refine Kd.C_drew ?_))); (case side2 => exact (Kd.R_reads' HO_6.out).2.1); rintro e w' ⟨rfl, ⟨nd, rfl⟩⟩; (try first | exact ⟨rfl, _, World.drewN_drewN _ _ _⟩ | exact ⟨rfl, _, Eq.trans (World.drewN_drewN _ _ _) (congrArg (World.drewN _) (Nat.add_assoc _ _ _))⟩)))
                                    repeat (go_quiet (first | (go_at_call 19; (with_reducible refine (laws_hasInt.calls k4 _ _ t202 x11_4 true _ ?side1 ?side2 A50.out).mono ?_); (case side1 => repeat (first | exact (Kd.R_reads' HO_6.out).2.2 | (with_reducible refine Kd.C_alloc ?_ _) | (with_reducible refine Kd.C_drewN ?_ _) | (with_reducible refine Kd.C_drew ?_))); (case side2 => exact (Kd.R_reads' HO_6.out).2.1); rintro e w' ⟨rfl, ⟨nd, rfl⟩⟩; (try first | exact ⟨rfl, _, World.drewN_drewN _ _ _⟩ | exact ⟨rfl, _, Eq.trans (World.drewN_drewN _ _ _) (congrArg (World.drewN _) (Nat.add_assoc _ _ _))⟩))); try go_wp2_with (first | (go_at_call 19; (with_reducible refine (laws_hasInt.calls k4 _ _ t202 x11_4 true _ ?side1 ?side2 A50.out).mono ?_); (case side1 => repeat (first | exact (Kd.R_reads' HO_6.out).2.2 | (with_reducible refine Kd.C_alloc ?_ _) | (with_reducible refine Kd.C_drewN ?_ _) | (with_reducible refine Kd.C_drew ?_))); (case side2 => exact (Kd.R_reads' HO_6.out).2.1); rintro e w' ⟨rfl, ⟨nd, rfl⟩⟩; (try first | exact ⟨rfl, _, World.drewN_drewN _ _ _⟩ | exact ⟨rfl, _, Eq.trans (World.drewN_drewN _ _ _) (congrArg (World.drewN _) (Nat.add_assoc _ _ _))⟩))))
                                    go_roundg k4
                                    case measure => have := HJ5.out; have := HJ19.out; have := HK3.out; have := HK4.out; omega
                                    case rel => exact ⟨(wrap64 (x11_4 + 1)), (by first | rfl | (simp; done) | (simp [*]; done)), H', ⟨by have := HJ5.out; have := HJ19.out; have := HK3.out; have := HK4.out; omega⟩, ⟨by (with_reducible repeat (first | apply Kd.Q_alloc | apply Kd.Q_drewN | apply Kd.Q_drew)); exact HO_3.out⟩, ⟨by (with_reducible repeat (first | apply Kd.Q_alloc | apply Kd.Q_drewN | apply Kd.Q_drew)); exact HO_4.out⟩, ⟨by (with_reducible repeat (first | apply Kd.R_alloc | apply Kd.R_drewN | apply Kd.R_drew)); exact HO_6.out⟩, ⟨by repeat (first | (with_reducible first | exact HB.out | apply below_alloc | apply pw_below_drewN | apply below_drew1) | exact HB.out)⟩⟩
                                  · replace c51 := Bool.eq_false_iff.mpr c51
                                    subst c51
                                    have H1 : (if x11_4 < (t195.length : Int) then (if 0 ≤ (wrap64 (t197 - 1)) then (if (wrap64 (t197 - 1)) < (t202.length : Int) then (if 0 ≤ (rd t202 (wrap64 (t197 - 1))) then (if (rd t202 (wrap64 (t197 - 1))) < (t195.length : Int) then (if (rd t195 x11_4) < (rd t195 (rd t202 (wrap64 (t197 - 1)))) then (some false) else (laws_FnPlaceMembers.l1 k4 t195 t196 t197 t202 (wrap64 (x11_4 + 1)))) else (none)) else (none)) else (none)) else (none)) else (none)) = some r := by rw [if_neg (show ¬ (false = true) by decide)] at H; exact H
                                    clear H
                                    have H := H1
                                    clear H1
                                    by_cases c52 : x11_4 < (t195.length : Int)
                                    · rw [if_pos c52] at H
                                      have c52b0 : decide (x11_4 < (t195.length : Int)) = true := decide_eq_true c52
                                      clear c52
                                      obtain ⟨ji53, hji53⟩ : ∃ j_ : Int, (wrap64 (t197 - 1)) = j_ := ⟨_, rfl⟩
                                      replace H : (if 0 ≤ (ji53) then (if (ji53) < (t202.length : Int) then (if 0 ≤ (rd t202 (ji53)) then (if (rd t202 (ji53)) < (t195.length : Int) then (if (rd t195 x11_4) < (rd t195 (rd t202 (ji53))) then (some false) else (laws_FnPlaceMembers.l1 k4 t195 t196 t197 t202 (wrap64 (x11_4 + 1)))) else (none)) else (none)) else (none)) else (none)) = some r := by first | (rw [hji53] at H; exact H) | (simp only [hji53] at H ⊢; exact H)
                                      (try rw [hji53] at A50)
                                      have hji53w : (IntKind.i64.wrap (t197 - 1)) = ji53 := (i64_w _).trans hji53
                                      by_cases c54 : 0 ≤ (ji53)
                                      · rw [if_pos c54] at H
                                        have c54b0 : decide (0 ≤ (ji53)) = true := decide_eq_true c54
                                        clear c54
                                        by_cases c55 : (ji53) < (t202.length : Int)
                                        · rw [if_pos c55] at H
                                          have c55b0 : decide ((ji53) < (t202.length : Int)) = true := decide_eq_true c55
                                          clear c55
                                          by_cases c56 : 0 ≤ (rd t202 (ji53))
                                          · rw [if_pos c56] at H
                                            have c56b0 : decide (0 ≤ (rd t202 (ji53))) = true := decide_eq_true c56
                                            clear c56
                                            by_cases c57 : (rd t202 (ji53)) < (t195.length : Int)
                                            · rw [if_pos c57] at H
                                              have c57b0 : decide ((rd t202 (ji53)) < (t195.length : Int)) = true := decide_eq_true c57
                                              clear c57
                                              by_cases c58 : (rd t195 x11_4) < (rd t195 (rd t202 (ji53)))
                                              · rw [if_pos c58] at H
                                                have c58b0 : decide ((rd t195 x11_4) < (rd t195 (rd t202 (ji53)))) = true := decide_eq_true c58
                                                clear c58
                                                obtain rfl := Option.some.inj H
                                                have p219 : 0 ≤ (x11_4 : Int) := of_decide_eq_true (by first | (with_reducible assumption) | assumption)
                                                have q219 : x11_4 < (t196.length : Int) := of_decide_eq_true (by first | (with_reducible assumption) | assumption)
                                                obtain ⟨ad219, e219, hx219_0⟩ := Kd.at_bool (Kd.Q_reads' HO_4.out).2.2 x11_4 p219 q219
                                                (try rw [← Nbq48.out] at hx219_0)
                                                (try rw [← Nbq48.out] at hw219_0)
                                                cases e219
                                                replace p219 := eq_true p219
                                                replace q219 := eq_true q219
                                                go_wp2_with (first | (go_at_call 19; (with_reducible refine (laws_hasInt.calls k4 _ _ t202 x11_4 false _ ?side1 ?side2 A50.out).mono ?_); (case side1 => repeat (first | exact (Kd.R_reads' HO_6.out).2.2 | (with_reducible refine Kd.C_alloc ?_ _) | (with_reducible refine Kd.C_drewN ?_ _) | (with_reducible refine Kd.C_drew ?_))); (case side2 => exact (Kd.R_reads' HO_6.out).2.1); rintro e w' ⟨rfl, ⟨nd, rfl⟩⟩; (try first | exact ⟨rfl, _, World.drewN_drewN _ _ _⟩ | exact ⟨rfl, _, Eq.trans (World.drewN_drewN _ _ _) (congrArg (World.drewN _) (Nat.add_assoc _ _ _))⟩); have p221 : 0 ≤ (x11_4 : Int) := of_decide_eq_true (by first | (with_reducible assumption) | assumption); have q221 : x11_4 < (t195.length : Int) := of_decide_eq_true (by first | (with_reducible assumption) | assumption); obtain ⟨ad221, e221, hx221_0⟩ := Kd.at_int (Kd.Q_reads' HO_3.out).2.2 x11_4 p221 q221; cases e221; replace p221 := eq_true p221; replace q221 := eq_true q221; have p222 : 0 ≤ ((ji53) : Int) := of_decide_eq_true (by first | (with_reducible assumption) | assumption); have q222 : (ji53) < (t202.length : Int) := of_decide_eq_true (by first | (with_reducible assumption) | assumption); obtain ⟨ad222, e222, hx222_0⟩ := Kd.at_int (Kd.R_reads' HO_6.out).2.2 (ji53) p222 q222; cases e222; replace p222 := eq_true p222; replace q222 := eq_true q222; have p223 : 0 ≤ ((rd t202 (ji53)) : Int) := of_decide_eq_true (by first | (with_reducible assumption) | assumption); have q223 : (rd t202 (ji53)) < (t195.length : Int) := of_decide_eq_true (by first | (with_reducible assumption) | assumption); obtain ⟨ad223, e223, hx223_0⟩ := Kd.at_int (Kd.Q_reads' HO_3.out).2.2 (rd t202 (ji53)) p223 q223; obtain rfl : ad221 = ad223 := (by injection e223); replace p223 := eq_true p223; replace q223 := eq_true q223))
                                                repeat (go_quiet (first | (go_at_call 19; (with_reducible refine (laws_hasInt.calls k4 _ _ t202 x11_4 false _ ?side1 ?side2 A50.out).mono ?_); (case side1 => repeat (first | exact (Kd.R_reads' HO_6.out).2.2 | (with_reducible refine Kd.C_alloc ?_ _) | (with_reducible refine Kd.C_drewN ?_ _) | (with_reducible refine Kd.C_drew ?_))); (case side2 => exact (Kd.R_reads' HO_6.out).2.1); rintro e w' ⟨rfl, ⟨nd, rfl⟩⟩; (try first | exact ⟨rfl, _, World.drewN_drewN _ _ _⟩ | exact ⟨rfl, _, Eq.trans (World.drewN_drewN _ _ _) (congrArg (World.drewN _) (Nat.add_assoc _ _ _))⟩); have p221 : 0 ≤ (x11_4 : Int) := of_decide_eq_true (by first | (with_reducible assumption) | assumption); have q221 : x11_4 < (t195.length : Int) := of_decide_eq_true (by first | (with_reducible assumption) | assumption); obtain ⟨ad221, e221, hx221_0⟩ := Kd.at_int (Kd.Q_reads' HO_3.out).2.2 x11_4 p221 q221; cases e221; replace p221 := eq_true p221; replace q221 := eq_true q221; have p222 : 0 ≤ ((ji53) : Int) := of_decide_eq_true (by first | (with_reducible assumption) | assumption); have q222 : (ji53) < (t202.length : Int) := of_decide_eq_true (by first | (with_reducible assumption) | assumption); obtain ⟨ad222, e222, hx222_0⟩ := Kd.at_int (Kd.R_reads' HO_6.out).2.2 (ji53) p222 q222; cases e222; replace p222 := eq_true p222; replace q222 := eq_true q222; have p223 : 0 ≤ ((rd t202 (ji53)) : Int) := of_decide_eq_true (by first | (with_reducible assumption) | assumption); have q223 : (rd t202 (ji53)) < (t195.length : Int) := of_decide_eq_true (by first | (with_reducible assumption) | assumption); obtain ⟨ad223, e223, hx223_0⟩ := Kd.at_int (Kd.Q_reads' HO_3.out).2.2 (rd t202 (ji53)) p223 q223; obtain rfl : ad221 = ad223 := (by injection e223); replace p223 := eq_true p223; replace q223 := eq_true q223)); try go_wp2_with (first | (go_at_call 19; (with_reducible refine (laws_hasInt.calls k4 _ _ t202 x11_4 false _ ?side1 ?side2 A50.out).mono ?_); (case side1 => repeat (first | exact (Kd.R_reads' HO_6.out).2.2 | (with_reducible refine Kd.C_alloc ?_ _) | (with_reducible refine Kd.C_drewN ?_ _) | (with_reducible refine Kd.C_drew ?_))); (case side2 => exact (Kd.R_reads' HO_6.out).2.1); rintro e w' ⟨rfl, ⟨nd, rfl⟩⟩; (try first | exact ⟨rfl, _, World.drewN_drewN _ _ _⟩ | exact ⟨rfl, _, Eq.trans (World.drewN_drewN _ _ _) (congrArg (World.drewN _) (Nat.add_assoc _ _ _))⟩); have p221 : 0 ≤ (x11_4 : Int) := of_decide_eq_true (by first | (with_reducible assumption) | assumption); have q221 : x11_4 < (t195.length : Int) := of_decide_eq_true (by first | (with_reducible assumption) | assumption); obtain ⟨ad221, e221, hx221_0⟩ := Kd.at_int (Kd.Q_reads' HO_3.out).2.2 x11_4 p221 q221; cases e221; replace p221 := eq_true p221; replace q221 := eq_true q221; have p222 : 0 ≤ ((ji53) : Int) := of_decide_eq_true (by first | (with_reducible assumption) | assumption); have q222 : (ji53) < (t202.length : Int) := of_decide_eq_true (by first | (with_reducible assumption) | assumption); obtain ⟨ad222, e222, hx222_0⟩ := Kd.at_int (Kd.R_reads' HO_6.out).2.2 (ji53) p222 q222; cases e222; replace p222 := eq_true p222; replace q222 := eq_true q222; have p223 : 0 ≤ ((rd t202 (ji53)) : Int) := of_decide_eq_true (by first | (with_reducible assumption) | assumption); have q223 : (rd t202 (ji53)) < (t195.length : Int) := of_decide_eq_true (by first | (with_reducible assumption) | assumption); obtain ⟨ad223, e223, hx223_0⟩ := Kd.at_int (Kd.Q_reads' HO_3.out).2.2 (rd t202 (ji53)) p223 q223; obtain rfl : ad221 = ad223 := (by injection e223); replace p223 := eq_true p223; replace q223 := eq_true q223)))
                                                go_ret
                                                exact ⟨by first | rfl | (simp [errW_none, errW_some] <;> rfl) | (simp only [← hji53]; first | rfl | (simp [errW_none, errW_some] <;> rfl)) | (simp [*, errW_none, errW_some] <;> rfl) | (simp only [u8_w, wr_u8]; first | rfl | (simp [errW_none, errW_some] <;> rfl)), by repeat (first | (with_reducible first | exact HB.out | apply below_alloc | apply pw_below_drewN | apply below_drew1) | exact HB.out)⟩
                                              · rw [if_neg c58] at H
                                                have c58b0 : decide ((rd t195 x11_4) < (rd t195 (rd t202 (ji53)))) = false := decide_eq_false c58
                                                clear c58
                                                have H' := Aside0.mk H
                                                clear H
                                                have p219 : 0 ≤ (x11_4 : Int) := of_decide_eq_true (by first | (with_reducible assumption) | assumption)
                                                have q219 : x11_4 < (t196.length : Int) := of_decide_eq_true (by first | (with_reducible assumption) | assumption)
                                                obtain ⟨ad219, e219, hx219_0⟩ := Kd.at_bool (Kd.Q_reads' HO_4.out).2.2 x11_4 p219 q219
                                                (try rw [← Nbq48.out] at hx219_0)
                                                (try rw [← Nbq48.out] at hw219_0)
                                                cases e219
                                                replace p219 := eq_true p219
                                                replace q219 := eq_true q219
                                                go_wp2_with (first | (go_at_call 19; (with_reducible refine (laws_hasInt.calls k4 _ _ t202 x11_4 false _ ?side1 ?side2 A50.out).mono ?_); (case side1 => repeat (first | exact (Kd.R_reads' HO_6.out).2.2 | (with_reducible refine Kd.C_alloc ?_ _) | (with_reducible refine Kd.C_drewN ?_ _) | (with_reducible refine Kd.C_drew ?_))); (case side2 => exact (Kd.R_reads' HO_6.out).2.1); rintro e w' ⟨rfl, ⟨nd, rfl⟩⟩; (try first | exact ⟨rfl, _, World.drewN_drewN _ _ _⟩ | exact ⟨rfl, _, Eq.trans (World.drewN_drewN _ _ _) (congrArg (World.drewN _) (Nat.add_assoc _ _ _))⟩); have p221 : 0 ≤ (x11_4 : Int) := of_decide_eq_true (by first | (with_reducible assumption) | assumption); have q221 : x11_4 < (t195.length : Int) := of_decide_eq_true (by first | (with_reducible assumption) | assumption); obtain ⟨ad221, e221, hx221_0⟩ := Kd.at_int (Kd.Q_reads' HO_3.out).2.2 x11_4 p221 q221; cases e221; replace p221 := eq_true p221; replace q221 := eq_true q221; have p222 : 0 ≤ ((ji53) : Int) := of_decide_eq_true (by first | (with_reducible assumption) | assumption); have q222 : (ji53) < (t202.length : Int) := of_decide_eq_true (by first | (with_reducible assumption) | assumption); obtain ⟨ad222, e222, hx222_0⟩ := Kd.at_int (Kd.R_reads' HO_6.out).2.2 (ji53) p222 q222; cases e222; replace p222 := eq_true p222; replace q222 := eq_true q222; have p223 : 0 ≤ ((rd t202 (ji53)) : Int) := of_decide_eq_true (by first | (with_reducible assumption) | assumption); have q223 : (rd t202 (ji53)) < (t195.length : Int) := of_decide_eq_true (by first | (with_reducible assumption) | assumption); obtain ⟨ad223, e223, hx223_0⟩ := Kd.at_int (Kd.Q_reads' HO_3.out).2.2 (rd t202 (ji53)) p223 q223; obtain rfl : ad221 = ad223 := (by injection e223); replace p223 := eq_true p223; replace q223 := eq_true q223))
                                                repeat (go_quiet (first | (go_at_call 19; (with_reducible refine (laws_hasInt.calls k4 _ _ t202 x11_4 false _ ?side1 ?side2 A50.out).mono ?_); (case side1 => repeat (first | exact (Kd.R_reads' HO_6.out).2.2 | (with_reducible refine Kd.C_alloc ?_ _) | (with_reducible refine Kd.C_drewN ?_ _) | (with_reducible refine Kd.C_drew ?_))); (case side2 => exact (Kd.R_reads' HO_6.out).2.1); rintro e w' ⟨rfl, ⟨nd, rfl⟩⟩; (try first | exact ⟨rfl, _, World.drewN_drewN _ _ _⟩ | exact ⟨rfl, _, Eq.trans (World.drewN_drewN _ _ _) (congrArg (World.drewN _) (Nat.add_assoc _ _ _))⟩); have p221 : 0 ≤ (x11_4 : Int) := of_decide_eq_true (by first | (with_reducible assumption) | assumption); have q221 : x11_4 < (t195.length : Int) := of_decide_eq_true (by first | (with_reducible assumption) | assumption); obtain ⟨ad221, e221, hx221_0⟩ := Kd.at_int (Kd.Q_reads' HO_3.out).2.2 x11_4 p221 q221; cases e221; replace p221 := eq_true p221; replace q221 := eq_true q221; have p222 : 0 ≤ ((ji53) : Int) := of_decide_eq_true (by first | (with_reducible assumption) | assumption); have q222 : (ji53) < (t202.length : Int) := of_decide_eq_true (by first | (with_reducible assumption) | assumption); obtain ⟨ad222, e222, hx222_0⟩ := Kd.at_int (Kd.R_reads' HO_6.out).2.2 (ji53) p222 q222; cases e222; replace p222 := eq_true p222; replace q222 := eq_true q222; have p223 : 0 ≤ ((rd t202 (ji53)) : Int) := of_decide_eq_true (by first | (with_reducible assumption) | assumption); have q223 : (rd t202 (ji53)) < (t195.length : Int) := of_decide_eq_true (by first | (with_reducible assumption) | assumption); obtain ⟨ad223, e223, hx223_0⟩ := Kd.at_int (Kd.Q_reads' HO_3.out).2.2 (rd t202 (ji53)) p223 q223; obtain rfl : ad221 = ad223 := (by injection e223); replace p223 := eq_true p223; replace q223 := eq_true q223)); try go_wp2_with (first | (go_at_call 19; (with_reducible refine (laws_hasInt.calls k4 _ _ t202 x11_4 false _ ?side1 ?side2 A50.out).mono ?_); (case side1 => repeat (first | exact (Kd.R_reads' HO_6.out).2.2 | (with_reducible refine Kd.C_alloc ?_ _) | (with_reducible refine Kd.C_drewN ?_ _) | (with_reducible refine Kd.C_drew ?_))); (case side2 => exact (Kd.R_reads' HO_6.out).2.1); rintro e w' ⟨rfl, ⟨nd, rfl⟩⟩; (try first | exact ⟨rfl, _, World.drewN_drewN _ _ _⟩ | exact ⟨rfl, _, Eq.trans (World.drewN_drewN _ _ _) (congrArg (World.drewN _) (Nat.add_assoc _ _ _))⟩); have p221 : 0 ≤ (x11_4 : Int) := of_decide_eq_true (by first | (with_reducible assumption) | assumption); have q221 : x11_4 < (t195.length : Int) := of_decide_eq_true (by first | (with_reducible assumption) | assumption); obtain ⟨ad221, e221, hx221_0⟩ := Kd.at_int (Kd.Q_reads' HO_3.out).2.2 x11_4 p221 q221; cases e221; replace p221 := eq_true p221; replace q221 := eq_true q221; have p222 : 0 ≤ ((ji53) : Int) := of_decide_eq_true (by first | (with_reducible assumption) | assumption); have q222 : (ji53) < (t202.length : Int) := of_decide_eq_true (by first | (with_reducible assumption) | assumption); obtain ⟨ad222, e222, hx222_0⟩ := Kd.at_int (Kd.R_reads' HO_6.out).2.2 (ji53) p222 q222; cases e222; replace p222 := eq_true p222; replace q222 := eq_true q222; have p223 : 0 ≤ ((rd t202 (ji53)) : Int) := of_decide_eq_true (by first | (with_reducible assumption) | assumption); have q223 : (rd t202 (ji53)) < (t195.length : Int) := of_decide_eq_true (by first | (with_reducible assumption) | assumption); obtain ⟨ad223, e223, hx223_0⟩ := Kd.at_int (Kd.Q_reads' HO_3.out).2.2 (rd t202 (ji53)) p223 q223; obtain rfl : ad221 = ad223 := (by injection e223); replace p223 := eq_true p223; replace q223 := eq_true q223)))
                                                go_roundg k4
                                                case measure => have := HJ5.out; have := HJ19.out; have := HK3.out; have := HK4.out; omega
                                                case rel => exact ⟨(wrap64 (x11_4 + 1)), (by first | rfl | (simp; done) | (simp [*]; done)), H', ⟨by have := HJ5.out; have := HJ19.out; have := HK3.out; have := HK4.out; omega⟩, ⟨by (with_reducible repeat (first | apply Kd.Q_alloc | apply Kd.Q_drewN | apply Kd.Q_drew)); exact HO_3.out⟩, ⟨by (with_reducible repeat (first | apply Kd.Q_alloc | apply Kd.Q_drewN | apply Kd.Q_drew)); exact HO_4.out⟩, ⟨by (with_reducible repeat (first | apply Kd.R_alloc | apply Kd.R_drewN | apply Kd.R_drew)); exact HO_6.out⟩, ⟨by repeat (first | (with_reducible first | exact HB.out | apply below_alloc | apply pw_below_drewN | apply below_drew1) | exact HB.out)⟩⟩
                                            · rw [if_neg c57] at H
                                              exact absurd H (by simp)
                                          · rw [if_neg c56] at H
                                            exact absurd H (by simp)
                                        · rw [if_neg c55] at H
                                          exact absurd H (by simp)
                                      · rw [if_neg c54] at H
                                        exact absurd H (by simp)
                                    · rw [if_neg c52] at H
                                      exact absurd H (by simp)
                                · replace c49 := Bool.eq_false_iff.mpr c49
                                  subst c49
                                  have H1 : (laws_FnPlaceMembers.l1 k4 t195 t196 t197 t202 (wrap64 (x11_4 + 1))) = some r := by rw [if_neg (show ¬ (false = true) by decide)] at H; exact H
                                  clear H
                                  have H := H1
                                  clear H1
                                  have H' := Aside0.mk H
                                  clear H
                                  have p219 : 0 ≤ (x11_4 : Int) := of_decide_eq_true (by first | (with_reducible assumption) | assumption)
                                  have q219 : x11_4 < (t196.length : Int) := of_decide_eq_true (by first | (with_reducible assumption) | assumption)
                                  obtain ⟨ad219, e219, hx219_0⟩ := Kd.at_bool (Kd.Q_reads' HO_4.out).2.2 x11_4 p219 q219
                                  (try rw [← Nbq48.out] at hx219_0)
                                  (try rw [← Nbq48.out] at hw219_0)
                                  cases e219
                                  replace p219 := eq_true p219
                                  replace q219 := eq_true q219
                                  go_wp2
                                  repeat (go_quiet (fail); try go_wp2)
                                  go_roundg k4
                                  case measure => have := HJ5.out; have := HJ19.out; have := HK3.out; have := HK4.out; omega
                                  case rel => exact ⟨(wrap64 (x11_4 + 1)), (by first | rfl | (simp; done) | (simp [*]; done)), H', ⟨by have := HJ5.out; have := HJ19.out; have := HK3.out; have := HK4.out; omega⟩, ⟨by (with_reducible repeat (first | apply Kd.Q_alloc | apply Kd.Q_drewN | apply Kd.Q_drew)); exact HO_3.out⟩, ⟨by (with_reducible repeat (first | apply Kd.Q_alloc | apply Kd.Q_drewN | apply Kd.Q_drew)); exact HO_4.out⟩, ⟨by (with_reducible repeat (first | apply Kd.R_alloc | apply Kd.R_drewN | apply Kd.R_drew)); exact HO_6.out⟩, ⟨by repeat (first | (with_reducible first | exact HB.out | apply below_alloc | apply pw_below_drewN | apply below_drew1) | exact HB.out)⟩⟩
                              · rw [if_neg c47] at H
                                exact absurd H (by simp)
                            · rw [if_neg c46] at H
                              have c46b0 : decide (x11_4 < (t196.length : Int)) = false := decide_eq_false c46
                              clear c46
                              obtain rfl := Option.some.inj H
                              go_wp2
                              repeat (go_quiet (fail); try go_wp2)
                              go_ret
                              exact ⟨by first | rfl | (simp [errW_none, errW_some] <;> rfl) | (simp [*, errW_none, errW_some] <;> rfl) | (simp only [u8_w, wr_u8]; first | rfl | (simp [errW_none, errW_some] <;> rfl)), by repeat (first | (with_reducible first | exact HB.out | apply below_alloc | apply pw_below_drewN | apply below_drew1) | exact HB.out)⟩
          · replace c19 := Bool.eq_false_iff.mpr c19
            subst c19
            have H1 : (if (t202.length : Int) = 0 then ((laws_alive.f kj5).bind fun t211 => (some t211)) else (some false)) = some r := by rw [if_neg (show ¬ (false = true) by decide)] at H; exact H
            clear H
            have H := H1
            clear H1
            by_cases c59 : (t202.length : Int) = 0
            · rw [if_pos c59] at H
              have c59b0 : ((t202.length : Int) == 0) = true := beq_iff_eq.mpr c59
              have c59b1 : ((t202.length : Int) != 0) = false := bne_eq_false_iff_eq.mpr c59
              clear c59
              replace H := Option.bind_eq_some_iff.mp H
              obtain ⟨t211, A600, H⟩ := H
              replace H : (some t211) = some r := H
              have A60 := Aside0.mk A600
              clear A600
              obtain rfl := Option.some.inj H
              obtain ⟨Ao61, co61, eo61⟩ := Kd.R_slice HO_6.out
              subst eo61
              go_wp2_with (first | (go_at_call 21; (with_reducible refine (laws_alive.calls kj5  t211 _ A60.out).mono ?_); rintro e w62 ⟨rfl, hb⟩; have n0_ := Aside0.mk (Kd.Q_below (by (with_reducible repeat (first | apply Kd.Q_alloc | apply Kd.Q_drewN | apply Kd.Q_drew)); exact HO_3.out) hb); have n1_ := Aside0.mk (Kd.Q_below (by (with_reducible repeat (first | apply Kd.Q_alloc | apply Kd.Q_drewN | apply Kd.Q_drew)); exact HO_4.out) hb); have n2_ := Aside0.mk (Kd.R_below (by (with_reducible repeat (first | apply Kd.R_alloc | apply Kd.R_drewN | apply Kd.R_drew)); exact HO_6.out) hb); have n3_ := Aside0.mk (below_step (by repeat (first | (with_reducible first | exact HB.out | apply below_alloc | apply pw_below_drewN | apply below_drew1) | exact HB.out)) hb); clear HO_3; clear HO_4; clear HO_6; clear HB; have HO_3 := n0_; have HO_4 := n1_; have HO_6 := n2_; have HB := n3_; clear n0_ n1_ n2_ n3_; (try clear hb); (try clear hb2); (try clear hk); (try clear hi)))
              repeat (go_quiet (first | (go_at_call 21; (with_reducible refine (laws_alive.calls kj5  t211 _ A60.out).mono ?_); rintro e w62 ⟨rfl, hb⟩; have n0_ := Aside0.mk (Kd.Q_below (by (with_reducible repeat (first | apply Kd.Q_alloc | apply Kd.Q_drewN | apply Kd.Q_drew)); exact HO_3.out) hb); have n1_ := Aside0.mk (Kd.Q_below (by (with_reducible repeat (first | apply Kd.Q_alloc | apply Kd.Q_drewN | apply Kd.Q_drew)); exact HO_4.out) hb); have n2_ := Aside0.mk (Kd.R_below (by (with_reducible repeat (first | apply Kd.R_alloc | apply Kd.R_drewN | apply Kd.R_drew)); exact HO_6.out) hb); have n3_ := Aside0.mk (below_step (by repeat (first | (with_reducible first | exact HB.out | apply below_alloc | apply pw_below_drewN | apply below_drew1) | exact HB.out)) hb); clear HO_3; clear HO_4; clear HO_6; clear HB; have HO_3 := n0_; have HO_4 := n1_; have HO_6 := n2_; have HB := n3_; clear n0_ n1_ n2_ n3_; (try clear hb); (try clear hb2); (try clear hk); (try clear hi))); try go_wp2_with (first | (go_at_call 21; (with_reducible refine (laws_alive.calls kj5  t211 _ A60.out).mono ?_); rintro e w62 ⟨rfl, hb⟩; have n0_ := Aside0.mk (Kd.Q_below (by (with_reducible repeat (first | apply Kd.Q_alloc | apply Kd.Q_drewN | apply Kd.Q_drew)); exact HO_3.out) hb); have n1_ := Aside0.mk (Kd.Q_below (by (with_reducible repeat (first | apply Kd.Q_alloc | apply Kd.Q_drewN | apply Kd.Q_drew)); exact HO_4.out) hb); have n2_ := Aside0.mk (Kd.R_below (by (with_reducible repeat (first | apply Kd.R_alloc | apply Kd.R_drewN | apply Kd.R_drew)); exact HO_6.out) hb); have n3_ := Aside0.mk (below_step (by repeat (first | (with_reducible first | exact HB.out | apply below_alloc | apply pw_below_drewN | apply below_drew1) | exact HB.out)) hb); clear HO_3; clear HO_4; clear HO_6; clear HB; have HO_3 := n0_; have HO_4 := n1_; have HO_6 := n2_; have HB := n3_; clear n0_ n1_ n2_ n3_; (try clear hb); (try clear hb2); (try clear hk); (try clear hi))))
              go_ret
              exact ⟨by first | rfl | (simp [errW_none, errW_some] <;> rfl) | (simp [*, errW_none, errW_some] <;> rfl) | (simp only [u8_w, wr_u8]; first | rfl | (simp [errW_none, errW_some] <;> rfl)), by repeat (first | (with_reducible first | exact HB.out | apply below_alloc | apply pw_below_drewN | apply below_drew1) | exact HB.out)⟩
            · rw [if_neg c59] at H
              have c59b0 : ((t202.length : Int) == 0) = false := beq_eq_false_iff_ne.mpr c59
              have c59b1 : ((t202.length : Int) != 0) = true := bne_iff_ne.mpr c59
              have c59b2 : ¬ (t202 = []) := fun h_ => c59 (by rw [h_]; rfl)
              obtain rfl := Option.some.inj H
              obtain ⟨Ao63, co63, eo63⟩ := Kd.R_slice HO_6.out
              subst eo63
              go_wp2
              repeat (go_quiet (fail); try go_wp2)
              go_ret
              exact ⟨by first | rfl | (simp [errW_none, errW_some] <;> rfl) | (simp [*, errW_none, errW_some] <;> rfl) | (simp only [u8_w, wr_u8]; first | rfl | (simp [errW_none, errW_some] <;> rfl)), by repeat (first | (with_reducible first | exact HB.out | apply below_alloc | apply pw_below_drewN | apply below_drew1) | exact HB.out)⟩

/-- THE ONE PURE STATEMENT of laws_FnPlaceMembers: yours. -/
def laws_FnPlaceMembers.Pure : Prop := ∀ (l0 : List Int), l0.length ≤ maxLen → l0.length * 1 ≤ 140737488351232 → (∀ x ∈ l0, (Lit.int .u8 x).wf = true) → ∃ k, laws_FnPlaceMembers.f k l0 = some true
theorem laws_FnPlaceMembers.walk (P : laws_FnPlaceMembers.Pure) (a0 : Option Addr) (len0 cap0 : Nat) (z0 : List Int) (w : World) (w0 : (a0 = none ∧ len0 = 0 ∧ cap0 = 0 ∧ z0 = []) ∨ ∃ x, a0 = some x ∧ len0 ≤ cap0 ∧ cap0 ≤ maxLen ∧ z0.length = cap0 ∧ (∀ i, i < z0.length → w.cell? (x.add i) = some (.int .u8 (z0.getD i 0))) ∧ ∀ n ∈ z0, (Lit.int .u8 n).wf = true) (y0 : len0 * 1 ≤ 140737488351232) :
    Calls Try.prog 4 #[.slice a0 len0 cap0] w fun e w' => e = .returned (.bool true) ∧ Below w.heap.size w w' := by
  obtain ⟨l0, rfl, hr0, hm0, hw0, hc0⟩ := ReadsInt.ofRowC w0
  obtain ⟨k, h⟩ := P l0 hm0 y0 hw0
  refine (laws_FnPlaceMembers.calls k _ _ l0 true w (Kd.C_of_reads (d := (0 : Int)) (h1 := fun _ => rfl) hr0) hc0 h).mono ?_
  rintro e w' ⟨rfl, hd⟩
  exact ⟨rfl, hd⟩

end Go.Proofs.Ytbieglaagpogkaa.FFnPlaceMembers
