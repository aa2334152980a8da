/- What came in, read kind by kind: an argument that can be read as data has the kinds' cells. Conditions: the types' own facts, as each lemma states them. -/
import Derived.Test.YtbieglaagpogkaaWMore
import Derived.Deep.Slices
import Derived.OpenShut
import Derived.WalkKit
import Derived.ProofKit
namespace Go.Proofs.YtbieglaagpogkaaL
open Go Go.Deep Go.ChangeShapes Go.WideShapes Go.ChangeAt Go.RowKit Go.Proofs.YtbieglaagpogkaaW.PrintWords
/-- A type's values that can be read are of this kind, and fit. -/
def Rds {α : Type} (P : Program) (t : TypeId) (d : Kd α) (F : α → Prop) : Prop :=
  ∀ (H : Type) (enc : TypeId × Value → H) (W : World) (fuel : Nat) (cs : List Value) (x : DataW H × List MemPlace),
    DataW.trod enc P W 0 (fun _ => true) true fuel t cs = some x → ∃ y, d.K W y cs ∧ F y
/-- Whole numbers of 64 bits. -/
def Fit (x : Int) : Prop := -9223372036854775808 ≤ x ∧ x ≤ 9223372036854775807
/-- Bytes. -/
def FitB (x : Int) : Prop := 0 ≤ x ∧ x ≤ 255
def FitS (s : ByteArray) : Prop := s.size ≤ 9223372036854775807
def FitL {α : Type} (F : α → Prop) (l : List α) : Prop := l.length ≤ 9223372036854775807 ∧ ∀ x ∈ l, F x
section
variable {P : Program} {t e : TypeId} {α β : Type}
theorem rds_i64 (h : P.underlying t = some (.int .i64)) : Rds P t (Kd.int .i64) Fit := by
  intro H enc W fuel cs x hx
  obtain ⟨n, rfl, _, hw⟩ := DataW.trod_int h hx
  exact ⟨n, rfl, bounds_i64 hw⟩
theorem rds_u8 (h : P.underlying t = some (.int .u8)) : Rds P t (Kd.int .u8) FitB := by
  intro H enc W fuel cs x hx
  obtain ⟨n, rfl, _, hw⟩ := DataW.trod_int h hx
  exact ⟨n, rfl, bounds_u8 hw⟩
theorem rds_bool (h : P.underlying t = some .bool) : Rds P t Kd.bool (fun _ => True) := by
  intro H enc W fuel cs x hx
  obtain ⟨b, rfl, _⟩ := DataW.trod_bool h hx
  exact ⟨b, rfl, trivial⟩
theorem rds_string (h : P.underlying t = some .string) : Rds P t Kd.string FitS := by
  intro H enc W fuel cs x hx
  obtain ⟨s, rfl, _, hs⟩ := DataW.trod_string h hx
  exact ⟨s, rfl, by unfold maxLen at hs; unfold FitS; omega⟩
theorem rds_slice {d : Kd α} {F : α → Prop} (h : P.underlying t = some (.slice e)) (hc : P.cellsOf e = d.sz) (hd : Rds P e d F) : Rds P t (Kd.slice e d) (FitL F) := by
  intro H enc W fuel cs x hx
  rcases open_slice h hx with ⟨rfl, _⟩ | ⟨a, len, cap, m, n, D, Pl, rfl, _, hl, hm, hmm, _, hel⟩
  · exact ⟨[], ⟨none, 0, rfl, Nat.le_refl _, rfl, by simp, fun h => by simp at h⟩, by simp, fun x h => by simp at h⟩
  · have hmax : cap ≤ 9223372036854775807 := by unfold maxLen at hm; omega
    have hlm : len ≤ m := by rw [hmm]; split <;> omega
    have key : ∀ k, k ≤ len → ∃ ys : List α, ys.length = k ∧ ∀ j y, ys[j]? = some y → (∃ c, c.length = d.sz ∧ d.K W y c ∧ ∀ i u, c[i]? = some u → W.cell? (a.add (j * d.sz + i)) = some u) ∧ F y := by
      intro k
      induction k with
      | zero => exact fun _ => ⟨[], rfl, fun j y h => by simp at h⟩
      | succ k ih =>
        intro hk
        obtain ⟨ys, hys, hall⟩ := ih (by omega)
        obtain ⟨cs', hcs, htr⟩ := hel k (by omega)
        obtain ⟨y, hK, hF⟩ := hd _ _ _ _ _ _ htr
        refine ⟨ys ++ [y], by simp [hys], fun j z hz => ?_⟩
        rcases Nat.lt_or_ge j ys.length with hj | hj
        · rw [List.getElem?_append_left hj] at hz
          exact hall j z hz
        · have hj' : j = k := by
            have := (List.getElem?_eq_some_iff.1 hz).1
            rw [List.length_append, List.length_singleton] at this
            omega
          subst hj'
          rw [List.getElem?_append_right hj, hys] at hz
          obtain rfl : y = z := by simpa using hz
          refine ⟨⟨cs', d.K_len hK, hK, fun i u hu => ?_⟩, hF⟩
          unfold World.cells? at hcs
          rw [if_pos (Nat.zero_le _)] at hcs
          have hi : i < d.sz := by have := (List.getElem?_eq_some_iff.1 hu).1; rw [d.K_len hK] at this; exact this
          have := mapM_some_get hcs i i (by rw [List.getElem?_range (by rw [hc]; exact hi)])
          rw [hu, Go.Deep.add_add, hc] at this
          exact this
    obtain ⟨ys, hys, hall⟩ := key len (Nat.le_refl _)
    refine ⟨ys, ⟨some a, cap, by rw [hys], by omega, rfl, by omega, fun _ => ⟨a, rfl, fun j p hj => (hall j p hj).1⟩⟩, by omega, fun x hx => ?_⟩
    obtain ⟨j, hj⟩ := List.mem_iff_getElem?.1 hx
    exact (hall j x hj).2
/-- Fields in line, from a place on. -/
def RdsF {α : Type} (P : Program) (fs : List Field) (off : Nat) (d : Kd α) (F : α → Prop) : Prop :=
  ∀ (H : Type) (enc : TypeId × Value → H) (W : World) (n : Nat) (cs : List Value),
    (∀ f ∈ fs, ∃ x, DataW.trod enc P W 0 (fun _ => true) true n f.type ((cs.drop f.offset).take (P.cellsOf f.type)) = some x) → ∃ y, d.K W y ((cs.drop off).take d.sz) ∧ F y
theorem rdsF_one {f : Field} {off : Nat} {d : Kd α} {F : α → Prop} (ho : f.offset = off) (hc : P.cellsOf f.type = d.sz) (hd : Rds P f.type d F) : RdsF P [f] off d F := by
  intro H enc W n cs h
  obtain ⟨x, hx⟩ := h f (List.mem_singleton.2 rfl)
  rw [ho, hc] at hx
  exact hd _ _ _ _ _ _ hx
theorem rdsF_cons {f : Field} {fs : List Field} {off : Nat} {a : Kd α} {b : Kd β} {FA : α → Prop} {FB : β → Prop} (ho : f.offset = off) (hc : P.cellsOf f.type = a.sz) (ha : Rds P f.type a FA)
    (hb : RdsF P fs (off + a.sz) b FB) : RdsF P (f :: fs) off (Kd.pair a b) (fun y => FA y.1 ∧ FB y.2) := by
  intro H enc W n cs h
  obtain ⟨x, hx⟩ := h f (List.mem_cons_self ..)
  rw [ho, hc] at hx
  obtain ⟨y, hy, fy⟩ := ha _ _ _ _ _ _ hx
  obtain ⟨z, hz, fz⟩ := hb H enc W n cs (fun g hg => h g (List.mem_cons_of_mem _ hg))
  refine ⟨(y, z), ⟨(cs.drop off).take a.sz, (cs.drop (off + a.sz)).take b.sz, ?_, hy, hz⟩, fy, fz⟩
  show (cs.drop off).take (a.sz + b.sz) = _
  rw [List.take_add, List.drop_drop]
theorem rds_struct {fs : Array Field} {d : Kd α} {F : α → Prop} (h : P.underlying t = some (.struct fs)) (hc : P.cellsOf t = d.sz) (hd : RdsF P fs.toList 0 d F) : Rds P t d F := by
  intro H enc W fuel cs x hx
  obtain ⟨xs, n, rfl, rfl, hl, hxs, hf⟩ := DataW.trod_struct h hx
  obtain ⟨y, hy, fy⟩ := hd H enc W n cs (fun f hf' => by
    obtain ⟨i, hi⟩ := List.mem_iff_getElem?.1 hf'
    have hi2 : fs[i]? = some f := by simpa using hi
    have := hf i f hi2
    have hlt : i < xs.length := by rw [hxs]; exact (Array.getElem?_eq_some_iff.1 hi2).1
    rw [List.getElem?_eq_getElem hlt] at this
    exact ⟨_, this⟩)
  refine ⟨y, ?_, fy⟩
  rwa [List.drop_zero, ← hc, ← hl, List.take_length] at hy
theorem rds_iso {d : Kd α} {F : α → Prop} (f : β → α) (g : α → β) (hg : ∀ a, f (g a) = a) (h : Rds P t d F) : Rds P t (Kd.iso d f) (fun y => F (f y)) := by
  intro H enc W fuel cs x hx
  obtain ⟨y, hy, fy⟩ := h _ _ _ _ _ _ hx
  exact ⟨g y, by show d.K W (f (g y)) cs; rw [hg]; exact hy, by show F (f (g y)); rw [hg]; exact fy⟩
theorem Rds.imp {d : Kd α} {F G : α → Prop} (h : Rds P t d F) (i : ∀ y, F y → G y) : Rds P t d G := by
  intro H enc W fuel cs x hx
  obtain ⟨y, hy, fy⟩ := h _ _ _ _ _ _ hx
  exact ⟨y, hy, i y fy⟩
/-- An argument's value. -/
theorem rds_arg {d : Kd α} {F : α → Prop} (h : Rds P t d F) {H : Type} {enc : TypeId × Value → H} {W : World} {v : Value} {D : DataW H} {ps : List MemPlace} (hv : DataW.Trod enc P W 0 (fun _ => true) true t v D ps) :
    ∃ y, d.K W y v.cells.toList ∧ F y := by
  obtain ⟨fuel, hf⟩ := hv
  exact h _ _ _ _ _ _ hf
theorem okWide_agg {fs : Array Field} {W : World} {r : Reach} {base : Nat} {v : Value} (h : P.underlying t = some (.struct fs)) (hv : Value.okWide P W r base t v) : ∃ cs, v = .agg cs := by
  simp only [Value.okWide, h] at hv
  obtain ⟨cs, rfl, _⟩ := hv
  exact ⟨cs, rfl⟩
end
end Go.Proofs.YtbieglaagpogkaaL
