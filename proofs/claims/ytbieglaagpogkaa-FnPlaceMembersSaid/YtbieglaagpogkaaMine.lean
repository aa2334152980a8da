/- A row that is made with room beyond its length, told as a row of the call's own; and a wrap of bytes, spelled out. Conditions: the sizes that the lemmas name. -/
import Derived.Test.YtbieglaagpogkaaWMore
import Derived.Test.YtbieglaagpogkaaWNEv
namespace Go.Proofs.YtbieglaagpogkaaW.PrintWords
open Go.RowKit
set_option linter.unusedVariables false
theorem u8_w (n : Int) : IntKind.u8.wrap n = n % 256 := by rw [IntKind.wrap_u8]
theorem wr_u8 (x : Int) : wrap64 (x % 256) = x % 256 := by unfold wrap64; omega
theorem reads_len {α : Type} {R : α → List Value → Prop} {sz : Nat} {w : World} {A : Option Addr} {n m : Nat} {ps : List α} (e : n = m) (h : ReadsRow R sz w A n ps) : ReadsRow R sz w A m ps := e ▸ h
namespace Kd
section
variable {P : Program} {ops : Array Oper} {rest : List Oper} {o : Oper} {a : Act} {Q : Exit → Act → World → Prop} {Kc : Act → World → Prop} {α : Type} {W : World}
theorem made_row (d : Kd α) (base e : Nat) (z : Value) (hz : z.cells.size = d.sz) (z0 : α) {ok okp : Nat → Prop} (hzero : d.M W base okp z0 z.cells.toList) (hok : ∀ k, okp k → ok k) (hfresh : ok W.heap.size) (n m : Nat) (hnm : n ≤ m) (hm : m ≤ 281474976710656) (hbase : base ≤ W.heap.size) (hs0 : 0 < d.sz) :
    d.R e (W.alloc (.cells (madeCells z.cells (m * d.sz)) e)) base ok (.slice (some ⟨W.heap.size, 0, none⟩) n m) (List.replicate n z0) := by
  have hrep := reps_made hz hs0 hzero m
  have full : d.R e (W.alloc (.cells (madeCells z.cells (m * d.sz)) e)) base ok (.slice (some ⟨W.heap.size, 0, none⟩) m m) (List.replicate m z0) := by
    refine ⟨fun k hk => ?_, (madeCells z.cells (m * d.sz)).toList, ?_, ?_⟩
    · have : W.heap.size = k := by simpa [Value.ownBlock] using hk
      subst this
      exact hfresh
    · have h2 := World.ownsRow_lit (base := base) (e := e) (size := d.sz) W (madeCells z.cells (m * d.sz)) m hbase (by simp only [maxLen]; omega) (by simp [size_madeCells])
      simpa using h2
    · refine hrep.imp_ (fun p c hp => d.M_mono (fun k hk => ⟨hok k hk.1, fun he => ?_⟩) (M_below (d.M_bound hp) (below_alloc (Below.refl _ _) _)))
      have h3 : k = W.heap.size := by simpa [Value.ownBlock] using he
      have := hk.2.2.1
      omega
  have := R_take (m := n) full (by simpa using hnm)
  simpa [List.take_replicate, Nat.min_eq_left hnm] using this
theorem run_makecap (d : Kd α) (t e : TypeId) (x y : Operand) (ho : o.op = .makeSlice t x y) (n m : Int) (hx : a.eval x = .int .i64 n) (hy : a.eval y = .int .i64 m)
    (ht : P.underlying t = some (.slice e)) (z : Value) (bytes : Nat) (hinfo : (P.info? e).map (fun i => (i.zero, i.size, i.bytes)) = some (some z, d.sz, bytes)) (hb0 : 0 < bytes)
    (h0 : 0 ≤ n) (hnm : n ≤ m) (hl : m.toNat * bytes ≤ 281474976710656) :
    (execOp a.eval o).run P W = .ok (.value (.slice (some ⟨W.heap.size, 0, none⟩) n.toNat m.toNat)) (W.alloc (.cells (madeCells z.cells (m.toNat * d.sz)) e)) := by
  obtain ⟨n', rfl⟩ := Int.eq_ofNat_of_zero_le h0
  obtain ⟨m', rfl⟩ := Int.eq_ofNat_of_zero_le (Int.le_trans h0 hnm)
  simp only [Int.toNat_natCast] at hl ⊢
  obtain ⟨i0, hi, hzz⟩ := Option.map_eq_some_iff.1 hinfo
  simp only [Prod.mk.injEq] at hzz
  obtain ⟨hz0, hz1, hz2⟩ := hzz
  have hm : m' ≤ 281474976710656 := Nat.le_trans (Nat.le_mul_of_pos_right _ hb0) hl
  have hr := run_make (P := P) W t e i0 z ht hi hz0 .i64 .i64 (n' : Int) (m' : Int) (by omega) (by omega)
    (by
      have h3 : ((i0.bytes * m' : Nat) : Int) ≤ 281474976710656 := by rw [hz2, Nat.mul_comm]; omega
      have h4 : (i0.bytes * n' : Nat) ≤ i0.bytes * m' := Nat.mul_le_mul_left _ (by omega)
      first | rwa [Int.natCast_mul] at h3 | (rw [← Int.natCast_mul]; omega)) (by omega)
  simp only [Int.toNat_natCast] at hr
  rw [hz1] at hr
  simp [execOp, ho, hx, hy, hr]
theorem R_makecap (d : Kd α) {w0 W : World} (base e : Nat) (hgd : o.guard = none) {N : Tmp} (hd : o.dst = some N) (t : TypeId) (x y : Operand) (ho : o.op = .makeSlice t x y) (n m : Int) (hx : a.eval x = .int .i64 n) (hy : a.eval y = .int .i64 m)
    (ht : P.underlying t = some (.slice e)) (z : Value) (bytes : Nat) (hinfo : (P.info? e).map (fun i => (i.zero, i.size, i.bytes)) = some (some z, d.sz, bytes)) (hz : z.cells.size = d.sz) (hs0 : 0 < d.sz) (hb0 : 0 < bytes)
    (z0 : α) {ok okp : Nat → Prop} (hzero : d.M W base okp z0 z.cells.toList) (hok : ∀ k, okp k → ok k) (hfresh : ok W.heap.size) (h0 : 0 ≤ n) (hnm : n ≤ m) (hl : m.toNat * bytes ≤ 281474976710656) (HB : Below base w0 W) (hbase : base ≤ W.heap.size)
    (h : ∀ v1 w1, d.R e w1 base ok v1 (List.replicate n.toNat z0) → Below base w0 w1 → W.grownBy w1 none → (∃ b, v1.ownBlock = some b ∧ W.heap.size ≤ b) → wpList P ops Q rest (a.put o.dst v1) w1) : wpList P ops Q (o :: rest) a W := by
  have hm : m.toNat ≤ 281474976710656 := Nat.le_trans (Nat.le_mul_of_pos_right _ hb0) hl
  exact event_run hgd (run_makecap d t e x y ho n m hx hy ht z bytes hinfo hb0 h0 hnm hl) (h _ _ (made_row d base e z hz z0 hzero hok hfresh n.toNat m.toNat (by omega) hm hbase hs0) (HB.alloc hbase _) (World.grownBy_alloc W _ none) ⟨W.heap.size, by simp [Value.ownBlock], Nat.le_refl _⟩)
theorem R_makecap_step (d : Kd α) {w0 W : World} (base e : Nat) (hw : Region.wanted o (yielded ops a.tmps) = true) {N : Tmp} (hd : o.dst = some N) (t : TypeId) (x y : Operand) (ho : o.op = .makeSlice t x y) (n m : Int) (hx : a.eval x = .int .i64 n) (hy : a.eval y = .int .i64 m)
    (ht : P.underlying t = some (.slice e)) (z : Value) (bytes : Nat) (hinfo : (P.info? e).map (fun i => (i.zero, i.size, i.bytes)) = some (some z, d.sz, bytes)) (hz : z.cells.size = d.sz) (hs0 : 0 < d.sz) (hb0 : 0 < bytes)
    (z0 : α) {ok okp : Nat → Prop} (hzero : d.M W base okp z0 z.cells.toList) (hok : ∀ k, okp k → ok k) (hfresh : ok W.heap.size) (h0 : 0 ≤ n) (hnm : n ≤ m) (hl : m.toNat * bytes ≤ 281474976710656) (HB : Below base w0 W) (hbase : base ≤ W.heap.size)
    (h : ∀ v1 w1, d.R e w1 base ok v1 (List.replicate n.toNat z0) → Below base w0 w1 → W.grownBy w1 none → (∃ b, v1.ownBlock = some b ∧ W.heap.size ≤ b) → Kc (a.put o.dst v1) w1) : if Region.wanted o (yielded ops a.tmps) = true then Oper.wp P o a W Kc Q else Kc (a.put o.dst undef) W := by
  have hm : m.toNat ≤ 281474976710656 := Nat.le_trans (Nat.le_mul_of_pos_right _ hb0) hl
  exact event_step hw (run_makecap d t e x y ho n m hx hy ht z bytes hinfo hb0 h0 hnm hl) (h _ _ (made_row d base e z hz z0 hzero hok hfresh n.toNat m.toNat (by omega) hm hbase hs0) (HB.alloc hbase _) (World.grownBy_alloc W _ none) ⟨W.heap.size, by simp [Value.ownBlock], Nat.le_refl _⟩)
end
end Kd
end Go.Proofs.YtbieglaagpogkaaW.PrintWords
