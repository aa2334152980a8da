/- What the evaluator's data says of the machine's memory: definitions, and how it is kept while memory changes elsewhere. No conditions but those that the lemmas state. -/
import Derived.Test.YtdnhamehpdlbgaaV3
import Derived.Below
import Derived.Laws.CopyRow
namespace Go.Proofs.YtdnhamehpdlbgaaV
open Go Go.RowKit
set_option linter.unusedVariables false
/-- Where an object lies: its block, the cells of an element, how many elements it has room for, its elements' type. -/
structure Loc where
  g : Nat
  sz : Nat
  cap : Nat
  e : TypeId
/-- Data in memory, outside of the blocks M that may be written. -/
inductive RepU (w : World) (M : Nat → Prop) : U → Value → Prop
  | int (k : IntKind) (n : Int) : RepU w M (.int k n) (.int k n)
  | bool (b : Bool) : RepU w M (.bool b) (.bool b)
  | str (s : List UInt8) : RepU w M (.str s) (.string ⟨s.toArray⟩)
  | nil : RepU w M .nil (.slice none 0 0)
  | sl0 (sz : Nat) : RepU w M (.sl sz []) (.slice none 0 0)
  | sl (sz : Nat) (rows : List (List U)) (a : Addr) (c : Nat) (V : Nat → Nat → Value) (hn : rows.length ≤ c) (hb : rows ≠ [] → 0 < sz → ¬ M a.block ∧ a.block < w.heap.size) (hsz : ∀ row, row ∈ rows → row.length = sz)
      (hcell : ∀ i j, i < rows.length → j < sz → w.cell? (a.add (i * sz + j)) = some (V i j)) (hrep : ∀ i j row x, rows[i]? = some row → row[j]? = some x → RepU w M x (V i j)) : RepU w M (.sl sz rows) (.slice (some a) rows.length c)
  | fn (f : Nat) (caps : List U) (vs : Array Value) (hs : vs.size = caps.length) (hrep : ∀ (j : Nat) x v, caps[j]? = some x → vs[j]? = some v → RepU w M x v) : RepU w M (.fn f caps) (.func (.func f) #[] vs)
  | rp (cells : List U) (a : Addr) (V : Nat → Value) (hb : cells ≠ [] → ¬ M a.block ∧ a.block < w.heap.size) (hcell : ∀ j, j < cells.length → w.cell? (a.add j) = some (V j)) (hrep : ∀ (j : Nat) x, cells[j]? = some x → RepU w M x (V j)) : RepU w M (.rp cells) (.pointer (some a))
theorem RepU.one {w : World} {M : Nat → Prop} {x : U} {v : Value} (h : RepU w M x v) : v.oneCell' = true := by cases h <;> rfl
/-- Memory keeps what lies outside of M, and M has no old block more. -/
structure Keeps (w w' : World) (M M' : Nat → Prop) : Prop where
  size : w.heap.size ≤ w'.heap.size
  same : ∀ b, b < w.heap.size → ¬ M b → w'.heap[b]? = w.heap[b]?
  less : ∀ b, b < w.heap.size → M' b → M b
theorem cell?_congr {w w' : World} {a : Addr} (h : w'.heap[a.block]? = w.heap[a.block]?) : w'.cell? a = w.cell? a := by unfold World.cell?; rw [h]
theorem add_blk (a : Addr) (n : Nat) : (a.add n).block = a.block := by
  unfold Addr.add
  split <;> rfl
theorem RepU.keep {w w' : World} {M M' : Nat → Prop} (k : Keeps w w' M M') {x : U} {v : Value} (h : RepU w M x v) : RepU w' M' x v := by
  induction h with
  | int => exact .int ..
  | bool => exact .bool ..
  | str => exact .str ..
  | nil => exact .nil
  | sl0 => exact .sl0 _
  | sl sz rows a c V hn hb hsz hcell hrep ih =>
    refine .sl sz rows a c V hn (fun h0 h1 => ?_) hsz (fun i j hi hj => ?_) ih
    · have := hb h0 h1
      exact ⟨fun hm => this.1 (k.less _ this.2 hm), Nat.lt_of_lt_of_le this.2 k.size⟩
    · have := hb (fun e => by rw [e] at hi; simp at hi) (by omega)
      exact (cell?_congr (by rw [add_blk]; exact k.same _ this.2 this.1)).trans (hcell i j hi hj)
  | fn f caps vs hs hrep ih => exact .fn f caps vs hs ih
  | rp cells a V hb hcell hrep ih =>
    refine .rp cells a V (fun h0 => ?_) (fun j hj => ?_) ih
    · have := hb h0
      exact ⟨fun hm => this.1 (k.less _ this.2 hm), Nat.lt_of_lt_of_le this.2 k.size⟩
    · have := hb (fun e => by rw [e] at hj; simp at hj)
      exact (cell?_congr (by rw [add_blk]; exact k.same _ this.2 this.1)).trans (hcell j hj)
abbrev Sig := Id → Option Loc
def RepC (w : World) (M : Nat → Prop) (σ : Sig) (o : Id → Option Obj) : C → Value → Prop
  | .u x, v => RepU w M x v
  | .own id n, v => ∃ sz rows, o id = some (.row sz rows) ∧ n ≤ rows.length ∧ ((n = 0 ∧ ∃ b, v = .slice b 0 0) ∨ ∃ L, σ id = some L ∧ v = .slice (some ⟨L.g, 0, none⟩) n L.cap)
  | .ptr id i p, v => ∃ L, (o id).isSome = true ∧ σ id = some L ∧ v = .pointer (some ⟨L.g, i * L.sz + p, none⟩)
  | .bad, v => v.oneCell' = true
theorem RepC.one {w : World} {M : Nat → Prop} {σ : Sig} {o : Id → Option Obj} {c : C} {v : Value} (h : RepC w M σ o c v) : v.oneCell' = true := by
  cases c with
  | u x => exact RepU.one h
  | own id n => obtain ⟨_, _, _, _, ⟨_, _, rfl⟩ | ⟨_, _, rfl⟩⟩ := h <;> rfl
  | ptr id i p => obtain ⟨_, _, _, rfl⟩ := h; rfl
  | bad => exact h
def RepT (w : World) (M : Nat → Prop) (σ : Sig) (o : Id → Option Obj) : T → Value → Prop
  | .sc c, v => RepC w M σ o c v
  | .ag cs, v => ∃ vs : Array Value, v = .agg vs ∧ vs.size = cs.length ∧ ∀ (j : Nat) c, cs[j]? = some c → ∃ x, vs[j]? = some x ∧ RepC w M σ o c x
def RepD (w : World) (M : Nat → Prop) (σ : Sig) (o : Id → Option Obj) : D → Value → Prop
  | .t x, v => RepT w M σ o x v
  | .rptr us, v => ∃ a : Addr, v = .pointer (some a) ∧ (us ≠ [] → ¬ M a.block ∧ a.block < w.heap.size) ∧ ∀ (j : Nat) x, us[j]? = some x → ∃ y, w.cell? (a.add j) = some y ∧ RepU w M x y
  | .tup xs, v => ∃ vs : Array Value, v = .tuple vs ∧ vs.size = xs.length ∧ ∀ (j : Nat) x, xs[j]? = some x → ∃ y, vs[j]? = some y ∧ RepT w M σ o x y
  | .bad, _ => True
  | .emp, v => ∃ b, v = .slice b 0 0
def RepO (w : World) (M : Nat → Prop) (σ : Sig) (o : Id → Option Obj) (id : Id) : Obj → Prop
  | .box cs => ∃ L cur, σ id = some L ∧ M L.g ∧ w.heap[L.g]? = some (.cells cur L.e (0, 0)) ∧ cur.size = cs.length ∧ ∀ (j : Nat) c, cs[j]? = some c → ∃ x, cur[j]? = some x ∧ RepC w M σ o c x
  | .row sz rows => (rows = [] ∧ σ id = none) ∨ ∃ L cur, σ id = some L ∧ L.sz = sz ∧ M L.g ∧ w.heap[L.g]? = some (.cells cur L.e (0, 0)) ∧ cur.size = L.cap * L.sz ∧ rows.length ≤ L.cap ∧ L.cap ≤ maxLen ∧ 0 < L.sz ∧
      (∀ row, row ∈ rows → row.length = L.sz) ∧ ∀ (i j : Nat) row x, rows[i]? = some row → row[j]? = some x → ∃ y, cur[i * L.sz + j]? = some y ∧ RepU w M x y
/-- The machine's state and the evaluator's: blocks from base on are the call's own; σ0: where the objects lie that were handed in; X: others' blocks, out of reach. -/
structure Rel (base : Nat) (σ0 : Sig) (X : Nat → Prop) (w0 : World) (σ : Sig) (M : Nat → Prop) (w : World) (a : Act) (st : St) : Prop where
  slot : ∀ t, t < a.tmps.size → RepD w M σ st.o (st.s t) (a.tmps.getD t undef)
  obj : ∀ id x, st.o id = some x → RepO w M σ st.o id x
  inj : ∀ id id' L L', (st.o id).isSome = true → (st.o id').isSome = true → σ id = some L → σ id' = some L' → L.g = L'.g → id = id'
  live : ∀ b, M b → X b ∨ ∃ id L, (st.o id).isSome = true ∧ σ id = some L ∧ L.g = b
  mine : ∀ id L, (st.o id).isSome = true → σ id = some L → ¬ X L.g ∧ (base ≤ L.g ∨ ∃ j, id = .par j)
  par : ∀ j, σ (.par j) = σ0 (.par j)
  sup : ∀ b, X b → M b ∧ b < w.heap.size
  os : w.os = w0.os
  tape : w.tape = w0.tape
  output : w.output = w0.output
  size : base ≤ w.heap.size
  same : ∀ b, b < base → (∀ j L, σ0 (.par j) = some L → L.g ≠ b) → w.heap[b]? = w0.heap[b]?
section
variable {w w' : World} {M M' : Nat → Prop} {σ σ' : Sig} {o o' : Id → Option Obj}
/-- References go on to mean the same. -/
structure Refs (σ σ' : Sig) (o o' : Id → Option Obj) : Prop where
  sig : ∀ id, (o id).isSome = true → ∀ L, σ id = some L → σ' id = some L
  row : ∀ id sz rows, o id = some (.row sz rows) → ∃ sz' rows', o' id = some (.row sz' rows') ∧ rows.length ≤ rows'.length
  some_ : ∀ id, (o id).isSome = true → (o' id).isSome = true
theorem Refs.refl (σ : Sig) (o : Id → Option Obj) : Refs σ σ o o := ⟨fun _ _ _ h => h, fun _ z r h => ⟨z, r, h, Nat.le_refl _⟩, fun _ h => h⟩
theorem RepC.keep (k : Keeps w w' M M') (r : Refs σ σ' o o') {c : C} {v : Value} (h : RepC w M σ o c v) : RepC w' M' σ' o' c v := by
  cases c with
  | u x => exact RepU.keep k h
  | own id n =>
    obtain ⟨sz, rows, ho, hn, hv⟩ := h
    obtain ⟨sz', rows', ho', hl⟩ := r.row id sz rows ho
    refine ⟨sz', rows', ho', Nat.le_trans hn hl, ?_⟩
    rcases hv with hv | ⟨L, hL, hv⟩
    · exact .inl hv
    · exact .inr ⟨L, r.sig id (by rw [ho]; rfl) L hL, hv⟩
  | ptr id i p =>
    obtain ⟨L, ho, hL, hv⟩ := h
    exact ⟨L, r.some_ id ho, r.sig id ho L hL, hv⟩
  | bad => exact h
theorem RepT.keep (k : Keeps w w' M M') (r : Refs σ σ' o o') {x : T} {v : Value} (h : RepT w M σ o x v) : RepT w' M' σ' o' x v := by
  cases x with
  | sc c => exact RepC.keep k r h
  | ag cs =>
    obtain ⟨vs, rfl, hs, hc⟩ := h
    refine ⟨vs, rfl, hs, fun j c hj => ?_⟩
    obtain ⟨x, hx, hr⟩ := hc j c hj
    exact ⟨x, hx, hr.keep k r⟩
theorem RepD.keep (k : Keeps w w' M M') (r : Refs σ σ' o o') {x : D} {v : Value} (h : RepD w M σ o x v) : RepD w' M' σ' o' x v := by
  cases x with
  | t x => exact RepT.keep k r h
  | rptr us =>
    obtain ⟨a, rfl, hb, hc⟩ := h
    refine ⟨a, rfl, fun h0 => ?_, fun j x hj => ?_⟩
    · have := hb h0
      exact ⟨fun hm => this.1 (k.less _ this.2 hm), Nat.lt_of_lt_of_le this.2 k.size⟩
    · obtain ⟨y, hy, hr⟩ := hc j x hj
      have := hb (fun e => by rw [e] at hj; simp at hj)
      exact ⟨y, (cell?_congr (by rw [add_blk]; exact k.same _ this.2 this.1)).trans hy, hr.keep k⟩
  | tup xs =>
    obtain ⟨vs, rfl, hs, hc⟩ := h
    refine ⟨vs, rfl, hs, fun j c hj => ?_⟩
    obtain ⟨x, hx, hr⟩ := hc j c hj
    exact ⟨x, hx, hr.keep k r⟩
  | bad => trivial
  | emp => exact h
/-- An object whose block is as it was. -/
theorem RepO.keep (k : Keeps w w' M M') (r : Refs σ σ' o o') {id : Id} {x : Obj} (hx : o id = some x) (hn : σ id = none → σ' id = none) (hb : ∀ L, σ id = some L → w'.heap[L.g]? = w.heap[L.g]? ∧ M' L.g) (h : RepO w M σ o id x) : RepO w' M' σ' o' id x := by
  cases x with
  | box cs =>
    obtain ⟨L, cur, hL, hM, hh, hs, hc⟩ := h
    refine ⟨L, cur, r.sig id (by rw [hx]; rfl) L hL, (hb L hL).2, (hb L hL).1.trans hh, hs, fun j c hj => ?_⟩
    obtain ⟨y, hy, hr⟩ := hc j c hj
    exact ⟨y, hy, hr.keep k r⟩
  | row sz rows =>
    rcases h with ⟨h1, h2⟩ | ⟨L, cur, hL, hz, hM, hh, hs, hn, hm, h0, hl, hc⟩
    · exact .inl ⟨h1, hn h2⟩
    · refine .inr ⟨L, cur, r.sig id (by rw [hx]; rfl) L hL, hz, (hb L hL).2, (hb L hL).1.trans hh, hs, hn, hm, h0, hl, fun i j row x hi hj => ?_⟩
      obtain ⟨y, hy, hr⟩ := hc i j row x hi hj
      exact ⟨y, hy, hr.keep k⟩
end
end Go.Proofs.YtdnhamehpdlbgaaV
