/- The program's data as structures of Lean, and as cells of the evaluator. No conditions: definitions, and what data read back is. -/
import Derived.Test.YtmfjkbbmhaofbaaGreatS8
import Derived.Test.YtmfjkbbmhaofbaaGreatV28
namespace Go.Proofs.YtmfjkbbmhaofbaaGreatV
open Go Go.RowKit
set_option linter.unusedVariables false
set_option linter.unusedSimpArgs false
abbrev Str := List UInt8
abbrev B (b : Bool) : T := .sc (.u (.bool b))
abbrev S (b : Str) : T := .sc (.u (.str b))
abbrev I (n : Int) : T := .sc (.u (.int .i64 n))
abbrev L (z : Nat) (r : List (List U)) : T := .sc (.u (.sl z r))
abbrev ok1 (t : T) : Option Ret := some ⟨[t], [], []⟩
def iU (n : Int) : List U := [.int .i64 n]
def bU (b : Bool) : List U := [.bool b]
def sU (s : Str) : List U := [.str s]
/-- Whole numbers of 64 bits. -/
def Fit64 (x : Int) : Prop := -9223372036854775808 ≤ x ∧ x ≤ 9223372036854775807
def szL {α : Type} (f : α → Nat) (l : List α) : Nat := l.length + (l.map f).sum
theorem UT.int_of {u : U} (h : UT (.i .i64) u) : ∃ n, u = .int .i64 n ∧ Fit64 n := by
  cases h with
  | i k n h => exact ⟨n, rfl, bounds_i64 h⟩
theorem UT.u8_of {u : U} (h : UT (.i .u8) u) : ∃ n, u = .int .u8 n ∧ 0 ≤ n ∧ n ≤ 255 := by
  cases h with
  | i k n h => exact ⟨n, rfl, bounds_u8 h⟩
theorem UT.bool_of {u : U} (h : UT .b u) : ∃ b, u = .bool b := by
  cases h with
  | b x => exact ⟨x, rfl⟩
theorem UT.str_of {u : U} (h : UT .s u) : ∃ s, u = .str s ∧ s.length ≤ 9223372036854775807 := by
  cases h with
  | s x h => exact ⟨x, rfl, h⟩
theorem rows_of {α : Type} {f : α → List U} {p : α → Prop} : ∀ {rows : List (List U)}, (∀ row, row ∈ rows → ∃ x, row = f x ∧ p x) → ∃ l : List α, rows = l.map f ∧ ∀ y, y ∈ l → p y
  | [], _ => ⟨[], rfl, fun y h => by cases h⟩
  | r :: rs, h => by
    obtain ⟨x, hx, px⟩ := h r (List.mem_cons_self ..)
    obtain ⟨l, hl, pl⟩ := rows_of (rows := rs) (fun row hr => h row (List.mem_cons_of_mem _ hr))
    refine ⟨x :: l, by rw [hx, hl]; rfl, fun y hy => ?_⟩
    rcases List.mem_cons.1 hy with rfl | hy
    · exact px
    · exact pl y hy
/-- A slice of elements that are read. -/
theorem UT.sl_of {fs : List Ty} {u : U} (h : UT (.sl fs) u) {α : Type} {f : α → List U} {p : α → Prop} (he : ∀ us : List U, us.length = fs.length → (∀ (j : Nat) ty u, fs[j]? = some ty → us[j]? = some u → UT ty u) → ∃ x, us = f x ∧ p x) :
    ∃ l : List α, u = .sl fs.length (l.map f) ∧ l.length ≤ 9223372036854775807 ∧ ∀ y, y ∈ l → p y := by
  cases h with
  | sl _ rows hl hr hc =>
    obtain ⟨l, rfl, hp⟩ := rows_of (f := f) (p := p) (rows := rows) (fun row hrow => he row (hr row hrow) (fun j ty u hj hu => by
      obtain ⟨i, hi⟩ := List.mem_iff_getElem?.1 hrow
      exact hc i j row ty u hi hj hu))
    have hm : maxLen = 9223372036854775807 := by decide
    rw [hm, List.length_map] at hl
    exact ⟨l, rfl, hl, hp⟩
theorem iU_of (us : List U) (hl : us.length = 1) (ht : ∀ (j : Nat) ty u, [Ty.i .i64][j]? = some ty → us[j]? = some u → UT ty u) : ∃ x, us = iU x ∧ Fit64 x := by
  match us, hl with
  | [a], _ => obtain ⟨n, rfl, h⟩ := (ht 0 _ a rfl rfl).int_of; exact ⟨n, rfl, h⟩
theorem bU_of (us : List U) (hl : us.length = 1) (ht : ∀ (j : Nat) ty u, [Ty.b][j]? = some ty → us[j]? = some u → UT ty u) : ∃ x, us = bU x ∧ True := by
  match us, hl with
  | [a], _ => obtain ⟨n, rfl⟩ := (ht 0 _ a rfl rfl).bool_of; exact ⟨n, rfl, trivial⟩
structure Interval where
  low : Str
  high : Str
def Interval.u (x : Interval) : List U := [.str x.low, .str x.high]
def Interval.Fit (x : Interval) : Prop := x.low.length ≤ 9223372036854775807 ∧ x.high.length ≤ 9223372036854775807
def Interval.sz (x : Interval) : Nat := x.low.length + x.high.length
theorem Interval.eta (x : Interval) : (⟨x.low, x.high⟩ : Interval) = x := rfl
theorem Interval.of (us : List U) (hl : us.length = 2) (ht : ∀ (j : Nat) ty u, [Ty.s, .s][j]? = some ty → us[j]? = some u → UT ty u) : ∃ x, us = Interval.u x ∧ Interval.Fit x := by
  match us, hl with
  | [c0, c1], _ =>
    obtain ⟨x0, rfl, f0⟩ := (ht 0 _ c0 rfl rfl).str_of
    obtain ⟨x1, rfl, f1⟩ := (ht 1 _ c1 rfl rfl).str_of
    exact ⟨⟨x0, x1⟩, rfl, ⟨f0, f1⟩⟩
structure Pair where
  key : Str
  value : Int
def Pair.u (x : Pair) : List U := [.str x.key, .int .i64 x.value]
def Pair.Fit (x : Pair) : Prop := x.key.length ≤ 9223372036854775807 ∧ Fit64 x.value
def Pair.sz (x : Pair) : Nat := x.key.length
theorem Pair.eta (x : Pair) : (⟨x.key, x.value⟩ : Pair) = x := rfl
theorem Pair.of (us : List U) (hl : us.length = 2) (ht : ∀ (j : Nat) ty u, [Ty.s, .i .i64][j]? = some ty → us[j]? = some u → UT ty u) : ∃ x, us = Pair.u x ∧ Pair.Fit x := by
  match us, hl with
  | [c0, c1], _ =>
    obtain ⟨x0, rfl, f0⟩ := (ht 0 _ c0 rfl rfl).str_of
    obtain ⟨x1, rfl, f1⟩ := (ht 1 _ c1 rfl rfl).int_of
    exact ⟨⟨x0, x1⟩, rfl, ⟨f0, f1⟩⟩
structure Command where
  kind : Int
  key : Str
  value : Int
  old : Int
def Command.u (x : Command) : List U := [.int .i64 x.kind, .str x.key, .int .i64 x.value, .int .i64 x.old]
def Command.Fit (x : Command) : Prop := Fit64 x.kind ∧ x.key.length ≤ 9223372036854775807 ∧ Fit64 x.value ∧ Fit64 x.old
def Command.sz (x : Command) : Nat := x.key.length
theorem Command.eta (x : Command) : (⟨x.kind, x.key, x.value, x.old⟩ : Command) = x := rfl
theorem Command.of (us : List U) (hl : us.length = 4) (ht : ∀ (j : Nat) ty u, [Ty.i .i64, .s, .i .i64, .i .i64][j]? = some ty → us[j]? = some u → UT ty u) : ∃ x, us = Command.u x ∧ Command.Fit x := by
  match us, hl with
  | [c0, c1, c2, c3], _ =>
    obtain ⟨x0, rfl, f0⟩ := (ht 0 _ c0 rfl rfl).int_of
    obtain ⟨x1, rfl, f1⟩ := (ht 1 _ c1 rfl rfl).str_of
    obtain ⟨x2, rfl, f2⟩ := (ht 2 _ c2 rfl rfl).int_of
    obtain ⟨x3, rfl, f3⟩ := (ht 3 _ c3 rfl rfl).int_of
    exact ⟨⟨x0, x1, x2, x3⟩, rfl, ⟨f0, f1, f2, f3⟩⟩
structure Session where
  client : Int
  seq : Int
  reply : Int
def Session.u (x : Session) : List U := [.int .i64 x.client, .int .i64 x.seq, .int .i64 x.reply]
def Session.Fit (x : Session) : Prop := Fit64 x.client ∧ Fit64 x.seq ∧ Fit64 x.reply
theorem Session.eta (x : Session) : (⟨x.client, x.seq, x.reply⟩ : Session) = x := rfl
theorem Session.of (us : List U) (hl : us.length = 3) (ht : ∀ (j : Nat) ty u, [Ty.i .i64, .i .i64, .i .i64][j]? = some ty → us[j]? = some u → UT ty u) : ∃ x, us = Session.u x ∧ Session.Fit x := by
  match us, hl with
  | [c0, c1, c2], _ =>
    obtain ⟨x0, rfl, f0⟩ := (ht 0 _ c0 rfl rfl).int_of
    obtain ⟨x1, rfl, f1⟩ := (ht 1 _ c1 rfl rfl).int_of
    obtain ⟨x2, rfl, f2⟩ := (ht 2 _ c2 rfl rfl).int_of
    exact ⟨⟨x0, x1, x2⟩, rfl, ⟨f0, f1, f2⟩⟩
structure Entry where
  client : Int
  seq : Int
  cmd : Command
def Entry.u (x : Entry) : List U := [.int .i64 x.client, .int .i64 x.seq, .int .i64 x.cmd.kind, .str x.cmd.key, .int .i64 x.cmd.value, .int .i64 x.cmd.old]
def Entry.Fit (x : Entry) : Prop := Fit64 x.client ∧ Fit64 x.seq ∧ Command.Fit x.cmd
def Entry.sz (x : Entry) : Nat := x.cmd.sz
theorem Entry.eta (x : Entry) : (⟨x.client, x.seq, x.cmd⟩ : Entry) = x := rfl
theorem Entry.of (us : List U) (hl : us.length = 6) (ht : ∀ (j : Nat) ty u, [Ty.i .i64, .i .i64, .i .i64, .s, .i .i64, .i .i64][j]? = some ty → us[j]? = some u → UT ty u) : ∃ x, us = Entry.u x ∧ Entry.Fit x := by
  match us, hl with
  | [c0, c1, c2, c3, c4, c5], _ =>
    obtain ⟨x0, rfl, f0⟩ := (ht 0 _ c0 rfl rfl).int_of
    obtain ⟨x1, rfl, f1⟩ := (ht 1 _ c1 rfl rfl).int_of
    obtain ⟨x2, rfl, f2⟩ := (ht 2 _ c2 rfl rfl).int_of
    obtain ⟨x3, rfl, f3⟩ := (ht 3 _ c3 rfl rfl).str_of
    obtain ⟨x4, rfl, f4⟩ := (ht 4 _ c4 rfl rfl).int_of
    obtain ⟨x5, rfl, f5⟩ := (ht 5 _ c5 rfl rfl).int_of
    exact ⟨⟨x0, x1, ⟨x2, x3, x4, x5⟩⟩, rfl, ⟨f0, f1, ⟨f2, f3, f4, f5⟩⟩⟩
structure Answer where
  asked : Entry
  reply : Int
def Answer.u (x : Answer) : List U := [.int .i64 x.asked.client, .int .i64 x.asked.seq, .int .i64 x.asked.cmd.kind, .str x.asked.cmd.key, .int .i64 x.asked.cmd.value, .int .i64 x.asked.cmd.old, .int .i64 x.reply]
def Answer.Fit (x : Answer) : Prop := Entry.Fit x.asked ∧ Fit64 x.reply
def Answer.sz (x : Answer) : Nat := x.asked.sz
theorem Answer.eta (x : Answer) : (⟨x.asked, x.reply⟩ : Answer) = x := rfl
theorem Answer.of (us : List U) (hl : us.length = 7) (ht : ∀ (j : Nat) ty u, [Ty.i .i64, .i .i64, .i .i64, .s, .i .i64, .i .i64, .i .i64][j]? = some ty → us[j]? = some u → UT ty u) : ∃ x, us = Answer.u x ∧ Answer.Fit x := by
  match us, hl with
  | [c0, c1, c2, c3, c4, c5, c6], _ =>
    obtain ⟨x0, rfl, f0⟩ := (ht 0 _ c0 rfl rfl).int_of
    obtain ⟨x1, rfl, f1⟩ := (ht 1 _ c1 rfl rfl).int_of
    obtain ⟨x2, rfl, f2⟩ := (ht 2 _ c2 rfl rfl).int_of
    obtain ⟨x3, rfl, f3⟩ := (ht 3 _ c3 rfl rfl).str_of
    obtain ⟨x4, rfl, f4⟩ := (ht 4 _ c4 rfl rfl).int_of
    obtain ⟨x5, rfl, f5⟩ := (ht 5 _ c5 rfl rfl).int_of
    obtain ⟨x6, rfl, f6⟩ := (ht 6 _ c6 rfl rfl).int_of
    exact ⟨⟨⟨x0, x1, ⟨x2, x3, x4, x5⟩⟩, x6⟩, rfl, ⟨⟨f0, f1, ⟨f2, f3, f4, f5⟩⟩, f6⟩⟩
structure State where
  span : Interval
  pairs : (List Pair)
  known : (List Session)
  sealed : Bool
  cut : Str
def State.u (x : State) : List U := [.str x.span.low, .str x.span.high, .sl 2 (x.pairs.map Pair.u), .sl 3 (x.known.map Session.u), .bool x.sealed, .str x.cut]
def State.Fit (x : State) : Prop := Interval.Fit x.span ∧ (x.pairs.length ≤ 9223372036854775807 ∧ ∀ y, y ∈ x.pairs → Pair.Fit y) ∧ (x.known.length ≤ 9223372036854775807 ∧ ∀ y, y ∈ x.known → Session.Fit y) ∧ True ∧ x.cut.length ≤ 9223372036854775807
def State.sz (x : State) : Nat := x.span.sz + (szL Pair.sz x.pairs) + (szL (fun _ => 0) x.known) + x.cut.length
theorem State.eta (x : State) : (⟨x.span, x.pairs, x.known, x.sealed, x.cut⟩ : State) = x := rfl
theorem State.of (us : List U) (hl : us.length = 6) (ht : ∀ (j : Nat) ty u, [Ty.s, .s, .sl [.s, .i .i64], .sl [.i .i64, .i .i64, .i .i64], .b, .s][j]? = some ty → us[j]? = some u → UT ty u) : ∃ x, us = State.u x ∧ State.Fit x := by
  match us, hl with
  | [c0, c1, c2, c3, c4, c5], _ =>
    obtain ⟨x0, rfl, f0⟩ := (ht 0 _ c0 rfl rfl).str_of
    obtain ⟨x1, rfl, f1⟩ := (ht 1 _ c1 rfl rfl).str_of
    obtain ⟨x2, rfl, f2⟩ := (ht 2 _ c2 rfl rfl).sl_of Pair.of
    obtain ⟨x3, rfl, f3⟩ := (ht 3 _ c3 rfl rfl).sl_of Session.of
    obtain ⟨x4, rfl⟩ := (ht 4 _ c4 rfl rfl).bool_of
    obtain ⟨x5, rfl, f5⟩ := (ht 5 _ c5 rfl rfl).str_of
    exact ⟨⟨⟨x0, x1⟩, x2, x3, x4, x5⟩, rfl, ⟨⟨f0, f1⟩, f2, f3, trivial, f5⟩⟩
structure Piece where
  span : Interval
  pairs : (List Pair)
def Piece.u (x : Piece) : List U := [.str x.span.low, .str x.span.high, .sl 2 (x.pairs.map Pair.u)]
def Piece.Fit (x : Piece) : Prop := Interval.Fit x.span ∧ (x.pairs.length ≤ 9223372036854775807 ∧ ∀ y, y ∈ x.pairs → Pair.Fit y)
def Piece.sz (x : Piece) : Nat := x.span.sz + (szL Pair.sz x.pairs)
theorem Piece.eta (x : Piece) : (⟨x.span, x.pairs⟩ : Piece) = x := rfl
theorem Piece.of (us : List U) (hl : us.length = 3) (ht : ∀ (j : Nat) ty u, [Ty.s, .s, .sl [.s, .i .i64]][j]? = some ty → us[j]? = some u → UT ty u) : ∃ x, us = Piece.u x ∧ Piece.Fit x := by
  match us, hl with
  | [c0, c1, c2], _ =>
    obtain ⟨x0, rfl, f0⟩ := (ht 0 _ c0 rfl rfl).str_of
    obtain ⟨x1, rfl, f1⟩ := (ht 1 _ c1 rfl rfl).str_of
    obtain ⟨x2, rfl, f2⟩ := (ht 2 _ c2 rfl rfl).sl_of Pair.of
    exact ⟨⟨⟨x0, x1⟩, x2⟩, rfl, ⟨⟨f0, f1⟩, f2⟩⟩
structure Config where
  epoch : Int
  members : (List Int)
  fresh : Bool
def Config.u (x : Config) : List U := [.int .i64 x.epoch, .sl 1 (x.members.map iU), .bool x.fresh]
def Config.Fit (x : Config) : Prop := Fit64 x.epoch ∧ (x.members.length ≤ 9223372036854775807 ∧ ∀ y, y ∈ x.members → Fit64 y) ∧ True
def Config.sz (x : Config) : Nat := (szL (fun _ => 0) x.members)
theorem Config.eta (x : Config) : (⟨x.epoch, x.members, x.fresh⟩ : Config) = x := rfl
theorem Config.of (us : List U) (hl : us.length = 3) (ht : ∀ (j : Nat) ty u, [Ty.i .i64, .sl [.i .i64], .b][j]? = some ty → us[j]? = some u → UT ty u) : ∃ x, us = Config.u x ∧ Config.Fit x := by
  match us, hl with
  | [c0, c1, c2], _ =>
    obtain ⟨x0, rfl, f0⟩ := (ht 0 _ c0 rfl rfl).int_of
    obtain ⟨x1, rfl, f1⟩ := (ht 1 _ c1 rfl rfl).sl_of iU_of
    obtain ⟨x2, rfl⟩ := (ht 2 _ c2 rfl rfl).bool_of
    exact ⟨⟨x0, x1, x2⟩, rfl, ⟨f0, f1, trivial⟩⟩
structure Event where
  kind : Int
  node : Int
  place : Int
  sent : Entry
def Event.u (x : Event) : List U := [.int .i64 x.kind, .int .i64 x.node, .int .i64 x.place, .int .i64 x.sent.client, .int .i64 x.sent.seq, .int .i64 x.sent.cmd.kind, .str x.sent.cmd.key, .int .i64 x.sent.cmd.value, .int .i64 x.sent.cmd.old]
def Event.Fit (x : Event) : Prop := Fit64 x.kind ∧ Fit64 x.node ∧ Fit64 x.place ∧ Entry.Fit x.sent
def Event.sz (x : Event) : Nat := x.sent.sz
theorem Event.eta (x : Event) : (⟨x.kind, x.node, x.place, x.sent⟩ : Event) = x := rfl
theorem Event.of (us : List U) (hl : us.length = 9) (ht : ∀ (j : Nat) ty u, [Ty.i .i64, .i .i64, .i .i64, .i .i64, .i .i64, .i .i64, .s, .i .i64, .i .i64][j]? = some ty → us[j]? = some u → UT ty u) : ∃ x, us = Event.u x ∧ Event.Fit x := by
  match us, hl with
  | [c0, c1, c2, c3, c4, c5, c6, c7, c8], _ =>
    obtain ⟨x0, rfl, f0⟩ := (ht 0 _ c0 rfl rfl).int_of
    obtain ⟨x1, rfl, f1⟩ := (ht 1 _ c1 rfl rfl).int_of
    obtain ⟨x2, rfl, f2⟩ := (ht 2 _ c2 rfl rfl).int_of
    obtain ⟨x3, rfl, f3⟩ := (ht 3 _ c3 rfl rfl).int_of
    obtain ⟨x4, rfl, f4⟩ := (ht 4 _ c4 rfl rfl).int_of
    obtain ⟨x5, rfl, f5⟩ := (ht 5 _ c5 rfl rfl).int_of
    obtain ⟨x6, rfl, f6⟩ := (ht 6 _ c6 rfl rfl).str_of
    obtain ⟨x7, rfl, f7⟩ := (ht 7 _ c7 rfl rfl).int_of
    obtain ⟨x8, rfl, f8⟩ := (ht 8 _ c8 rfl rfl).int_of
    exact ⟨⟨x0, x1, x2, ⟨x3, x4, ⟨x5, x6, x7, x8⟩⟩⟩, rfl, ⟨f0, f1, f2, ⟨f3, f4, ⟨f5, f6, f7, f8⟩⟩⟩⟩
structure Plan where
  kind : Int
  first : Int
  second : Int
  key : Str
  from_ : Int
  to_ : Int
  step : Int
def Plan.u (x : Plan) : List U := [.int .i64 x.kind, .int .i64 x.first, .int .i64 x.second, .str x.key, .int .i64 x.from_, .int .i64 x.to_, .int .i64 x.step]
def Plan.Fit (x : Plan) : Prop := Fit64 x.kind ∧ Fit64 x.first ∧ Fit64 x.second ∧ x.key.length ≤ 9223372036854775807 ∧ Fit64 x.from_ ∧ Fit64 x.to_ ∧ Fit64 x.step
def Plan.sz (x : Plan) : Nat := x.key.length
theorem Plan.eta (x : Plan) : (⟨x.kind, x.first, x.second, x.key, x.from_, x.to_, x.step⟩ : Plan) = x := rfl
theorem Plan.of (us : List U) (hl : us.length = 7) (ht : ∀ (j : Nat) ty u, [Ty.i .i64, .i .i64, .i .i64, .s, .i .i64, .i .i64, .i .i64][j]? = some ty → us[j]? = some u → UT ty u) : ∃ x, us = Plan.u x ∧ Plan.Fit x := by
  match us, hl with
  | [c0, c1, c2, c3, c4, c5, c6], _ =>
    obtain ⟨x0, rfl, f0⟩ := (ht 0 _ c0 rfl rfl).int_of
    obtain ⟨x1, rfl, f1⟩ := (ht 1 _ c1 rfl rfl).int_of
    obtain ⟨x2, rfl, f2⟩ := (ht 2 _ c2 rfl rfl).int_of
    obtain ⟨x3, rfl, f3⟩ := (ht 3 _ c3 rfl rfl).str_of
    obtain ⟨x4, rfl, f4⟩ := (ht 4 _ c4 rfl rfl).int_of
    obtain ⟨x5, rfl, f5⟩ := (ht 5 _ c5 rfl rfl).int_of
    obtain ⟨x6, rfl, f6⟩ := (ht 6 _ c6 rfl rfl).int_of
    exact ⟨⟨x0, x1, x2, x3, x4, x5, x6⟩, rfl, ⟨f0, f1, f2, f3, f4, f5, f6⟩⟩
structure Deed where
  kind : Int
  who : Int
  node : Int
  number : Int
  wish : Command
  inner : Event
  work : Plan
def Deed.u (x : Deed) : List U := [.int .i64 x.kind, .int .i64 x.who, .int .i64 x.node, .int .i64 x.number, .int .i64 x.wish.kind, .str x.wish.key, .int .i64 x.wish.value, .int .i64 x.wish.old, .int .i64 x.inner.kind, .int .i64 x.inner.node, .int .i64 x.inner.place, .int .i64 x.inner.sent.client, .int .i64 x.inner.sent.seq, .int .i64 x.inner.sent.cmd.kind, .str x.inner.sent.cmd.key, .int .i64 x.inner.sent.cmd.value, .int .i64 x.inner.sent.cmd.old, .int .i64 x.work.kind, .int .i64 x.work.first, .int .i64 x.work.second, .str x.work.key, .int .i64 x.work.from_, .int .i64 x.work.to_, .int .i64 x.work.step]
def Deed.Fit (x : Deed) : Prop := Fit64 x.kind ∧ Fit64 x.who ∧ Fit64 x.node ∧ Fit64 x.number ∧ Command.Fit x.wish ∧ Event.Fit x.inner ∧ Plan.Fit x.work
def Deed.sz (x : Deed) : Nat := x.wish.sz + x.inner.sz + x.work.sz
theorem Deed.eta (x : Deed) : (⟨x.kind, x.who, x.node, x.number, x.wish, x.inner, x.work⟩ : Deed) = x := rfl
theorem Deed.of (us : List U) (hl : us.length = 24) (ht : ∀ (j : Nat) ty u, [Ty.i .i64, .i .i64, .i .i64, .i .i64, .i .i64, .s, .i .i64, .i .i64, .i .i64, .i .i64, .i .i64, .i .i64, .i .i64, .i .i64, .s, .i .i64, .i .i64, .i .i64, .i .i64, .i .i64, .s, .i .i64, .i .i64, .i .i64][j]? = some ty → us[j]? = some u → UT ty u) : ∃ x, us = Deed.u x ∧ Deed.Fit x := by
  match us, hl with
  | [c0, c1, c2, c3, c4, c5, c6, c7, c8, c9, c10, c11, c12, c13, c14, c15, c16, c17, c18, c19, c20, c21, c22, c23], _ =>
    obtain ⟨x0, rfl, f0⟩ := (ht 0 _ c0 rfl rfl).int_of
    obtain ⟨x1, rfl, f1⟩ := (ht 1 _ c1 rfl rfl).int_of
    obtain ⟨x2, rfl, f2⟩ := (ht 2 _ c2 rfl rfl).int_of
    obtain ⟨x3, rfl, f3⟩ := (ht 3 _ c3 rfl rfl).int_of
    obtain ⟨x4, rfl, f4⟩ := (ht 4 _ c4 rfl rfl).int_of
    obtain ⟨x5, rfl, f5⟩ := (ht 5 _ c5 rfl rfl).str_of
    obtain ⟨x6, rfl, f6⟩ := (ht 6 _ c6 rfl rfl).int_of
    obtain ⟨x7, rfl, f7⟩ := (ht 7 _ c7 rfl rfl).int_of
    obtain ⟨x8, rfl, f8⟩ := (ht 8 _ c8 rfl rfl).int_of
    obtain ⟨x9, rfl, f9⟩ := (ht 9 _ c9 rfl rfl).int_of
    obtain ⟨x10, rfl, f10⟩ := (ht 10 _ c10 rfl rfl).int_of
    obtain ⟨x11, rfl, f11⟩ := (ht 11 _ c11 rfl rfl).int_of
    obtain ⟨x12, rfl, f12⟩ := (ht 12 _ c12 rfl rfl).int_of
    obtain ⟨x13, rfl, f13⟩ := (ht 13 _ c13 rfl rfl).int_of
    obtain ⟨x14, rfl, f14⟩ := (ht 14 _ c14 rfl rfl).str_of
    obtain ⟨x15, rfl, f15⟩ := (ht 15 _ c15 rfl rfl).int_of
    obtain ⟨x16, rfl, f16⟩ := (ht 16 _ c16 rfl rfl).int_of
    obtain ⟨x17, rfl, f17⟩ := (ht 17 _ c17 rfl rfl).int_of
    obtain ⟨x18, rfl, f18⟩ := (ht 18 _ c18 rfl rfl).int_of
    obtain ⟨x19, rfl, f19⟩ := (ht 19 _ c19 rfl rfl).int_of
    obtain ⟨x20, rfl, f20⟩ := (ht 20 _ c20 rfl rfl).str_of
    obtain ⟨x21, rfl, f21⟩ := (ht 21 _ c21 rfl rfl).int_of
    obtain ⟨x22, rfl, f22⟩ := (ht 22 _ c22 rfl rfl).int_of
    obtain ⟨x23, rfl, f23⟩ := (ht 23 _ c23 rfl rfl).int_of
    exact ⟨⟨x0, x1, x2, x3, ⟨x4, x5, x6, x7⟩, ⟨x8, x9, x10, ⟨x11, x12, ⟨x13, x14, x15, x16⟩⟩⟩, ⟨x17, x18, x19, x20, x21, x22, x23⟩⟩, rfl, ⟨f0, f1, f2, f3, ⟨f4, f5, f6, f7⟩, ⟨f8, f9, f10, ⟨f11, f12, ⟨f13, f14, f15, f16⟩⟩⟩, ⟨f17, f18, f19, f20, f21, f22, f23⟩⟩⟩
structure Replica where
  conf : Config
  ready : Bool
  log : (List Entry)
def Replica.u (x : Replica) : List U := [.int .i64 x.conf.epoch, .sl 1 (x.conf.members.map iU), .bool x.conf.fresh, .bool x.ready, .sl 6 (x.log.map Entry.u)]
def Replica.Fit (x : Replica) : Prop := Config.Fit x.conf ∧ True ∧ (x.log.length ≤ 9223372036854775807 ∧ ∀ y, y ∈ x.log → Entry.Fit y)
def Replica.sz (x : Replica) : Nat := x.conf.sz + (szL Entry.sz x.log)
theorem Replica.eta (x : Replica) : (⟨x.conf, x.ready, x.log⟩ : Replica) = x := rfl
theorem Replica.of (us : List U) (hl : us.length = 5) (ht : ∀ (j : Nat) ty u, [Ty.i .i64, .sl [.i .i64], .b, .b, .sl [.i .i64, .i .i64, .i .i64, .s, .i .i64, .i .i64]][j]? = some ty → us[j]? = some u → UT ty u) : ∃ x, us = Replica.u x ∧ Replica.Fit x := by
  match us, hl with
  | [c0, c1, c2, c3, c4], _ =>
    obtain ⟨x0, rfl, f0⟩ := (ht 0 _ c0 rfl rfl).int_of
    obtain ⟨x1, rfl, f1⟩ := (ht 1 _ c1 rfl rfl).sl_of iU_of
    obtain ⟨x2, rfl⟩ := (ht 2 _ c2 rfl rfl).bool_of
    obtain ⟨x3, rfl⟩ := (ht 3 _ c3 rfl rfl).bool_of
    obtain ⟨x4, rfl, f4⟩ := (ht 4 _ c4 rfl rfl).sl_of Entry.of
    exact ⟨⟨⟨x0, x1, x2⟩, x3, x4⟩, rfl, ⟨⟨f0, f1, trivial⟩, trivial, f4⟩⟩
structure Message where
  kind : Int
  to_ : Int
  epoch : Int
  conf : Config
  log : (List Entry)
def Message.u (x : Message) : List U := [.int .i64 x.kind, .int .i64 x.to_, .int .i64 x.epoch, .int .i64 x.conf.epoch, .sl 1 (x.conf.members.map iU), .bool x.conf.fresh, .sl 6 (x.log.map Entry.u)]
def Message.Fit (x : Message) : Prop := Fit64 x.kind ∧ Fit64 x.to_ ∧ Fit64 x.epoch ∧ Config.Fit x.conf ∧ (x.log.length ≤ 9223372036854775807 ∧ ∀ y, y ∈ x.log → Entry.Fit y)
def Message.sz (x : Message) : Nat := x.conf.sz + (szL Entry.sz x.log)
theorem Message.eta (x : Message) : (⟨x.kind, x.to_, x.epoch, x.conf, x.log⟩ : Message) = x := rfl
theorem Message.of (us : List U) (hl : us.length = 7) (ht : ∀ (j : Nat) ty u, [Ty.i .i64, .i .i64, .i .i64, .i .i64, .sl [.i .i64], .b, .sl [.i .i64, .i .i64, .i .i64, .s, .i .i64, .i .i64]][j]? = some ty → us[j]? = some u → UT ty u) : ∃ x, us = Message.u x ∧ Message.Fit x := by
  match us, hl with
  | [c0, c1, c2, c3, c4, c5, c6], _ =>
    obtain ⟨x0, rfl, f0⟩ := (ht 0 _ c0 rfl rfl).int_of
    obtain ⟨x1, rfl, f1⟩ := (ht 1 _ c1 rfl rfl).int_of
    obtain ⟨x2, rfl, f2⟩ := (ht 2 _ c2 rfl rfl).int_of
    obtain ⟨x3, rfl, f3⟩ := (ht 3 _ c3 rfl rfl).int_of
    obtain ⟨x4, rfl, f4⟩ := (ht 4 _ c4 rfl rfl).sl_of iU_of
    obtain ⟨x5, rfl⟩ := (ht 5 _ c5 rfl rfl).bool_of
    obtain ⟨x6, rfl, f6⟩ := (ht 6 _ c6 rfl rfl).sl_of Entry.of
    exact ⟨⟨x0, x1, x2, ⟨x3, x4, x5⟩, x6⟩, rfl, ⟨f0, f1, f2, ⟨f3, f4, trivial⟩, f6⟩⟩
structure Chain where
  base : State
  conf : Config
  nodes : (List Replica)
  up : (List Bool)
  bag : (List Message)
  answers : (List Answer)
def Chain.u (x : Chain) : List U := [.str x.base.span.low, .str x.base.span.high, .sl 2 (x.base.pairs.map Pair.u), .sl 3 (x.base.known.map Session.u), .bool x.base.sealed, .str x.base.cut, .int .i64 x.conf.epoch, .sl 1 (x.conf.members.map iU), .bool x.conf.fresh, .sl 5 (x.nodes.map Replica.u), .sl 1 (x.up.map bU), .sl 7 (x.bag.map Message.u), .sl 7 (x.answers.map Answer.u)]
def Chain.Fit (x : Chain) : Prop := State.Fit x.base ∧ Config.Fit x.conf ∧ (x.nodes.length ≤ 9223372036854775807 ∧ ∀ y, y ∈ x.nodes → Replica.Fit y) ∧ (x.up.length ≤ 9223372036854775807 ∧ ∀ y, y ∈ x.up → True) ∧ (x.bag.length ≤ 9223372036854775807 ∧ ∀ y, y ∈ x.bag → Message.Fit y) ∧ (x.answers.length ≤ 9223372036854775807 ∧ ∀ y, y ∈ x.answers → Answer.Fit y)
def Chain.sz (x : Chain) : Nat := x.base.sz + x.conf.sz + (szL Replica.sz x.nodes) + (szL (fun _ => 0) x.up) + (szL Message.sz x.bag) + (szL Answer.sz x.answers)
theorem Chain.eta (x : Chain) : (⟨x.base, x.conf, x.nodes, x.up, x.bag, x.answers⟩ : Chain) = x := rfl
theorem Chain.of (us : List U) (hl : us.length = 13) (ht : ∀ (j : Nat) ty u, [Ty.s, .s, .sl [.s, .i .i64], .sl [.i .i64, .i .i64, .i .i64], .b, .s, .i .i64, .sl [.i .i64], .b, .sl [.i .i64, .sl [.i .i64], .b, .b, .sl [.i .i64, .i .i64, .i .i64, .s, .i .i64, .i .i64]], .sl [.b], .sl [.i .i64, .i .i64, .i .i64, .i .i64, .sl [.i .i64], .b, .sl [.i .i64, .i .i64, .i .i64, .s, .i .i64, .i .i64]], .sl [.i .i64, .i .i64, .i .i64, .s, .i .i64, .i .i64, .i .i64]][j]? = some ty → us[j]? = some u → UT ty u) : ∃ x, us = Chain.u x ∧ Chain.Fit x := by
  match us, hl with
  | [c0, c1, c2, c3, c4, c5, c6, c7, c8, c9, c10, c11, c12], _ =>
    obtain ⟨x0, rfl, f0⟩ := (ht 0 _ c0 rfl rfl).str_of
    obtain ⟨x1, rfl, f1⟩ := (ht 1 _ c1 rfl rfl).str_of
    obtain ⟨x2, rfl, f2⟩ := (ht 2 _ c2 rfl rfl).sl_of Pair.of
    obtain ⟨x3, rfl, f3⟩ := (ht 3 _ c3 rfl rfl).sl_of Session.of
    obtain ⟨x4, rfl⟩ := (ht 4 _ c4 rfl rfl).bool_of
    obtain ⟨x5, rfl, f5⟩ := (ht 5 _ c5 rfl rfl).str_of
    obtain ⟨x6, rfl, f6⟩ := (ht 6 _ c6 rfl rfl).int_of
    obtain ⟨x7, rfl, f7⟩ := (ht 7 _ c7 rfl rfl).sl_of iU_of
    obtain ⟨x8, rfl⟩ := (ht 8 _ c8 rfl rfl).bool_of
    obtain ⟨x9, rfl, f9⟩ := (ht 9 _ c9 rfl rfl).sl_of Replica.of
    obtain ⟨x10, rfl, f10⟩ := (ht 10 _ c10 rfl rfl).sl_of bU_of
    obtain ⟨x11, rfl, f11⟩ := (ht 11 _ c11 rfl rfl).sl_of Message.of
    obtain ⟨x12, rfl, f12⟩ := (ht 12 _ c12 rfl rfl).sl_of Answer.of
    exact ⟨⟨⟨⟨x0, x1⟩, x2, x3, x4, x5⟩, ⟨x6, x7, x8⟩, x9, x10, x11, x12⟩, rfl, ⟨⟨⟨f0, f1⟩, f2, f3, trivial, f5⟩, ⟨f6, f7, trivial⟩, f9, f10, f11, f12⟩⟩
structure Route where
  number : Int
  span : Interval
def Route.u (x : Route) : List U := [.int .i64 x.number, .str x.span.low, .str x.span.high]
def Route.Fit (x : Route) : Prop := Fit64 x.number ∧ Interval.Fit x.span
def Route.sz (x : Route) : Nat := x.span.sz
theorem Route.eta (x : Route) : (⟨x.number, x.span⟩ : Route) = x := rfl
theorem Route.of (us : List U) (hl : us.length = 3) (ht : ∀ (j : Nat) ty u, [Ty.i .i64, .s, .s][j]? = some ty → us[j]? = some u → UT ty u) : ∃ x, us = Route.u x ∧ Route.Fit x := by
  match us, hl with
  | [c0, c1, c2], _ =>
    obtain ⟨x0, rfl, f0⟩ := (ht 0 _ c0 rfl rfl).int_of
    obtain ⟨x1, rfl, f1⟩ := (ht 1 _ c1 rfl rfl).str_of
    obtain ⟨x2, rfl, f2⟩ := (ht 2 _ c2 rfl rfl).str_of
    exact ⟨⟨x0, ⟨x1, x2⟩⟩, rfl, ⟨f0, ⟨f1, f2⟩⟩⟩
structure Caller where
  cache : (List Route)
  seq : Int
  busy : Bool
  wish : Command
  called : Int
def Caller.u (x : Caller) : List U := [.sl 3 (x.cache.map Route.u), .int .i64 x.seq, .bool x.busy, .int .i64 x.wish.kind, .str x.wish.key, .int .i64 x.wish.value, .int .i64 x.wish.old, .int .i64 x.called]
def Caller.Fit (x : Caller) : Prop := (x.cache.length ≤ 9223372036854775807 ∧ ∀ y, y ∈ x.cache → Route.Fit y) ∧ Fit64 x.seq ∧ True ∧ Command.Fit x.wish ∧ Fit64 x.called
def Caller.sz (x : Caller) : Nat := (szL Route.sz x.cache) + x.wish.sz
theorem Caller.eta (x : Caller) : (⟨x.cache, x.seq, x.busy, x.wish, x.called⟩ : Caller) = x := rfl
theorem Caller.of (us : List U) (hl : us.length = 8) (ht : ∀ (j : Nat) ty u, [Ty.sl [.i .i64, .s, .s], .i .i64, .b, .i .i64, .s, .i .i64, .i .i64, .i .i64][j]? = some ty → us[j]? = some u → UT ty u) : ∃ x, us = Caller.u x ∧ Caller.Fit x := by
  match us, hl with
  | [c0, c1, c2, c3, c4, c5, c6, c7], _ =>
    obtain ⟨x0, rfl, f0⟩ := (ht 0 _ c0 rfl rfl).sl_of Route.of
    obtain ⟨x1, rfl, f1⟩ := (ht 1 _ c1 rfl rfl).int_of
    obtain ⟨x2, rfl⟩ := (ht 2 _ c2 rfl rfl).bool_of
    obtain ⟨x3, rfl, f3⟩ := (ht 3 _ c3 rfl rfl).int_of
    obtain ⟨x4, rfl, f4⟩ := (ht 4 _ c4 rfl rfl).str_of
    obtain ⟨x5, rfl, f5⟩ := (ht 5 _ c5 rfl rfl).int_of
    obtain ⟨x6, rfl, f6⟩ := (ht 6 _ c6 rfl rfl).int_of
    obtain ⟨x7, rfl, f7⟩ := (ht 7 _ c7 rfl rfl).int_of
    exact ⟨⟨x0, x1, x2, ⟨x3, x4, x5, x6⟩, x7⟩, rfl, ⟨f0, f1, trivial, ⟨f3, f4, f5, f6⟩, f7⟩⟩
structure Result where
  client : Int
  seq : Int
  wish : Command
  reply : Int
  called : Int
  returned : Int
def Result.u (x : Result) : List U := [.int .i64 x.client, .int .i64 x.seq, .int .i64 x.wish.kind, .str x.wish.key, .int .i64 x.wish.value, .int .i64 x.wish.old, .int .i64 x.reply, .int .i64 x.called, .int .i64 x.returned]
def Result.Fit (x : Result) : Prop := Fit64 x.client ∧ Fit64 x.seq ∧ Command.Fit x.wish ∧ Fit64 x.reply ∧ Fit64 x.called ∧ Fit64 x.returned
def Result.sz (x : Result) : Nat := x.wish.sz
theorem Result.eta (x : Result) : (⟨x.client, x.seq, x.wish, x.reply, x.called, x.returned⟩ : Result) = x := rfl
theorem Result.of (us : List U) (hl : us.length = 9) (ht : ∀ (j : Nat) ty u, [Ty.i .i64, .i .i64, .i .i64, .s, .i .i64, .i .i64, .i .i64, .i .i64, .i .i64][j]? = some ty → us[j]? = some u → UT ty u) : ∃ x, us = Result.u x ∧ Result.Fit x := by
  match us, hl with
  | [c0, c1, c2, c3, c4, c5, c6, c7, c8], _ =>
    obtain ⟨x0, rfl, f0⟩ := (ht 0 _ c0 rfl rfl).int_of
    obtain ⟨x1, rfl, f1⟩ := (ht 1 _ c1 rfl rfl).int_of
    obtain ⟨x2, rfl, f2⟩ := (ht 2 _ c2 rfl rfl).int_of
    obtain ⟨x3, rfl, f3⟩ := (ht 3 _ c3 rfl rfl).str_of
    obtain ⟨x4, rfl, f4⟩ := (ht 4 _ c4 rfl rfl).int_of
    obtain ⟨x5, rfl, f5⟩ := (ht 5 _ c5 rfl rfl).int_of
    obtain ⟨x6, rfl, f6⟩ := (ht 6 _ c6 rfl rfl).int_of
    obtain ⟨x7, rfl, f7⟩ := (ht 7 _ c7 rfl rfl).int_of
    obtain ⟨x8, rfl, f8⟩ := (ht 8 _ c8 rfl rfl).int_of
    exact ⟨⟨x0, x1, ⟨x2, x3, x4, x5⟩, x6, x7, x8⟩, rfl, ⟨f0, f1, ⟨f2, f3, f4, f5⟩, f6, f7, f8⟩⟩
structure Shard where
  live : Bool
  group : Chain
def Shard.u (x : Shard) : List U := [.bool x.live, .str x.group.base.span.low, .str x.group.base.span.high, .sl 2 (x.group.base.pairs.map Pair.u), .sl 3 (x.group.base.known.map Session.u), .bool x.group.base.sealed, .str x.group.base.cut, .int .i64 x.group.conf.epoch, .sl 1 (x.group.conf.members.map iU), .bool x.group.conf.fresh, .sl 5 (x.group.nodes.map Replica.u), .sl 1 (x.group.up.map bU), .sl 7 (x.group.bag.map Message.u), .sl 7 (x.group.answers.map Answer.u)]
def Shard.Fit (x : Shard) : Prop := True ∧ Chain.Fit x.group
def Shard.sz (x : Shard) : Nat := x.group.sz
theorem Shard.eta (x : Shard) : (⟨x.live, x.group⟩ : Shard) = x := rfl
theorem Shard.of (us : List U) (hl : us.length = 14) (ht : ∀ (j : Nat) ty u, [Ty.b, .s, .s, .sl [.s, .i .i64], .sl [.i .i64, .i .i64, .i .i64], .b, .s, .i .i64, .sl [.i .i64], .b, .sl [.i .i64, .sl [.i .i64], .b, .b, .sl [.i .i64, .i .i64, .i .i64, .s, .i .i64, .i .i64]], .sl [.b], .sl [.i .i64, .i .i64, .i .i64, .i .i64, .sl [.i .i64], .b, .sl [.i .i64, .i .i64, .i .i64, .s, .i .i64, .i .i64]], .sl [.i .i64, .i .i64, .i .i64, .s, .i .i64, .i .i64, .i .i64]][j]? = some ty → us[j]? = some u → UT ty u) : ∃ x, us = Shard.u x ∧ Shard.Fit x := by
  match us, hl with
  | [c0, c1, c2, c3, c4, c5, c6, c7, c8, c9, c10, c11, c12, c13], _ =>
    obtain ⟨x0, rfl⟩ := (ht 0 _ c0 rfl rfl).bool_of
    obtain ⟨x1, rfl, f1⟩ := (ht 1 _ c1 rfl rfl).str_of
    obtain ⟨x2, rfl, f2⟩ := (ht 2 _ c2 rfl rfl).str_of
    obtain ⟨x3, rfl, f3⟩ := (ht 3 _ c3 rfl rfl).sl_of Pair.of
    obtain ⟨x4, rfl, f4⟩ := (ht 4 _ c4 rfl rfl).sl_of Session.of
    obtain ⟨x5, rfl⟩ := (ht 5 _ c5 rfl rfl).bool_of
    obtain ⟨x6, rfl, f6⟩ := (ht 6 _ c6 rfl rfl).str_of
    obtain ⟨x7, rfl, f7⟩ := (ht 7 _ c7 rfl rfl).int_of
    obtain ⟨x8, rfl, f8⟩ := (ht 8 _ c8 rfl rfl).sl_of iU_of
    obtain ⟨x9, rfl⟩ := (ht 9 _ c9 rfl rfl).bool_of
    obtain ⟨x10, rfl, f10⟩ := (ht 10 _ c10 rfl rfl).sl_of Replica.of
    obtain ⟨x11, rfl, f11⟩ := (ht 11 _ c11 rfl rfl).sl_of bU_of
    obtain ⟨x12, rfl, f12⟩ := (ht 12 _ c12 rfl rfl).sl_of Message.of
    obtain ⟨x13, rfl, f13⟩ := (ht 13 _ c13 rfl rfl).sl_of Answer.of
    exact ⟨⟨x0, ⟨⟨⟨x1, x2⟩, x3, x4, x5, x6⟩, ⟨x7, x8, x9⟩, x10, x11, x12, x13⟩⟩, rfl, ⟨trivial, ⟨⟨⟨f1, f2⟩, f3, f4, trivial, f6⟩, ⟨f7, f8, trivial⟩, f10, f11, f12, f13⟩⟩⟩
structure Cluster where
  shards : (List Shard)
  clients : (List Caller)
  results : (List Result)
  work : Plan
  turn : Int
  clock : Int
def Cluster.u (x : Cluster) : List U := [.sl 14 (x.shards.map Shard.u), .sl 8 (x.clients.map Caller.u), .sl 9 (x.results.map Result.u), .int .i64 x.work.kind, .int .i64 x.work.first, .int .i64 x.work.second, .str x.work.key, .int .i64 x.work.from_, .int .i64 x.work.to_, .int .i64 x.work.step, .int .i64 x.turn, .int .i64 x.clock]
def Cluster.Fit (x : Cluster) : Prop := (x.shards.length ≤ 9223372036854775807 ∧ ∀ y, y ∈ x.shards → Shard.Fit y) ∧ (x.clients.length ≤ 9223372036854775807 ∧ ∀ y, y ∈ x.clients → Caller.Fit y) ∧ (x.results.length ≤ 9223372036854775807 ∧ ∀ y, y ∈ x.results → Result.Fit y) ∧ Plan.Fit x.work ∧ Fit64 x.turn ∧ Fit64 x.clock
def Cluster.sz (x : Cluster) : Nat := (szL Shard.sz x.shards) + (szL Caller.sz x.clients) + (szL Result.sz x.results) + x.work.sz
theorem Cluster.eta (x : Cluster) : (⟨x.shards, x.clients, x.results, x.work, x.turn, x.clock⟩ : Cluster) = x := rfl
theorem Cluster.of (us : List U) (hl : us.length = 12) (ht : ∀ (j : Nat) ty u, [Ty.sl [.b, .s, .s, .sl [.s, .i .i64], .sl [.i .i64, .i .i64, .i .i64], .b, .s, .i .i64, .sl [.i .i64], .b, .sl [.i .i64, .sl [.i .i64], .b, .b, .sl [.i .i64, .i .i64, .i .i64, .s, .i .i64, .i .i64]], .sl [.b], .sl [.i .i64, .i .i64, .i .i64, .i .i64, .sl [.i .i64], .b, .sl [.i .i64, .i .i64, .i .i64, .s, .i .i64, .i .i64]], .sl [.i .i64, .i .i64, .i .i64, .s, .i .i64, .i .i64, .i .i64]], .sl [.sl [.i .i64, .s, .s], .i .i64, .b, .i .i64, .s, .i .i64, .i .i64, .i .i64], .sl [.i .i64, .i .i64, .i .i64, .s, .i .i64, .i .i64, .i .i64, .i .i64, .i .i64], .i .i64, .i .i64, .i .i64, .s, .i .i64, .i .i64, .i .i64, .i .i64, .i .i64][j]? = some ty → us[j]? = some u → UT ty u) : ∃ x, us = Cluster.u x ∧ Cluster.Fit x := by
  match us, hl with
  | [c0, c1, c2, c3, c4, c5, c6, c7, c8, c9, c10, c11], _ =>
    obtain ⟨x0, rfl, f0⟩ := (ht 0 _ c0 rfl rfl).sl_of Shard.of
    obtain ⟨x1, rfl, f1⟩ := (ht 1 _ c1 rfl rfl).sl_of Caller.of
    obtain ⟨x2, rfl, f2⟩ := (ht 2 _ c2 rfl rfl).sl_of Result.of
    obtain ⟨x3, rfl, f3⟩ := (ht 3 _ c3 rfl rfl).int_of
    obtain ⟨x4, rfl, f4⟩ := (ht 4 _ c4 rfl rfl).int_of
    obtain ⟨x5, rfl, f5⟩ := (ht 5 _ c5 rfl rfl).int_of
    obtain ⟨x6, rfl, f6⟩ := (ht 6 _ c6 rfl rfl).str_of
    obtain ⟨x7, rfl, f7⟩ := (ht 7 _ c7 rfl rfl).int_of
    obtain ⟨x8, rfl, f8⟩ := (ht 8 _ c8 rfl rfl).int_of
    obtain ⟨x9, rfl, f9⟩ := (ht 9 _ c9 rfl rfl).int_of
    obtain ⟨x10, rfl, f10⟩ := (ht 10 _ c10 rfl rfl).int_of
    obtain ⟨x11, rfl, f11⟩ := (ht 11 _ c11 rfl rfl).int_of
    exact ⟨⟨x0, x1, x2, ⟨x3, x4, x5, x6, x7, x8, x9⟩, x10, x11⟩, rfl, ⟨f0, f1, f2, ⟨f3, f4, f5, f6, f7, f8, f9⟩, f10, f11⟩⟩
theorem flatR : (∀ l : List Pair, flatRs (l.map Pair.u) = true) ∧ (∀ l : List Session, flatRs (l.map Session.u) = true) ∧ (∀ l : List Int, flatRs (l.map iU) = true) ∧ (∀ l : List Answer, flatRs (l.map Answer.u) = true) ∧ (∀ l : List Entry, flatRs (l.map Entry.u) = true) ∧ (∀ l : List Bool, flatRs (l.map bU) = true) ∧ (∀ l : List Route, flatRs (l.map Route.u) = true) ∧ (∀ l : List Result, flatRs (l.map Result.u) = true) ∧ (∀ l : List Interval, flatRs (l.map Interval.u) = true) ∧ (∀ (b : Bool) (x : List Id), sel b x x = x) ∧
    (∀ (st : St) d res x0 x1 x2 x3 x4 x5 x6, St.ofRet st d ⟨res, [x0, x1, x2, x3, x4, x5, x6], []⟩ = (((((((st.obj (.loc d 0) (some x0)).obj (.loc d 1) (some x1)).obj (.loc d 2) (some x2)).obj (.loc d 3) (some x3)).obj (.loc d 4) (some x4)).obj (.loc d 5) (some x5)).obj (.loc d 6) (some x6)).put d (retD (res.map (T.mapC (C.ren (newIds d)))))) ∧ List.range 7 = [0, 1, 2, 3, 4, 5, 6] ∧
    (∀ l : List Pair, scalRs (l.map Pair.u) = true) ∧ (∀ l : List Session, scalRs (l.map Session.u) = true) ∧ (∀ l : List Int, scalRs (l.map iU) = true) ∧ (∀ l : List Answer, scalRs (l.map Answer.u) = true) ∧ (∀ l : List Entry, scalRs (l.map Entry.u) = true) ∧ (∀ l : List Bool, scalRs (l.map bU) = true) ∧ (∀ l : List Route, scalRs (l.map Route.u) = true) ∧ (∀ l : List Result, scalRs (l.map Result.u) = true) ∧ (∀ l : List Interval, scalRs (l.map Interval.u) = true) :=
  ⟨flat_map fun _ => rfl, flat_map fun _ => rfl, flat_map fun _ => rfl, flat_map fun _ => rfl, flat_map fun _ => rfl, flat_map fun _ => rfl, flat_map fun _ => rfl, flat_map fun _ => rfl, flat_map fun _ => rfl, fun b x => by cases b <;> rfl, fun st d res x0 x1 x2 x3 x4 x5 x6 => rfl, rfl, scal_map fun _ => rfl, scal_map fun _ => rfl, scal_map fun _ => rfl, scal_map fun _ => rfl, scal_map fun _ => rfl, scal_map fun _ => rfl, scal_map fun _ => rfl, scal_map fun _ => rfl, scal_map fun _ => rfl⟩
end Go.Proofs.YtmfjkbbmhaofbaaGreatV
