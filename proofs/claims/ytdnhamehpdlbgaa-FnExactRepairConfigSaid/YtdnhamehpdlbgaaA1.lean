/- Lemmas of functions that the law FnExactRepairConfig reaches, and that it returns true for all data of its types. No conditions but those that the lemmas state. -/
import Derived.Test.YtdnhamehpdlbgaaT1
import Derived.Test.YtdnhamehpdlbgaaJ
import Derived.Test.YtdnhamehpdlbgaaS7
namespace Go.Proofs.YtdnhamehpdlbgaaV
open Go Go.RowKit
set_option linter.unusedVariables false
set_option linter.unusedSimpArgs false
set_option maxRecDepth 4000
/-- A part is taken off, unless that is too much. -/
def offZ (left : Int) (n : Nat) (k : Int → Int) : Int := if IntKind.i64.wrap (left - n) < 0 then -1 else k (IntKind.i64.wrap (left - n))
def chkZ (a : Int) (k : Int → Int) : Int := if a < 0 then -1 else k a
/-- No more is left than was there; what was counted is small. -/
def LeZ (g : Int → Int) (P : Prop) : Prop := ∀ a, 0 ≤ a → a ≤ 1048576 → g a ≤ a ∧ (0 ≤ g a → P)
theorem LeZ.id : LeZ (fun a => a) True := fun a _ _ => ⟨Int.le_refl _, fun _ => trivial⟩
theorem LeZ.off {n : Nat} {k : Int → Int} {P : Prop} (hn : n ≤ 9223372036854775807) (hk : LeZ k P) : LeZ (fun a => offZ a n k) (n ≤ 1048576 ∧ P) := by
  intro a h0 h1
  simp only [offZ]
  rw [w64 (by omega) (by omega)]
  split
  · exact ⟨by omega, fun h => by omega⟩
  · obtain ⟨h2, h3⟩ := hk (a - n) (by omega) (by omega)
    exact ⟨by omega, fun h => ⟨by omega, h3 h⟩⟩
theorem LeZ.chk {g k : Int → Int} {P Q : Prop} (hg : LeZ g P) (hk : LeZ k Q) : LeZ (fun a => chkZ (g a) k) (P ∧ Q) := by
  intro a h0 h1
  obtain ⟨h2, h3⟩ := hg a h0 h1
  simp only [chkZ]
  split
  · exact ⟨by omega, fun h => by omega⟩
  · obtain ⟨h4, h5⟩ := hk (g a) (by omega) (by omega)
    exact ⟨by omega, fun h => ⟨h3 (by omega), h5 h⟩⟩
theorem fill_set {α : Type} {f : α → List U} {z : List U} {l : List α} {i : Nat} {x : α} (h : l[i]? = some x) : ((l.take i).map f ++ List.replicate (l.length - i) z).set i (f x) = (l.take (i + 1)).map f ++ List.replicate (l.length - (i + 1)) z := by
  have hi := (List.getElem?_eq_some_iff.1 h).1
  have he := (List.getElem?_eq_some_iff.1 h).2
  have h1 : ((l.take i).map f).length = i := by simp; omega
  rw [List.set_append_right _ _ (by omega), h1, Nat.sub_self, show l.length - i = (l.length - (i + 1)) + 1 by omega, List.replicate_succ, List.set_cons_zero, List.take_succ_eq_append_getElem hi, List.map_append, List.append_assoc, he]
  rfl
theorem fill_get {α : Type} {f : α → List U} {z : List U} {l : List α} {i : Nat} (hi : i < l.length) : ((l.take i).map f ++ List.replicate (l.length - i) z)[i]? = some z := by
  have h1 : ((l.take i).map f).length = i := by simp; omega
  rw [List.getElem?_append_right (by omega), h1, Nat.sub_self, show l.length - i = (l.length - (i + 1)) + 1 by omega, List.replicate_succ]
  rfl
theorem fill_all {α : Type} {f : α → List U} {z : List U} {l : List α} : (l.take l.length).map f ++ List.replicate (l.length - l.length) z = l.map f := by simp
theorem mk_ok (st : St) (d n : Nat) (zero : List U) (bytes : Nat) (h : n * bytes ≤ 140737488355328) : stMk st d (DI (n : Int)) (DI (n : Int)) zero bytes = some (((st.cool (.loc d 0)).obj (.loc d 0) (some (.row zero.length (List.replicate n zero)))).put d (.t (.sc (.own (.loc d 0) n)))) := by
  simp [stMk, D.int?, h]
def SmallIntS (l : (List Int)) : Prop := l.length ≤ 1048576 ∧ True
def szIntSG (l : (List Int)) (left : Int) : Int := offZ left l.length fun a => a
theorem szIntS_ok (l : (List Int)) (left : Int) : EE F 80 [L 1 (l.map iU), I left] [] = ok1 (I (szIntSG l left)) := by
  rw [R80, b80]
  simp only [↓xP, xQ, xR, flatR, Nat.reduceBEq, Nat.reduceAdd, Nat.reduceSub, IOp.dst, IOp.isF, IOp.args, coolOp]
  refine sel_split (fun h => ?_) (fun h => ?_) <;> (simp only [decide_eq_true_eq, decide_eq_false_iff_not] at h; simp [szIntSG, offZ, h])
theorem szIntS_le (l : (List Int)) (hf : (l.length ≤ 9223372036854775807 ∧ ∀ y, y ∈ l → Fit64 y)) : LeZ (szIntSG l) (SmallIntS l) := LeZ.off hf.1 (LeZ.id)
theorem toIntS_ok (l : (List Int)) (hs : SmallIntS l) : EE F 18 [L 1 (l.map iU)] [] = some ⟨[.sc (.own (.par 0) l.length)], [.row 1 (l.map iU)], []⟩ := by
  have hl := hs.1
  rw [R18, b18]
  simp only [↓xP, xQ, xR, flatR, Nat.reduceBEq, Nat.reduceAdd, Nat.reduceSub, IOp.dst, IOp.isF, IOp.args, coolOp, mk_ok _ 7 l.length [.int .i64 0] 8 (by omega)]
  refine (loop_ind (fun (i : Nat) st => i ≤ l.length ∧ st.s 0 = DU (.sl 1 (l.map iU)) ∧ st.s 4 = DI i ∧ st.s 3 = .t (.sc (.own (.loc 7 0) l.length)) ∧ st.o (.loc 7 0) = some (.row 1 ((l.take i).map iU ++ List.replicate (l.length - i) [.int .i64 0]))) (fun i => l.length - i) (fun i => some ⟨[.sc (.own (.par 0) l.length)], [.row 1 (l.map iU)], []⟩) ?_ 0 ⟨by omega, by simp only [↓xP, xQ, xR, flatR, Nat.reduceBEq, Nat.reduceAdd, Nat.reduceSub, IOp.dst, IOp.isF, IOp.args, coolOp], by simp only [↓xP, xQ, xR, flatR, Nat.reduceBEq, Nat.reduceAdd, Nat.reduceSub, IOp.dst, IOp.isF, IOp.args, coolOp]; rfl, by simp only [↓xP, xQ, xR, flatR, Nat.reduceBEq, Nat.reduceAdd, Nat.reduceSub, IOp.dst, IOp.isF, IOp.args, coolOp], by simp only [↓xP, xQ, xR, flatR, Nat.reduceBEq, Nat.reduceAdd, Nat.reduceSub, IOp.dst, IOp.isF, IOp.args, coolOp, Nat.sub_zero]⟩)
  rintro i st ⟨hle, h0, h4, h3, ho⟩ ih
  by_cases hi : i < l.length
  · obtain ⟨x, hx⟩ : ∃ x, l[i]? = some x := ⟨_, List.getElem?_eq_getElem hi⟩
    have hw := w_succ (i := i) (by omega)
    have hg := fill_get (f := iU) (z := [.int .i64 0]) hi
    have hf := fill_set (f := iU) (z := [.int .i64 0]) hx
    simp only [iU] at hf
    simp only [↓xP, xQ, xR, flatR, Nat.reduceBEq, Nat.reduceAdd, Nat.reduceSub, IOp.dst, IOp.isF, IOp.args, coolOp, h0, h4, h3, ho, hi, hx, hw, hg, hf, iU]
    exact ih (i + 1) _ (by omega) ⟨by omega, by simp only [↓xP, xQ, xR, flatR, Nat.reduceBEq, Nat.reduceAdd, Nat.reduceSub, IOp.dst, IOp.isF, IOp.args, coolOp, h0], by simp only [↓xP, xQ, xR, flatR, Nat.reduceBEq, Nat.reduceAdd, Nat.reduceSub, IOp.dst, IOp.isF, IOp.args, coolOp], by simp only [↓xP, xQ, xR, flatR, Nat.reduceBEq, Nat.reduceAdd, Nat.reduceSub, IOp.dst, IOp.isF, IOp.args, coolOp, h3], by simp only [↓xP, xQ, xR, flatR, Nat.reduceBEq, Nat.reduceAdd, Nat.reduceSub, IOp.dst, IOp.isF, IOp.args, coolOp, iU]⟩
  · have : i = l.length := by omega
    subst this
    rw [fill_all] at ho
    simp only [↓xP, xQ, xR, flatR, Nat.reduceBEq, Nat.reduceAdd, Nat.reduceSub, IOp.dst, IOp.isF, IOp.args, coolOp, h0, h4, h3, ho, hi]
theorem eqIntS_ok (l : (List Int)) (hs : SmallIntS l) : EE F 21 [L 1 (l.map iU), L 1 (l.map iU)] [] = ok1 (B true) := by
  have hl := hs.1
  rw [R21, b21]
  simp only [↓xP, xQ, xR, flatR, Nat.reduceBEq, Nat.reduceAdd, Nat.reduceSub, IOp.dst, IOp.isF, IOp.args, coolOp, ne_eq, not_true_eq_false]
  refine (loop_ind (fun (i : Nat) st => st.s 0 = DU (.sl 1 (l.map iU)) ∧ st.s 1 = DU (.sl 1 (l.map iU)) ∧ st.s 5 = DI i) (fun i => l.length - i) (fun i => ok1 (B true)) ?_ 0 ⟨by simp only [↓xP, xQ, xR, flatR, Nat.reduceBEq, Nat.reduceAdd, Nat.reduceSub, IOp.dst, IOp.isF, IOp.args, coolOp], by simp only [↓xP, xQ, xR, flatR, Nat.reduceBEq, Nat.reduceAdd, Nat.reduceSub, IOp.dst, IOp.isF, IOp.args, coolOp], by simp only [↓xP, xQ, xR, flatR, Nat.reduceBEq, Nat.reduceAdd, Nat.reduceSub, IOp.dst, IOp.isF, IOp.args, coolOp]; rfl⟩)
  rintro i st ⟨h0, h1, h5⟩ ih
  by_cases hi : i < l.length
  · obtain ⟨x, hx⟩ : ∃ x, l[i]? = some x := ⟨_, List.getElem?_eq_getElem hi⟩
    have hw := w_succ (i := i) (by omega)
    simp only [↓xP, xQ, xR, flatR, Nat.reduceBEq, Nat.reduceAdd, Nat.reduceSub, IOp.dst, IOp.isF, IOp.args, coolOp, h0, h1, h5, hi, hx, hw, iU, ne_eq, not_true_eq_false]
    exact ih (i + 1) _ (by omega) ⟨by simp only [↓xP, xQ, xR, flatR, Nat.reduceBEq, Nat.reduceAdd, Nat.reduceSub, IOp.dst, IOp.isF, IOp.args, coolOp, h0], by simp only [↓xP, xQ, xR, flatR, Nat.reduceBEq, Nat.reduceAdd, Nat.reduceSub, IOp.dst, IOp.isF, IOp.args, coolOp, h1], by simp only [↓xP, xQ, xR, flatR, Nat.reduceBEq, Nat.reduceAdd, Nat.reduceSub, IOp.dst, IOp.isF, IOp.args, coolOp]⟩
  · simp only [↓xP, xQ, xR, flatR, Nat.reduceBEq, Nat.reduceAdd, Nat.reduceSub, IOp.dst, IOp.isF, IOp.args, coolOp, h0, h1, h5, hi]
def SmallBoolS (l : (List Bool)) : Prop := l.length ≤ 1048576 ∧ True
def Interval.Small (x : Interval) : Prop := x.low.length ≤ 1048576 ∧ x.high.length ≤ 1048576 ∧ True
def Pair.Small (x : Pair) : Prop := x.key.length ≤ 1048576 ∧ True
def SmallPairS (l : (List Pair)) : Prop := l.length ≤ 1048576 ∧ ∀ y, y ∈ l → Pair.Small y
def Command.Small (x : Command) : Prop := x.key.length ≤ 1048576 ∧ True
def SmallSessionS (l : (List Session)) : Prop := l.length ≤ 1048576 ∧ True
def Entry.Small (x : Entry) : Prop := Command.Small x.cmd ∧ True
def SmallEntryS (l : (List Entry)) : Prop := l.length ≤ 1048576 ∧ ∀ y, y ∈ l → Entry.Small y
def Answer.Small (x : Answer) : Prop := Entry.Small x.asked ∧ True
def SmallAnswerS (l : (List Answer)) : Prop := l.length ≤ 1048576 ∧ ∀ y, y ∈ l → Answer.Small y
def State.Small (x : State) : Prop := Interval.Small x.span ∧ SmallPairS x.pairs ∧ SmallSessionS x.known ∧ x.cut.length ≤ 1048576 ∧ True
def Piece.Small (x : Piece) : Prop := Interval.Small x.span ∧ SmallPairS x.pairs ∧ True
def Config.Small (x : Config) : Prop := SmallIntS x.members ∧ True
def szConfigG (x : Config) (a : Int) : Int := chkZ (szIntSG x.members a) fun a => a
theorem szConfig_ok (c0 : Int) (c1 : (List Int)) (c2 : Bool) (left : Int) : EE F 15 [.ag [.u (.int .i64 c0), .u (.sl 1 (c1.map iU)), .u (.bool c2)], I left] [] = ok1 (I (szConfigG ⟨c0, c1, c2⟩ left)) := by
  rw [R15, b15]
  simp only [↓xP, xQ, xR, flatR, Nat.reduceBEq, Nat.reduceAdd, Nat.reduceSub, IOp.dst, IOp.isF, IOp.args, coolOp, szIntS_ok]
  repeat' (refine sel_split (fun h => ?_) (fun h => ?_))
  all_goals (simp only [decide_eq_true_eq, decide_eq_false_iff_not] at *; simp [szConfigG, offZ, chkZ, *])
theorem szConfig_le (x : Config) (hf : Config.Fit x) : LeZ (szConfigG x) (Config.Small x) := LeZ.chk (szIntS_le _ hf.2.1) LeZ.id
theorem toConfig_ok (c0 : Int) (c1 : (List Int)) (c2 : Bool) (hs : Config.Small ⟨c0, c1, c2⟩) : EE F 17 [.ag [.u (.int .i64 c0), .u (.sl 1 (c1.map iU)), .u (.bool c2)]] [] = some ⟨[.ag [.u (.int .i64 c0), .own (.par 0) c1.length, .u (.bool c2)]], [.row 1 (c1.map iU)], []⟩ := by
  rw [R17, b17]
  simp only [↓xP, xQ, xR, flatR, Nat.reduceBEq, Nat.reduceAdd, Nat.reduceSub, IOp.dst, IOp.isF, IOp.args, coolOp, toIntS_ok c1 hs.1]
theorem eqConfig_ok (c0 : Int) (c1 : (List Int)) (c2 : Bool) (hs : Config.Small ⟨c0, c1, c2⟩) : EE F 20 [.ag [.u (.int .i64 c0), .u (.sl 1 (c1.map iU)), .u (.bool c2)], .ag [.u (.int .i64 c0), .u (.sl 1 (c1.map iU)), .u (.bool c2)]] [] = ok1 (B true) := by
  rw [R20, b20]
  simp only [↓xP, xQ, xR, flatR, Nat.reduceBEq, Nat.reduceAdd, Nat.reduceSub, IOp.dst, IOp.isF, IOp.args, coolOp, eqIntS_ok c1 hs.1, ne_eq, not_true_eq_false]
def Event.Small (x : Event) : Prop := Entry.Small x.sent ∧ True
def Plan.Small (x : Plan) : Prop := x.key.length ≤ 1048576 ∧ True
def Deed.Small (x : Deed) : Prop := Command.Small x.wish ∧ Event.Small x.inner ∧ Plan.Small x.work ∧ True
def Replica.Small (x : Replica) : Prop := Config.Small x.conf ∧ SmallEntryS x.log ∧ True
def SmallReplicaS (l : (List Replica)) : Prop := l.length ≤ 1048576 ∧ ∀ y, y ∈ l → Replica.Small y
def Message.Small (x : Message) : Prop := Config.Small x.conf ∧ SmallEntryS x.log ∧ True
def SmallMessageS (l : (List Message)) : Prop := l.length ≤ 1048576 ∧ ∀ y, y ∈ l → Message.Small y
def Chain.Small (x : Chain) : Prop := State.Small x.base ∧ Config.Small x.conf ∧ SmallReplicaS x.nodes ∧ SmallBoolS x.up ∧ SmallMessageS x.bag ∧ SmallAnswerS x.answers ∧ True
def Route.Small (x : Route) : Prop := Interval.Small x.span ∧ True
def SmallRouteS (l : (List Route)) : Prop := l.length ≤ 1048576 ∧ ∀ y, y ∈ l → Route.Small y
def Caller.Small (x : Caller) : Prop := SmallRouteS x.cache ∧ Command.Small x.wish ∧ True
def SmallCallerS (l : (List Caller)) : Prop := l.length ≤ 1048576 ∧ ∀ y, y ∈ l → Caller.Small y
def Result.Small (x : Result) : Prop := Command.Small x.wish ∧ True
def SmallResultS (l : (List Result)) : Prop := l.length ≤ 1048576 ∧ ∀ y, y ∈ l → Result.Small y
def Shard.Small (x : Shard) : Prop := Chain.Small x.group ∧ True
def SmallShardS (l : (List Shard)) : Prop := l.length ≤ 1048576 ∧ ∀ y, y ∈ l → Shard.Small y
def Cluster.Small (x : Cluster) : Prop := SmallShardS x.shards ∧ SmallCallerS x.clients ∧ SmallResultS x.results ∧ Plan.Small x.work ∧ True
/-- All from a number on. -/
def allF (n : Nat) (p : Nat → Bool) (i : Nat) : Bool := if i < n then p i && allF n p (i + 1) else true
termination_by n - i
theorem allF_lt {n : Nat} {p : Nat → Bool} {i : Nat} (h : i < n) : allF n p i = (p i && allF n p (i + 1)) := by rw [allF, if_pos h]
theorem allF_ge {n : Nat} {p : Nat → Bool} {i : Nat} (h : ¬ i < n) : allF n p i = true := by rw [allF, if_neg h]
theorem allF_iff {n : Nat} {p : Nat → Bool} : ∀ (k i : Nat), n - i = k → (allF n p i = true ↔ ∀ j, i ≤ j → j < n → p j = true)
  | 0, i, h => by
    rw [allF_ge (by omega)]
    exact ⟨fun _ j h1 h2 => by omega, fun _ => rfl⟩
  | k + 1, i, h => by
    rw [allF_lt (by omega), Bool.and_eq_true, allF_iff k (i + 1) (by omega)]
    refine ⟨fun ⟨h1, h2⟩ j hj hn => ?_, fun h1 => ⟨h1 i (Nat.le_refl _) (by omega), fun j hj hn => h1 j (by omega) hn⟩⟩
    by_cases e : j = i
    · subst e; exact h1
    · exact h2 j (by omega) hn
def inR (n a b : Int) : Bool := decide (a ≤ n) && decide (n ≤ b)
theorem l1In_ok (n a b : Int) : EE F 134 [I n, I a, I b] [] = ok1 (B (inR n a b)) := by
  rw [R134, b134]
  simp only [↓xP, xQ, xR, flatR, eqCells_ok, eqSh, eqBs, Nat.reduceLT, decide_true, Nat.reduceBEq, Nat.reduceAdd, IOp.dst, IOp.isF, IOp.args, coolOp, Nat.reduceSub]
  repeat' (refine sel_split (fun h => ?_) (fun h => ?_))
  all_goals (simp_all [inR] <;> (intros; omega))
theorem nodeValid_ok (n : Int) : EE F 96 [I n] [] = ok1 (B (inR n 0 4)) := by
  rw [R96, b96]
  simp only [↓xP, xQ, xR, flatR, eqCells_ok, eqSh, eqBs, Nat.reduceLT, decide_true, Nat.reduceBEq, Nat.reduceAdd, IOp.dst, IOp.isF, IOp.args, coolOp, Nat.reduceSub]
  repeat' (refine sel_split (fun h => ?_) (fun h => ?_))
  all_goals (simp_all [inR] <;> (intros; omega))
def mkL {α : Type} (f : Int → α) (w : Int) (K : Int) (n : Nat) : List α := (List.range n).map fun (i : Nat) => f (K + w * (i : Int))
theorem mkL_len {α : Type} (f : Int → α) (w K : Int) (n : Nat) : (mkL f w K n).length = n := by simp [mkL]
theorem mkL_take {α : Type} (u : α → List U) (f : Int → α) (w K : Int) (n : Nat) : List.take n (List.map u (mkL f w K n)) = List.map u (mkL f w K n) := List.take_of_length_le (by simp [mkL_len])
theorem mkL_get {α : Type} (f : Int → α) (w K : Int) {n i : Nat} (h : i < n) : (mkL f w K n)[i]? = some (f (K + w * i)) := by simp [mkL, List.getElem?_map, List.getElem?_range h]
theorem mk_get {α β : Type} {u : α → β} {f : Int → α} {w K : Int} {l : List α} {i : Nat} {x : α} (h : l[i]? = some x) : ((mkL f w K i ++ l.drop i).map u)[i]? = some (u x) := by
  rw [List.getElem?_map, List.getElem?_append_right (by simp [mkL_len]), mkL_len, List.getElem?_drop]
  simp [h]
theorem mk_set {α β : Type} {u : α → β} {f : Int → α} {w K : Int} {l : List α} {i : Nat} {x : α} (h : l[i]? = some x) : ((mkL f w K i ++ l.drop i).map u).set i (u (f (K + w * i))) = (mkL f w K (i + 1) ++ l.drop (i + 1)).map u := by
  have hi := (List.getElem?_eq_some_iff.1 h).1
  have e : mkL f w K (i + 1) = mkL f w K i ++ [f (K + w * i)] := by simp [mkL, List.range_succ]
  rw [← List.map_set, List.set_append_right _ _ (by simp [mkL_len]), mkL_len, Nat.sub_self, List.drop_eq_getElem_cons hi, List.set_cons_zero, e, List.append_assoc]
  rfl
theorem get_set {α : Type} (r : List α) (i : Nat) (h : i < r.length) (c : α) : (r.set i c)[i]? = some c := by simp [h]
theorem DI_eq {a b : Int} (h : a = b) : DI a = DI b := by rw [h]

def mkInt (K : Int) : Int := (K)
theorem markIntS_ok (l : List Int) (K : Int) (h1 : 1 ≤ K) (h2 : K + 1 * l.length ≤ 4611686018427387904) : EE F 23 [.sc (.own (.par 0) l.length), I K] [.row 1 (l.map iU)] = some ⟨[I (K + 1 * l.length)], [], [.row 1 ((mkL mkInt 1 K l.length).map iU)]⟩ := by
  refine (EE_run (fn := i23) (by kernel_rfl) rfl).trans ?_
  simp only [i23, b23, argSt, insSt, List.length_cons, List.length_nil]
  simp only [↓xP, xQ, xR, flatR, eqCells_ok, eqSh, eqBs, Nat.reduceLT, decide_true, Nat.reduceBEq, Nat.reduceAdd, IOp.dst, IOp.isF, IOp.args, coolOp, Nat.reduceSub]
  refine (loop_ind (fun (i : Nat) st => i ≤ l.length ∧ st.s 0 = .t (.sc (.own (.par 0) l.length)) ∧ st.s 5 = DI i ∧ st.s 1 = DI (K + 1 * i) ∧ st.o (.par 0) = some (.row 1 ((mkL mkInt 1 K i ++ l.drop i).map iU))) (fun i => l.length - i) (fun i => some ⟨[I (K + 1 * l.length)], [], [.row 1 ((mkL mkInt 1 K l.length).map iU)]⟩) ?_ 0 ⟨by omega, by simp only [↓xP, xQ, xR, flatR, eqCells_ok, eqSh, eqBs, Nat.reduceLT, decide_true, Nat.reduceBEq, Nat.reduceAdd, IOp.dst, IOp.isF, IOp.args, coolOp, Nat.reduceSub], by simp only [↓xP, xQ, xR, flatR, eqCells_ok, eqSh, eqBs, Nat.reduceLT, decide_true, Nat.reduceBEq, Nat.reduceAdd, IOp.dst, IOp.isF, IOp.args, coolOp, Nat.reduceSub]; rfl, by simp only [↓xP, xQ, xR, flatR, eqCells_ok, eqSh, eqBs, Nat.reduceLT, decide_true, Nat.reduceBEq, Nat.reduceAdd, IOp.dst, IOp.isF, IOp.args, coolOp, Nat.reduceSub]; exact DI_eq (by omega), by simp only [↓xP, xQ, xR, flatR, eqCells_ok, eqSh, eqBs, Nat.reduceLT, decide_true, Nat.reduceBEq, Nat.reduceAdd, IOp.dst, IOp.isF, IOp.args, coolOp, Nat.reduceSub]; simp [mkL]⟩).trans rfl
  rintro i st ⟨hle, h0, h5, h1', ho⟩ ih
  by_cases hi : i < l.length
  · obtain ⟨x, hx⟩ : ∃ x, l[i]? = some x := ⟨_, List.getElem?_eq_getElem hi⟩
    have hw := w_succ (i := i) (by omega)
    have hg := mk_get (u := iU) (f := mkInt) (w := 1) (K := K) hx
    have hf := mk_set (u := iU) (f := mkInt) (w := 1) (K := K) hx
    simp only [iU, mkInt] at hf
    have hlen : i < ((mkL mkInt 1 K i ++ l.drop i).map iU).length := by simp [mkL_len]; omega
    have hk1 : 1 ≤ K + 1 * (i : Int) := by omega
    have hk2 : K + 1 * (i : Int) + 1 ≤ 4611686018427387904 := by omega
    have hn : K + 1 * ((i + 1 : Nat) : Int) = K + 1 * (i : Int) + 1 := by omega
    generalize (mkL mkInt 1 K i ++ l.drop i).map iU = r at hg hf hlen ho
    obtain ⟨K', hK⟩ : ∃ K', K' = K + 1 * (i : Int) := ⟨_, rfl⟩
    rw [← hK] at h1' hf hn hk1 hk2
    
    simp only [iU] at hg hf
    have hgs := get_set r i hlen
    have hw0 : IntKind.i64.wrap (K' + 1) = K' + 1 := by rw [w64 (by omega) (by omega)]
    simp only [↓xP, xQ, xR, flatR, eqCells_ok, eqSh, eqBs, Nat.reduceLT, decide_true, Nat.reduceBEq, Nat.reduceAdd, IOp.dst, IOp.isF, IOp.args, coolOp, Nat.reduceSub, h0, h5, h1', ho, hi, hg, hgs, List.set_set, hw, hf, hw0]
    exact ih (i + 1) _ (by omega) ⟨by omega, by simp only [↓xP, xQ, xR, flatR, eqCells_ok, eqSh, eqBs, Nat.reduceLT, decide_true, Nat.reduceBEq, Nat.reduceAdd, IOp.dst, IOp.isF, IOp.args, coolOp, Nat.reduceSub, h0], by simp only [↓xP, xQ, xR, flatR, eqCells_ok, eqSh, eqBs, Nat.reduceLT, decide_true, Nat.reduceBEq, Nat.reduceAdd, IOp.dst, IOp.isF, IOp.args, coolOp, Nat.reduceSub], by simp only [↓xP, xQ, xR, flatR, eqCells_ok, eqSh, eqBs, Nat.reduceLT, decide_true, Nat.reduceBEq, Nat.reduceAdd, IOp.dst, IOp.isF, IOp.args, coolOp, Nat.reduceSub]; exact DI_eq (by omega), by simp only [↓xP, xQ, xR, flatR, eqCells_ok, eqSh, eqBs, Nat.reduceLT, decide_true, Nat.reduceBEq, Nat.reduceAdd, IOp.dst, IOp.isF, IOp.args, coolOp, Nat.reduceSub]⟩
  · have : i = l.length := by omega
    subst this
    simp only [↓xP, xQ, xR, flatR, eqCells_ok, eqSh, eqBs, Nat.reduceLT, decide_true, Nat.reduceBEq, Nat.reduceAdd, IOp.dst, IOp.isF, IOp.args, coolOp, Nat.reduceSub, h0, h5, h1', ho, hi, List.drop_length, List.append_nil, List.length_map, mkL_len]
def place (key : Str) : List Pair → Nat
  | [] => 0
  | p :: l => if strLt p.key key = true then place key l + 1 else 0
/-- The place of the first such number, or -1. -/
def idxI (l : List Int) (x : Int) : Int := if x ∈ l then (l.idxOf x : Int) else -1
theorem idxI_eq {x : Int} {l : List Int} : idxI (x :: l) x = 0 := by simp [idxI]
theorem idxI_ne {x y : Int} {l : List Int} (h : y ≠ x) : idxI (y :: l) x = if x ∈ l then idxI l x + 1 else -1 := by
  have h' : x ≠ y := fun e => h e.symm
  simp only [idxI, List.mem_cons, h', false_or]
  by_cases hm : x ∈ l
  · simp only [hm, if_true]
    have : (y == x) = false := by simpa using h
    simp [List.idxOf_cons, this]
  · simp [hm]
theorem idxI_neg {l : List Int} {x : Int} : idxI l x < 0 ↔ x ∉ l := by
  unfold idxI
  split <;> simp_all
theorem idxI_ge {l : List Int} {x : Int} : 0 ≤ idxI l x ↔ x ∈ l := by
  have := idxI_neg (l := l) (x := x)
  constructor
  · intro h; by_cases hm : x ∈ l
    · exact hm
    · have := this.2 hm; omega
  · intro h
    by_cases hq : idxI l x < 0
    · exact absurd h (this.1 hq)
    · omega
/-- From a place on. -/
def idxF (l : List Int) (x : Int) (i : Nat) : Int := if x ∈ l.drop i then (i : Int) + idxI (l.drop i) x else -1
theorem idxF_0 (l : List Int) (x : Int) : idxF l x 0 = idxI l x := by
  simp only [idxF, List.drop_zero, idxI]
  split <;> simp
theorem idxF_end (l : List Int) (x : Int) {i : Nat} (h : ¬ i < l.length) : idxF l x i = -1 := by
  simp [idxF, List.drop_of_length_le (show l.length ≤ i by omega)]
theorem idxF_hit {l : List Int} {x : Int} {i : Nat} (h : l[i]? = some x) : idxF l x i = i := by
  obtain ⟨hi, hx⟩ := List.getElem?_eq_some_iff.1 h
  simp [idxF, List.drop_eq_getElem_cons hi, hx, idxI_eq]
theorem idxF_miss {l : List Int} {x y : Int} {i : Nat} (h : l[i]? = some y) (hn : y ≠ x) : idxF l x i = idxF l x (i + 1) := by
  obtain ⟨hi, hx⟩ := List.getElem?_eq_some_iff.1 h
  have hn' : x ≠ y := fun e => hn e.symm
  simp only [idxF, List.drop_eq_getElem_cons hi, hx, List.mem_cons, hn', false_or, idxI_ne hn]
  by_cases hm : x ∈ l.drop (i + 1)
  · simp only [hm, if_true]; omega
  · simp [hm]
theorem index_int (l : List Int) (x : Int) (hn : l.length ≤ 4611686018427387904) : EE F 162 [L 1 (l.map iU), I x] [] = ok1 (I (idxI l x)) := by
  rw [R162, b162]
  simp only [↓xP, xQ, xR, flatR, eqCells_ok, eqSh, eqBs, Nat.reduceLT, decide_true, Nat.reduceBEq, Nat.reduceAdd, IOp.dst, IOp.isF, IOp.args, coolOp, Nat.reduceSub]
  refine (loop_ind (fun (i : Nat) st => i ≤ l.length ∧ st.s 0 = DU (.sl 1 (l.map iU)) ∧ st.s 1 = DI x ∧ st.s 7 = DI l.length ∧ st.s 8 = DI i) (fun i => l.length - i) (fun i => ok1 (I (idxF l x i))) ?_ 0 (by and_intros <;> first | omega | rfl | (simp only [↓xP, xQ, xR, flatR, eqCells_ok, eqSh, eqBs, Nat.reduceLT, decide_true, Nat.reduceBEq, Nat.reduceAdd, IOp.dst, IOp.isF, IOp.args, coolOp, Nat.reduceSub]; done) | (simp only [↓xP, xQ, xR, flatR, eqCells_ok, eqSh, eqBs, Nat.reduceLT, decide_true, Nat.reduceBEq, Nat.reduceAdd, IOp.dst, IOp.isF, IOp.args, coolOp, Nat.reduceSub]; rfl) | (simp only [↓xP, xQ, xR, flatR, eqCells_ok, eqSh, eqBs, Nat.reduceLT, decide_true, Nat.reduceBEq, Nat.reduceAdd, IOp.dst, IOp.isF, IOp.args, coolOp, Nat.reduceSub]; omega))).trans (by rw [idxF_0])
  rintro i st ⟨hle, h0, h1, h7, h8⟩ ih
  by_cases hi : i < l.length
  · obtain ⟨y, hy⟩ : ∃ y, l[i]? = some y := ⟨_, List.getElem?_eq_getElem hi⟩
    have hw := w_succ (i := i) (by omega)
    simp only [↓xP, xQ, xR, flatR, eqCells_ok, eqSh, eqBs, Nat.reduceLT, decide_true, Nat.reduceBEq, Nat.reduceAdd, IOp.dst, IOp.isF, IOp.args, coolOp, Nat.reduceSub, h0, h1, h7, h8, hi, hy, hw, iU]
    refine sel_split (fun h => ?_) (fun h => ?_)
    · simp only [decide_eq_true_eq] at h
      rw [idxF_hit (by rw [hy, h])]
    · simp only [decide_eq_false_iff_not] at h
      rw [idxF_miss hy (fun e => h e.symm)]
      exact ih (i + 1) _ (by omega) (by and_intros <;> first | omega | rfl | (simp only [↓xP, xQ, xR, flatR, eqCells_ok, eqSh, eqBs, Nat.reduceLT, decide_true, Nat.reduceBEq, Nat.reduceAdd, IOp.dst, IOp.isF, IOp.args, coolOp, Nat.reduceSub, h0, h1, h7]; done) | (simp only [↓xP, xQ, xR, flatR, eqCells_ok, eqSh, eqBs, Nat.reduceLT, decide_true, Nat.reduceBEq, Nat.reduceAdd, IOp.dst, IOp.isF, IOp.args, coolOp, Nat.reduceSub, h0, h1, h7]; rfl) | (simp only [↓xP, xQ, xR, flatR, eqCells_ok, eqSh, eqBs, Nat.reduceLT, decide_true, Nat.reduceBEq, Nat.reduceAdd, IOp.dst, IOp.isF, IOp.args, coolOp, Nat.reduceSub, h0, h1, h7]; omega))
  · simp only [↓xP, xQ, xR, flatR, eqCells_ok, eqSh, eqBs, Nat.reduceLT, decide_true, Nat.reduceBEq, Nat.reduceAdd, IOp.dst, IOp.isF, IOp.args, coolOp, Nat.reduceSub, h0, h1, h7, h8, hi]
    rw [idxF_end l x hi]
theorem contains_int (l : List Int) (x : Int) (hn : l.length ≤ 4611686018427387904) : EE F 85 [L 1 (l.map iU), I x] [] = ok1 (B (decide (x ∈ l))) := by
  rw [R85, b85]
  simp only [↓xP, xQ, xR, flatR, eqCells_ok, eqSh, eqBs, Nat.reduceLT, decide_true, Nat.reduceBEq, Nat.reduceAdd, IOp.dst, IOp.isF, IOp.args, coolOp, Nat.reduceSub, index_int l x hn, ge_iff_le, idxI_ge]
theorem copyOf_int (l : List Int) (hn : l.length ≤ 1048576) : EE F 98 [L 1 (l.map iU)] [] = some ⟨[.sc (.own (.par 0) l.length)], [.row 1 (l.map iU)], []⟩ := by
  rw [R98, b98]
  have h1 : l.length ≤ maxLen := by simp [maxLen]; omega
  have h2 : l.length * 8 ≤ 140737488355328 := by omega
  simp only [↓xP, xQ, xR, flatR, eqCells_ok, eqSh, eqBs, Nat.reduceLT, decide_true, Nat.reduceBEq, Nat.reduceAdd, IOp.dst, IOp.isF, IOp.args, coolOp, Nat.reduceSub, h1, h2]
theorem l16Index_ok (e : Int) (l : List Int) (f : Bool) (x : Int) (hn : l.length ≤ 4611686018427387904) : EE F 94 [.ag [.u (.int .i64 e), .u (.sl 1 (l.map iU)), .u (.bool f)], I x] [] = ok1 (I (idxI l x)) := by
  rw [R94, b94]
  simp only [↓xP, xQ, xR, flatR, eqCells_ok, eqSh, eqBs, Nat.reduceLT, decide_true, Nat.reduceBEq, Nat.reduceAdd, IOp.dst, IOp.isF, IOp.args, coolOp, Nat.reduceSub]
  refine (loop_ind (fun (i : Nat) st => i ≤ l.length ∧ st.s 2 = .t (.sc (.ptr (.loc 2 0) 0 0)) ∧ st.o (.loc 2 0) = some (.box [.u (.int .i64 e), .u (.sl 1 (l.map iU)), .u (.bool f)]) ∧ st.s 1 = DI x ∧ st.s 5 = DI i) (fun i => l.length - i) (fun i => ok1 (I (idxF l x i))) ?_ 0 (by and_intros <;> first | omega | rfl | (simp only [↓xP, xQ, xR, flatR, eqCells_ok, eqSh, eqBs, Nat.reduceLT, decide_true, Nat.reduceBEq, Nat.reduceAdd, IOp.dst, IOp.isF, IOp.args, coolOp, Nat.reduceSub]; done) | (simp only [↓xP, xQ, xR, flatR, eqCells_ok, eqSh, eqBs, Nat.reduceLT, decide_true, Nat.reduceBEq, Nat.reduceAdd, IOp.dst, IOp.isF, IOp.args, coolOp, Nat.reduceSub]; rfl) | (simp only [↓xP, xQ, xR, flatR, eqCells_ok, eqSh, eqBs, Nat.reduceLT, decide_true, Nat.reduceBEq, Nat.reduceAdd, IOp.dst, IOp.isF, IOp.args, coolOp, Nat.reduceSub]; omega))).trans (by rw [idxF_0])
  rintro i st ⟨hle, h2, ho, h1, h5⟩ ih
  by_cases hi : i < l.length
  · obtain ⟨y, hy⟩ : ∃ y, l[i]? = some y := ⟨_, List.getElem?_eq_getElem hi⟩
    have hw := w_succ (i := i) (by omega)
    simp only [↓xP, xQ, xR, flatR, eqCells_ok, eqSh, eqBs, Nat.reduceLT, decide_true, Nat.reduceBEq, Nat.reduceAdd, IOp.dst, IOp.isF, IOp.args, coolOp, Nat.reduceSub, h2, ho, h1, h5, hi, hy, hw, iU]
    refine sel_split (fun h => ?_) (fun h => ?_)
    · simp only [decide_eq_true_eq] at h
      rw [idxF_hit (by rw [hy, h])]
    · simp only [decide_eq_false_iff_not] at h
      rw [idxF_miss hy h]
      exact ih (i + 1) _ (by omega) (by and_intros <;> first | omega | rfl | (simp only [↓xP, xQ, xR, flatR, eqCells_ok, eqSh, eqBs, Nat.reduceLT, decide_true, Nat.reduceBEq, Nat.reduceAdd, IOp.dst, IOp.isF, IOp.args, coolOp, Nat.reduceSub, h2, ho, h1]; done) | (simp only [↓xP, xQ, xR, flatR, eqCells_ok, eqSh, eqBs, Nat.reduceLT, decide_true, Nat.reduceBEq, Nat.reduceAdd, IOp.dst, IOp.isF, IOp.args, coolOp, Nat.reduceSub, h2, ho, h1]; rfl) | (simp only [↓xP, xQ, xR, flatR, eqCells_ok, eqSh, eqBs, Nat.reduceLT, decide_true, Nat.reduceBEq, Nat.reduceAdd, IOp.dst, IOp.isF, IOp.args, coolOp, Nat.reduceSub, h2, ho, h1]; omega))
  · simp only [↓xP, xQ, xR, flatR, eqCells_ok, eqSh, eqBs, Nat.reduceLT, decide_true, Nat.reduceBEq, Nat.reduceAdd, IOp.dst, IOp.isF, IOp.args, coolOp, Nat.reduceSub, h2, ho, h1, h5, hi]
    rw [idxF_end l x hi]
def okAt (l : List Int) (k : Nat) : Bool := match l[k]? with
  | some x => inR x 0 4 && !decide (x ∈ l.take k)
  | none => true
def configValid (c : Config) : Bool := decide (1 ≤ c.epoch) && decide (c.epoch ≤ 60) && decide (1 ≤ c.members.length) && decide (c.members.length ≤ 4) && !(c.fresh && decide (c.members.length < 2)) && allF c.members.length (okAt c.members) 0
theorem okAt_some {l : List Int} {k : Nat} {x : Int} (h : l[k]? = some x) : okAt l k = (inR x 0 4 && !decide (x ∈ l.take k)) := by simp [okAt, h]
theorem configValid_len {c : Config} (h : configValid c = true) : 1 ≤ c.members.length ∧ c.members.length ≤ 4 := by
  simp only [configValid, Bool.and_eq_true, decide_eq_true_eq] at h; exact ⟨h.1.1.1.2, h.1.1.2⟩
theorem cut_to {n : Nat} {i : Nat} (h : i ≤ n) : vcut n none (some (DI (i : Int))) = some (0, i) := by
  simp [vcut, D.int?]
  omega
theorem configValid_impl (e : Int) (l : List Int) (f : Bool) (hn : l.length ≤ 4611686018427387904) : EE F 33 [.ag [.u (.int .i64 e), .u (.sl 1 (l.map iU)), .u (.bool f)]] [] = ok1 (B (configValid ⟨e, l, f⟩)) := by
  rw [R33, b33]
  simp only [↓xP, xQ, xR, flatR, eqCells_ok, eqSh, eqBs, Nat.reduceLT, decide_true, Nat.reduceBEq, Nat.reduceAdd, IOp.dst, IOp.isF, IOp.args, coolOp, Nat.reduceSub]
  by_cases hg : (decide (1 ≤ e) && decide (e ≤ 60) && decide (1 ≤ l.length) && decide (l.length ≤ 4) && !(f && decide (l.length < 2))) = true
  · have e1 : configValid ⟨e, l, f⟩ = allF l.length (okAt l) 0 := by simp only [configValid, hg, Bool.true_and]
    rw [e1]
    simp only [Bool.and_eq_true, decide_eq_true_eq, Bool.not_eq_true', Bool.and_eq_false_iff, decide_eq_false_iff_not] at hg
    obtain ⟨⟨⟨⟨h1, h2⟩, h3⟩, h4⟩, h5⟩ := hg
    have g1 : ¬ e < 1 := by omega
    have g2 : ¬ 60 < e := by omega
    have g3 : ¬ (l.length : Int) < 1 := by omega
    have g4 : ¬ (4 : Int) < (l.length : Int) := by omega
    simp only [g1, g2, g3, g4, gt_iff_lt, decide_false, ↓xP, xQ, xR, flatR, eqCells_ok, eqSh, eqBs, Nat.reduceLT, decide_true, Nat.reduceBEq, Nat.reduceAdd, IOp.dst, IOp.isF, IOp.args, coolOp, Nat.reduceSub]
    repeat' (refine sel_split (fun h => ?_) (fun h => ?_))
    all_goals (try (exfalso; simp only [decide_eq_true_eq] at *; simp_all; omega))
    all_goals
      refine (loop_ind (fun (i : Nat) st => i ≤ l.length ∧ st.s 1 = .t (.sc (.ptr (.loc 1 0) 0 0)) ∧ st.o (.loc 1 0) = some (.box [.u (.int .i64 e), .u (.sl 1 (l.map iU)), .u (.bool f)]) ∧ st.s 34 = DU (.sl 1 (l.map iU)) ∧ st.s 35 = DI l.length ∧ st.s 36 = DI i) (fun i => l.length - i) (fun i => ok1 (B (allF l.length (okAt l) i))) ?_ 0 (by and_intros <;> first | omega | rfl | (simp only [↓xP, xQ, xR, flatR, eqCells_ok, eqSh, eqBs, Nat.reduceLT, decide_true, Nat.reduceBEq, Nat.reduceAdd, IOp.dst, IOp.isF, IOp.args, coolOp, Nat.reduceSub]; done) | (simp only [↓xP, xQ, xR, flatR, eqCells_ok, eqSh, eqBs, Nat.reduceLT, decide_true, Nat.reduceBEq, Nat.reduceAdd, IOp.dst, IOp.isF, IOp.args, coolOp, Nat.reduceSub]; rfl) | (simp only [↓xP, xQ, xR, flatR, eqCells_ok, eqSh, eqBs, Nat.reduceLT, decide_true, Nat.reduceBEq, Nat.reduceAdd, IOp.dst, IOp.isF, IOp.args, coolOp, Nat.reduceSub]; omega))).trans rfl
      rintro i st ⟨hle, hb, ho, h34, h35, h36⟩ ih
      by_cases hi : i < l.length
      · obtain ⟨y, hy⟩ : ∃ y, l[i]? = some y := ⟨_, List.getElem?_eq_getElem hi⟩
        have hw := w_succ (i := i) (by omega)
        have hct := cut_to (n := l.length) hle
        have hlt : (l.take i).length ≤ 4611686018427387904 := by simp; omega
        have hct2 := contains_int (l.take i) y hlt
        simp only [↓xP, xQ, xR, flatR, eqCells_ok, eqSh, eqBs, Nat.reduceLT, decide_true, Nat.reduceBEq, Nat.reduceAdd, IOp.dst, IOp.isF, IOp.args, coolOp, Nat.reduceSub, hb, ho, h34, h35, h36, hi, hy, hw, iU, nodeValid_ok, List.length_map, hct, List.drop_zero, ← List.map_take, hct2]
        rw [allF_lt hi, okAt_some hy]
        repeat' (refine sel_split (fun h => ?_) (fun h => ?_))
        all_goals first
          | (simp_all; done)
          | (rw [ih (i + 1) _ (by omega) (by and_intros <;> first | omega | rfl | (simp only [↓xP, xQ, xR, flatR, eqCells_ok, eqSh, eqBs, Nat.reduceLT, decide_true, Nat.reduceBEq, Nat.reduceAdd, IOp.dst, IOp.isF, IOp.args, coolOp, Nat.reduceSub, hb, ho, h34, h35]; done) | (simp only [↓xP, xQ, xR, flatR, eqCells_ok, eqSh, eqBs, Nat.reduceLT, decide_true, Nat.reduceBEq, Nat.reduceAdd, IOp.dst, IOp.isF, IOp.args, coolOp, Nat.reduceSub, hb, ho, h34, h35]; rfl) | (simp only [↓xP, xQ, xR, flatR, eqCells_ok, eqSh, eqBs, Nat.reduceLT, decide_true, Nat.reduceBEq, Nat.reduceAdd, IOp.dst, IOp.isF, IOp.args, coolOp, Nat.reduceSub, hb, ho, h34, h35]; omega))]; simp_all)
      · simp only [↓xP, xQ, xR, flatR, eqCells_ok, eqSh, eqBs, Nat.reduceLT, decide_true, Nat.reduceBEq, Nat.reduceAdd, IOp.dst, IOp.isF, IOp.args, coolOp, Nat.reduceSub, hb, ho, h34, h35, h36, hi]
        rw [allF_ge hi]
  · have hg2 := hg
    rw [Bool.not_eq_true] at hg2
    have e1 : configValid ⟨e, l, f⟩ = false := by simp only [configValid, hg2, Bool.false_and]
    clear hg2
    rw [e1]
    repeat' (refine sel_split (fun h => ?_) (fun h => ?_))
    all_goals first
      | rfl
      | (exfalso; apply hg; simp only [decide_eq_true_eq, decide_eq_false_iff_not] at *; simp_all; omega)
theorem configValid_spec (e : Int) (l : List Int) (f : Bool) (hn : l.length ≤ 4611686018427387904) : EE F 81 [.ag [.u (.int .i64 e), .u (.sl 1 (l.map iU)), .u (.bool f)]] [] = ok1 (B (configValid ⟨e, l, f⟩)) := by
  rw [R81, b81]
  simp only [↓xP, xQ, xR, flatR, eqCells_ok, eqSh, eqBs, Nat.reduceLT, decide_true, Nat.reduceBEq, Nat.reduceAdd, IOp.dst, IOp.isF, IOp.args, coolOp, Nat.reduceSub, l1In_ok]
  by_cases hg : (decide (1 ≤ e) && decide (e ≤ 60) && decide (1 ≤ l.length) && decide (l.length ≤ 4) && !(f && decide (l.length < 2))) = true
  · have e1 : configValid ⟨e, l, f⟩ = allF l.length (okAt l) 0 := by simp only [configValid, hg, Bool.true_and]
    rw [e1]
    simp only [Bool.and_eq_true, decide_eq_true_eq, Bool.not_eq_true', Bool.and_eq_false_iff, decide_eq_false_iff_not] at hg
    obtain ⟨⟨⟨⟨h1, h2⟩, h3⟩, h4⟩, h5⟩ := hg
    have g1 : inR e 1 60 = true := by simp [inR, h1, h2]
    have g2 : inR (l.length : Int) 1 4 = true := by simp [inR]; omega
    simp only [g1, g2, ↓xP, xQ, xR, flatR, eqCells_ok, eqSh, eqBs, Nat.reduceLT, decide_true, Nat.reduceBEq, Nat.reduceAdd, IOp.dst, IOp.isF, IOp.args, coolOp, Nat.reduceSub]
    repeat' (refine sel_split (fun h => ?_) (fun h => ?_))
    all_goals (try (exfalso; simp only [decide_eq_true_eq] at *; simp_all; omega))
    all_goals
      refine (loop_ind (fun (i : Nat) st => i ≤ l.length ∧ st.s 1 = .t (.sc (.ptr (.loc 1 0) 0 0)) ∧ st.o (.loc 1 0) = some (.box [.u (.int .i64 e), .u (.sl 1 (l.map iU)), .u (.bool f)]) ∧ st.s 3 = DI i) (fun i => l.length - i) (fun i => ok1 (B (allF l.length (okAt l) i))) ?_ 0 (by and_intros <;> first | omega | rfl | (simp only [↓xP, xQ, xR, flatR, eqCells_ok, eqSh, eqBs, Nat.reduceLT, decide_true, Nat.reduceBEq, Nat.reduceAdd, IOp.dst, IOp.isF, IOp.args, coolOp, Nat.reduceSub]; done) | (simp only [↓xP, xQ, xR, flatR, eqCells_ok, eqSh, eqBs, Nat.reduceLT, decide_true, Nat.reduceBEq, Nat.reduceAdd, IOp.dst, IOp.isF, IOp.args, coolOp, Nat.reduceSub]; rfl) | (simp only [↓xP, xQ, xR, flatR, eqCells_ok, eqSh, eqBs, Nat.reduceLT, decide_true, Nat.reduceBEq, Nat.reduceAdd, IOp.dst, IOp.isF, IOp.args, coolOp, Nat.reduceSub]; omega))).trans rfl
      rintro i st ⟨hle, hb, ho, h3⟩ ih
      by_cases hi : i < l.length
      · obtain ⟨y, hy⟩ : ∃ y, l[i]? = some y := ⟨_, List.getElem?_eq_getElem hi⟩
        have hw := w_succ (i := i) (by omega)
        simp only [↓xP, xQ, xR, flatR, eqCells_ok, eqSh, eqBs, Nat.reduceLT, decide_true, Nat.reduceBEq, Nat.reduceAdd, IOp.dst, IOp.isF, IOp.args, coolOp, Nat.reduceSub, hb, ho, h3, hi, hy, iU, l1In_ok]
        rw [allF_lt hi, okAt_some hy]
        refine sel_split (fun h => ?_) (fun h => ?_)
        · simp_all
        refine (loop_ind (fun (j : Nat) st => j ≤ i ∧ st.s 1 = .t (.sc (.ptr (.loc 1 0) 0 0)) ∧ st.o (.loc 1 0) = some (.box [.u (.int .i64 e), .u (.sl 1 (l.map iU)), .u (.bool f)]) ∧ st.s 3 = DI i ∧ st.s 4 = DI j) (fun j => i - j) (fun j => ok1 (B (!decide (y ∈ (l.take i).drop j) && allF l.length (okAt l) (i + 1)))) ?_ 0 (by and_intros <;> first | omega | rfl | (simp only [↓xP, xQ, xR, flatR, eqCells_ok, eqSh, eqBs, Nat.reduceLT, decide_true, Nat.reduceBEq, Nat.reduceAdd, IOp.dst, IOp.isF, IOp.args, coolOp, Nat.reduceSub, hb, ho, h3]; done) | (simp only [↓xP, xQ, xR, flatR, eqCells_ok, eqSh, eqBs, Nat.reduceLT, decide_true, Nat.reduceBEq, Nat.reduceAdd, IOp.dst, IOp.isF, IOp.args, coolOp, Nat.reduceSub, hb, ho, h3]; rfl) | (simp only [↓xP, xQ, xR, flatR, eqCells_ok, eqSh, eqBs, Nat.reduceLT, decide_true, Nat.reduceBEq, Nat.reduceAdd, IOp.dst, IOp.isF, IOp.args, coolOp, Nat.reduceSub, hb, ho, h3]; omega))).trans (by simp_all)
        rintro j st ⟨hlj, hb, ho, h3, h4⟩ ihj
        by_cases hj : j < i
        · obtain ⟨z, hz⟩ : ∃ z, l[j]? = some z := ⟨_, List.getElem?_eq_getElem (by omega)⟩
          have hwj := w_succ (i := j) (by omega)
          have hd : (l.take i).drop j = z :: (l.take i).drop (j + 1) := by
            rw [List.drop_eq_getElem_cons (by simp; omega)]
            simp [(List.getElem?_eq_some_iff.1 hz).2]
          simp only [↓xP, xQ, xR, flatR, eqCells_ok, eqSh, eqBs, Nat.reduceLT, decide_true, Nat.reduceBEq, Nat.reduceAdd, IOp.dst, IOp.isF, IOp.args, coolOp, Nat.reduceSub, hb, ho, h3, h4, hj, hz, hy, iU, hwj]
          rw [hd]
          refine sel_split (fun h => ?_) (fun h => ?_)
          · simp_all
          · rw [ihj (j + 1) _ (by omega) (by and_intros <;> first | omega | rfl | (simp only [↓xP, xQ, xR, flatR, eqCells_ok, eqSh, eqBs, Nat.reduceLT, decide_true, Nat.reduceBEq, Nat.reduceAdd, IOp.dst, IOp.isF, IOp.args, coolOp, Nat.reduceSub, hb, ho, h3]; done) | (simp only [↓xP, xQ, xR, flatR, eqCells_ok, eqSh, eqBs, Nat.reduceLT, decide_true, Nat.reduceBEq, Nat.reduceAdd, IOp.dst, IOp.isF, IOp.args, coolOp, Nat.reduceSub, hb, ho, h3]; rfl) | (simp only [↓xP, xQ, xR, flatR, eqCells_ok, eqSh, eqBs, Nat.reduceLT, decide_true, Nat.reduceBEq, Nat.reduceAdd, IOp.dst, IOp.isF, IOp.args, coolOp, Nat.reduceSub, hb, ho, h3]; omega))]
            simp only [decide_eq_false_iff_not] at h
            have h' : ¬ y = z := fun e => h e.symm
            simp [h']
        · simp only [↓xP, xQ, xR, flatR, eqCells_ok, eqSh, eqBs, Nat.reduceLT, decide_true, Nat.reduceBEq, Nat.reduceAdd, IOp.dst, IOp.isF, IOp.args, coolOp, Nat.reduceSub, hb, ho, h3, h4, hj, hw]
          rw [List.drop_of_length_le (by simp; omega)]
          rw [ih (i + 1) _ (by omega) (by and_intros <;> first | omega | rfl | (simp only [↓xP, xQ, xR, flatR, eqCells_ok, eqSh, eqBs, Nat.reduceLT, decide_true, Nat.reduceBEq, Nat.reduceAdd, IOp.dst, IOp.isF, IOp.args, coolOp, Nat.reduceSub, hb, ho]; done) | (simp only [↓xP, xQ, xR, flatR, eqCells_ok, eqSh, eqBs, Nat.reduceLT, decide_true, Nat.reduceBEq, Nat.reduceAdd, IOp.dst, IOp.isF, IOp.args, coolOp, Nat.reduceSub, hb, ho]; rfl) | (simp only [↓xP, xQ, xR, flatR, eqCells_ok, eqSh, eqBs, Nat.reduceLT, decide_true, Nat.reduceBEq, Nat.reduceAdd, IOp.dst, IOp.isF, IOp.args, coolOp, Nat.reduceSub, hb, ho]; omega))]
          simp
      · simp only [↓xP, xQ, xR, flatR, eqCells_ok, eqSh, eqBs, Nat.reduceLT, decide_true, Nat.reduceBEq, Nat.reduceAdd, IOp.dst, IOp.isF, IOp.args, coolOp, Nat.reduceSub, hb, ho, h3, hi]
        rw [allF_ge hi]
  · have hg2 := hg
    rw [Bool.not_eq_true] at hg2
    have e1 : configValid ⟨e, l, f⟩ = false := by simp only [configValid, hg2, Bool.false_and]
    clear hg2
    rw [e1]
    repeat' (refine sel_split (fun h => ?_) (fun h => ?_))
    all_goals first
      | rfl
      | (exfalso; apply hg; simp only [decide_eq_true_eq, decide_eq_false_iff_not, inR] at *; simp_all; omega)
def cfgRet (c : Config) : Option Ret := some ⟨[.ag [.u (.int .i64 c.epoch), .own (.par 0) c.members.length, .u (.bool c.fresh)]], [.row 1 (c.members.map iU)], []⟩
def cfgRet2 (c : Config) (b : Bool) : Option Ret := some ⟨[.ag [.u (.int .i64 c.epoch), .own (.par 0) c.members.length, .u (.bool c.fresh)], B b], [.row 1 (c.members.map iU)], []⟩
def cfg0 : Option Ret := some ⟨[.ag [.u (.int .i64 0), .u (.sl 1 []), .u (.bool false)]], [], []⟩
def cfg02 : Option Ret := some ⟨[.ag [.u (.int .i64 0), .u (.sl 1 []), .u (.bool false)], B false], [], []⟩
theorem small_max {n k : Nat} (h : n ≤ 1048576) (hk : k ≤ 100000000) : n ≤ maxLen ∧ n * k ≤ 140737488355328 := by
  refine ⟨by simp [maxLen]; omega, ?_⟩
  have := Nat.mul_le_mul h hk
  omega
theorem copyConfig_ok (e : Int) (l : List Int) (f : Bool) (hn : l.length ≤ 1048576) : EE F 84 [.ag [.u (.int .i64 e), .u (.sl 1 (l.map iU)), .u (.bool f)]] [] = cfgRet ⟨e, l, f⟩ := by
  rw [R84, b84]
  simp only [↓xP, xQ, xR, flatR, eqCells_ok, eqSh, eqBs, Nat.reduceLT, decide_true, Nat.reduceBEq, Nat.reduceAdd, IOp.dst, IOp.isF, IOp.args, coolOp, Nat.reduceSub, copyOf_int l hn, cfgRet]
theorem l16Copy_ok (e : Int) (l : List Int) (f : Bool) (hn : l.length ≤ 1048576) : EE F 82 [.ag [.u (.int .i64 e), .u (.sl 1 (l.map iU)), .u (.bool f)]] [] = cfgRet ⟨e, l, f⟩ := by
  rw [R82, b82]
  obtain ⟨h1, h2⟩ := small_max (k := 8) hn (by omega)
  simp only [↓xP, xQ, xR, flatR, eqCells_ok, eqSh, eqBs, Nat.reduceLT, decide_true, Nat.reduceBEq, Nat.reduceAdd, IOp.dst, IOp.isF, IOp.args, coolOp, Nat.reduceSub, cfgRet, h1, h2, List.length_map]
def complete (c : Config) : List Int := if configValid c = true then (if c.fresh = true then c.members.take (c.members.length - 1) else c.members) else []
theorem cut_last {n : Nat} (h1 : 1 ≤ n) (h2 : n ≤ 1048576) : IntKind.i64.wrap ((n : Int) - 1) = ((n - 1 : Nat) : Int) := by rw [w64 (by omega) (by omega)]; omega
theorem completeMembers_spec (e : Int) (l : List Int) (f : Bool) (hn : l.length ≤ 1048576) : EE F 161 [.ag [.u (.int .i64 e), .u (.sl 1 (l.map iU)), .u (.bool f)]] [] = some ⟨[.sc (.own (.par 0) (complete ⟨e, l, f⟩).length)], [.row 1 ((complete ⟨e, l, f⟩).map iU)], []⟩ := by
  rw [R161, b161]
  obtain ⟨h1, h2⟩ := small_max (k := 8) hn (by omega)
  simp only [↓xP, xQ, xR, flatR, eqCells_ok, eqSh, eqBs, Nat.reduceLT, decide_true, Nat.reduceBEq, Nat.reduceAdd, IOp.dst, IOp.isF, IOp.args, coolOp, Nat.reduceSub, configValid_spec e l f (by omega)]
  refine sel_split (fun h => ?_) (fun h => ?_)
  · simp_all [complete]
  simp only [Bool.not_eq_false'] at h
  have hl := configValid_len h
  dsimp only at hl
  have hc := cut_last hl.1 hn
  have hct := cut_to (n := l.length) (i := l.length - 1) (by omega)
  have h3 : l.length - 1 ≤ maxLen := by omega
  have h4 : (l.length - 1) * 8 ≤ 140737488355328 := by omega
  have hm : min (l.length - 1) l.length = l.length - 1 := by omega
  cases f <;> simp only [↓xP, xQ, xR, flatR, eqCells_ok, eqSh, eqBs, Nat.reduceLT, decide_true, Nat.reduceBEq, Nat.reduceAdd, IOp.dst, IOp.isF, IOp.args, coolOp, Nat.reduceSub, h1, h2, h3, h4, List.length_map, List.nil_append, Nat.zero_add, hc, hct, complete, h, List.length_take, List.drop_zero, ← List.map_take, if_true, if_false, Bool.false_eq_true, hm]
  done
def rep {α : Type} (l : List α) (a m : Nat) (b : List α) : List α := l.take a ++ b ++ l.drop (a + m)
def zero_Int : List U := [.int .i64 0]
theorem mk0_ok (st : St) (d c : Nat) (zero : List U) (bytes : Nat) (h : c * bytes ≤ 140737488355328) : stMk st d (DI 0) (DI (c : Int)) zero bytes = some (((st.cool (.loc d 0)).obj (.loc d 0) (some (.row zero.length []))).put d (.t (.sc (.own (.loc d 0) 0)))) := by
  have h0 : (0 : Int) ≤ (c : Int) := by omega
  simp [stMk, D.int?, h, h0]
theorem cut_from {n i : Nat} (h : i ≤ n) : vcut n (some (DI (i : Int))) none = some (i, n) := by
  simp [vcut, D.int?]
  omega
theorem map_all {α β : Type} (f : α → β) (l : List α) : List.take l.length (List.map f l) = List.map f l := List.take_of_length_le (by simp)
theorem replaced_Int (l b : List Int) (a m : Nat) (h : a + m ≤ l.length) (hn : l.length + b.length ≤ 1048576) : EE F 163 [L 1 (l.map iU), I a, I m, L 1 (b.map iU)] [] = some ⟨[.sc (.own (.par 0) (rep l a m b).length)], [.row 1 ((rep l a m b).map iU)], []⟩ := by
  rw [R163, b163]
  have w1 : IntKind.i64.wrap ((l.length : Int) - (m : Int)) = ((l.length - m : Nat) : Int) := by rw [w64 (by omega) (by omega)]; omega
  have w2 : IntKind.i64.wrap (((l.length - m : Nat) : Int) + (b.length : Int)) = ((l.length - m + b.length : Nat) : Int) := by rw [w64 (by omega) (by omega)]; omega
  have w3 : IntKind.i64.wrap ((a : Int) + (m : Int)) = ((a + m : Nat) : Int) := by rw [w64 (by omega) (by omega)]; omega
  have c1 := cut_to (n := l.length) (i := a) (by omega)
  have c2 := cut_from (n := l.length) (i := a + m) h
  have k0 := fun st d => mk0_ok st d (l.length - m + b.length) (Go.Proofs.YtdnhamehpdlbgaaV.zero_Int) 8 (by omega)
  have ha : min a l.length = a := by omega
  have q1 : a ≤ maxLen ∧ a * 8 ≤ 140737488355328 := small_max (by omega) (by omega)
  have q2 : a + b.length ≤ maxLen ∧ (a + b.length) * 8 ≤ 140737488355328 := small_max (by omega) (by omega)
  have q3 : a + b.length + (l.length - (a + m)) ≤ maxLen ∧ (a + b.length + (l.length - (a + m))) * 8 ≤ 140737488355328 := small_max (by omega) (by omega)
  simp only [zero_Int] at k0
  simp only [↓xP, xQ, xR, flatR, eqCells_ok, eqSh, eqBs, Nat.reduceLT, decide_true, Nat.reduceBEq, Nat.reduceAdd, IOp.dst, IOp.isF, IOp.args, coolOp, Nat.reduceSub, w1, w2, w3, k0, c1, c2, List.drop_zero, List.length_map, List.length_take, List.length_drop, List.length_append, List.length_nil, Nat.zero_add, List.nil_append, ha, q1.1, q1.2, q2.1, q2.2, q3.1, q3.2, map_all, rep, List.map_append, List.map_take, List.map_drop]
theorem okAll_iff (l : List Int) : allF l.length (okAt l) 0 = true ↔ (∀ y, y ∈ l → inR y 0 4 = true) ∧ l.Nodup := by
  rw [allF_iff l.length 0 (by omega)]
  constructor
  · intro h
    refine ⟨fun y hy => ?_, List.pairwise_iff_getElem.2 (fun i j hi hj hij => ?_)⟩
    · obtain ⟨k, hk⟩ := List.mem_iff_getElem?.1 hy
      have := h k (by omega) (List.getElem?_eq_some_iff.1 hk).1
      rw [okAt_some hk, Bool.and_eq_true] at this
      exact this.1
    · have := h j (by omega) hj
      rw [okAt_some (List.getElem?_eq_getElem hj), Bool.and_eq_true, Bool.not_eq_true', decide_eq_false_iff_not] at this
      intro e
      apply this.2
      rw [← e]
      exact List.mem_iff_getElem?.2 ⟨i, by rw [List.getElem?_take, if_pos hij]; exact List.getElem?_eq_getElem hi⟩
  · rintro ⟨h1, h2⟩ j _ hj
    rw [okAt_some (List.getElem?_eq_getElem hj), Bool.and_eq_true, Bool.not_eq_true', decide_eq_false_iff_not]
    refine ⟨h1 _ (List.getElem_mem hj), fun hm => ?_⟩
    obtain ⟨i, hi⟩ := List.mem_iff_getElem?.1 hm
    rw [List.getElem?_take] at hi
    split at hi
    · rename_i hij
      obtain ⟨hi2, hi3⟩ := List.getElem?_eq_some_iff.1 hi
      exact List.pairwise_iff_getElem.1 h2 i j hi2 hj hij hi3
    · cases hi
theorem configValid_iff (c : Config) : configValid c = true ↔ 1 ≤ c.epoch ∧ c.epoch ≤ 60 ∧ 1 ≤ c.members.length ∧ c.members.length ≤ 4 ∧ (c.fresh = true → 2 ≤ c.members.length) ∧ (∀ y, y ∈ c.members → inR y 0 4 = true) ∧ c.members.Nodup := by
  simp only [configValid, Bool.and_eq_true, decide_eq_true_eq, okAll_iff, Bool.not_eq_true', Bool.and_eq_false_iff, decide_eq_false_iff_not]
  constructor
  · rintro ⟨⟨⟨⟨⟨h1, h2⟩, h3⟩, h4⟩, h5⟩, h6, h7⟩
    exact ⟨h1, h2, h3, h4, fun hf => by rcases h5 with h | h; rw [hf] at h; cases h; omega, h6, h7⟩
  · rintro ⟨h1, h2, h3, h4, h5, h6, h7⟩
    refine ⟨⟨⟨⟨⟨h1, h2⟩, h3⟩, h4⟩, ?_⟩, h6, h7⟩
    cases hf : c.fresh with
    | false => exact .inl rfl
    | true => have := h5 hf; exact .inr (by omega)
theorem idxI_mem {l : List Int} {x : Int} (h : x ∈ l) : idxI l x = (l.idxOf x : Int) := by simp [idxI, h]
theorem rep_erase {l : List Int} {x : Int} : rep l (l.idxOf x) 1 [] = l.erase x := by
  induction l with
  | nil => rfl
  | cons y l ih =>
    by_cases h : y = x
    · subst h; simp [rep]
    · have h' : (y == x) = false := by simpa using h
      rw [List.erase_cons_tail (by simpa using h'), ← ih]
      simp [rep, List.idxOf_cons, h']
def without1 (c : Config) (x : Int) : Config := ⟨c.epoch + 1, c.members.erase x, c.fresh && decide (c.members.idxOf x + 1 < c.members.length)⟩
def withoutOk (c : Config) (x : Int) : Bool := configValid c && decide (x ∈ c.members) && decide (c.epoch < 60) && configValid (without1 c x)
def without (c : Config) (x : Int) : Config := if withoutOk c x = true then without1 c x else c
def withoutRet (c : Config) (x : Int) : Option Ret := if configValid c = true then cfgRet2 (without c x) (withoutOk c x) else cfg02
theorem without_iff {c : Config} (hv : configValid c = true) (x : Int) : withoutOk c x = true ↔ x ∈ c.members ∧ c.epoch < 60 ∧ ¬ ((complete c).length = 1 ∧ (c.fresh = false ∨ c.members.idxOf x + 1 ≠ c.members.length)) := by
  have hv' := (configValid_iff c).1 hv
  obtain ⟨h1, h2, h3, h4, h5, h6, h7⟩ := hv'
  simp only [withoutOk, hv, Bool.true_and, Bool.and_eq_true, decide_eq_true_eq, and_assoc]
  constructor
  · rintro ⟨hm, he, hw⟩
    refine ⟨hm, he, ?_⟩
    have hw' := (configValid_iff _).1 hw
    simp only [without1, List.length_erase_of_mem hm] at hw'
    have hi : c.members.idxOf x < c.members.length := List.idxOf_lt_length_of_mem hm
    rintro ⟨q1, q2⟩
    simp only [complete, hv, if_true] at q1
    cases hf : c.fresh with
    | false => simp [hf] at q1; omega
    | true =>
      simp only [hf, if_true, List.length_take] at q1
      have := hw'.2.2.2.2.1 (by simp only [hf, Bool.true_and, decide_eq_true_eq]; rcases q2 with q | q; rw [hf] at q; cases q; omega)
      omega
  · rintro ⟨hm, he, hq⟩
    refine ⟨hm, he, (configValid_iff _).2 ?_⟩
    simp only [without1, List.length_erase_of_mem hm]
    have hi : c.members.idxOf x < c.members.length := List.idxOf_lt_length_of_mem hm
    have hc : (complete c).length = if c.fresh = true then c.members.length - 1 else c.members.length := by
      simp only [complete, hv, if_true]
      split <;> simp
    refine ⟨by omega, by omega, ?_, by omega, ?_, fun y hy => h6 y (List.mem_of_mem_erase hy), h7.erase x⟩
    · cases hf : c.fresh with
      | false => simp [hf] at hc; by_cases h : c.members.length = 1; exact absurd ⟨by omega, .inl hf⟩ hq; omega
      | true => have := h5 hf; omega
    · intro hfr
      simp only [Bool.and_eq_true, decide_eq_true_eq] at hfr
      simp only [hfr.1, if_true] at hc
      have := h5 hfr.1
      by_cases h : c.members.length = 2
      · exact absurd ⟨by omega, .inr (by omega)⟩ hq
      · omega
theorem without_valid {c : Config} (hv : configValid c = true) (x : Int) : configValid (without c x) = true := by
  unfold without
  split
  · rename_i h; simp only [withoutOk, Bool.and_eq_true] at h; exact h.2
  · exact hv
theorem withoutMember_impl (e : Int) (l : List Int) (f : Bool) (x : Int) (hn : l.length ≤ 1048576) : EE F 86 [.ag [.u (.int .i64 e), .u (.sl 1 (l.map iU)), .u (.bool f)], I x] [] = withoutRet ⟨e, l, f⟩ x := by
  rw [R86, b86]
  simp only [↓xP, xQ, xR, flatR, eqCells_ok, eqSh, eqBs, Nat.reduceLT, decide_true, Nat.reduceBEq, Nat.reduceAdd, IOp.dst, IOp.isF, IOp.args, coolOp, Nat.reduceSub, configValid_impl e l f (by omega)]
  refine sel_split (fun h => ?_) (fun h => ?_)
  · simp only [Bool.not_eq_true'] at h
    simp [withoutRet, h, cfg02]
  simp only [Bool.not_eq_false'] at h
  have hv := (configValid_iff _).1 h
  dsimp only at hv
  simp only [withoutRet, h, if_true]
  have hcp := copyConfig_ok e l f hn
  simp only [cfgRet] at hcp
  by_cases hm : x ∈ l
  · have hi : l.idxOf x < l.length := List.idxOf_lt_length_of_mem hm
    have ha := idxI_mem hm
    have hneg : ¬ ((l.idxOf x : Nat) : Int) < 0 := by omega
    by_cases he : e < 60
    · have he' : ¬ (60 : Int) ≤ e := by omega
      have hw : IntKind.i64.wrap (e + 1) = e + 1 := by rw [w64 (by omega) (by omega)]
      have hl1 := cut_last hv.2.2.1 hn
      have hr : EE F 163 [L 1 (l.map iU), I (l.idxOf x), I 1, L 1 []] [] = some ⟨[.sc (.own (.par 0) (l.erase x).length)], [.row 1 ((l.erase x).map iU)], []⟩ := by
        have := replaced_Int l [] (l.idxOf x) 1 (by omega) (by simp; omega)
        rw [rep_erase] at this
        exact this
      have hcv := fun g => configValid_impl (e + 1) (l.erase x) g (by rw [List.length_erase_of_mem hm]; omega)
      have hlt : (((l.idxOf x : Nat) : Int) < ((l.length - 1 : Nat) : Int)) ↔ l.idxOf x + 1 < l.length := by omega
      cases f
      · simp only [↓xP, xQ, xR, flatR, eqCells_ok, eqSh, eqBs, Nat.reduceLT, decide_true, Nat.reduceBEq, Nat.reduceAdd, IOp.dst, IOp.isF, IOp.args, coolOp, Nat.reduceSub, index_int l x (by omega), ha, hneg, he', ge_iff_le, hw, hr, hl1, hcv, map_all, hlt]
        refine sel_split (fun h2 => ?_) (fun h2 => ?_)
        · simp only [Bool.not_eq_true'] at h2
          have hno : withoutOk ⟨e, l, false⟩ x = false := by simp only [withoutOk, without1, h, hm, he, decide_true, Bool.true_and, Bool.false_and]; exact h2
          simp only [↓xP, xQ, xR, flatR, eqCells_ok, eqSh, eqBs, Nat.reduceLT, decide_true, Nat.reduceBEq, Nat.reduceAdd, IOp.dst, IOp.isF, IOp.args, coolOp, Nat.reduceSub, hcp, hno, without, cfgRet2, Bool.false_eq_true, if_false]
        · simp only [Bool.not_eq_false'] at h2
          have hok : withoutOk ⟨e, l, false⟩ x = true := by simp only [withoutOk, without1, h, hm, he, decide_true, Bool.true_and, Bool.false_and]; exact h2
          simp only [↓xP, xQ, xR, flatR, eqCells_ok, eqSh, eqBs, Nat.reduceLT, decide_true, Nat.reduceBEq, Nat.reduceAdd, IOp.dst, IOp.isF, IOp.args, coolOp, Nat.reduceSub, hok, without, cfgRet2, if_true, without1, Bool.true_and, Bool.false_and]
      · simp only [↓xP, xQ, xR, flatR, eqCells_ok, eqSh, eqBs, Nat.reduceLT, decide_true, Nat.reduceBEq, Nat.reduceAdd, IOp.dst, IOp.isF, IOp.args, coolOp, Nat.reduceSub, index_int l x (by omega), ha, hneg, he', ge_iff_le, hw, hr, hl1, hcv, map_all, hlt]
        refine sel_split (fun h2 => ?_) (fun h2 => ?_)
        · simp only [Bool.not_eq_true'] at h2
          have hno : withoutOk ⟨e, l, true⟩ x = false := by simp only [withoutOk, without1, h, hm, he, decide_true, Bool.true_and, Bool.false_and]; exact h2
          simp only [↓xP, xQ, xR, flatR, eqCells_ok, eqSh, eqBs, Nat.reduceLT, decide_true, Nat.reduceBEq, Nat.reduceAdd, IOp.dst, IOp.isF, IOp.args, coolOp, Nat.reduceSub, hcp, hno, without, cfgRet2, Bool.false_eq_true, if_false]
        · simp only [Bool.not_eq_false'] at h2
          have hok : withoutOk ⟨e, l, true⟩ x = true := by simp only [withoutOk, without1, h, hm, he, decide_true, Bool.true_and, Bool.false_and]; exact h2
          simp only [↓xP, xQ, xR, flatR, eqCells_ok, eqSh, eqBs, Nat.reduceLT, decide_true, Nat.reduceBEq, Nat.reduceAdd, IOp.dst, IOp.isF, IOp.args, coolOp, Nat.reduceSub, hok, without, cfgRet2, if_true, without1, Bool.true_and, Bool.false_and]
    · have he' : (60 : Int) ≤ e := by omega
      have hno : withoutOk ⟨e, l, f⟩ x = false := by simp [withoutOk, he]
      simp only [↓xP, xQ, xR, flatR, eqCells_ok, eqSh, eqBs, Nat.reduceLT, decide_true, Nat.reduceBEq, Nat.reduceAdd, IOp.dst, IOp.isF, IOp.args, coolOp, Nat.reduceSub, index_int l x (by omega), ha, hneg, he', ge_iff_le, hcp, hno, without, cfgRet2, Bool.false_eq_true, if_false]
  · have hneg : idxI l x < 0 := idxI_neg.2 hm
    have hno : withoutOk ⟨e, l, f⟩ x = false := by simp [withoutOk, hm]
    simp only [↓xP, xQ, xR, flatR, eqCells_ok, eqSh, eqBs, Nat.reduceLT, decide_true, Nat.reduceBEq, Nat.reduceAdd, IOp.dst, IOp.isF, IOp.args, coolOp, Nat.reduceSub, index_int l x (by omega), hneg, hcp, hno, without, cfgRet2, Bool.false_eq_true, if_false]
theorem withoutMember_spec (e : Int) (l : List Int) (f : Bool) (x : Int) (hn : l.length ≤ 1048576) : EE F 83 [.ag [.u (.int .i64 e), .u (.sl 1 (l.map iU)), .u (.bool f)], I x] [] = withoutRet ⟨e, l, f⟩ x := by
  rw [R83, b83]
  simp only [↓xP, xQ, xR, flatR, eqCells_ok, eqSh, eqBs, Nat.reduceLT, decide_true, Nat.reduceBEq, Nat.reduceAdd, IOp.dst, IOp.isF, IOp.args, coolOp, Nat.reduceSub, configValid_spec e l f (by omega)]
  refine sel_split (fun h => ?_) (fun h => ?_)
  · simp only [Bool.not_eq_true'] at h
    simp [withoutRet, h, cfg02]
  simp only [Bool.not_eq_false'] at h
  have hv := (configValid_iff _).1 h
  dsimp only at hv
  simp only [withoutRet, h, if_true]
  have hcp := l16Copy_ok e l f hn
  simp only [cfgRet] at hcp
  have hl1 := cut_last hv.2.2.1 hn
  have hiff := without_iff h x
  dsimp only at hiff
  by_cases hm : x ∈ l
  · have hi : l.idxOf x < l.length := List.idxOf_lt_length_of_mem hm
    have ha := idxI_mem hm
    have hneg : ¬ ((l.idxOf x : Nat) : Int) < 0 := by omega
    have hcm := completeMembers_spec e l f hn
    generalize hcc : (complete ⟨e, l, f⟩).length = cl at hiff hcm
    have hlast : (((l.idxOf x : Nat) : Int) = ((l.length - 1 : Nat) : Int)) ↔ l.idxOf x + 1 = l.length := by omega
    have hc1 : ((cl : Int) = 1) ↔ cl = 1 := by omega
    by_cases he : e = 60
    · subst he
      have hno : withoutOk ⟨60, l, f⟩ x = false := by simp only [withoutOk]; simp
      simp only [↓xP, xQ, xR, flatR, eqCells_ok, eqSh, eqBs, Nat.reduceLT, decide_true, Nat.reduceBEq, Nat.reduceAdd, IOp.dst, IOp.isF, IOp.args, coolOp, Nat.reduceSub, l16Index_ok 60 l f x (by omega), ha, hneg, hl1, hcm, hcp, hno, without, cfgRet2, Bool.false_eq_true, if_false]
    · have hw : IntKind.i64.wrap (e + 1) = e + 1 := by rw [w64 (by omega) (by omega)]
      have hct := cut_to (n := l.length) (i := l.idxOf x) (by omega)
      have hcf := cut_from (n := l.length) (i := l.idxOf x + 1) (by omega)
      have hw2 := w_succ (i := l.idxOf x) (by omega)
      have hmin : min (l.idxOf x) l.length = l.idxOf x := by omega
      have q1 : l.idxOf x ≤ maxLen ∧ l.idxOf x * 8 ≤ 140737488355328 := small_max (by omega) (by omega)
      have q2 : l.idxOf x + (l.length - (l.idxOf x + 1)) ≤ maxLen ∧ (l.idxOf x + (l.length - (l.idxOf x + 1))) * 8 ≤ 140737488355328 := small_max (by omega) (by omega)
      have hlen : l.idxOf x + (l.length - (l.idxOf x + 1)) = (l.erase x).length := by rw [List.length_erase_of_mem hm]; omega
      have q3 : (l.erase x).length ≤ maxLen ∧ (l.erase x).length * 8 ≤ 140737488355328 := small_max (by rw [List.length_erase_of_mem hm]; omega) (by omega)
      have her : List.take (l.idxOf x) (l.map iU) ++ List.drop (l.idxOf x + 1) (l.map iU) = (l.erase x).map iU := by
        rw [← rep_erase]; simp [rep, List.map_take, List.map_drop]
      have ne1 : ∀ {q : Prop}, (l.idxOf x + 1 < l.length) ↔ ¬ (l.idxOf x + 1 = l.length) := by omega
      have hb : (complete ⟨e, l, f⟩).length = cl := hcc
      have h1 : (((cl : Int) = 1) = True ∧ cl = 1) ∨ (((cl : Int) = 1) = False ∧ cl ≠ 1) := by
        by_cases h : cl = 1
        · exact .inl ⟨eq_true (by omega), h⟩
        · exact .inr ⟨eq_false (by omega), h⟩
      have h2 : ((((l.idxOf x : Nat) : Int) = ((l.length - 1 : Nat) : Int)) = True ∧ (l.idxOf x + 1 = l.length) ∧ (l.idxOf x + 1 = l.length) = True) ∨ ((((l.idxOf x : Nat) : Int) = ((l.length - 1 : Nat) : Int)) = False ∧ l.idxOf x + 1 ≠ l.length ∧ (l.idxOf x + 1 = l.length) = False) := by
        by_cases h : l.idxOf x + 1 = l.length
        · exact .inl ⟨eq_true (by omega), h, eq_true h⟩
        · exact .inr ⟨eq_false (by omega), h, eq_false h⟩
      have hk : ∀ g, (l.idxOf x + 1 < l.length) = g ↔ (¬ (l.idxOf x + 1 = l.length)) = g := by
        intro g
        have : (l.idxOf x + 1 < l.length) = (¬ (l.idxOf x + 1 = l.length)) := propext (by omega)
        rw [this]
      have he60 : e < 60 := by omega
      rcases h1 with ⟨h1, k1⟩ | ⟨h1, k1⟩ <;> rcases h2 with ⟨h2, k2, k3⟩ | ⟨h2, k2, k3⟩ <;> cases f
      all_goals
        have hlt : (l.idxOf x + 1 < l.length) = ¬ (l.idxOf x + 1 = l.length) := propext (by omega)
        simp only [hm, he60, k1, k2, true_and, and_true, false_and, and_false, not_true_eq_false, not_false_eq_true, ne_eq, or_true, true_or, or_false, false_or, reduceCtorEq, iff_true, iff_false, Bool.not_eq_true] at hiff
        simp only [↓xP, xQ, xR, flatR, eqCells_ok, eqSh, eqBs, Nat.reduceLT, decide_true, Nat.reduceBEq, Nat.reduceAdd, IOp.dst, IOp.isF, IOp.args, coolOp, Nat.reduceSub, l16Index_ok _ l _ x (by omega), ha, hneg, hl1, hcm, he, hcp, h1, h2, hw, hct, hcf, hw2, hmin, q1.1, q1.2, q2.1, q2.2, q3.1, q3.2, List.length_map, List.length_take, List.length_drop, List.drop_zero, map_all, hlen, her, hiff, without, cfgRet2, without1, hlt, k3, if_true, if_false, Bool.false_eq_true, decide_true, decide_false, Bool.true_and, Bool.false_and, not_true_eq_false, not_false_eq_true, Bool.and_true, Bool.and_false]
  · have hneg : idxI l x < 0 := idxI_neg.2 hm
    have hno : withoutOk ⟨e, l, f⟩ x = false := by simp [withoutOk, hm]
    simp only [↓xP, xQ, xR, flatR, eqCells_ok, eqSh, eqBs, Nat.reduceLT, decide_true, Nat.reduceBEq, Nat.reduceAdd, IOp.dst, IOp.isF, IOp.args, coolOp, Nat.reduceSub, l16Index_ok e l f x (by omega), hneg, completeMembers_spec e l f hn, hcp, hno, without, cfgRet2, Bool.false_eq_true, if_false]
def repStep (nodes : List Int) (c : Config) (x : Int) : Config := if x ∈ nodes then without c x else c
def repair (c : Config) (nodes : List Int) : Config := c.members.foldl (repStep nodes) c
theorem without_twice {c : Config} (h : configValid c = true) (x : Int) : without (without c x) x = without c x := by
  by_cases hw : withoutOk c x = true
  · have e : without c x = without1 c x := by simp [without, hw]
    have hx : x ∉ (without1 c x).members := by
      have := ((configValid_iff c).1 h).2.2.2.2.2.2
      intro hm
      exact (List.Nodup.mem_erase_iff this).1 hm |>.1 rfl
    rw [e]
    have : withoutOk (without1 c x) x = false := by simp [withoutOk, hx]
    simp [without, this]
  · have e : without c x = c := by simp [without, hw]
    rw [e, e]
theorem cfgRet2_eq (c : Config) (b : Bool) : cfgRet2 c b = some ⟨[.ag [.u (.int .i64 c.epoch), .own (.par 0) c.members.length, .u (.bool c.fresh)], B b], [.row 1 (c.members.map iU)], []⟩ := rfl
def wid (a b : Id) : Bool → Id
  | false => a
  | true => b
theorem repairConfig_impl (e : Int) (l : List Int) (f : Bool) (nodes : List Int) (hn : l.length ≤ 1048576) (hm : nodes.length ≤ 1048576) : EE F 19 [.ag [.u (.int .i64 e), .u (.sl 1 (l.map iU)), .u (.bool f)], L 1 (nodes.map iU)] [] = if configValid ⟨e, l, f⟩ = true then cfgRet (repair ⟨e, l, f⟩ nodes) else cfg0 := by
  rw [R19, b19]
  simp only [↓xP, xQ, xR, flatR, eqCells_ok, eqSh, eqBs, Nat.reduceLT, decide_true, Nat.reduceBEq, Nat.reduceAdd, IOp.dst, IOp.isF, IOp.args, coolOp, Nat.reduceSub, configValid_impl e l f (by omega)]
  refine sel_split (fun h => ?_) (fun h => ?_)
  · simp only [Bool.not_eq_true'] at h
    simp [h, cfg0]
  simp only [Bool.not_eq_false'] at h
  have hcp := copyConfig_ok e l f hn
  simp only [cfgRet] at hcp
  simp only [↓xP, xQ, xR, flatR, eqCells_ok, eqSh, eqBs, Nat.reduceLT, decide_true, Nat.reduceBEq, Nat.reduceAdd, IOp.dst, IOp.isF, IOp.args, coolOp, Nat.reduceSub, hcp, h, if_true]
  refine (loop_ind (fun (a : Nat × Bool × Config) st => a.1 ≤ l.length ∧ configValid a.2.2 = true ∧ st.s 1 = DU (.sl 1 (nodes.map iU)) ∧ st.s 15 = DU (.sl 1 (l.map iU)) ∧ st.s 16 = DI l.length ∧ st.s 17 = DI a.1 ∧ st.s 4 = .t (.sc (.ptr (.loc 4 0) 0 0)) ∧ st.o (.loc 4 0) = some (.box [.u (.int .i64 0), .u (.sl 1 []), .u (.bool false)]) ∧
    st.s 5 = .t (.sc (.ptr (.loc 5 0) 0 0)) ∧ st.o (.loc 5 0) = some (.box [.u (.int .i64 a.2.2.epoch), .own (wid (.loc 13 0) (.loc 27 0) a.2.1) a.2.2.members.length, .u (.bool a.2.2.fresh)]) ∧ st.o (wid (.loc 13 0) (.loc 27 0) a.2.1) = some (.row 1 (a.2.2.members.map iU)))
    (fun a => l.length - a.1) (fun a => cfgRet ((l.drop a.1).foldl (repStep nodes) a.2.2)) ?_ (0, false, ⟨e, l, f⟩) ⟨by simp, h, (by and_intros <;> first | omega | rfl | (simp only [↓xP, xQ, xR, flatR, eqCells_ok, eqSh, eqBs, Nat.reduceLT, decide_true, Nat.reduceBEq, Nat.reduceAdd, IOp.dst, IOp.isF, IOp.args, coolOp, Nat.reduceSub, wid]; done) | (simp only [↓xP, xQ, xR, flatR, eqCells_ok, eqSh, eqBs, Nat.reduceLT, decide_true, Nat.reduceBEq, Nat.reduceAdd, IOp.dst, IOp.isF, IOp.args, coolOp, Nat.reduceSub, wid]; rfl) | (simp only [↓xP, xQ, xR, flatR, eqCells_ok, eqSh, eqBs, Nat.reduceLT, decide_true, Nat.reduceBEq, Nat.reduceAdd, IOp.dst, IOp.isF, IOp.args, coolOp, Nat.reduceSub, wid]; omega))⟩).trans (by simp [repair])
  rintro ⟨i, b, c⟩ st ⟨hle, hv, h1, h15, h16, h17, h4, ho4, h5, ho5, hor⟩ ih
  dsimp only at *
  by_cases hi : i < l.length
  · obtain ⟨x, hx⟩ : ∃ x, l[i]? = some x := ⟨_, List.getElem?_eq_getElem hi⟩
    have hw := w_succ (i := i) (by omega)
    have hd : l.drop i = x :: l.drop (i + 1) := by rw [List.drop_eq_getElem_cons hi, (List.getElem?_eq_some_iff.1 hx).2]
    have hct := contains_int nodes x (by omega)
    have hcl : c.members.length ≤ 1048576 := by have := configValid_len hv; omega
    have hwm := withoutMember_impl c.epoch c.members c.fresh x hcl
    have ec : (⟨c.epoch, c.members, c.fresh⟩ : Config) = c := rfl
    rw [ec] at hwm
    simp only [withoutRet, hv, if_true, cfgRet2_eq] at hwm
    rw [hd, List.foldl_cons]
    cases b
    · simp only [wid] at *
      simp only [↓xP, xQ, xR, flatR, eqCells_ok, eqSh, eqBs, Nat.reduceLT, decide_true, Nat.reduceBEq, Nat.reduceAdd, IOp.dst, IOp.isF, IOp.args, coolOp, Nat.reduceSub, h1, h15, h16, h17, h4, ho4, h5, ho5, hor, hi, hx, iU, hct]
      refine sel_split (fun hc => ?_) (fun hc => ?_)
      · have hs : repStep nodes c x = without c x := by simp only [decide_eq_true_eq] at hc; simp [repStep, hc]
        rw [hs]
        simp only [↓xP, xQ, xR, flatR, eqCells_ok, eqSh, eqBs, Nat.reduceLT, decide_true, Nat.reduceBEq, Nat.reduceAdd, IOp.dst, IOp.isF, IOp.args, coolOp, Nat.reduceSub, h1, h15, h16, h17, h4, ho4, h5, ho5, hor, map_all, hwm, hw]
        exact ih (i + 1, true, without c x) _ (by dsimp only; omega) ⟨by dsimp only; omega, without_valid hv x, (by and_intros <;> first | omega | rfl | (simp only [↓xP, xQ, xR, flatR, eqCells_ok, eqSh, eqBs, Nat.reduceLT, decide_true, Nat.reduceBEq, Nat.reduceAdd, IOp.dst, IOp.isF, IOp.args, coolOp, Nat.reduceSub, wid, h1, h15, h16, h17, h4, ho4, h5, ho5, hor]; done) | (simp only [↓xP, xQ, xR, flatR, eqCells_ok, eqSh, eqBs, Nat.reduceLT, decide_true, Nat.reduceBEq, Nat.reduceAdd, IOp.dst, IOp.isF, IOp.args, coolOp, Nat.reduceSub, wid, h1, h15, h16, h17, h4, ho4, h5, ho5, hor]; rfl) | (simp only [↓xP, xQ, xR, flatR, eqCells_ok, eqSh, eqBs, Nat.reduceLT, decide_true, Nat.reduceBEq, Nat.reduceAdd, IOp.dst, IOp.isF, IOp.args, coolOp, Nat.reduceSub, wid, h1, h15, h16, h17, h4, ho4, h5, ho5, hor]; omega))⟩
      · have hs : repStep nodes c x = c := by simp only [decide_eq_false_iff_not] at hc; simp [repStep, hc]
        rw [hs]
        simp only [↓xP, xQ, xR, flatR, eqCells_ok, eqSh, eqBs, Nat.reduceLT, decide_true, Nat.reduceBEq, Nat.reduceAdd, IOp.dst, IOp.isF, IOp.args, coolOp, Nat.reduceSub, h1, h15, h16, h17, h4, ho4, h5, ho5, hor, hw]
        exact ih (i + 1, false, c) _ (by dsimp only; omega) ⟨by dsimp only; omega, hv, (by and_intros <;> first | omega | rfl | (simp only [↓xP, xQ, xR, flatR, eqCells_ok, eqSh, eqBs, Nat.reduceLT, decide_true, Nat.reduceBEq, Nat.reduceAdd, IOp.dst, IOp.isF, IOp.args, coolOp, Nat.reduceSub, wid, h1, h15, h16, h17, h4, ho4, h5, ho5, hor]; done) | (simp only [↓xP, xQ, xR, flatR, eqCells_ok, eqSh, eqBs, Nat.reduceLT, decide_true, Nat.reduceBEq, Nat.reduceAdd, IOp.dst, IOp.isF, IOp.args, coolOp, Nat.reduceSub, wid, h1, h15, h16, h17, h4, ho4, h5, ho5, hor]; rfl) | (simp only [↓xP, xQ, xR, flatR, eqCells_ok, eqSh, eqBs, Nat.reduceLT, decide_true, Nat.reduceBEq, Nat.reduceAdd, IOp.dst, IOp.isF, IOp.args, coolOp, Nat.reduceSub, wid, h1, h15, h16, h17, h4, ho4, h5, ho5, hor]; omega))⟩
    · simp only [wid] at *
      simp only [↓xP, xQ, xR, flatR, eqCells_ok, eqSh, eqBs, Nat.reduceLT, decide_true, Nat.reduceBEq, Nat.reduceAdd, IOp.dst, IOp.isF, IOp.args, coolOp, Nat.reduceSub, h1, h15, h16, h17, h4, ho4, h5, ho5, hor, hi, hx, iU, hct]
      refine sel_split (fun hc => ?_) (fun hc => ?_)
      · have hs : repStep nodes c x = without c x := by simp only [decide_eq_true_eq] at hc; simp [repStep, hc]
        rw [hs]
        simp only [↓xP, xQ, xR, flatR, eqCells_ok, eqSh, eqBs, Nat.reduceLT, decide_true, Nat.reduceBEq, Nat.reduceAdd, IOp.dst, IOp.isF, IOp.args, coolOp, Nat.reduceSub, h1, h15, h16, h17, h4, ho4, h5, ho5, hor, map_all, hwm, hw]
        exact ih (i + 1, true, without c x) _ (by dsimp only; omega) ⟨by dsimp only; omega, without_valid hv x, (by and_intros <;> first | omega | rfl | (simp only [↓xP, xQ, xR, flatR, eqCells_ok, eqSh, eqBs, Nat.reduceLT, decide_true, Nat.reduceBEq, Nat.reduceAdd, IOp.dst, IOp.isF, IOp.args, coolOp, Nat.reduceSub, wid, h1, h15, h16, h17, h4, ho4, h5, ho5, hor]; done) | (simp only [↓xP, xQ, xR, flatR, eqCells_ok, eqSh, eqBs, Nat.reduceLT, decide_true, Nat.reduceBEq, Nat.reduceAdd, IOp.dst, IOp.isF, IOp.args, coolOp, Nat.reduceSub, wid, h1, h15, h16, h17, h4, ho4, h5, ho5, hor]; rfl) | (simp only [↓xP, xQ, xR, flatR, eqCells_ok, eqSh, eqBs, Nat.reduceLT, decide_true, Nat.reduceBEq, Nat.reduceAdd, IOp.dst, IOp.isF, IOp.args, coolOp, Nat.reduceSub, wid, h1, h15, h16, h17, h4, ho4, h5, ho5, hor]; omega))⟩
      · have hs : repStep nodes c x = c := by simp only [decide_eq_false_iff_not] at hc; simp [repStep, hc]
        rw [hs]
        simp only [↓xP, xQ, xR, flatR, eqCells_ok, eqSh, eqBs, Nat.reduceLT, decide_true, Nat.reduceBEq, Nat.reduceAdd, IOp.dst, IOp.isF, IOp.args, coolOp, Nat.reduceSub, h1, h15, h16, h17, h4, ho4, h5, ho5, hor, hw]
        exact ih (i + 1, true, c) _ (by dsimp only; omega) ⟨by dsimp only; omega, hv, (by and_intros <;> first | omega | rfl | (simp only [↓xP, xQ, xR, flatR, eqCells_ok, eqSh, eqBs, Nat.reduceLT, decide_true, Nat.reduceBEq, Nat.reduceAdd, IOp.dst, IOp.isF, IOp.args, coolOp, Nat.reduceSub, wid, h1, h15, h16, h17, h4, ho4, h5, ho5, hor]; done) | (simp only [↓xP, xQ, xR, flatR, eqCells_ok, eqSh, eqBs, Nat.reduceLT, decide_true, Nat.reduceBEq, Nat.reduceAdd, IOp.dst, IOp.isF, IOp.args, coolOp, Nat.reduceSub, wid, h1, h15, h16, h17, h4, ho4, h5, ho5, hor]; rfl) | (simp only [↓xP, xQ, xR, flatR, eqCells_ok, eqSh, eqBs, Nat.reduceLT, decide_true, Nat.reduceBEq, Nat.reduceAdd, IOp.dst, IOp.isF, IOp.args, coolOp, Nat.reduceSub, wid, h1, h15, h16, h17, h4, ho4, h5, ho5, hor]; omega))⟩
  · rw [List.drop_of_length_le (by omega)]
    cases b <;> simp only [wid] at * <;> simp only [↓xP, xQ, xR, flatR, eqCells_ok, eqSh, eqBs, Nat.reduceLT, decide_true, Nat.reduceBEq, Nat.reduceAdd, IOp.dst, IOp.isF, IOp.args, coolOp, Nat.reduceSub, h1, h15, h16, h17, h4, ho4, h5, ho5, hor, hi, List.foldl_nil, cfgRet, map_all]
theorem repairConfig_spec (e : Int) (l : List Int) (f : Bool) (nodes : List Int) (hn : l.length ≤ 1048576) (hm : nodes.length ≤ 1048576) : EE F 16 [.ag [.u (.int .i64 e), .u (.sl 1 (l.map iU)), .u (.bool f)], L 1 (nodes.map iU)] [] = if configValid ⟨e, l, f⟩ = true then cfgRet (repair ⟨e, l, f⟩ nodes) else cfg0 := by
  rw [R16, b16]
  simp only [↓xP, xQ, xR, flatR, eqCells_ok, eqSh, eqBs, Nat.reduceLT, decide_true, Nat.reduceBEq, Nat.reduceAdd, IOp.dst, IOp.isF, IOp.args, coolOp, Nat.reduceSub, configValid_spec e l f (by omega)]
  refine sel_split (fun h => ?_) (fun h => ?_)
  · simp only [Bool.not_eq_true'] at h
    simp [h, cfg0]
  simp only [Bool.not_eq_false'] at h
  have hcp := l16Copy_ok e l f hn
  simp only [cfgRet] at hcp
  simp only [↓xP, xQ, xR, flatR, eqCells_ok, eqSh, eqBs, Nat.reduceLT, decide_true, Nat.reduceBEq, Nat.reduceAdd, IOp.dst, IOp.isF, IOp.args, coolOp, Nat.reduceSub, hcp, h, if_true]
  refine (loop_ind (fun (a : Nat × Bool × Config) st => a.1 ≤ l.length ∧ configValid a.2.2 = true ∧ st.s 1 = DU (.sl 1 (nodes.map iU)) ∧ st.s 2 = .t (.sc (.ptr (.loc 2 0) 0 0)) ∧ st.o (.loc 2 0) = some (.box [.u (.int .i64 e), .u (.sl 1 (l.map iU)), .u (.bool f)]) ∧ st.s 6 = DI a.1 ∧ st.s 4 = .t (.sc (.ptr (.loc 4 0) 0 0)) ∧ st.o (.loc 4 0) = some (.box [.u (.int .i64 0), .u (.sl 1 []), .u (.bool false)]) ∧
    st.s 5 = .t (.sc (.ptr (.loc 5 0) 0 0)) ∧ st.o (.loc 5 0) = some (.box [.u (.int .i64 a.2.2.epoch), .own (wid (.loc 15 0) (.loc 46 0) a.2.1) a.2.2.members.length, .u (.bool a.2.2.fresh)]) ∧ st.o (wid (.loc 15 0) (.loc 46 0) a.2.1) = some (.row 1 (a.2.2.members.map iU)))
    (fun a => l.length - a.1) (fun a => cfgRet ((l.drop a.1).foldl (repStep nodes) a.2.2)) ?_ (0, false, ⟨e, l, f⟩) ⟨by simp, h, (by and_intros <;> first | omega | rfl | (simp only [↓xP, xQ, xR, flatR, eqCells_ok, eqSh, eqBs, Nat.reduceLT, decide_true, Nat.reduceBEq, Nat.reduceAdd, IOp.dst, IOp.isF, IOp.args, coolOp, Nat.reduceSub, wid]; done) | (simp only [↓xP, xQ, xR, flatR, eqCells_ok, eqSh, eqBs, Nat.reduceLT, decide_true, Nat.reduceBEq, Nat.reduceAdd, IOp.dst, IOp.isF, IOp.args, coolOp, Nat.reduceSub, wid]; rfl) | (simp only [↓xP, xQ, xR, flatR, eqCells_ok, eqSh, eqBs, Nat.reduceLT, decide_true, Nat.reduceBEq, Nat.reduceAdd, IOp.dst, IOp.isF, IOp.args, coolOp, Nat.reduceSub, wid]; omega))⟩).trans (by simp [repair])
  rintro ⟨i, b, c⟩ st ⟨hle, hv, h1, h2, ho2, h6, h4, ho4, h5, ho5, hor⟩ ih
  dsimp only at *
  by_cases hi : i < l.length
  · obtain ⟨x, hx⟩ : ∃ x, l[i]? = some x := ⟨_, List.getElem?_eq_getElem hi⟩
    have hw := w_succ (i := i) (by omega)
    have hd : l.drop i = x :: l.drop (i + 1) := by rw [List.drop_eq_getElem_cons hi, (List.getElem?_eq_some_iff.1 hx).2]
    rw [hd, List.foldl_cons]
    simp only [↓xP, xQ, xR, flatR, eqCells_ok, eqSh, eqBs, Nat.reduceLT, decide_true, Nat.reduceBEq, Nat.reduceAdd, IOp.dst, IOp.isF, IOp.args, coolOp, Nat.reduceSub, h2, ho2, h6, hi]
    refine (loop_ind (fun (a : Nat × Bool × Config) st => a.1 ≤ nodes.length ∧ configValid a.2.2 = true ∧ st.s 1 = DU (.sl 1 (nodes.map iU)) ∧ st.s 2 = .t (.sc (.ptr (.loc 2 0) 0 0)) ∧ st.o (.loc 2 0) = some (.box [.u (.int .i64 e), .u (.sl 1 (l.map iU)), .u (.bool f)]) ∧ st.s 6 = DI i ∧ st.s 7 = DI a.1 ∧ st.s 4 = .t (.sc (.ptr (.loc 4 0) 0 0)) ∧ st.o (.loc 4 0) = some (.box [.u (.int .i64 0), .u (.sl 1 []), .u (.bool false)]) ∧
      st.s 5 = .t (.sc (.ptr (.loc 5 0) 0 0)) ∧ st.o (.loc 5 0) = some (.box [.u (.int .i64 a.2.2.epoch), .own (wid (.loc 15 0) (.loc 46 0) a.2.1) a.2.2.members.length, .u (.bool a.2.2.fresh)]) ∧ st.o (wid (.loc 15 0) (.loc 46 0) a.2.1) = some (.row 1 (a.2.2.members.map iU)))
      (fun a => nodes.length - a.1) (fun a => cfgRet ((l.drop (i + 1)).foldl (repStep nodes) (repStep (nodes.drop a.1) a.2.2 x))) ?_ (0, b, c) ⟨by simp, hv, by cases b <;> simp only [wid] at * <;> exact (by and_intros <;> first | omega | rfl | (simp only [↓xP, xQ, xR, flatR, eqCells_ok, eqSh, eqBs, Nat.reduceLT, decide_true, Nat.reduceBEq, Nat.reduceAdd, IOp.dst, IOp.isF, IOp.args, coolOp, Nat.reduceSub, h1, h2, ho2, h6, h4, ho4, h5, ho5, hor]; done) | (simp only [↓xP, xQ, xR, flatR, eqCells_ok, eqSh, eqBs, Nat.reduceLT, decide_true, Nat.reduceBEq, Nat.reduceAdd, IOp.dst, IOp.isF, IOp.args, coolOp, Nat.reduceSub, h1, h2, ho2, h6, h4, ho4, h5, ho5, hor]; rfl) | (simp only [↓xP, xQ, xR, flatR, eqCells_ok, eqSh, eqBs, Nat.reduceLT, decide_true, Nat.reduceBEq, Nat.reduceAdd, IOp.dst, IOp.isF, IOp.args, coolOp, Nat.reduceSub, h1, h2, ho2, h6, h4, ho4, h5, ho5, hor]; omega))⟩).trans (by simp)
    rintro ⟨j, b, c⟩ st ⟨hlj, hv, h1, h2, ho2, h6, h7, h4, ho4, h5, ho5, hor⟩ ihj
    dsimp only at *
    by_cases hj : j < nodes.length
    · obtain ⟨y, hy⟩ : ∃ y, nodes[j]? = some y := ⟨_, List.getElem?_eq_getElem hj⟩
      have hwj := w_succ (i := j) (by omega)
      have hdj : nodes.drop j = y :: nodes.drop (j + 1) := by rw [List.drop_eq_getElem_cons hj, (List.getElem?_eq_some_iff.1 hy).2]
      have hcl : c.members.length ≤ 1048576 := by have := configValid_len hv; omega
      have hwm := withoutMember_spec c.epoch c.members c.fresh x hcl
      have ec : (⟨c.epoch, c.members, c.fresh⟩ : Config) = c := rfl
      rw [ec] at hwm
      simp only [withoutRet, hv, if_true, cfgRet2_eq] at hwm
      cases b
      · simp only [wid] at *
        simp only [↓xP, xQ, xR, flatR, eqCells_ok, eqSh, eqBs, Nat.reduceLT, decide_true, Nat.reduceBEq, Nat.reduceAdd, IOp.dst, IOp.isF, IOp.args, coolOp, Nat.reduceSub, h1, h2, ho2, h6, h7, h4, ho4, h5, ho5, hor, hj, hy, hx, iU]
        refine sel_split (fun hc => ?_) (fun hc => ?_)
        · have hs : repStep (nodes.drop j) c x = repStep (nodes.drop (j + 1)) (without c x) x := by
            simp only [decide_eq_true_eq] at hc
            subst hc
            simp only [repStep, hdj, List.mem_cons, true_or, if_true]
            split
            · rw [without_twice hv]
            · rfl
          rw [hs]
          simp only [↓xP, xQ, xR, flatR, eqCells_ok, eqSh, eqBs, Nat.reduceLT, decide_true, Nat.reduceBEq, Nat.reduceAdd, IOp.dst, IOp.isF, IOp.args, coolOp, Nat.reduceSub, h1, h2, ho2, h6, h7, h4, ho4, h5, ho5, hor, hx, iU, map_all, hwm, hwj]
          exact ihj (j + 1, true, without c x) _ (by dsimp only; omega) ⟨by dsimp only; omega, without_valid hv x, (by and_intros <;> first | omega | rfl | (simp only [↓xP, xQ, xR, flatR, eqCells_ok, eqSh, eqBs, Nat.reduceLT, decide_true, Nat.reduceBEq, Nat.reduceAdd, IOp.dst, IOp.isF, IOp.args, coolOp, Nat.reduceSub, wid, h1, h2, ho2, h6, h7, h4, ho4, h5, ho5, hor]; done) | (simp only [↓xP, xQ, xR, flatR, eqCells_ok, eqSh, eqBs, Nat.reduceLT, decide_true, Nat.reduceBEq, Nat.reduceAdd, IOp.dst, IOp.isF, IOp.args, coolOp, Nat.reduceSub, wid, h1, h2, ho2, h6, h7, h4, ho4, h5, ho5, hor]; rfl) | (simp only [↓xP, xQ, xR, flatR, eqCells_ok, eqSh, eqBs, Nat.reduceLT, decide_true, Nat.reduceBEq, Nat.reduceAdd, IOp.dst, IOp.isF, IOp.args, coolOp, Nat.reduceSub, wid, h1, h2, ho2, h6, h7, h4, ho4, h5, ho5, hor]; omega))⟩
        · have hs : repStep (nodes.drop j) c x = repStep (nodes.drop (j + 1)) c x := by
            simp only [decide_eq_false_iff_not] at hc
            have hc' : ¬ x = y := fun e => hc e.symm
            simp only [repStep, hdj, List.mem_cons, hc', false_or]
          rw [hs]
          simp only [↓xP, xQ, xR, flatR, eqCells_ok, eqSh, eqBs, Nat.reduceLT, decide_true, Nat.reduceBEq, Nat.reduceAdd, IOp.dst, IOp.isF, IOp.args, coolOp, Nat.reduceSub, h1, h2, ho2, h6, h7, h4, ho4, h5, ho5, hor, hwj]
          exact ihj (j + 1, false, c) _ (by dsimp only; omega) ⟨by dsimp only; omega, hv, (by and_intros <;> first | omega | rfl | (simp only [↓xP, xQ, xR, flatR, eqCells_ok, eqSh, eqBs, Nat.reduceLT, decide_true, Nat.reduceBEq, Nat.reduceAdd, IOp.dst, IOp.isF, IOp.args, coolOp, Nat.reduceSub, wid, h1, h2, ho2, h6, h7, h4, ho4, h5, ho5, hor]; done) | (simp only [↓xP, xQ, xR, flatR, eqCells_ok, eqSh, eqBs, Nat.reduceLT, decide_true, Nat.reduceBEq, Nat.reduceAdd, IOp.dst, IOp.isF, IOp.args, coolOp, Nat.reduceSub, wid, h1, h2, ho2, h6, h7, h4, ho4, h5, ho5, hor]; rfl) | (simp only [↓xP, xQ, xR, flatR, eqCells_ok, eqSh, eqBs, Nat.reduceLT, decide_true, Nat.reduceBEq, Nat.reduceAdd, IOp.dst, IOp.isF, IOp.args, coolOp, Nat.reduceSub, wid, h1, h2, ho2, h6, h7, h4, ho4, h5, ho5, hor]; omega))⟩
      · simp only [wid] at *
        simp only [↓xP, xQ, xR, flatR, eqCells_ok, eqSh, eqBs, Nat.reduceLT, decide_true, Nat.reduceBEq, Nat.reduceAdd, IOp.dst, IOp.isF, IOp.args, coolOp, Nat.reduceSub, h1, h2, ho2, h6, h7, h4, ho4, h5, ho5, hor, hj, hy, hx, iU]
        refine sel_split (fun hc => ?_) (fun hc => ?_)
        · have hs : repStep (nodes.drop j) c x = repStep (nodes.drop (j + 1)) (without c x) x := by
            simp only [decide_eq_true_eq] at hc
            subst hc
            simp only [repStep, hdj, List.mem_cons, true_or, if_true]
            split
            · rw [without_twice hv]
            · rfl
          rw [hs]
          simp only [↓xP, xQ, xR, flatR, eqCells_ok, eqSh, eqBs, Nat.reduceLT, decide_true, Nat.reduceBEq, Nat.reduceAdd, IOp.dst, IOp.isF, IOp.args, coolOp, Nat.reduceSub, h1, h2, ho2, h6, h7, h4, ho4, h5, ho5, hor, hx, iU, map_all, hwm, hwj]
          exact ihj (j + 1, true, without c x) _ (by dsimp only; omega) ⟨by dsimp only; omega, without_valid hv x, (by and_intros <;> first | omega | rfl | (simp only [↓xP, xQ, xR, flatR, eqCells_ok, eqSh, eqBs, Nat.reduceLT, decide_true, Nat.reduceBEq, Nat.reduceAdd, IOp.dst, IOp.isF, IOp.args, coolOp, Nat.reduceSub, wid, h1, h2, ho2, h6, h7, h4, ho4, h5, ho5, hor]; done) | (simp only [↓xP, xQ, xR, flatR, eqCells_ok, eqSh, eqBs, Nat.reduceLT, decide_true, Nat.reduceBEq, Nat.reduceAdd, IOp.dst, IOp.isF, IOp.args, coolOp, Nat.reduceSub, wid, h1, h2, ho2, h6, h7, h4, ho4, h5, ho5, hor]; rfl) | (simp only [↓xP, xQ, xR, flatR, eqCells_ok, eqSh, eqBs, Nat.reduceLT, decide_true, Nat.reduceBEq, Nat.reduceAdd, IOp.dst, IOp.isF, IOp.args, coolOp, Nat.reduceSub, wid, h1, h2, ho2, h6, h7, h4, ho4, h5, ho5, hor]; omega))⟩
        · have hs : repStep (nodes.drop j) c x = repStep (nodes.drop (j + 1)) c x := by
            simp only [decide_eq_false_iff_not] at hc
            have hc' : ¬ x = y := fun e => hc e.symm
            simp only [repStep, hdj, List.mem_cons, hc', false_or]
          rw [hs]
          simp only [↓xP, xQ, xR, flatR, eqCells_ok, eqSh, eqBs, Nat.reduceLT, decide_true, Nat.reduceBEq, Nat.reduceAdd, IOp.dst, IOp.isF, IOp.args, coolOp, Nat.reduceSub, h1, h2, ho2, h6, h7, h4, ho4, h5, ho5, hor, hwj]
          exact ihj (j + 1, true, c) _ (by dsimp only; omega) ⟨by dsimp only; omega, hv, (by and_intros <;> first | omega | rfl | (simp only [↓xP, xQ, xR, flatR, eqCells_ok, eqSh, eqBs, Nat.reduceLT, decide_true, Nat.reduceBEq, Nat.reduceAdd, IOp.dst, IOp.isF, IOp.args, coolOp, Nat.reduceSub, wid, h1, h2, ho2, h6, h7, h4, ho4, h5, ho5, hor]; done) | (simp only [↓xP, xQ, xR, flatR, eqCells_ok, eqSh, eqBs, Nat.reduceLT, decide_true, Nat.reduceBEq, Nat.reduceAdd, IOp.dst, IOp.isF, IOp.args, coolOp, Nat.reduceSub, wid, h1, h2, ho2, h6, h7, h4, ho4, h5, ho5, hor]; rfl) | (simp only [↓xP, xQ, xR, flatR, eqCells_ok, eqSh, eqBs, Nat.reduceLT, decide_true, Nat.reduceBEq, Nat.reduceAdd, IOp.dst, IOp.isF, IOp.args, coolOp, Nat.reduceSub, wid, h1, h2, ho2, h6, h7, h4, ho4, h5, ho5, hor]; omega))⟩
    · have hs : repStep (nodes.drop j) c x = c := by rw [List.drop_of_length_le (by omega)]; simp [repStep]
      rw [hs]
      cases b
      · simp only [wid] at *
        simp only [↓xP, xQ, xR, flatR, eqCells_ok, eqSh, eqBs, Nat.reduceLT, decide_true, Nat.reduceBEq, Nat.reduceAdd, IOp.dst, IOp.isF, IOp.args, coolOp, Nat.reduceSub, h1, h2, ho2, h6, h7, h4, ho4, h5, ho5, hor, hj, hw]
        exact ih (i + 1, false, c) _ (by dsimp only; omega) ⟨by dsimp only; omega, hv, (by and_intros <;> first | omega | rfl | (simp only [↓xP, xQ, xR, flatR, eqCells_ok, eqSh, eqBs, Nat.reduceLT, decide_true, Nat.reduceBEq, Nat.reduceAdd, IOp.dst, IOp.isF, IOp.args, coolOp, Nat.reduceSub, wid, h1, h2, ho2, h6, h7, h4, ho4, h5, ho5, hor]; done) | (simp only [↓xP, xQ, xR, flatR, eqCells_ok, eqSh, eqBs, Nat.reduceLT, decide_true, Nat.reduceBEq, Nat.reduceAdd, IOp.dst, IOp.isF, IOp.args, coolOp, Nat.reduceSub, wid, h1, h2, ho2, h6, h7, h4, ho4, h5, ho5, hor]; rfl) | (simp only [↓xP, xQ, xR, flatR, eqCells_ok, eqSh, eqBs, Nat.reduceLT, decide_true, Nat.reduceBEq, Nat.reduceAdd, IOp.dst, IOp.isF, IOp.args, coolOp, Nat.reduceSub, wid, h1, h2, ho2, h6, h7, h4, ho4, h5, ho5, hor]; omega))⟩
      · simp only [wid] at *
        simp only [↓xP, xQ, xR, flatR, eqCells_ok, eqSh, eqBs, Nat.reduceLT, decide_true, Nat.reduceBEq, Nat.reduceAdd, IOp.dst, IOp.isF, IOp.args, coolOp, Nat.reduceSub, h1, h2, ho2, h6, h7, h4, ho4, h5, ho5, hor, hj, hw]
        exact ih (i + 1, true, c) _ (by dsimp only; omega) ⟨by dsimp only; omega, hv, (by and_intros <;> first | omega | rfl | (simp only [↓xP, xQ, xR, flatR, eqCells_ok, eqSh, eqBs, Nat.reduceLT, decide_true, Nat.reduceBEq, Nat.reduceAdd, IOp.dst, IOp.isF, IOp.args, coolOp, Nat.reduceSub, wid, h1, h2, ho2, h6, h7, h4, ho4, h5, ho5, hor]; done) | (simp only [↓xP, xQ, xR, flatR, eqCells_ok, eqSh, eqBs, Nat.reduceLT, decide_true, Nat.reduceBEq, Nat.reduceAdd, IOp.dst, IOp.isF, IOp.args, coolOp, Nat.reduceSub, wid, h1, h2, ho2, h6, h7, h4, ho4, h5, ho5, hor]; rfl) | (simp only [↓xP, xQ, xR, flatR, eqCells_ok, eqSh, eqBs, Nat.reduceLT, decide_true, Nat.reduceBEq, Nat.reduceAdd, IOp.dst, IOp.isF, IOp.args, coolOp, Nat.reduceSub, wid, h1, h2, ho2, h6, h7, h4, ho4, h5, ho5, hor]; omega))⟩
  · rw [List.drop_of_length_le (by omega)]
    cases b <;> simp only [wid] at * <;> simp only [↓xP, xQ, xR, flatR, eqCells_ok, eqSh, eqBs, Nat.reduceLT, decide_true, Nat.reduceBEq, Nat.reduceAdd, IOp.dst, IOp.isF, IOp.args, coolOp, Nat.reduceSub, h1, h2, ho2, h6, h4, ho4, h5, ho5, hor, hi, List.foldl_nil, cfgRet, map_all]
theorem heldIntS_ok (n : Nat) (K : Int) (h1 : 1 ≤ K) (h2 : K + 1 * n ≤ 4611686018427387904) : EE F 87 [L 1 ((mkL mkInt 1 K n).map iU), I K] [] = ok1 (I (K + 1 * n)) := by
  rw [R87, b87]
  simp only [↓xP, xQ, xR, flatR, eqCells_ok, eqSh, eqBs, Nat.reduceLT, decide_true, Nat.reduceBEq, Nat.reduceAdd, IOp.dst, IOp.isF, IOp.args, coolOp, Nat.reduceSub]
  refine (loop_ind (fun (i : Nat) st => i ≤ n ∧ st.s 0 = DU (.sl 1 ((mkL mkInt 1 K n).map iU)) ∧ st.s 5 = DI i ∧ st.s 1 = DI (K + 1 * i)) (fun i => n - i) (fun i => ok1 (I (K + 1 * n))) ?_ 0 ⟨by omega, by simp only [↓xP, xQ, xR, flatR, eqCells_ok, eqSh, eqBs, Nat.reduceLT, decide_true, Nat.reduceBEq, Nat.reduceAdd, IOp.dst, IOp.isF, IOp.args, coolOp, Nat.reduceSub], by simp only [↓xP, xQ, xR, flatR, eqCells_ok, eqSh, eqBs, Nat.reduceLT, decide_true, Nat.reduceBEq, Nat.reduceAdd, IOp.dst, IOp.isF, IOp.args, coolOp, Nat.reduceSub]; rfl, by simp only [↓xP, xQ, xR, flatR, eqCells_ok, eqSh, eqBs, Nat.reduceLT, decide_true, Nat.reduceBEq, Nat.reduceAdd, IOp.dst, IOp.isF, IOp.args, coolOp, Nat.reduceSub]; exact DI_eq (by omega)⟩).trans rfl
  rintro i st ⟨hle, h0, h5, h1'⟩ ih
  have hlen := mkL_len mkInt 1 K n
  by_cases hi : i < n
  · have hx := mkL_get mkInt 1 K hi
    have hw := w_succ (i := i) (by omega)
    obtain ⟨K', hK⟩ : ∃ K', K' = K + 1 * (i : Int) := ⟨_, rfl⟩
    rw [← hK] at h1' hx
    have hw0 : IntKind.i64.wrap (K' + 1) = K' + 1 := by rw [w64 (by omega) (by omega)]
    simp only [↓xP, xQ, xR, flatR, eqCells_ok, eqSh, eqBs, Nat.reduceLT, decide_true, Nat.reduceBEq, Nat.reduceAdd, IOp.dst, IOp.isF, IOp.args, coolOp, Nat.reduceSub, h0, h5, h1', hlen, hi, hx, hw, iU, mkInt, hw0, ne_eq, not_true_eq_false, decide_false]
    exact ih (i + 1) _ (by omega) ⟨by omega, by simp only [↓xP, xQ, xR, flatR, eqCells_ok, eqSh, eqBs, Nat.reduceLT, decide_true, Nat.reduceBEq, Nat.reduceAdd, IOp.dst, IOp.isF, IOp.args, coolOp, Nat.reduceSub, h0], by simp only [↓xP, xQ, xR, flatR, eqCells_ok, eqSh, eqBs, Nat.reduceLT, decide_true, Nat.reduceBEq, Nat.reduceAdd, IOp.dst, IOp.isF, IOp.args, coolOp, Nat.reduceSub], by simp only [↓xP, xQ, xR, flatR, eqCells_ok, eqSh, eqBs, Nat.reduceLT, decide_true, Nat.reduceBEq, Nat.reduceAdd, IOp.dst, IOp.isF, IOp.args, coolOp, Nat.reduceSub]; exact DI_eq (by omega)⟩
  · have : i = n := by omega
    subst this
    simp only [↓xP, xQ, xR, flatR, eqCells_ok, eqSh, eqBs, Nat.reduceLT, decide_true, Nat.reduceBEq, Nat.reduceAdd, IOp.dst, IOp.isF, IOp.args, coolOp, Nat.reduceSub, h0, h5, h1', hlen, hi]
theorem heldIntS_nil (K : Int) : EE F 87 [L 1 [], I K] [] = ok1 (I K) := by
  rw [R87, b87]
  simp only [↓xP, xQ, xR, flatR, eqCells_ok, eqSh, eqBs, Nat.reduceLT, decide_true, Nat.reduceBEq, Nat.reduceAdd, IOp.dst, IOp.isF, IOp.args, coolOp, Nat.reduceSub]
  refine (loop_ind (fun (i : Nat) st => i = 0 ∧ st.s 0 = DU (.sl 1 []) ∧ st.s 5 = DI 0 ∧ st.s 1 = DI K) (fun i => 0) (fun i => ok1 (I K)) ?_ 0 ⟨rfl, by simp only [↓xP, xQ, xR, flatR, eqCells_ok, eqSh, eqBs, Nat.reduceLT, decide_true, Nat.reduceBEq, Nat.reduceAdd, IOp.dst, IOp.isF, IOp.args, coolOp, Nat.reduceSub], by simp only [↓xP, xQ, xR, flatR, eqCells_ok, eqSh, eqBs, Nat.reduceLT, decide_true, Nat.reduceBEq, Nat.reduceAdd, IOp.dst, IOp.isF, IOp.args, coolOp, Nat.reduceSub], by simp only [↓xP, xQ, xR, flatR, eqCells_ok, eqSh, eqBs, Nat.reduceLT, decide_true, Nat.reduceBEq, Nat.reduceAdd, IOp.dst, IOp.isF, IOp.args, coolOp, Nat.reduceSub]⟩).trans rfl
  rintro i st ⟨hi, h0, h5, h1'⟩ ih
  have : ¬ (0 : Int) < 0 := by omega
  have : ¬ (0 : Int) < ((0 : Nat) : Int) := by omega
  simp only [↓xP, xQ, xR, flatR, eqCells_ok, eqSh, eqBs, Nat.reduceLT, decide_true, Nat.reduceBEq, Nat.reduceAdd, IOp.dst, IOp.isF, IOp.args, coolOp, Nat.reduceSub, h0, h5, h1', List.length_nil, *]
theorem markIntS_nil (K : Int) : EE F 23 [L 1 [], I K] [] = ok1 (I K) := by
  rw [R23, b23]
  simp only [↓xP, xQ, xR, flatR, eqCells_ok, eqSh, eqBs, Nat.reduceLT, decide_true, Nat.reduceBEq, Nat.reduceAdd, IOp.dst, IOp.isF, IOp.args, coolOp, Nat.reduceSub]
  refine (loop_ind (fun (i : Nat) st => i = 0 ∧ st.s 0 = DU (.sl 1 []) ∧ st.s 5 = DI 0 ∧ st.s 1 = DI K) (fun i => 0) (fun i => ok1 (I K)) ?_ 0 ⟨rfl, by simp only [↓xP, xQ, xR, flatR, eqCells_ok, eqSh, eqBs, Nat.reduceLT, decide_true, Nat.reduceBEq, Nat.reduceAdd, IOp.dst, IOp.isF, IOp.args, coolOp, Nat.reduceSub], by simp only [↓xP, xQ, xR, flatR, eqCells_ok, eqSh, eqBs, Nat.reduceLT, decide_true, Nat.reduceBEq, Nat.reduceAdd, IOp.dst, IOp.isF, IOp.args, coolOp, Nat.reduceSub], by simp only [↓xP, xQ, xR, flatR, eqCells_ok, eqSh, eqBs, Nat.reduceLT, decide_true, Nat.reduceBEq, Nat.reduceAdd, IOp.dst, IOp.isF, IOp.args, coolOp, Nat.reduceSub]⟩).trans rfl
  rintro i st ⟨hi, h0, h5, h1'⟩ ih
  have : ¬ (0 : Int) < 0 := by omega
  have : ¬ (0 : Int) < ((0 : Nat) : Int) := by omega
  simp only [↓xP, xQ, xR, flatR, eqCells_ok, eqSh, eqBs, Nat.reduceLT, decide_true, Nat.reduceBEq, Nat.reduceAdd, IOp.dst, IOp.isF, IOp.args, coolOp, Nat.reduceSub, h0, h5, h1', List.length_nil, *]
theorem markConfig_ok (e : Int) (l : List Int) (f : Bool) (K : Int) (h1 : 1 ≤ K) (h2 : K + 1 * l.length ≤ 4611686018427387904) : EE F 22 [.ag [.u (.int .i64 e), .own (.par 0) l.length, .u (.bool f)], I K] [.row 1 (l.map iU)] = some ⟨[I (K + 1 * l.length)], [], [.row 1 ((mkL mkInt 1 K l.length).map iU)]⟩ := by
  refine (EE_run (fn := i22) (by kernel_rfl) rfl).trans ?_
  simp only [i22, b22, argSt, insSt, List.length_cons, List.length_nil]
  simp only [↓xP, xQ, xR, flatR, eqCells_ok, eqSh, eqBs, Nat.reduceLT, decide_true, Nat.reduceBEq, Nat.reduceAdd, IOp.dst, IOp.isF, IOp.args, coolOp, Nat.reduceSub, markIntS_ok l K h1 h2, mkL_len]
theorem markConfig_nil (e : Int) (f : Bool) (K : Int) : EE F 22 [.ag [.u (.int .i64 e), .u (.sl 1 []), .u (.bool f)], I K] [] = ok1 (I K) := by
  rw [R22, b22]
  simp only [↓xP, xQ, xR, flatR, eqCells_ok, eqSh, eqBs, Nat.reduceLT, decide_true, Nat.reduceBEq, Nat.reduceAdd, IOp.dst, IOp.isF, IOp.args, coolOp, Nat.reduceSub, markIntS_nil]
theorem heldConfig_ok (e : Int) (f : Bool) (n : Nat) (K : Int) (h1 : 1 ≤ K) (h2 : K + 1 * n ≤ 4611686018427387904) : EE F 24 [.ag [.u (.int .i64 e), .u (.sl 1 ((mkL mkInt 1 K n).map iU)), .u (.bool f)], I K] [] = ok1 (I (K + 1 * n)) := by
  rw [R24, b24]
  have h : ¬ K + 1 * (n : Int) < 0 := by omega
  simp only [↓xP, xQ, xR, flatR, eqCells_ok, eqSh, eqBs, Nat.reduceLT, decide_true, Nat.reduceBEq, Nat.reduceAdd, IOp.dst, IOp.isF, IOp.args, coolOp, Nat.reduceSub, heldIntS_ok n K h1 h2, h]
theorem heldConfig_nil (e : Int) (f : Bool) (K : Int) (h1 : 1 ≤ K) : EE F 24 [.ag [.u (.int .i64 e), .u (.sl 1 []), .u (.bool f)], I K] [] = ok1 (I K) := by
  rw [R24, b24]
  have h : ¬ K < 0 := by omega
  simp only [↓xP, xQ, xR, flatR, eqCells_ok, eqSh, eqBs, Nat.reduceLT, decide_true, Nat.reduceBEq, Nat.reduceAdd, IOp.dst, IOp.isF, IOp.args, coolOp, Nat.reduceSub, heldIntS_nil, h]
theorem without_fit {c : Config} (x : Int) : (without c x).members.length ≤ c.members.length := by
  unfold without
  split
  · simp only [without1]; exact List.length_erase_le
  · exact Nat.le_refl _
theorem repair_len (nodes : List Int) : ∀ (l : List Int) (c : Config), (l.foldl (repStep nodes) c).members.length ≤ c.members.length
  | [], c => Nat.le_refl _
  | x :: l, c => by
    rw [List.foldl_cons]
    refine Nat.le_trans (repair_len nodes l _) ?_
    unfold repStep
    split
    · exact without_fit x
    · exact Nat.le_refl _
theorem law_FnExactRepairConfig (us : List U) (hl : us.length = 3) (ht : ∀ (j : Nat) ty u, [Ty.i .i64, .sl [.i .i64], .b][j]? = some ty → us[j]? = some u → UT ty u)
    (u : U) (hu : UT (.sl [.i .i64]) u) : EE F 3 [.ag (us.map .u), .sc (.u u)] [] = ok1 (B true) := by
  obtain ⟨⟨e, l, f⟩, rfl, hf⟩ := Config.of us hl ht
  obtain ⟨nodes, rfl, hfn⟩ := hu.sl_of iU_of
  rw [R3, b3]
  simp only [↓xP, xQ, xR, flatR, eqCells_ok, eqSh, eqBs, Nat.reduceLT, decide_true, Nat.reduceBEq, Nat.reduceAdd, IOp.dst, IOp.isF, IOp.args, coolOp, Nat.reduceSub, Config.u, List.map, szConfig_ok e l f]
  refine sel_split (fun h => ?_) (fun h => ?_)
  · rfl
  refine sel_split (fun h2 => ?_) (fun h2 => ?_)
  · rfl
  simp only [decide_eq_false_iff_not] at h h2
  have hn : nodes.length ≤ 1048576 := by omega
  have hs := (szConfig_le _ hf 1048576 (by omega) (by omega)).2 (by omega)
  have hl1 : l.length ≤ 1048576 := hs.1.1
  have hsn : SmallIntS nodes := ⟨hn, trivial⟩
  have hi := repairConfig_impl e l f nodes hl1 hn
  have hsp := repairConfig_spec e l f nodes hl1 hn
  have hm := markConfig_ok e l f 1 (by omega) (by omega)
  have hm2 := markIntS_ok nodes (1 + 1 * l.length) (by omega) (by omega)
  have hg : ¬ (1 : Int) + 1 * (l.length : Int) + 1 * nodes.length < 0 := by omega
  have h10 : ¬ (1 : Int) < 0 := by omega
  cases hv : configValid ⟨e, l, f⟩
  · simp only [hv, Bool.false_eq_true, if_false, cfg0] at hi hsp
    have e0 := eqConfig_ok 0 [] false ⟨⟨by simp, trivial⟩, trivial⟩
    rw [List.map_nil] at e0
    simp only [↓xP, xQ, xR, flatR, eqCells_ok, eqSh, eqBs, Nat.reduceLT, decide_true, Nat.reduceBEq, Nat.reduceAdd, IOp.dst, IOp.isF, IOp.args, coolOp, Nat.reduceSub, toConfig_ok e l f hs, toIntS_ok nodes hsn, hi, hsp, eqConfig_ok e l f hs, eqIntS_ok nodes hsn, e0, hm, hm2, hg, h10, markConfig_nil, heldConfig_nil _ _ 1 (by omega), mkL_len, map_all, ne_eq, not_true_eq_false]
    done
  · simp only [hv, if_true, cfgRet] at hi hsp
    have hrl : (repair ⟨e, l, f⟩ nodes).members.length ≤ l.length := repair_len nodes l _
    generalize repair ⟨e, l, f⟩ nodes = rc at hi hsp hrl
    obtain ⟨re, rl, rf⟩ := rc
    dsimp only at hi hsp hrl
    have e0 := eqConfig_ok re rl rf ⟨⟨by dsimp only; omega, trivial⟩, trivial⟩
    have hm3 := markConfig_ok re rl rf 1 (by omega) (by omega)
    have hh := heldConfig_ok re rf rl.length 1 (by omega) (by omega)
    have hg2 : ¬ (1 : Int) + 1 * (rl.length : Int) < 0 := by omega
    simp only [↓xP, xQ, xR, flatR, eqCells_ok, eqSh, eqBs, Nat.reduceLT, decide_true, Nat.reduceBEq, Nat.reduceAdd, IOp.dst, IOp.isF, IOp.args, coolOp, Nat.reduceSub, toConfig_ok e l f hs, toIntS_ok nodes hsn, hi, hsp, eqConfig_ok e l f hs, eqIntS_ok nodes hsn, e0, hm, hm2, hm3, hh, hg, hg2, h10, mkL_len, mkL_take, map_all, ne_eq, not_true_eq_false]
    done
end Go.Proofs.YtdnhamehpdlbgaaV
