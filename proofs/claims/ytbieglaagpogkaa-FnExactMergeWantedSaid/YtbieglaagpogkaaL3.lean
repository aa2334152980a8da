/- Commands, entries, events, plans and deeds. No conditions but those that the lemmas state. -/
import Derived.Test.YtbieglaagpogkaaL2
namespace Go.Proofs.YtbieglaagpogkaaV
open Go Go.RowKit
set_option linter.unusedVariables false
set_option linter.unusedSimpArgs false
set_option maxRecDepth 4000
/-! ### Numbers -/
theorem clientNumber_ok (n : Int) : EE F 115 [I n] [] = ok1 (B (inR n 1 3)) := by
  rw [R115, b115]
  simp only [↓xP, xQ, xR, eqCells_ok, eqSh, eqBs, Nat.reduceBEq, Nat.reduceAdd, IOp.dst, IOp.isF, IOp.args, coolOp]
  repeat' (refine sel_split (fun h => ?_) (fun h => ?_))
  all_goals (simp_all [inR] <;> (intros; omega))
theorem nodeValid_ok (n : Int) : EE F 79 [I n] [] = ok1 (B (inR n 0 4)) := by
  rw [R79, b79]
  simp only [↓xP, xQ, xR, eqCells_ok, eqSh, eqBs, Nat.reduceBEq, Nat.reduceAdd, IOp.dst, IOp.isF, IOp.args, coolOp]
  repeat' (refine sel_split (fun h => ?_) (fun h => ?_))
  all_goals (simp_all [inR] <;> (intros; omega))
theorem shardNumber_ok (n : Int) : EE F 117 [I n] [] = ok1 (B (inR n 0 7)) := by
  rw [R117, b117]
  simp only [↓xP, xQ, xR, eqCells_ok, eqSh, eqBs, Nat.reduceBEq, Nat.reduceAdd, IOp.dst, IOp.isF, IOp.args, coolOp]
  repeat' (refine sel_split (fun h => ?_) (fun h => ?_))
  all_goals (simp_all [inR] <;> (intros; omega))
theorem seqValid_ok (n : Int) : EE F 171 [I n] [] = ok1 (B (inR n 1 999)) := by
  rw [R171, b171]
  simp only [↓xP, xQ, xR, eqCells_ok, eqSh, eqBs, Nat.reduceBEq, Nat.reduceAdd, IOp.dst, IOp.isF, IOp.args, coolOp]
  repeat' (refine sel_split (fun h => ?_) (fun h => ?_))
  all_goals (simp_all [inR] <;> (intros; omega))
/-! ### Commands -/
def commandValid (c : Command) : Bool := (keyValid c.key || decide (c.kind = 5) && decide (c.key = [])) &&
  ((decide (c.kind = 1) || decide (c.kind = 3) || decide (c.kind = 5)) && decide (c.value = 0) && decide (c.old = 0) || decide (c.kind = 2) && inR c.value 0 999 && decide (c.old = 0) || decide (c.kind = 4) && inR c.value 0 999 && inR c.old (-1) 999)
theorem cmdCases (k : Int) : k = 1 ∨ k = 2 ∨ k = 3 ∨ k = 4 ∨ k = 5 ∨ (k < 1 ∧ ¬ 5 < k ∧ ¬ k = 1 ∧ ¬ k = 2 ∧ ¬ k = 3 ∧ ¬ k = 4 ∧ ¬ k = 5) ∨ (¬ k < 1 ∧ 5 < k ∧ ¬ k = 1 ∧ ¬ k = 2 ∧ ¬ k = 3 ∧ ¬ k = 4 ∧ ¬ k = 5) := by omega
theorem commandValid_spec (k : Int) (key : Str) (v o : Int) : EE F 149 [.ag [.u (.int .i64 k), .u (.str key), .u (.int .i64 v), .u (.int .i64 o)]] [] = ok1 (B (commandValid ⟨k, key, v, o⟩)) := by
  rw [R149, b149]
  rcases cmdCases k with h | h | h | h | h | h | h <;> (try subst h) <;> (try obtain ⟨_, _, _, _, _, _, _⟩ := h) <;> simp only [↓xP, xQ, xR, eqCells_ok, eqSh, eqBs, Nat.reduceBEq, Nat.reduceAdd, IOp.dst, IOp.isF, IOp.args, coolOp, keyValid_spec, l1In_ok, *] <;>
    repeat' (refine sel_split (fun h => ?_) (fun h => ?_))
  all_goals (simp_all [commandValid] <;> (intros; omega))
theorem commandValid_impl (k : Int) (key : Str) (v o : Int) : EE F 152 [.ag [.u (.int .i64 k), .u (.str key), .u (.int .i64 v), .u (.int .i64 o)]] [] = ok1 (B (commandValid ⟨k, key, v, o⟩)) := by
  rw [R152, b152]
  rcases cmdCases k with h | h | h | h | h | h | h <;> (try subst h) <;> (try obtain ⟨_, _, _, _, _, _, _⟩ := h) <;> simp only [↓xP, xQ, xR, eqCells_ok, eqSh, eqBs, Nat.reduceBEq, Nat.reduceAdd, IOp.dst, IOp.isF, IOp.args, coolOp, keyValid_impl, valueValid_ok, *] <;>
    repeat' (refine sel_split (fun h => ?_) (fun h => ?_))
  all_goals first | (simp_all [commandValid, inR]; done) | (simp_all [commandValid, inR] <;> (intros; omega)) | (simp_all [commandValid, inR]; rw [Bool.eq_iff_iff]; simp; omega)
def wishValid (c : Command) : Bool := commandValid c && !decide (c.kind = 5)
theorem l25Wish_ok (k : Int) (key : Str) (v o : Int) : EE F 109 [.ag [.u (.int .i64 k), .u (.str key), .u (.int .i64 v), .u (.int .i64 o)]] [] = ok1 (B (wishValid ⟨k, key, v, o⟩)) := by
  rw [R109, b109]
  simp only [↓xP, xQ, xR, eqCells_ok, eqSh, eqBs, Nat.reduceBEq, Nat.reduceAdd, IOp.dst, IOp.isF, IOp.args, coolOp, commandValid_spec]
  repeat' (refine sel_split (fun h => ?_) (fun h => ?_))
  all_goals (simp_all [wishValid])
theorem wishValid_ok (k : Int) (key : Str) (v o : Int) : EE F 116 [.ag [.u (.int .i64 k), .u (.str key), .u (.int .i64 v), .u (.int .i64 o)]] [] = ok1 (B (wishValid ⟨k, key, v, o⟩)) := by
  rw [R116, b116]
  simp only [↓xP, xQ, xR, eqCells_ok, eqSh, eqBs, Nat.reduceBEq, Nat.reduceAdd, IOp.dst, IOp.isF, IOp.args, coolOp, commandValid_impl]
  repeat' (refine sel_split (fun h => ?_) (fun h => ?_))
  all_goals (simp_all [wishValid])
/-! ### Entries and events -/
def entryValid (e : Entry) : Bool := inR e.client 0 3 && inR e.seq 1 999 && commandValid e.cmd
theorem entryValid_spec (c s k : Int) (key : Str) (v o : Int) : EE F 150 [.ag [.u (.int .i64 c), .u (.int .i64 s), .u (.int .i64 k), .u (.str key), .u (.int .i64 v), .u (.int .i64 o)]] [] = ok1 (B (entryValid ⟨c, s, ⟨k, key, v, o⟩⟩)) := by
  rw [R150, b150]
  simp only [↓xP, xQ, xR, eqCells_ok, eqSh, eqBs, Nat.reduceBEq, Nat.reduceAdd, IOp.dst, IOp.isF, IOp.args, coolOp, commandValid_spec, l1In_ok]
  repeat' (refine sel_split (fun h => ?_) (fun h => ?_))
  all_goals (simp_all [entryValid])
theorem entryValid_impl (c s k : Int) (key : Str) (v o : Int) : EE F 153 [.ag [.u (.int .i64 c), .u (.int .i64 s), .u (.int .i64 k), .u (.str key), .u (.int .i64 v), .u (.int .i64 o)]] [] = ok1 (B (entryValid ⟨c, s, ⟨k, key, v, o⟩⟩)) := by
  rw [R153, b153]
  simp only [↓xP, xQ, xR, eqCells_ok, eqSh, eqBs, Nat.reduceBEq, Nat.reduceAdd, IOp.dst, IOp.isF, IOp.args, coolOp, commandValid_impl, seqValid_ok]
  repeat' (refine sel_split (fun h => ?_) (fun h => ?_))
  all_goals first | (simp_all [entryValid, inR]; done) | (simp_all [entryValid, inR] <;> (intros; omega)) | (simp_all [entryValid, inR]; rw [Bool.eq_iff_iff]; simp; omega)
def entryZero (e : Entry) : Bool := decide (e.client = 0) && (decide (e.seq = 0) && (decide (e.cmd.kind = 0) && (decide (e.cmd.key = []) && (decide (e.cmd.value = 0) && decide (e.cmd.old = 0)))))
def eventValid (e : Event) : Bool := inR e.kind 1 12 && inR e.node 0 4 && inR e.place 0 9 && (if e.kind = 1 then entryValid e.sent else entryZero e.sent)
theorem eventValid_spec (ek en ep c s k : Int) (key : Str) (v o : Int) : EE F 110 [.ag [.u (.int .i64 ek), .u (.int .i64 en), .u (.int .i64 ep), .u (.int .i64 c), .u (.int .i64 s), .u (.int .i64 k), .u (.str key), .u (.int .i64 v), .u (.int .i64 o)]] [] = ok1 (B (eventValid ⟨ek, en, ep, ⟨c, s, ⟨k, key, v, o⟩⟩⟩)) := by
  rw [R110, b110]
  simp only [↓xP, xQ, xR, eqCells_ok, eqSh, eqBs, Nat.reduceBEq, Nat.reduceAdd, IOp.dst, IOp.isF, IOp.args, coolOp, entryValid_spec, l1In_ok]
  repeat' (refine sel_split (fun h => ?_) (fun h => ?_))
  all_goals (simp_all [eventValid, entryZero])
theorem eventValid_impl (ek en ep c s k : Int) (key : Str) (v o : Int) : EE F 118 [.ag [.u (.int .i64 ek), .u (.int .i64 en), .u (.int .i64 ep), .u (.int .i64 c), .u (.int .i64 s), .u (.int .i64 k), .u (.str key), .u (.int .i64 v), .u (.int .i64 o)]] [] = ok1 (B (eventValid ⟨ek, en, ep, ⟨c, s, ⟨k, key, v, o⟩⟩⟩)) := by
  rw [R118, b118]
  simp only [↓xP, xQ, xR, eqCells_ok, eqSh, eqBs, Nat.reduceBEq, Nat.reduceAdd, IOp.dst, IOp.isF, IOp.args, coolOp, entryValid_impl, nodeValid_ok]
  repeat' (refine sel_split (fun h => ?_) (fun h => ?_))
  all_goals first | (simp_all [eventValid, entryZero, inR]; done) | (simp_all [eventValid, entryZero, inR] <;> (intros; omega)) | (simp_all [eventValid, entryZero, inR]; rw [Bool.eq_iff_iff]; simp; omega)
/-! ### Plans -/
def planValid (p : Plan) : Bool := inR p.first 0 7 && (decide (p.kind = 1) && keyValid p.key && decide (p.second = 0) && decide (p.from_ = 0) && decide (p.to_ = 0) && decide (p.step = 0) ||
  decide (p.kind = 2) && inR p.second 0 7 && !decide (p.second = p.first) && decide (p.key = []) && decide (p.from_ = 0) && decide (p.to_ = 0) && decide (p.step = 0) ||
  decide (p.kind = 3) && inR p.from_ 0 4 && inR p.to_ 0 4 && !decide (p.from_ = p.to_) && inR p.step 0 1 && decide (p.second = 0) && decide (p.key = []))
theorem planCases (k : Int) : k = 1 ∨ k = 2 ∨ k = 3 ∨ (¬ k = 1 ∧ ¬ k = 2 ∧ ¬ k = 3) := by omega
theorem planValid_spec (k f s : Int) (key : Str) (a b c : Int) : EE F 111 [.ag [.u (.int .i64 k), .u (.int .i64 f), .u (.int .i64 s), .u (.str key), .u (.int .i64 a), .u (.int .i64 b), .u (.int .i64 c)]] [] = ok1 (B (planValid ⟨k, f, s, key, a, b, c⟩)) := by
  rw [R111, b111]
  rcases planCases k with h | h | h | h <;> (try subst h) <;> (try obtain ⟨_, _, _⟩ := h) <;> simp only [↓xP, xQ, xR, eqCells_ok, eqSh, eqBs, Nat.reduceBEq, Nat.reduceAdd, IOp.dst, IOp.isF, IOp.args, coolOp, keyValid_spec, l1In_ok, *] <;>
    repeat' (refine sel_split (fun h => ?_) (fun h => ?_))
  all_goals first | (simp_all [planValid]; done) | (simp_all [planValid] <;> (intros; omega)) | (simp_all [planValid]; rw [Bool.eq_iff_iff]; simp; omega)
theorem planValid_impl (k f s : Int) (key : Str) (a b c : Int) : EE F 119 [.ag [.u (.int .i64 k), .u (.int .i64 f), .u (.int .i64 s), .u (.str key), .u (.int .i64 a), .u (.int .i64 b), .u (.int .i64 c)]] [] = ok1 (B (planValid ⟨k, f, s, key, a, b, c⟩)) := by
  rw [R119, b119]
  rcases planCases k with h | h | h | h <;> (try subst h) <;> (try obtain ⟨_, _, _⟩ := h) <;> simp only [↓xP, xQ, xR, eqCells_ok, eqSh, eqBs, Nat.reduceBEq, Nat.reduceAdd, IOp.dst, IOp.isF, IOp.args, coolOp, keyValid_impl, shardNumber_ok, nodeValid_ok, *] <;>
    repeat' (refine sel_split (fun h => ?_) (fun h => ?_))
  all_goals first | (simp_all [planValid]; done) | (simp_all [planValid, inR] <;> (intros; omega)) | (simp_all [planValid, Bool.and_assoc]; done) | (simp_all [planValid, inR]; rw [Bool.eq_iff_iff]; simp; omega)
/-! ### Deeds -/
def commandZero (c : Command) : Bool := decide (c.kind = 0) && (decide (c.key = []) && (decide (c.value = 0) && decide (c.old = 0)))
def eventZero (e : Event) : Bool := decide (e.kind = 0) && (decide (e.node = 0) && (decide (e.place = 0) && entryZero e.sent))
def planZero (p : Plan) : Bool := decide (p.kind = 0) && (decide (p.first = 0) && (decide (p.second = 0) && (decide (p.key = []) && (decide (p.from_ = 0) && (decide (p.to_ = 0) && decide (p.step = 0))))))
def deedValid (d : Deed) : Bool := inR d.kind 1 9 && (if inR d.kind 1 5 then inR d.who 1 3 else decide (d.who = 0)) && (if decide (d.kind = 3) || decide (d.kind = 8) then inR d.node 0 4 else decide (d.node = 0)) &&
  (if decide (d.kind = 6) || decide (d.kind = 8) then inR d.number 0 7 else decide (d.number = 0)) && (if d.kind = 1 then wishValid d.wish else commandZero d.wish) &&
  (if d.kind = 6 then eventValid d.inner && !decide (d.inner.kind = 1) else eventZero d.inner) && (if d.kind = 7 then planValid d.work && decide (d.work.step = 0) else planZero d.work)
theorem deedCases (k : Int) : k = 1 ∨ k = 2 ∨ k = 3 ∨ k = 4 ∨ k = 5 ∨ k = 6 ∨ k = 7 ∨ k = 8 ∨ k = 9 ∨ (¬ 1 ≤ k ∧ k ≤ 5 ∧ k ≤ 9 ∧ ¬ k = 1 ∧ ¬ k = 2 ∧ ¬ k = 3 ∧ ¬ k = 4 ∧ ¬ k = 5 ∧ ¬ k = 6 ∧ ¬ k = 7 ∧ ¬ k = 8 ∧ ¬ k = 9) ∨ (1 ≤ k ∧ ¬ k ≤ 5 ∧ ¬ k ≤ 9 ∧ ¬ k = 1 ∧ ¬ k = 2 ∧ ¬ k = 3 ∧ ¬ k = 4 ∧ ¬ k = 5 ∧ ¬ k = 6 ∧ ¬ k = 7 ∧ ¬ k = 8 ∧ ¬ k = 9) := by omega
set_option maxHeartbeats 4000000 in
theorem deedValid_spec (k who node num wk : Int) (wkey : Str) (wv wo ek en ep ec es ck : Int) (ckey : Str) (cv co pk pf ps : Int) (pkey : Str) (pa pb pc : Int) : EE F 46 [.ag [.u (.int .i64 k), .u (.int .i64 who), .u (.int .i64 node), .u (.int .i64 num), .u (.int .i64 wk), .u (.str wkey), .u (.int .i64 wv), .u (.int .i64 wo), .u (.int .i64 ek), .u (.int .i64 en), .u (.int .i64 ep), .u (.int .i64 ec), .u (.int .i64 es), .u (.int .i64 ck), .u (.str ckey), .u (.int .i64 cv), .u (.int .i64 co), .u (.int .i64 pk), .u (.int .i64 pf), .u (.int .i64 ps), .u (.str pkey), .u (.int .i64 pa), .u (.int .i64 pb), .u (.int .i64 pc)]] [] = ok1 (B (deedValid ⟨k, who, node, num, ⟨wk, wkey, wv, wo⟩, ⟨ek, en, ep, ⟨ec, es, ⟨ck, ckey, cv, co⟩⟩⟩, ⟨pk, pf, ps, pkey, pa, pb, pc⟩⟩)) := by
  rw [R46, b46]
  have z1 : (decide (wk = 0) && (decide (wkey = []) && (decide (wv = 0) && decide (wo = 0)))) = commandZero ⟨wk, wkey, wv, wo⟩ := rfl
  have z2 : (decide (ek = 0) && (decide (en = 0) && (decide (ep = 0) && (decide (ec = 0) && (decide (es = 0) && (decide (ck = 0) && (decide (ckey = []) && (decide (cv = 0) && decide (co = 0))))))))) = eventZero ⟨ek, en, ep, ⟨ec, es, ⟨ck, ckey, cv, co⟩⟩⟩ := rfl
  have z3 : (decide (pk = 0) && (decide (pf = 0) && (decide (ps = 0) && (decide (pkey = []) && (decide (pa = 0) && (decide (pb = 0) && decide (pc = 0))))))) = planZero ⟨pk, pf, ps, pkey, pa, pb, pc⟩ := rfl
  rcases deedCases k with h | h | h | h | h | h | h | h | h | h | h <;> (try subst h) <;> (try obtain ⟨_, _, _, _, _, _, _, _, _, _, _, _⟩ := h) <;> simp only [↓xP, xQ, xR, eqCells_ok, eqSh, eqBs, Nat.reduceBEq, Nat.reduceAdd, IOp.dst, IOp.isF, IOp.args, coolOp, l1In_ok, l25Wish_ok, eventValid_spec, planValid_spec, z1, z2, z3, inR, ne_eq, Int.reduceLE, Int.reduceEq, not_true_eq_false, not_false_eq_true, decide_true, decide_false, Bool.and_true, Bool.and_false, Bool.true_and, Bool.false_and, Bool.not_true, Bool.not_false, *]
  all_goals clear z1 z2 z3
  all_goals repeat' (refine sel_split (fun h => ?_) (fun h => ?_))
  all_goals first | (simp_all [deedValid, inR]; done) | (simp_all [deedValid, inR] <;> (intros; omega))
set_option maxHeartbeats 4000000 in
theorem deedValid_impl (k who node num wk : Int) (wkey : Str) (wv wo ek en ep ec es ck : Int) (ckey : Str) (cv co pk pf ps : Int) (pkey : Str) (pa pb pc : Int) : EE F 48 [.ag [.u (.int .i64 k), .u (.int .i64 who), .u (.int .i64 node), .u (.int .i64 num), .u (.int .i64 wk), .u (.str wkey), .u (.int .i64 wv), .u (.int .i64 wo), .u (.int .i64 ek), .u (.int .i64 en), .u (.int .i64 ep), .u (.int .i64 ec), .u (.int .i64 es), .u (.int .i64 ck), .u (.str ckey), .u (.int .i64 cv), .u (.int .i64 co), .u (.int .i64 pk), .u (.int .i64 pf), .u (.int .i64 ps), .u (.str pkey), .u (.int .i64 pa), .u (.int .i64 pb), .u (.int .i64 pc)]] [] = ok1 (B (deedValid ⟨k, who, node, num, ⟨wk, wkey, wv, wo⟩, ⟨ek, en, ep, ⟨ec, es, ⟨ck, ckey, cv, co⟩⟩⟩, ⟨pk, pf, ps, pkey, pa, pb, pc⟩⟩)) := by
  rw [R48, b48]
  rcases deedCases k with h | h | h | h | h | h | h | h | h | h | h <;> (try subst h) <;> (try obtain ⟨_, _, _, _, _, _, _, _, _, _, _, _⟩ := h) <;> simp only [↓xP, xQ, xR, eqCells_ok, eqSh, eqBs, Nat.reduceBEq, Nat.reduceAdd, IOp.dst, IOp.isF, IOp.args, coolOp, clientNumber_ok, wishValid_ok, nodeValid_ok, shardNumber_ok, eventValid_impl, planValid_impl, *]
  all_goals repeat' (refine sel_split (fun h => ?_) (fun h => ?_))
  all_goals first | (simp_all [deedValid, commandZero, eventZero, planZero, entryZero, inR, Bool.and_assoc]; done) | (simp_all [deedValid, commandZero, eventZero, planZero, entryZero, inR, Bool.and_assoc] <;> (intros; omega))
end Go.Proofs.YtbieglaagpogkaaV
