/- Intervals cut and joined, sessions, states. No conditions but those that the lemmas state. -/
import Derived.Test.YtbieglaagpogkaaL3
namespace Go.Proofs.YtbieglaagpogkaaV
open Go Go.RowKit
set_option linter.unusedVariables false
set_option linter.unusedSimpArgs false
set_option maxRecDepth 4000
/-! ### Intervals cut and joined -/
def cutOk (v : Interval) (key : Str) : Bool := intervalValid v && keyValid key && intervalValid ⟨v.low, key⟩ && intervalValid ⟨key, v.high⟩
def cutRet (v : Interval) (key : Str) : Option Ret := sel (cutOk v key) (some ⟨[.ag [.u (.str v.low), .u (.str key)], .ag [.u (.str key), .u (.str v.high)], B true], [], []⟩) (some ⟨[.ag [.u (.str []), .u (.str [])], .ag [.u (.str []), .u (.str [])], B false], [], []⟩)
theorem intervalCut_spec (lo hi key : Str) : EE F 157 [.ag [.u (.str lo), .u (.str hi)], S key] [] = cutRet ⟨lo, hi⟩ key := by
  rw [R157, b157]
  simp only [↓xP, xQ, xR, eqCells_ok, eqSh, eqBs, Nat.reduceBEq, Nat.reduceAdd, IOp.dst, IOp.isF, IOp.args, coolOp, intervalValid_spec, keyValid_spec]
  repeat' (refine sel_split (fun h => ?_) (fun h => ?_))
  all_goals simp_all [cutOk, cutRet, sel]
theorem intervalCut_impl (lo hi key : Str) : EE F 160 [.ag [.u (.str lo), .u (.str hi)], S key] [] = cutRet ⟨lo, hi⟩ key := by
  rw [R160, b160]
  simp only [↓xP, xQ, xR, eqCells_ok, eqSh, eqBs, Nat.reduceBEq, Nat.reduceAdd, IOp.dst, IOp.isF, IOp.args, coolOp, intervalValid_impl, keyValid_impl]
  repeat' (refine sel_split (fun h => ?_) (fun h => ?_))
  all_goals simp_all [cutOk, cutRet, sel]
def joinOk (a b : Interval) : Bool := intervalValid a && intervalValid b && !decide (a.high = []) && decide (a.high = b.low)
def joinRet (a b : Interval) : Option Ret := sel (joinOk a b) (some ⟨[.ag [.u (.str a.low), .u (.str b.high)], B true], [], []⟩) (some ⟨[.ag [.u (.str []), .u (.str [])], B false], [], []⟩)
theorem intervalJoin_spec (al ah bl bh : Str) : EE F 124 [.ag [.u (.str al), .u (.str ah)], .ag [.u (.str bl), .u (.str bh)]] [] = joinRet ⟨al, ah⟩ ⟨bl, bh⟩ := by
  rw [R124, b124]
  simp only [↓xP, xQ, xR, eqCells_ok, eqSh, eqBs, Nat.reduceBEq, Nat.reduceAdd, IOp.dst, IOp.isF, IOp.args, coolOp, intervalValid_spec]
  repeat' (refine sel_split (fun h => ?_) (fun h => ?_))
  all_goals simp_all [joinOk, joinRet, sel]
theorem intervalJoin_impl (al ah bl bh : Str) : EE F 128 [.ag [.u (.str al), .u (.str ah)], .ag [.u (.str bl), .u (.str bh)]] [] = joinRet ⟨al, ah⟩ ⟨bl, bh⟩ := by
  rw [R128, b128]
  simp only [↓xP, xQ, xR, eqCells_ok, eqSh, eqBs, Nat.reduceBEq, Nat.reduceAdd, IOp.dst, IOp.isF, IOp.args, coolOp, intervalValid_impl]
  repeat' (refine sel_split (fun h => ?_) (fun h => ?_))
  all_goals simp_all [joinOk, joinRet, sel]
/-! ### Sessions -/
def sessionAt (l : List Session) (i : Nat) : Bool := match l[i]? with
  | none => true
  | some s => inR s.client 0 3 && inR s.seq 1 999 && inR s.reply (-2) 999 && (decide (i = 0) || (match l[i - 1]? with
    | some r => decide (r.client < s.client)
    | none => true))
def sessionsValid (l : List Session) : Bool := allF l.length (sessionAt l) 0
theorem sessionsValid_spec (l : List Session) (hn : l.length ≤ 4611686018427387904) : EE F 156 [L 3 (l.map Session.u)] [] = ok1 (B (sessionsValid l)) := by
  rw [R156, b156]
  simp only [↓xP, xQ, xR, eqCells_ok, eqSh, eqBs, Nat.reduceBEq, Nat.reduceAdd, IOp.dst, IOp.isF, IOp.args, coolOp]
  refine (loop_ind (fun (i : Nat) st => st.s 0 = DU (.sl 3 (l.map Session.u)) ∧ st.s 3 = DI i) (fun i => l.length - i) (fun i => ok1 (B (allF l.length (sessionAt l) i))) ?_ 0 ⟨by simp only [↓xP, xQ, xR, eqCells_ok, eqSh, eqBs, Nat.reduceBEq, Nat.reduceAdd, IOp.dst, IOp.isF, IOp.args, coolOp], by simp only [↓xP, xQ, xR, eqCells_ok, eqSh, eqBs, Nat.reduceBEq, Nat.reduceAdd, IOp.dst, IOp.isF, IOp.args, coolOp]; rfl⟩).trans ?_
  · rintro i st ⟨h0, h3⟩ ih
    by_cases hi : i < l.length
    · obtain ⟨⟨c, s, r⟩, hp⟩ : ∃ p, l[i]? = some p := ⟨_, List.getElem?_eq_getElem hi⟩
      have hw := w_succ (i := i) (by omega)
      rw [allF_lt hi]
      by_cases hz : i = 0
      · have h01 : ¬ (0 : Int) < (i : Int) := by omega
        simp only [↓xP, xQ, xR, eqCells_ok, eqSh, eqBs, Nat.reduceBEq, Nat.reduceAdd, IOp.dst, IOp.isF, IOp.args, coolOp, h0, h3, hi, hp, hw, h01, Session.u, l1In_ok]
        repeat' (refine sel_split (fun h => ?_) (fun h => ?_))
        all_goals first | (rw [ih (i + 1) _ (by omega) ⟨by simp only [↓xP, xQ, xR, eqCells_ok, eqSh, eqBs, Nat.reduceBEq, Nat.reduceAdd, IOp.dst, IOp.isF, IOp.args, coolOp, h0], by simp only [↓xP, xQ, xR, eqCells_ok, eqSh, eqBs, Nat.reduceBEq, Nat.reduceAdd, IOp.dst, IOp.isF, IOp.args, coolOp]⟩]; simp_all [sessionAt]; done) | (simp_all [sessionAt]; done)
      · obtain ⟨⟨qc, qs, qr⟩, hq⟩ : ∃ q, l[i - 1]? = some q := ⟨_, List.getElem?_eq_getElem (by omega)⟩
        have hw2 : IntKind.i64.wrap ((i : Int) - 1) = ((i - 1 : Nat) : Int) := by rw [w64 (by omega) (by omega)]; omega
        have h01 : (0 : Int) < (i : Int) := by omega
        simp only [↓xP, xQ, xR, eqCells_ok, eqSh, eqBs, Nat.reduceBEq, Nat.reduceAdd, IOp.dst, IOp.isF, IOp.args, coolOp, h0, h3, hi, hp, hw, hw2, hq, h01, Session.u, l1In_ok]
        repeat' (refine sel_split (fun h => ?_) (fun h => ?_))
        all_goals first | (rw [ih (i + 1) _ (by omega) ⟨by simp only [↓xP, xQ, xR, eqCells_ok, eqSh, eqBs, Nat.reduceBEq, Nat.reduceAdd, IOp.dst, IOp.isF, IOp.args, coolOp, h0], by simp only [↓xP, xQ, xR, eqCells_ok, eqSh, eqBs, Nat.reduceBEq, Nat.reduceAdd, IOp.dst, IOp.isF, IOp.args, coolOp]⟩]; simp_all [sessionAt]; done) | (simp_all [sessionAt]; done) | (simp_all [sessionAt] <;> (intros; omega))
    · simp only [↓xP, xQ, xR, eqCells_ok, eqSh, eqBs, Nat.reduceBEq, Nat.reduceAdd, IOp.dst, IOp.isF, IOp.args, coolOp, h0, h3, hi]
      rw [allF_ge hi]
  · rfl
theorem sessionsValid_impl (l : List Session) (hn : l.length ≤ 4611686018427387904) : EE F 159 [L 3 (l.map Session.u)] [] = ok1 (B (sessionsValid l)) := by
  rw [R159, b159]
  simp only [↓xP, xQ, xR, eqCells_ok, eqSh, eqBs, Nat.reduceBEq, Nat.reduceAdd, IOp.dst, IOp.isF, IOp.args, coolOp]
  refine (loop_ind (fun (i : Nat) st => st.s 0 = DU (.sl 3 (l.map Session.u)) ∧ st.s 5 = DU (.sl 3 (l.map Session.u)) ∧ st.s 6 = DI l.length ∧ st.s 7 = DI i) (fun i => l.length - i) (fun i => ok1 (B (allF l.length (sessionAt l) i))) ?_ 0 ⟨by simp only [↓xP, xQ, xR, eqCells_ok, eqSh, eqBs, Nat.reduceBEq, Nat.reduceAdd, IOp.dst, IOp.isF, IOp.args, coolOp], by simp only [↓xP, xQ, xR, eqCells_ok, eqSh, eqBs, Nat.reduceBEq, Nat.reduceAdd, IOp.dst, IOp.isF, IOp.args, coolOp], by simp only [↓xP, xQ, xR, eqCells_ok, eqSh, eqBs, Nat.reduceBEq, Nat.reduceAdd, IOp.dst, IOp.isF, IOp.args, coolOp], by simp only [↓xP, xQ, xR, eqCells_ok, eqSh, eqBs, Nat.reduceBEq, Nat.reduceAdd, IOp.dst, IOp.isF, IOp.args, coolOp]; rfl⟩).trans ?_
  · rintro i st ⟨h0, h5, h6, h7⟩ ih
    by_cases hi : i < l.length
    · obtain ⟨⟨c, s, r⟩, hp⟩ : ∃ p, l[i]? = some p := ⟨_, List.getElem?_eq_getElem hi⟩
      have hw := w_succ (i := i) (by omega)
      rw [allF_lt hi]
      by_cases hz : i = 0
      · have h01 : ¬ (0 : Int) < (i : Int) := by omega
        simp only [↓xP, xQ, xR, eqCells_ok, eqSh, eqBs, Nat.reduceBEq, Nat.reduceAdd, IOp.dst, IOp.isF, IOp.args, coolOp, h0, h5, h6, h7, hi, hp, hw, h01, Session.u, seqValid_ok]
        repeat' (refine sel_split (fun h => ?_) (fun h => ?_))
        all_goals first | (rw [ih (i + 1) _ (by omega) ⟨by simp only [↓xP, xQ, xR, eqCells_ok, eqSh, eqBs, Nat.reduceBEq, Nat.reduceAdd, IOp.dst, IOp.isF, IOp.args, coolOp, h0], by simp only [↓xP, xQ, xR, eqCells_ok, eqSh, eqBs, Nat.reduceBEq, Nat.reduceAdd, IOp.dst, IOp.isF, IOp.args, coolOp, h5], by simp only [↓xP, xQ, xR, eqCells_ok, eqSh, eqBs, Nat.reduceBEq, Nat.reduceAdd, IOp.dst, IOp.isF, IOp.args, coolOp, h6], by simp only [↓xP, xQ, xR, eqCells_ok, eqSh, eqBs, Nat.reduceBEq, Nat.reduceAdd, IOp.dst, IOp.isF, IOp.args, coolOp]⟩]; simp_all [sessionAt, inR]; done) | (rw [ih (i + 1) _ (by omega) ⟨by simp only [↓xP, xQ, xR, eqCells_ok, eqSh, eqBs, Nat.reduceBEq, Nat.reduceAdd, IOp.dst, IOp.isF, IOp.args, coolOp, h0], by simp only [↓xP, xQ, xR, eqCells_ok, eqSh, eqBs, Nat.reduceBEq, Nat.reduceAdd, IOp.dst, IOp.isF, IOp.args, coolOp, h5], by simp only [↓xP, xQ, xR, eqCells_ok, eqSh, eqBs, Nat.reduceBEq, Nat.reduceAdd, IOp.dst, IOp.isF, IOp.args, coolOp, h6], by simp only [↓xP, xQ, xR, eqCells_ok, eqSh, eqBs, Nat.reduceBEq, Nat.reduceAdd, IOp.dst, IOp.isF, IOp.args, coolOp]⟩]; simp_all [sessionAt, inR] <;> (intros; omega)) | (simp_all [sessionAt, inR]; done) | (simp_all [sessionAt, inR] <;> (intros; omega))
      · obtain ⟨⟨qc, qs, qr⟩, hq⟩ : ∃ q, l[i - 1]? = some q := ⟨_, List.getElem?_eq_getElem (by omega)⟩
        have hw2 : IntKind.i64.wrap ((i : Int) - 1) = ((i - 1 : Nat) : Int) := by rw [w64 (by omega) (by omega)]; omega
        have h01 : (0 : Int) < (i : Int) := by omega
        simp only [↓xP, xQ, xR, eqCells_ok, eqSh, eqBs, Nat.reduceBEq, Nat.reduceAdd, IOp.dst, IOp.isF, IOp.args, coolOp, h0, h5, h6, h7, hi, hp, hw, hw2, hq, h01, Session.u, seqValid_ok]
        repeat' (refine sel_split (fun h => ?_) (fun h => ?_))
        all_goals first | (rw [ih (i + 1) _ (by omega) ⟨by simp only [↓xP, xQ, xR, eqCells_ok, eqSh, eqBs, Nat.reduceBEq, Nat.reduceAdd, IOp.dst, IOp.isF, IOp.args, coolOp, h0], by simp only [↓xP, xQ, xR, eqCells_ok, eqSh, eqBs, Nat.reduceBEq, Nat.reduceAdd, IOp.dst, IOp.isF, IOp.args, coolOp, h5], by simp only [↓xP, xQ, xR, eqCells_ok, eqSh, eqBs, Nat.reduceBEq, Nat.reduceAdd, IOp.dst, IOp.isF, IOp.args, coolOp, h6], by simp only [↓xP, xQ, xR, eqCells_ok, eqSh, eqBs, Nat.reduceBEq, Nat.reduceAdd, IOp.dst, IOp.isF, IOp.args, coolOp]⟩]; simp_all [sessionAt, inR]; done) | (rw [ih (i + 1) _ (by omega) ⟨by simp only [↓xP, xQ, xR, eqCells_ok, eqSh, eqBs, Nat.reduceBEq, Nat.reduceAdd, IOp.dst, IOp.isF, IOp.args, coolOp, h0], by simp only [↓xP, xQ, xR, eqCells_ok, eqSh, eqBs, Nat.reduceBEq, Nat.reduceAdd, IOp.dst, IOp.isF, IOp.args, coolOp, h5], by simp only [↓xP, xQ, xR, eqCells_ok, eqSh, eqBs, Nat.reduceBEq, Nat.reduceAdd, IOp.dst, IOp.isF, IOp.args, coolOp, h6], by simp only [↓xP, xQ, xR, eqCells_ok, eqSh, eqBs, Nat.reduceBEq, Nat.reduceAdd, IOp.dst, IOp.isF, IOp.args, coolOp]⟩]; simp_all [sessionAt, inR] <;> (intros; omega)) | (simp_all [sessionAt, inR]; done) | (simp_all [sessionAt, inR] <;> (intros; omega))
    · simp only [↓xP, xQ, xR, eqCells_ok, eqSh, eqBs, Nat.reduceBEq, Nat.reduceAdd, IOp.dst, IOp.isF, IOp.args, coolOp, h0, h5, h6, h7, hi]
      rw [allF_ge hi]
  · rfl
end Go.Proofs.YtbieglaagpogkaaV
