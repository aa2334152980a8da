/- Lemmas of functions that the law FnExactScanPiece reaches, and that it returns true for all data of its types. No conditions but those that the lemmas state. -/
import Derived.Test.YtdnhamehpdlbgaaT1
import Derived.Test.YtdnhamehpdlbgaaJ
import Derived.Test.YtdnhamehpdlbgaaS7
namespace Go.Proofs.YtdnhamehpdlbgaaV
open Go Go.RowKit
set_option linter.unusedVariables false
set_option linter.unusedSimpArgs false
set_option maxRecDepth 4000
/-- A part is taken off, unless that is too much. -/
def offZ (left : Int) (n : Nat) (k : Int → Int) : Int := if IntKind.i64.wrap (left - n) < 0 then -1 else k (IntKind.i64.wrap (left - n))
def chkZ (a : Int) (k : Int → Int) : Int := if a < 0 then -1 else k a
def allZ {α : Type} (g : α → Int → Int) : List α → Int → Int
  | [], a => a
  | x :: xs, a => chkZ (g x a) (allZ g xs)
theorem allZ_at {α : Type} {g : α → Int → Int} {l : List α} {i : Nat} {x : α} (h : l[i]? = some x) (a : Int) : allZ g (l.drop i) a = chkZ (g x a) (allZ g (l.drop (i + 1))) := by
  have hi := (List.getElem?_eq_some_iff.1 h).1
  have he := (List.getElem?_eq_some_iff.1 h).2
  rw [List.drop_eq_getElem_cons hi, he]; rfl
/-- No more is left than was there; what was counted is small. -/
def LeZ (g : Int → Int) (P : Prop) : Prop := ∀ a, 0 ≤ a → a ≤ 1048576 → g a ≤ a ∧ (0 ≤ g a → P)
theorem LeZ.id : LeZ (fun a => a) True := fun a _ _ => ⟨Int.le_refl _, fun _ => trivial⟩
theorem LeZ.off {n : Nat} {k : Int → Int} {P : Prop} (hn : n ≤ 9223372036854775807) (hk : LeZ k P) : LeZ (fun a => offZ a n k) (n ≤ 1048576 ∧ P) := by
  intro a h0 h1
  simp only [offZ]
  rw [w64 (by omega) (by omega)]
  split
  · exact ⟨by omega, fun h => by omega⟩
  · obtain ⟨h2, h3⟩ := hk (a - n) (by omega) (by omega)
    exact ⟨by omega, fun h => ⟨by omega, h3 h⟩⟩
theorem LeZ.chk {g k : Int → Int} {P Q : Prop} (hg : LeZ g P) (hk : LeZ k Q) : LeZ (fun a => chkZ (g a) k) (P ∧ Q) := by
  intro a h0 h1
  obtain ⟨h2, h3⟩ := hg a h0 h1
  simp only [chkZ]
  split
  · exact ⟨by omega, fun h => by omega⟩
  · obtain ⟨h4, h5⟩ := hk (g a) (by omega) (by omega)
    exact ⟨by omega, fun h => ⟨h3 (by omega), h5 h⟩⟩
theorem LeZ.all {α : Type} {g : α → Int → Int} {P : α → Prop} : ∀ {l : List α}, (∀ x, x ∈ l → LeZ (g x) (P x)) → LeZ (allZ g l) (∀ x, x ∈ l → P x)
  | [], _ => fun a _ _ => ⟨Int.le_refl _, fun _ x h => by cases h⟩
  | x :: xs, h => by
    have h1 := (h x (List.mem_cons_self ..)).chk (LeZ.all (l := xs) (fun y hy => h y (List.mem_cons_of_mem _ hy)))
    intro a h0 h2
    obtain ⟨h3, h4⟩ := h1 a h0 h2
    refine ⟨h3, fun h y hy => ?_⟩
    rcases List.mem_cons.1 hy with rfl | hy
    · exact (h4 h).1
    · exact (h4 h).2 y hy
theorem fill_set {α : Type} {f : α → List U} {z : List U} {l : List α} {i : Nat} {x : α} (h : l[i]? = some x) : ((l.take i).map f ++ List.replicate (l.length - i) z).set i (f x) = (l.take (i + 1)).map f ++ List.replicate (l.length - (i + 1)) z := by
  have hi := (List.getElem?_eq_some_iff.1 h).1
  have he := (List.getElem?_eq_some_iff.1 h).2
  have h1 : ((l.take i).map f).length = i := by simp; omega
  rw [List.set_append_right _ _ (by omega), h1, Nat.sub_self, show l.length - i = (l.length - (i + 1)) + 1 by omega, List.replicate_succ, List.set_cons_zero, List.take_succ_eq_append_getElem hi, List.map_append, List.append_assoc, he]
  rfl
theorem fill_get {α : Type} {f : α → List U} {z : List U} {l : List α} {i : Nat} (hi : i < l.length) : ((l.take i).map f ++ List.replicate (l.length - i) z)[i]? = some z := by
  have h1 : ((l.take i).map f).length = i := by simp; omega
  rw [List.getElem?_append_right (by omega), h1, Nat.sub_self, show l.length - i = (l.length - (i + 1)) + 1 by omega, List.replicate_succ]
  rfl
theorem fill_all {α : Type} {f : α → List U} {z : List U} {l : List α} : (l.take l.length).map f ++ List.replicate (l.length - l.length) z = l.map f := by simp
theorem mk_ok (st : St) (d n : Nat) (zero : List U) (bytes : Nat) (h : n * bytes ≤ 140737488355328) : stMk st d (DI (n : Int)) (DI (n : Int)) zero bytes = some (((st.cool (.loc d 0)).obj (.loc d 0) (some (.row zero.length (List.replicate n zero)))).put d (.t (.sc (.own (.loc d 0) n)))) := by
  simp [stMk, D.int?, h]
def SmallIntS (l : (List Int)) : Prop := l.length ≤ 1048576 ∧ True
def SmallBoolS (l : (List Bool)) : Prop := l.length ≤ 1048576 ∧ True
def Interval.Small (x : Interval) : Prop := x.low.length ≤ 1048576 ∧ x.high.length ≤ 1048576 ∧ True
def szIntervalG (x : Interval) (a : Int) : Int := offZ a x.low.length fun a => offZ a x.high.length fun a => a
theorem szInterval_ok (c0 : Str) (c1 : Str) (left : Int) : EE F 52 [.ag [.u (.str c0), .u (.str c1)], I left] [] = ok1 (I (szIntervalG ⟨c0, c1⟩ left)) := by
  rw [R52, b52]
  simp only [↓xP, xQ, xR, flatR, Nat.reduceBEq, Nat.reduceAdd, Nat.reduceSub, IOp.dst, IOp.isF, IOp.args, coolOp]
  repeat' (refine sel_split (fun h => ?_) (fun h => ?_))
  all_goals (simp only [decide_eq_true_eq, decide_eq_false_iff_not] at *; simp [szIntervalG, offZ, chkZ, *])
theorem szInterval_le (x : Interval) (hf : Interval.Fit x) : LeZ (szIntervalG x) (Interval.Small x) := LeZ.off hf.1 (LeZ.off hf.2 LeZ.id)
theorem toInterval_ok (c0 : Str) (c1 : Str) : EE F 55 [.ag [.u (.str c0), .u (.str c1)]] [] = ok1 (.ag [.u (.str c0), .u (.str c1)]) := by
  rw [R55, b55]
  simp only [↓xP, xQ, xR, flatR, Nat.reduceBEq, Nat.reduceAdd, Nat.reduceSub, IOp.dst, IOp.isF, IOp.args, coolOp]
theorem eqInterval_ok (c0 : Str) (c1 : Str) : EE F 130 [.ag [.u (.str c0), .u (.str c1)], .ag [.u (.str c0), .u (.str c1)]] [] = ok1 (B true) := by
  rw [R130, b130]
  simp only [↓xP, xQ, xR, flatR, Nat.reduceBEq, Nat.reduceAdd, Nat.reduceSub, IOp.dst, IOp.isF, IOp.args, coolOp, ne_eq, not_true_eq_false]
def Pair.Small (x : Pair) : Prop := x.key.length ≤ 1048576 ∧ True
def szPairG (x : Pair) (a : Int) : Int := offZ a x.key.length fun a => a
theorem szPair_ok (c0 : Str) (c1 : Int) (left : Int) : EE F 188 [.ag [.u (.str c0), .u (.int .i64 c1)], I left] [] = ok1 (I (szPairG ⟨c0, c1⟩ left)) := by
  rw [R188, b188]
  simp only [↓xP, xQ, xR, flatR, Nat.reduceBEq, Nat.reduceAdd, Nat.reduceSub, IOp.dst, IOp.isF, IOp.args, coolOp]
  repeat' (refine sel_split (fun h => ?_) (fun h => ?_))
  all_goals (simp only [decide_eq_true_eq, decide_eq_false_iff_not] at *; simp [szPairG, offZ, chkZ, *])
theorem szPair_le (x : Pair) (hf : Pair.Fit x) : LeZ (szPairG x) (Pair.Small x) := LeZ.off hf.1 LeZ.id
theorem toPair_ok (c0 : Str) (c1 : Int) : EE F 191 [.ag [.u (.str c0), .u (.int .i64 c1)]] [] = ok1 (.ag [.u (.str c0), .u (.int .i64 c1)]) := by
  rw [R191, b191]
  simp only [↓xP, xQ, xR, flatR, Nat.reduceBEq, Nat.reduceAdd, Nat.reduceSub, IOp.dst, IOp.isF, IOp.args, coolOp]
theorem eqPair_ok (c0 : Str) (c1 : Int) : EE F 113 [.ag [.u (.str c0), .u (.int .i64 c1)], .ag [.u (.str c0), .u (.int .i64 c1)]] [] = ok1 (B true) := by
  rw [R113, b113]
  simp only [↓xP, xQ, xR, flatR, Nat.reduceBEq, Nat.reduceAdd, Nat.reduceSub, IOp.dst, IOp.isF, IOp.args, coolOp, ne_eq, not_true_eq_false]
def SmallPairS (l : (List Pair)) : Prop := l.length ≤ 1048576 ∧ ∀ y, y ∈ l → Pair.Small y
def szPairSG (l : (List Pair)) (left : Int) : Int := offZ left l.length fun a => allZ szPairG l a
theorem szPairS_ok (l : (List Pair)) (hf : (l.length ≤ 9223372036854775807 ∧ ∀ y, y ∈ l → Pair.Fit y)) (left : Int) : EE F 122 [L 2 (l.map Pair.u), I left] [] = ok1 (I (szPairSG l left)) := by
  have hl := hf.1
  rw [R122, b122]
  simp only [↓xP, xQ, xR, flatR, Nat.reduceBEq, Nat.reduceAdd, Nat.reduceSub, IOp.dst, IOp.isF, IOp.args, coolOp]
  refine sel_split (fun h => ?_) (fun h => ?_)
  · simp only [decide_eq_true_eq] at h
    simp [szPairSG, offZ, h]
  · refine (loop_ind (fun (a : Nat × Int) st => st.s 0 = DU (.sl 2 (l.map Pair.u)) ∧ st.s 5 = DI a.1 ∧ st.s 1 = DI a.2) (fun a => l.length - a.1) (fun a => ok1 (I (allZ szPairG (l.drop a.1) a.2))) ?_ (0, IntKind.i64.wrap (left - l.length)) ⟨by simp only [↓xP, xQ, xR, flatR, Nat.reduceBEq, Nat.reduceAdd, Nat.reduceSub, IOp.dst, IOp.isF, IOp.args, coolOp], by simp only [↓xP, xQ, xR, flatR, Nat.reduceBEq, Nat.reduceAdd, Nat.reduceSub, IOp.dst, IOp.isF, IOp.args, coolOp]; rfl, by simp only [↓xP, xQ, xR, flatR, Nat.reduceBEq, Nat.reduceAdd, Nat.reduceSub, IOp.dst, IOp.isF, IOp.args, coolOp]⟩).trans ?_
    · rintro ⟨i, a⟩ st ⟨h0, h5, h1⟩ ih
      dsimp only at h0 h5 h1 ih ⊢
      by_cases hi : i < l.length
      · obtain ⟨⟨c0, c1⟩, hx⟩ : ∃ x, l[i]? = some x := ⟨_, List.getElem?_eq_getElem hi⟩
        have hw := w_succ (i := i) (by omega)
        have hfx := hf.2 _ (List.mem_of_getElem? hx)
        simp only [↓xP, xQ, xR, flatR, Nat.reduceBEq, Nat.reduceAdd, Nat.reduceSub, IOp.dst, IOp.isF, IOp.args, coolOp, h0, h5, h1, hi, hx, hw, Pair.u, szPair_ok]
        rw [allZ_at hx, chkZ]
        refine sel_split (fun h => ?_) (fun h => ?_)
        · simp only [decide_eq_true_eq] at h
          simp [h]
        · rw [ih (i + 1, szPairG ⟨c0, c1⟩ a) _ (by dsimp only; omega) ⟨by simp only [↓xP, xQ, xR, flatR, Nat.reduceBEq, Nat.reduceAdd, Nat.reduceSub, IOp.dst, IOp.isF, IOp.args, coolOp, h0], by simp only [↓xP, xQ, xR, flatR, Nat.reduceBEq, Nat.reduceAdd, Nat.reduceSub, IOp.dst, IOp.isF, IOp.args, coolOp], by simp only [↓xP, xQ, xR, flatR, Nat.reduceBEq, Nat.reduceAdd, Nat.reduceSub, IOp.dst, IOp.isF, IOp.args, coolOp]⟩]
          simp only [decide_eq_false_iff_not] at h
          simp [h]
      · simp only [↓xP, xQ, xR, flatR, Nat.reduceBEq, Nat.reduceAdd, Nat.reduceSub, IOp.dst, IOp.isF, IOp.args, coolOp, h0, h5, h1, hi]
        rw [List.drop_of_length_le (by omega)]; rfl
    · simp only [decide_eq_false_iff_not] at h
      simp [szPairSG, offZ, h]
theorem szPairS_le (l : (List Pair)) (hf : (l.length ≤ 9223372036854775807 ∧ ∀ y, y ∈ l → Pair.Fit y)) : LeZ (szPairSG l) (SmallPairS l) := LeZ.off hf.1 (LeZ.all fun x hx => szPair_le x (hf.2 x hx))
theorem toPairS_ok (l : (List Pair)) (hs : SmallPairS l) : EE F 127 [L 2 (l.map Pair.u)] [] = some ⟨[.sc (.own (.par 0) l.length)], [.row 2 (l.map Pair.u)], []⟩ := by
  have hl := hs.1
  rw [R127, b127]
  simp only [↓xP, xQ, xR, flatR, Nat.reduceBEq, Nat.reduceAdd, Nat.reduceSub, IOp.dst, IOp.isF, IOp.args, coolOp, mk_ok _ 7 l.length [.str [], .int .i64 0] 24 (by omega)]
  refine (loop_ind (fun (i : Nat) st => i ≤ l.length ∧ st.s 0 = DU (.sl 2 (l.map Pair.u)) ∧ st.s 4 = DI i ∧ st.s 3 = .t (.sc (.own (.loc 7 0) l.length)) ∧ st.o (.loc 7 0) = some (.row 2 ((l.take i).map Pair.u ++ List.replicate (l.length - i) [.str [], .int .i64 0]))) (fun i => l.length - i) (fun i => some ⟨[.sc (.own (.par 0) l.length)], [.row 2 (l.map Pair.u)], []⟩) ?_ 0 ⟨by omega, by simp only [↓xP, xQ, xR, flatR, Nat.reduceBEq, Nat.reduceAdd, Nat.reduceSub, IOp.dst, IOp.isF, IOp.args, coolOp], by simp only [↓xP, xQ, xR, flatR, Nat.reduceBEq, Nat.reduceAdd, Nat.reduceSub, IOp.dst, IOp.isF, IOp.args, coolOp]; rfl, by simp only [↓xP, xQ, xR, flatR, Nat.reduceBEq, Nat.reduceAdd, Nat.reduceSub, IOp.dst, IOp.isF, IOp.args, coolOp], by simp only [↓xP, xQ, xR, flatR, Nat.reduceBEq, Nat.reduceAdd, Nat.reduceSub, IOp.dst, IOp.isF, IOp.args, coolOp, Nat.sub_zero]⟩)
  rintro i st ⟨hle, h0, h4, h3, ho⟩ ih
  by_cases hi : i < l.length
  · obtain ⟨⟨c0, c1⟩, hx⟩ : ∃ x, l[i]? = some x := ⟨_, List.getElem?_eq_getElem hi⟩
    have hw := w_succ (i := i) (by omega)
    have hg := fill_get (f := Pair.u) (z := [.str [], .int .i64 0]) hi
    have hf := fill_set (f := Pair.u) (z := [.str [], .int .i64 0]) hx
    simp only [Pair.u] at hf
    simp only [↓xP, xQ, xR, flatR, Nat.reduceBEq, Nat.reduceAdd, Nat.reduceSub, IOp.dst, IOp.isF, IOp.args, coolOp, h0, h4, h3, ho, hi, hx, hw, hg, hf, Pair.u, toPair_ok]
    exact ih (i + 1) _ (by omega) ⟨by omega, by simp only [↓xP, xQ, xR, flatR, Nat.reduceBEq, Nat.reduceAdd, Nat.reduceSub, IOp.dst, IOp.isF, IOp.args, coolOp, h0], by simp only [↓xP, xQ, xR, flatR, Nat.reduceBEq, Nat.reduceAdd, Nat.reduceSub, IOp.dst, IOp.isF, IOp.args, coolOp], by simp only [↓xP, xQ, xR, flatR, Nat.reduceBEq, Nat.reduceAdd, Nat.reduceSub, IOp.dst, IOp.isF, IOp.args, coolOp, h3], by simp only [↓xP, xQ, xR, flatR, Nat.reduceBEq, Nat.reduceAdd, Nat.reduceSub, IOp.dst, IOp.isF, IOp.args, coolOp, Pair.u]⟩
  · have : i = l.length := by omega
    subst this
    rw [fill_all] at ho
    simp only [↓xP, xQ, xR, flatR, Nat.reduceBEq, Nat.reduceAdd, Nat.reduceSub, IOp.dst, IOp.isF, IOp.args, coolOp, h0, h4, h3, ho, hi]
theorem eqPairS_ok (l : (List Pair)) (hs : SmallPairS l) : EE F 43 [L 2 (l.map Pair.u), L 2 (l.map Pair.u)] [] = ok1 (B true) := by
  have hl := hs.1
  rw [R43, b43]
  simp only [↓xP, xQ, xR, flatR, Nat.reduceBEq, Nat.reduceAdd, Nat.reduceSub, IOp.dst, IOp.isF, IOp.args, coolOp, ne_eq, not_true_eq_false]
  refine (loop_ind (fun (i : Nat) st => st.s 0 = DU (.sl 2 (l.map Pair.u)) ∧ st.s 1 = DU (.sl 2 (l.map Pair.u)) ∧ st.s 5 = DI i) (fun i => l.length - i) (fun i => ok1 (B true)) ?_ 0 ⟨by simp only [↓xP, xQ, xR, flatR, Nat.reduceBEq, Nat.reduceAdd, Nat.reduceSub, IOp.dst, IOp.isF, IOp.args, coolOp], by simp only [↓xP, xQ, xR, flatR, Nat.reduceBEq, Nat.reduceAdd, Nat.reduceSub, IOp.dst, IOp.isF, IOp.args, coolOp], by simp only [↓xP, xQ, xR, flatR, Nat.reduceBEq, Nat.reduceAdd, Nat.reduceSub, IOp.dst, IOp.isF, IOp.args, coolOp]; rfl⟩)
  rintro i st ⟨h0, h1, h5⟩ ih
  by_cases hi : i < l.length
  · obtain ⟨⟨c0, c1⟩, hx⟩ : ∃ x, l[i]? = some x := ⟨_, List.getElem?_eq_getElem hi⟩
    have hw := w_succ (i := i) (by omega)
    simp only [↓xP, xQ, xR, flatR, Nat.reduceBEq, Nat.reduceAdd, Nat.reduceSub, IOp.dst, IOp.isF, IOp.args, coolOp, h0, h1, h5, hi, hx, hw, Pair.u, eqPair_ok, ne_eq, not_true_eq_false]
    exact ih (i + 1) _ (by omega) ⟨by simp only [↓xP, xQ, xR, flatR, Nat.reduceBEq, Nat.reduceAdd, Nat.reduceSub, IOp.dst, IOp.isF, IOp.args, coolOp, h0], by simp only [↓xP, xQ, xR, flatR, Nat.reduceBEq, Nat.reduceAdd, Nat.reduceSub, IOp.dst, IOp.isF, IOp.args, coolOp, h1], by simp only [↓xP, xQ, xR, flatR, Nat.reduceBEq, Nat.reduceAdd, Nat.reduceSub, IOp.dst, IOp.isF, IOp.args, coolOp]⟩
  · simp only [↓xP, xQ, xR, flatR, Nat.reduceBEq, Nat.reduceAdd, Nat.reduceSub, IOp.dst, IOp.isF, IOp.args, coolOp, h0, h1, h5, hi]
def Command.Small (x : Command) : Prop := x.key.length ≤ 1048576 ∧ True
theorem toSession_ok (c0 : Int) (c1 : Int) (c2 : Int) : EE F 192 [.ag [.u (.int .i64 c0), .u (.int .i64 c1), .u (.int .i64 c2)]] [] = ok1 (.ag [.u (.int .i64 c0), .u (.int .i64 c1), .u (.int .i64 c2)]) := by
  rw [R192, b192]
  simp only [↓xP, xQ, xR, flatR, Nat.reduceBEq, Nat.reduceAdd, Nat.reduceSub, IOp.dst, IOp.isF, IOp.args, coolOp]
theorem eqSession_ok (c0 : Int) (c1 : Int) (c2 : Int) : EE F 194 [.ag [.u (.int .i64 c0), .u (.int .i64 c1), .u (.int .i64 c2)], .ag [.u (.int .i64 c0), .u (.int .i64 c1), .u (.int .i64 c2)]] [] = ok1 (B true) := by
  rw [R194, b194]
  simp only [↓xP, xQ, xR, flatR, Nat.reduceBEq, Nat.reduceAdd, Nat.reduceSub, IOp.dst, IOp.isF, IOp.args, coolOp, ne_eq, not_true_eq_false]
def SmallSessionS (l : (List Session)) : Prop := l.length ≤ 1048576 ∧ True
def szSessionSG (l : (List Session)) (left : Int) : Int := offZ left l.length fun a => a
theorem szSessionS_ok (l : (List Session)) (left : Int) : EE F 123 [L 3 (l.map Session.u), I left] [] = ok1 (I (szSessionSG l left)) := by
  rw [R123, b123]
  simp only [↓xP, xQ, xR, flatR, Nat.reduceBEq, Nat.reduceAdd, Nat.reduceSub, IOp.dst, IOp.isF, IOp.args, coolOp]
  refine sel_split (fun h => ?_) (fun h => ?_) <;> (simp only [decide_eq_true_eq, decide_eq_false_iff_not] at h; simp [szSessionSG, offZ, h])
theorem szSessionS_le (l : (List Session)) (hf : (l.length ≤ 9223372036854775807 ∧ ∀ y, y ∈ l → Session.Fit y)) : LeZ (szSessionSG l) (SmallSessionS l) := LeZ.off hf.1 (LeZ.id)
theorem toSessionS_ok (l : (List Session)) (hs : SmallSessionS l) : EE F 128 [L 3 (l.map Session.u)] [] = some ⟨[.sc (.own (.par 0) l.length)], [.row 3 (l.map Session.u)], []⟩ := by
  have hl := hs.1
  rw [R128, b128]
  simp only [↓xP, xQ, xR, flatR, Nat.reduceBEq, Nat.reduceAdd, Nat.reduceSub, IOp.dst, IOp.isF, IOp.args, coolOp, mk_ok _ 7 l.length [.int .i64 0, .int .i64 0, .int .i64 0] 24 (by omega)]
  refine (loop_ind (fun (i : Nat) st => i ≤ l.length ∧ st.s 0 = DU (.sl 3 (l.map Session.u)) ∧ st.s 4 = DI i ∧ st.s 3 = .t (.sc (.own (.loc 7 0) l.length)) ∧ st.o (.loc 7 0) = some (.row 3 ((l.take i).map Session.u ++ List.replicate (l.length - i) [.int .i64 0, .int .i64 0, .int .i64 0]))) (fun i => l.length - i) (fun i => some ⟨[.sc (.own (.par 0) l.length)], [.row 3 (l.map Session.u)], []⟩) ?_ 0 ⟨by omega, by simp only [↓xP, xQ, xR, flatR, Nat.reduceBEq, Nat.reduceAdd, Nat.reduceSub, IOp.dst, IOp.isF, IOp.args, coolOp], by simp only [↓xP, xQ, xR, flatR, Nat.reduceBEq, Nat.reduceAdd, Nat.reduceSub, IOp.dst, IOp.isF, IOp.args, coolOp]; rfl, by simp only [↓xP, xQ, xR, flatR, Nat.reduceBEq, Nat.reduceAdd, Nat.reduceSub, IOp.dst, IOp.isF, IOp.args, coolOp], by simp only [↓xP, xQ, xR, flatR, Nat.reduceBEq, Nat.reduceAdd, Nat.reduceSub, IOp.dst, IOp.isF, IOp.args, coolOp, Nat.sub_zero]⟩)
  rintro i st ⟨hle, h0, h4, h3, ho⟩ ih
  by_cases hi : i < l.length
  · obtain ⟨⟨c0, c1, c2⟩, hx⟩ : ∃ x, l[i]? = some x := ⟨_, List.getElem?_eq_getElem hi⟩
    have hw := w_succ (i := i) (by omega)
    have hg := fill_get (f := Session.u) (z := [.int .i64 0, .int .i64 0, .int .i64 0]) hi
    have hf := fill_set (f := Session.u) (z := [.int .i64 0, .int .i64 0, .int .i64 0]) hx
    simp only [Session.u] at hf
    simp only [↓xP, xQ, xR, flatR, Nat.reduceBEq, Nat.reduceAdd, Nat.reduceSub, IOp.dst, IOp.isF, IOp.args, coolOp, h0, h4, h3, ho, hi, hx, hw, hg, hf, Session.u, toSession_ok]
    exact ih (i + 1) _ (by omega) ⟨by omega, by simp only [↓xP, xQ, xR, flatR, Nat.reduceBEq, Nat.reduceAdd, Nat.reduceSub, IOp.dst, IOp.isF, IOp.args, coolOp, h0], by simp only [↓xP, xQ, xR, flatR, Nat.reduceBEq, Nat.reduceAdd, Nat.reduceSub, IOp.dst, IOp.isF, IOp.args, coolOp], by simp only [↓xP, xQ, xR, flatR, Nat.reduceBEq, Nat.reduceAdd, Nat.reduceSub, IOp.dst, IOp.isF, IOp.args, coolOp, h3], by simp only [↓xP, xQ, xR, flatR, Nat.reduceBEq, Nat.reduceAdd, Nat.reduceSub, IOp.dst, IOp.isF, IOp.args, coolOp, Session.u]⟩
  · have : i = l.length := by omega
    subst this
    rw [fill_all] at ho
    simp only [↓xP, xQ, xR, flatR, Nat.reduceBEq, Nat.reduceAdd, Nat.reduceSub, IOp.dst, IOp.isF, IOp.args, coolOp, h0, h4, h3, ho, hi]
theorem eqSessionS_ok (l : (List Session)) (hs : SmallSessionS l) : EE F 131 [L 3 (l.map Session.u), L 3 (l.map Session.u)] [] = ok1 (B true) := by
  have hl := hs.1
  rw [R131, b131]
  simp only [↓xP, xQ, xR, flatR, Nat.reduceBEq, Nat.reduceAdd, Nat.reduceSub, IOp.dst, IOp.isF, IOp.args, coolOp, ne_eq, not_true_eq_false]
  refine (loop_ind (fun (i : Nat) st => st.s 0 = DU (.sl 3 (l.map Session.u)) ∧ st.s 1 = DU (.sl 3 (l.map Session.u)) ∧ st.s 5 = DI i) (fun i => l.length - i) (fun i => ok1 (B true)) ?_ 0 ⟨by simp only [↓xP, xQ, xR, flatR, Nat.reduceBEq, Nat.reduceAdd, Nat.reduceSub, IOp.dst, IOp.isF, IOp.args, coolOp], by simp only [↓xP, xQ, xR, flatR, Nat.reduceBEq, Nat.reduceAdd, Nat.reduceSub, IOp.dst, IOp.isF, IOp.args, coolOp], by simp only [↓xP, xQ, xR, flatR, Nat.reduceBEq, Nat.reduceAdd, Nat.reduceSub, IOp.dst, IOp.isF, IOp.args, coolOp]; rfl⟩)
  rintro i st ⟨h0, h1, h5⟩ ih
  by_cases hi : i < l.length
  · obtain ⟨⟨c0, c1, c2⟩, hx⟩ : ∃ x, l[i]? = some x := ⟨_, List.getElem?_eq_getElem hi⟩
    have hw := w_succ (i := i) (by omega)
    simp only [↓xP, xQ, xR, flatR, Nat.reduceBEq, Nat.reduceAdd, Nat.reduceSub, IOp.dst, IOp.isF, IOp.args, coolOp, h0, h1, h5, hi, hx, hw, Session.u, eqSession_ok, ne_eq, not_true_eq_false]
    exact ih (i + 1) _ (by omega) ⟨by simp only [↓xP, xQ, xR, flatR, Nat.reduceBEq, Nat.reduceAdd, Nat.reduceSub, IOp.dst, IOp.isF, IOp.args, coolOp, h0], by simp only [↓xP, xQ, xR, flatR, Nat.reduceBEq, Nat.reduceAdd, Nat.reduceSub, IOp.dst, IOp.isF, IOp.args, coolOp, h1], by simp only [↓xP, xQ, xR, flatR, Nat.reduceBEq, Nat.reduceAdd, Nat.reduceSub, IOp.dst, IOp.isF, IOp.args, coolOp]⟩
  · simp only [↓xP, xQ, xR, flatR, Nat.reduceBEq, Nat.reduceAdd, Nat.reduceSub, IOp.dst, IOp.isF, IOp.args, coolOp, h0, h1, h5, hi]
def Entry.Small (x : Entry) : Prop := Command.Small x.cmd ∧ True
def SmallEntryS (l : (List Entry)) : Prop := l.length ≤ 1048576 ∧ ∀ y, y ∈ l → Entry.Small y
def Answer.Small (x : Answer) : Prop := Entry.Small x.asked ∧ True
def SmallAnswerS (l : (List Answer)) : Prop := l.length ≤ 1048576 ∧ ∀ y, y ∈ l → Answer.Small y
def State.Small (x : State) : Prop := Interval.Small x.span ∧ SmallPairS x.pairs ∧ SmallSessionS x.known ∧ x.cut.length ≤ 1048576 ∧ True
def szStateG (x : State) (a : Int) : Int := chkZ (szIntervalG x.span a) fun a => chkZ (szPairSG x.pairs a) fun a => chkZ (szSessionSG x.known a) fun a => offZ a x.cut.length fun a => a
theorem szState_ok (c0 : Str) (c1 : Str) (c2 : (List Pair)) (c3 : (List Session)) (c4 : Bool) (c5 : Str) (hf : State.Fit ⟨⟨c0, c1⟩, c2, c3, c4, c5⟩) (left : Int) : EE F 51 [.ag [.u (.str c0), .u (.str c1), .u (.sl 2 (c2.map Pair.u)), .u (.sl 3 (c3.map Session.u)), .u (.bool c4), .u (.str c5)], I left] [] = ok1 (I (szStateG ⟨⟨c0, c1⟩, c2, c3, c4, c5⟩ left)) := by
  rw [R51, b51]
  simp only [↓xP, xQ, xR, flatR, Nat.reduceBEq, Nat.reduceAdd, Nat.reduceSub, IOp.dst, IOp.isF, IOp.args, coolOp, szInterval_ok, szPairS_ok c2 hf.2.1, szSessionS_ok]
  repeat' (refine sel_split (fun h => ?_) (fun h => ?_))
  all_goals (simp only [decide_eq_true_eq, decide_eq_false_iff_not] at *; simp [szStateG, offZ, chkZ, *])
theorem szState_le (x : State) (hf : State.Fit x) : LeZ (szStateG x) (State.Small x) := LeZ.chk (szInterval_le _ hf.1) (LeZ.chk (szPairS_le _ hf.2.1) (LeZ.chk (szSessionS_le _ hf.2.2.1) (LeZ.off hf.2.2.2.2 LeZ.id)))
theorem toState_ok (c0 : Str) (c1 : Str) (c2 : (List Pair)) (c3 : (List Session)) (c4 : Bool) (c5 : Str) (hs : State.Small ⟨⟨c0, c1⟩, c2, c3, c4, c5⟩) : EE F 54 [.ag [.u (.str c0), .u (.str c1), .u (.sl 2 (c2.map Pair.u)), .u (.sl 3 (c3.map Session.u)), .u (.bool c4), .u (.str c5)]] [] = some ⟨[.ag [.u (.str c0), .u (.str c1), .own (.par 0) c2.length, .own (.par 1) c3.length, .u (.bool c4), .u (.str c5)]], [.row 2 (c2.map Pair.u), .row 3 (c3.map Session.u)], []⟩ := by
  rw [R54, b54]
  simp only [↓xP, xQ, xR, flatR, Nat.reduceBEq, Nat.reduceAdd, Nat.reduceSub, IOp.dst, IOp.isF, IOp.args, coolOp, toInterval_ok, toPairS_ok c2 hs.2.1, toSessionS_ok c3 hs.2.2.1]
theorem eqState_ok (c0 : Str) (c1 : Str) (c2 : (List Pair)) (c3 : (List Session)) (c4 : Bool) (c5 : Str) (hs : State.Small ⟨⟨c0, c1⟩, c2, c3, c4, c5⟩) : EE F 58 [.ag [.u (.str c0), .u (.str c1), .u (.sl 2 (c2.map Pair.u)), .u (.sl 3 (c3.map Session.u)), .u (.bool c4), .u (.str c5)], .ag [.u (.str c0), .u (.str c1), .u (.sl 2 (c2.map Pair.u)), .u (.sl 3 (c3.map Session.u)), .u (.bool c4), .u (.str c5)]] [] = ok1 (B true) := by
  rw [R58, b58]
  simp only [↓xP, xQ, xR, flatR, Nat.reduceBEq, Nat.reduceAdd, Nat.reduceSub, IOp.dst, IOp.isF, IOp.args, coolOp, eqInterval_ok, eqPairS_ok c2 hs.2.1, eqSessionS_ok c3 hs.2.2.1, ne_eq, not_true_eq_false]
def Piece.Small (x : Piece) : Prop := Interval.Small x.span ∧ SmallPairS x.pairs ∧ True
theorem eqPiece_ok (c0 : Str) (c1 : Str) (c2 : (List Pair)) (hs : Piece.Small ⟨⟨c0, c1⟩, c2⟩) : EE F 57 [.ag [.u (.str c0), .u (.str c1), .u (.sl 2 (c2.map Pair.u))], .ag [.u (.str c0), .u (.str c1), .u (.sl 2 (c2.map Pair.u))]] [] = ok1 (B true) := by
  rw [R57, b57]
  simp only [↓xP, xQ, xR, flatR, Nat.reduceBEq, Nat.reduceAdd, Nat.reduceSub, IOp.dst, IOp.isF, IOp.args, coolOp, eqInterval_ok, eqPairS_ok c2 hs.2.1, ne_eq, not_true_eq_false]
def Config.Small (x : Config) : Prop := SmallIntS x.members ∧ True
def Event.Small (x : Event) : Prop := Entry.Small x.sent ∧ True
def Plan.Small (x : Plan) : Prop := x.key.length ≤ 1048576 ∧ True
def Deed.Small (x : Deed) : Prop := Command.Small x.wish ∧ Event.Small x.inner ∧ Plan.Small x.work ∧ True
def Replica.Small (x : Replica) : Prop := Config.Small x.conf ∧ SmallEntryS x.log ∧ True
def SmallReplicaS (l : (List Replica)) : Prop := l.length ≤ 1048576 ∧ ∀ y, y ∈ l → Replica.Small y
def Message.Small (x : Message) : Prop := Config.Small x.conf ∧ SmallEntryS x.log ∧ True
def SmallMessageS (l : (List Message)) : Prop := l.length ≤ 1048576 ∧ ∀ y, y ∈ l → Message.Small y
def Chain.Small (x : Chain) : Prop := State.Small x.base ∧ Config.Small x.conf ∧ SmallReplicaS x.nodes ∧ SmallBoolS x.up ∧ SmallMessageS x.bag ∧ SmallAnswerS x.answers ∧ True
def Route.Small (x : Route) : Prop := Interval.Small x.span ∧ True
def SmallRouteS (l : (List Route)) : Prop := l.length ≤ 1048576 ∧ ∀ y, y ∈ l → Route.Small y
def Caller.Small (x : Caller) : Prop := SmallRouteS x.cache ∧ Command.Small x.wish ∧ True
def SmallCallerS (l : (List Caller)) : Prop := l.length ≤ 1048576 ∧ ∀ y, y ∈ l → Caller.Small y
def Result.Small (x : Result) : Prop := Command.Small x.wish ∧ True
def SmallResultS (l : (List Result)) : Prop := l.length ≤ 1048576 ∧ ∀ y, y ∈ l → Result.Small y
def Shard.Small (x : Shard) : Prop := Chain.Small x.group ∧ True
def SmallShardS (l : (List Shard)) : Prop := l.length ≤ 1048576 ∧ ∀ y, y ∈ l → Shard.Small y
def Cluster.Small (x : Cluster) : Prop := SmallShardS x.shards ∧ SmallCallerS x.clients ∧ SmallResultS x.results ∧ Plan.Small x.work ∧ True
/-- All from a number on. -/
def allF (n : Nat) (p : Nat → Bool) (i : Nat) : Bool := if i < n then p i && allF n p (i + 1) else true
termination_by n - i
theorem allF_lt {n : Nat} {p : Nat → Bool} {i : Nat} (h : i < n) : allF n p i = (p i && allF n p (i + 1)) := by rw [allF, if_pos h]
theorem allF_ge {n : Nat} {p : Nat → Bool} {i : Nat} (h : ¬ i < n) : allF n p i = true := by rw [allF, if_neg h]
theorem allF_iff {n : Nat} {p : Nat → Bool} : ∀ (k i : Nat), n - i = k → (allF n p i = true ↔ ∀ j, i ≤ j → j < n → p j = true)
  | 0, i, h => by
    rw [allF_ge (by omega)]
    exact ⟨fun _ j h1 h2 => by omega, fun _ => rfl⟩
  | k + 1, i, h => by
    rw [allF_lt (by omega), Bool.and_eq_true, allF_iff k (i + 1) (by omega)]
    refine ⟨fun ⟨h1, h2⟩ j hj hn => ?_, fun h1 => ⟨h1 i (Nat.le_refl _) (by omega), fun j hj hn => h1 j (by omega) hn⟩⟩
    by_cases e : j = i
    · subst e; exact h1
    · exact h2 j (by omega) hn
def inR (n a b : Int) : Bool := decide (a ≤ n) && decide (n ≤ b)
theorem l1In_ok (n a b : Int) : EE F 134 [I n, I a, I b] [] = ok1 (B (inR n a b)) := by
  rw [R134, b134]
  simp only [↓xP, xQ, xR, flatR, eqCells_ok, eqSh, eqBs, Nat.reduceLT, decide_true, Nat.reduceBEq, Nat.reduceAdd, IOp.dst, IOp.isF, IOp.args, coolOp, Nat.reduceSub]
  repeat' (refine sel_split (fun h => ?_) (fun h => ?_))
  all_goals (simp_all [inR] <;> (intros; omega))
theorem valueValid_ok (n : Int) : EE F 138 [I n] [] = ok1 (B (inR n 0 999)) := by
  rw [R138, b138]
  simp only [↓xP, xQ, xR, flatR, eqCells_ok, eqSh, eqBs, Nat.reduceLT, decide_true, Nat.reduceBEq, Nat.reduceAdd, IOp.dst, IOp.isF, IOp.args, coolOp, Nat.reduceSub]
  repeat' (refine sel_split (fun h => ?_) (fun h => ?_))
  all_goals (simp_all [inR] <;> (intros; omega))
def letter (c : UInt8) : Bool := decide (97 ≤ (c.toNat : Int)) && decide ((c.toNat : Int) ≤ 122)
def keyValid (s : Str) : Bool := decide (1 ≤ s.length) && decide (s.length ≤ 4) && s.all letter
theorem cut1 (n : Nat) : vcut (n + 1) (some (DI 1)) none = some (1, n + 1) := by
  have : (1 : Int) ≤ (n : Int) + 1 := by omega
  simp [vcut, D.int?, this]
theorem lettersOnly_ok : ∀ s : Str, EE F 195 [S s] [] = ok1 (B (s.all letter))
  | [] => by
    rw [R195, b195]
    simp only [↓xP, xQ, xR, flatR, eqCells_ok, eqSh, eqBs, Nat.reduceLT, decide_true, Nat.reduceBEq, Nat.reduceAdd, IOp.dst, IOp.isF, IOp.args, coolOp, Nat.reduceSub]
  | c :: s => by
    have h2 : (List.take (s.length + 1) (c :: s)).drop 1 = s := by simp
    rw [R195, b195]
    simp only [↓xP, xQ, xR, flatR, eqCells_ok, eqSh, eqBs, Nat.reduceLT, decide_true, Nat.reduceBEq, Nat.reduceAdd, IOp.dst, IOp.isF, IOp.args, coolOp, Nat.reduceSub, cut1, lettersOnly_ok s, reduceCtorEq, letter, List.take_of_length_le]
    repeat' (refine sel_split (fun h => ?_) (fun h => ?_))
    all_goals (simp_all <;> (intros; omega))
theorem keyValid_impl (s : Str) : EE F 137 [S s] [] = ok1 (B (keyValid s)) := by
  rw [R137, b137]
  simp only [↓xP, xQ, xR, flatR, eqCells_ok, eqSh, eqBs, Nat.reduceLT, decide_true, Nat.reduceBEq, Nat.reduceAdd, IOp.dst, IOp.isF, IOp.args, coolOp, Nat.reduceSub, lettersOnly_ok]
  repeat' (refine sel_split (fun h => ?_) (fun h => ?_))
  all_goals (simp_all [keyValid] <;> (intros; omega))
theorem keyValid_spec (s : Str) : EE F 172 [S s] [] = ok1 (B (keyValid s)) := by
  rw [R172, b172]
  simp only [↓xP, xQ, xR, flatR, eqCells_ok, eqSh, eqBs, Nat.reduceLT, decide_true, Nat.reduceBEq, Nat.reduceAdd, IOp.dst, IOp.isF, IOp.args, coolOp, Nat.reduceSub, l1In_ok]
  refine sel_split (fun h => ?_) (fun h => ?_)
  · simp_all [keyValid, inR]
    omega
  · simp only [Bool.not_eq_false', inR, Bool.and_eq_true, decide_eq_true_eq] at h
    refine (loop_ind (fun (i : Nat) st => i ≤ s.length ∧ st.s 0 = DU (.str s) ∧ st.s 3 = DI i) (fun i => s.length - i) (fun i => ok1 (B ((s.drop i).all letter))) ?_ 0 ⟨by omega, by simp only [↓xP, xQ, Nat.reduceBEq], by simp only [↓xP, xQ, Nat.reduceBEq]; rfl⟩).trans ?_
    · rintro i st ⟨hle, h0, h3⟩ ih
      by_cases hi : i < s.length
      · have hc : s[i]? = some s[i] := List.getElem?_eq_getElem hi
        have hd : s.drop i = s[i] :: s.drop (i + 1) := List.drop_eq_getElem_cons hi
        have hw := w_succ (i := i) (by omega)
        simp only [↓xP, xQ, xR, flatR, eqCells_ok, eqSh, eqBs, Nat.reduceLT, decide_true, Nat.reduceBEq, Nat.reduceAdd, IOp.dst, IOp.isF, IOp.args, coolOp, Nat.reduceSub, h0, h3, hi, hc, hw]
        rw [hd]
        generalize s[i] = c
        repeat' (refine sel_split (fun h => ?_) (fun h => ?_))
        · simp_all [letter]
          omega
        · simp_all [letter]
          omega
        · rw [ih (i + 1) _ (by omega) ⟨by omega, by simp only [↓xP, xQ, Nat.reduceBEq, h0], by simp only [↓xP, xQ, Nat.reduceBEq]⟩]
          simp_all [letter]
      · simp only [↓xP, xQ, xR, flatR, eqCells_ok, eqSh, eqBs, Nat.reduceLT, decide_true, Nat.reduceBEq, Nat.reduceAdd, IOp.dst, IOp.isF, IOp.args, coolOp, Nat.reduceSub, h0, h3, hi]
        rw [List.drop_of_length_le (by omega)]; rfl
    · simp [keyValid]
      omega
theorem lt_nil (s : Str) : strLt [] s = decide (s ≠ []) := by cases s <;> simp [strLt, Op.bytesLess]
theorem lt_nil' (s : Str) : strLt s [] = false := by cases s <;> simp [strLt, Op.bytesLess]
theorem lt_cons (a b : UInt8) (s t : Str) : strLt (a :: s) (b :: t) = (decide (a < b) || (a == b && strLt s t)) := rfl
theorem lt_irrefl : ∀ s : Str, strLt s s = false
  | [] => rfl
  | a :: s => by rw [lt_cons, lt_irrefl s]; simp
theorem lt_trans : ∀ {s t u : Str}, strLt s t = true → strLt t u = true → strLt s u = true
  | _, [], _, h, _ => by rw [lt_nil'] at h; cases h
  | _, b :: t, [], _, h => by rw [lt_nil'] at h; cases h
  | [], b :: t, c :: u, _, _ => by rw [lt_nil]; simp
  | a :: s, b :: t, c :: u, h1, h2 => by
    rw [lt_cons] at h1 h2 ⊢
    simp only [Bool.or_eq_true, Bool.and_eq_true, decide_eq_true_eq, beq_iff_eq] at h1 h2 ⊢
    rcases h1 with h1 | ⟨rfl, h1⟩
    · rcases h2 with h2 | ⟨rfl, h2⟩
      · exact .inl (UInt8.lt_trans h1 h2)
      · exact .inl h1
    · rcases h2 with h2 | ⟨rfl, h2⟩
      · exact .inl h2
      · exact .inr ⟨rfl, lt_trans h1 h2⟩
theorem lt_asymm {s t : Str} (h : strLt s t = true) : strLt t s = false := by
  cases hq : strLt t s with
  | false => rfl
  | true => have := lt_trans h hq; rw [lt_irrefl] at this; cases this
theorem lt_total : ∀ (s t : Str), strLt s t = true ∨ s = t ∨ strLt t s = true
  | [], [] => .inr (.inl rfl)
  | [], b :: t => .inl (by rw [lt_nil]; simp)
  | a :: s, [] => .inr (.inr (by rw [lt_nil]; simp))
  | a :: s, b :: t => by
    rw [lt_cons, lt_cons]
    simp only [Bool.or_eq_true, Bool.and_eq_true, decide_eq_true_eq, beq_iff_eq, List.cons.injEq]
    rcases Nat.lt_trichotomy a.toNat b.toNat with h | h | h
    · exact .inl (.inl (UInt8.lt_iff_toNat_lt.2 h))
    rotate_left
    · exact .inr (.inr (.inl (UInt8.lt_iff_toNat_lt.2 h)))
    · have h := UInt8.toNat_inj.1 h
      subst h
      rcases lt_total s t with h | h | h
      · exact .inl (.inr ⟨rfl, h⟩)
      · exact .inr (.inl ⟨rfl, h⟩)
      · exact .inr (.inr (.inr ⟨rfl, h⟩))
/-- For other strings 'at most' is 'not greater'. -/
theorem le_iff (s t : Str) : (strLt s t || decide (s = t)) = !strLt t s := by
  rcases lt_total s t with h | h | h
  · simp [h, lt_asymm h]
  · subst h; simp [lt_irrefl]
  · have h1 := lt_asymm h
    have h2 : ¬ s = t := fun e => by subst e; rw [lt_irrefl] at h; cases h
    simp [h, h1, h2]
def intervalValid (v : Interval) : Bool := (decide (v.low = []) || keyValid v.low) && (decide (v.high = []) || keyValid v.high) && (decide (v.high = []) || strLt (if v.low = [] then [97] else v.low) v.high)
theorem lowestKey_ok (lo hi : Str) : EE F 171 [.ag [.u (.str lo), .u (.str hi)]] [] = ok1 (S (if lo = [] then [97] else lo)) := by
  rw [R171, b171]
  simp only [↓xP, xQ, xR, flatR, eqCells_ok, eqSh, eqBs, Nat.reduceLT, decide_true, Nat.reduceBEq, Nat.reduceAdd, IOp.dst, IOp.isF, IOp.args, coolOp, Nat.reduceSub]
  repeat' (refine sel_split (fun h => ?_) (fun h => ?_))
  all_goals simp_all
theorem intervalValid_impl (lo hi : Str) : EE F 102 [.ag [.u (.str lo), .u (.str hi)]] [] = ok1 (B (intervalValid ⟨lo, hi⟩)) := by
  rw [R102, b102]
  simp only [↓xP, xQ, xR, flatR, eqCells_ok, eqSh, eqBs, Nat.reduceLT, decide_true, Nat.reduceBEq, Nat.reduceAdd, IOp.dst, IOp.isF, IOp.args, coolOp, Nat.reduceSub, keyValid_impl, lowestKey_ok]
  repeat' (refine sel_split (fun h => ?_) (fun h => ?_))
  all_goals simp_all [intervalValid]
/-- A valid key after "a". -/
theorem lt_a {s : Str} (h : keyValid s = true) : strLt [97] s = decide (s ≠ [97]) := by
  match s, h with
  | [], h => simp [keyValid] at h
  | c :: t, h =>
    simp only [keyValid, letter, List.all_cons, Bool.and_eq_true, decide_eq_true_eq] at h
    have hc : 97 ≤ c.toNat := by omega
    rw [lt_cons, lt_nil]
    by_cases e : c = 97
    · subst e; simp
    · have h1 : (97 : UInt8) < c := by
        rw [UInt8.lt_iff_toNat_lt]
        have : c.toNat ≠ 97 := fun q => e (UInt8.toNat_inj.1 q)
        show 97 < c.toNat
        omega
      simp [h1, e]
theorem intervalValid_spec (lo hi : Str) : EE F 104 [.ag [.u (.str lo), .u (.str hi)]] [] = ok1 (B (intervalValid ⟨lo, hi⟩)) := by
  rw [R104, b104]
  simp only [↓xP, xQ, xR, flatR, eqCells_ok, eqSh, eqBs, Nat.reduceLT, decide_true, Nat.reduceBEq, Nat.reduceAdd, IOp.dst, IOp.isF, IOp.args, coolOp, Nat.reduceSub, keyValid_spec]
  repeat' (refine sel_split (fun h => ?_) (fun h => ?_))
  all_goals simp_all [intervalValid, lt_nil, lt_a]
/-- A key is between the bounds. -/
def inside (v : Interval) (key : Str) : Bool := !strLt key v.low && (decide (v.high = []) || strLt key v.high)
theorem inside_ok (lo hi key : Str) : EE F 103 [.ag [.u (.str lo), .u (.str hi)], S key] [] = ok1 (B (inside ⟨lo, hi⟩ key)) := by
  rw [R103, b103]
  simp only [↓xP, xQ, xR, flatR, eqCells_ok, eqSh, eqBs, Nat.reduceLT, decide_true, Nat.reduceBEq, Nat.reduceAdd, IOp.dst, IOp.isF, IOp.args, coolOp, Nat.reduceSub, le_iff]
  repeat' (refine sel_split (fun h => ?_) (fun h => ?_))
  all_goals simp_all [inside]
def intervalHas (v : Interval) (key : Str) : Bool := intervalValid v && keyValid key && inside v key
theorem intervalHas_spec (lo hi key : Str) : EE F 106 [.ag [.u (.str lo), .u (.str hi)], S key] [] = ok1 (B (intervalHas ⟨lo, hi⟩ key)) := by
  rw [R106, b106]
  simp only [↓xP, xQ, xR, flatR, eqCells_ok, eqSh, eqBs, Nat.reduceLT, decide_true, Nat.reduceBEq, Nat.reduceAdd, IOp.dst, IOp.isF, IOp.args, coolOp, Nat.reduceSub, intervalValid_spec, keyValid_spec]
  repeat' (refine sel_split (fun h => ?_) (fun h => ?_))
  all_goals simp_all [intervalHas, inside]
def pairAt (l : List Pair) (i : Nat) : Bool := match l[i]? with
  | some p => keyValid p.key && inR p.value 0 999 && (decide (i = 0) || (match l[i - 1]? with
    | some q => strLt q.key p.key
    | none => true))
  | none => true
def pairsValid (l : List Pair) : Bool := decide (l.length ≤ 48) && allF l.length (pairAt l) 0
theorem pairsValid_impl (l : List Pair) : EE F 65 [L 2 (l.map Pair.u)] [] = ok1 (B (pairsValid l)) := by
  rw [R65, b65]
  simp only [↓xP, xQ, xR, flatR, eqCells_ok, eqSh, eqBs, Nat.reduceLT, decide_true, Nat.reduceBEq, Nat.reduceAdd, IOp.dst, IOp.isF, IOp.args, coolOp, Nat.reduceSub]
  refine sel_split (fun h => ?_) (fun h => ?_)
  · simp only [decide_eq_true_eq] at h
    simp [pairsValid, show ¬ l.length ≤ 48 by omega]
  · simp only [decide_eq_false_iff_not] at h
    refine (loop_ind (fun (i : Nat) st => st.s 0 = DU (.sl 2 (l.map Pair.u)) ∧ st.s 8 = DU (.sl 2 (l.map Pair.u)) ∧ st.s 9 = DI l.length ∧ st.s 10 = DI i) (fun i => l.length - i) (fun i => ok1 (B (allF l.length (pairAt l) i))) ?_ 0 ⟨by simp only [↓xP, xQ, xR, flatR, eqCells_ok, eqSh, eqBs, Nat.reduceLT, decide_true, Nat.reduceBEq, Nat.reduceAdd, IOp.dst, IOp.isF, IOp.args, coolOp, Nat.reduceSub], by simp only [↓xP, xQ, xR, flatR, eqCells_ok, eqSh, eqBs, Nat.reduceLT, decide_true, Nat.reduceBEq, Nat.reduceAdd, IOp.dst, IOp.isF, IOp.args, coolOp, Nat.reduceSub], by simp only [↓xP, xQ, xR, flatR, eqCells_ok, eqSh, eqBs, Nat.reduceLT, decide_true, Nat.reduceBEq, Nat.reduceAdd, IOp.dst, IOp.isF, IOp.args, coolOp, Nat.reduceSub], by simp only [↓xP, xQ, xR, flatR, eqCells_ok, eqSh, eqBs, Nat.reduceLT, decide_true, Nat.reduceBEq, Nat.reduceAdd, IOp.dst, IOp.isF, IOp.args, coolOp, Nat.reduceSub]; rfl⟩).trans ?_
    · rintro i st ⟨h0, h8, h9, h10⟩ ih
      by_cases hi : i < l.length
      · obtain ⟨⟨pk, pv⟩, hp⟩ : ∃ p, l[i]? = some p := ⟨_, List.getElem?_eq_getElem hi⟩
        have hw := w_succ (i := i) (by omega)
        rw [allF_lt hi]
        by_cases hz : i = 0
        · have h01 : ¬ (0 : Int) < (i : Int) := by omega
          simp only [↓xP, xQ, xR, flatR, eqCells_ok, eqSh, eqBs, Nat.reduceLT, decide_true, Nat.reduceBEq, Nat.reduceAdd, IOp.dst, IOp.isF, IOp.args, coolOp, Nat.reduceSub, h0, h8, h9, h10, hi, hp, hw, h01, Pair.u, keyValid_impl, valueValid_ok]
          repeat' (refine sel_split (fun h => ?_) (fun h => ?_))
          · simp_all [pairAt]
          · simp_all [pairAt]
          · rw [ih (i + 1) _ (by omega) ⟨by simp only [↓xP, xQ, xR, flatR, eqCells_ok, eqSh, eqBs, Nat.reduceLT, decide_true, Nat.reduceBEq, Nat.reduceAdd, IOp.dst, IOp.isF, IOp.args, coolOp, Nat.reduceSub, h0], by simp only [↓xP, xQ, xR, flatR, eqCells_ok, eqSh, eqBs, Nat.reduceLT, decide_true, Nat.reduceBEq, Nat.reduceAdd, IOp.dst, IOp.isF, IOp.args, coolOp, Nat.reduceSub, h8], by simp only [↓xP, xQ, xR, flatR, eqCells_ok, eqSh, eqBs, Nat.reduceLT, decide_true, Nat.reduceBEq, Nat.reduceAdd, IOp.dst, IOp.isF, IOp.args, coolOp, Nat.reduceSub, h9], by simp only [↓xP, xQ, xR, flatR, eqCells_ok, eqSh, eqBs, Nat.reduceLT, decide_true, Nat.reduceBEq, Nat.reduceAdd, IOp.dst, IOp.isF, IOp.args, coolOp, Nat.reduceSub]⟩]
            simp_all [pairAt]
        · obtain ⟨⟨qk, qv⟩, hq⟩ : ∃ q, l[i - 1]? = some q := ⟨_, List.getElem?_eq_getElem (by omega)⟩
          have hw2 : IntKind.i64.wrap ((i : Int) - 1) = ((i - 1 : Nat) : Int) := by rw [w64 (by omega) (by omega)]; omega
          have h01 : (0 : Int) < (i : Int) := by omega
          simp only [↓xP, xQ, xR, flatR, eqCells_ok, eqSh, eqBs, Nat.reduceLT, decide_true, Nat.reduceBEq, Nat.reduceAdd, IOp.dst, IOp.isF, IOp.args, coolOp, Nat.reduceSub, h0, h8, h9, h10, hi, hp, hw, hw2, hq, h01, Pair.u, keyValid_impl, valueValid_ok]
          repeat' (refine sel_split (fun h => ?_) (fun h => ?_))
          · simp_all [pairAt]
          · simp_all [pairAt]
          · simp_all [pairAt]
          · rw [ih (i + 1) _ (by omega) ⟨by simp only [↓xP, xQ, xR, flatR, eqCells_ok, eqSh, eqBs, Nat.reduceLT, decide_true, Nat.reduceBEq, Nat.reduceAdd, IOp.dst, IOp.isF, IOp.args, coolOp, Nat.reduceSub, h0], by simp only [↓xP, xQ, xR, flatR, eqCells_ok, eqSh, eqBs, Nat.reduceLT, decide_true, Nat.reduceBEq, Nat.reduceAdd, IOp.dst, IOp.isF, IOp.args, coolOp, Nat.reduceSub, h8], by simp only [↓xP, xQ, xR, flatR, eqCells_ok, eqSh, eqBs, Nat.reduceLT, decide_true, Nat.reduceBEq, Nat.reduceAdd, IOp.dst, IOp.isF, IOp.args, coolOp, Nat.reduceSub, h9], by simp only [↓xP, xQ, xR, flatR, eqCells_ok, eqSh, eqBs, Nat.reduceLT, decide_true, Nat.reduceBEq, Nat.reduceAdd, IOp.dst, IOp.isF, IOp.args, coolOp, Nat.reduceSub]⟩]
            simp_all [pairAt]
      · simp only [↓xP, xQ, xR, flatR, eqCells_ok, eqSh, eqBs, Nat.reduceLT, decide_true, Nat.reduceBEq, Nat.reduceAdd, IOp.dst, IOp.isF, IOp.args, coolOp, Nat.reduceSub, h0, h8, h9, h10, hi]
        rw [allF_ge hi]
    · simp [pairsValid, show l.length ≤ 48 by omega]
theorem pairsValid_spec (l : List Pair) : EE F 105 [L 2 (l.map Pair.u)] [] = ok1 (B (pairsValid l)) := by
  rw [R105, b105]
  simp only [↓xP, xQ, xR, flatR, eqCells_ok, eqSh, eqBs, Nat.reduceLT, decide_true, Nat.reduceBEq, Nat.reduceAdd, IOp.dst, IOp.isF, IOp.args, coolOp, Nat.reduceSub]
  refine sel_split (fun h => ?_) (fun h => ?_)
  · simp only [decide_eq_true_eq] at h
    simp [pairsValid, show ¬ l.length ≤ 48 by omega]
  · simp only [decide_eq_false_iff_not] at h
    refine (loop_ind (fun (i : Nat) st => st.s 0 = DU (.sl 2 (l.map Pair.u)) ∧ st.s 3 = DI i) (fun i => l.length - i) (fun i => ok1 (B (allF l.length (pairAt l) i))) ?_ 0 ⟨by simp only [↓xP, xQ, xR, flatR, eqCells_ok, eqSh, eqBs, Nat.reduceLT, decide_true, Nat.reduceBEq, Nat.reduceAdd, IOp.dst, IOp.isF, IOp.args, coolOp, Nat.reduceSub], by simp only [↓xP, xQ, xR, flatR, eqCells_ok, eqSh, eqBs, Nat.reduceLT, decide_true, Nat.reduceBEq, Nat.reduceAdd, IOp.dst, IOp.isF, IOp.args, coolOp, Nat.reduceSub]; rfl⟩).trans ?_
    · rintro i st ⟨h0, h3⟩ ih
      by_cases hi : i < l.length
      · obtain ⟨⟨pk, pv⟩, hp⟩ : ∃ p, l[i]? = some p := ⟨_, List.getElem?_eq_getElem hi⟩
        have hw := w_succ (i := i) (by omega)
        rw [allF_lt hi]
        by_cases hz : i = 0
        · have h01 : ¬ (0 : Int) < (i : Int) := by omega
          simp only [↓xP, xQ, xR, flatR, eqCells_ok, eqSh, eqBs, Nat.reduceLT, decide_true, Nat.reduceBEq, Nat.reduceAdd, IOp.dst, IOp.isF, IOp.args, coolOp, Nat.reduceSub, h0, h3, hi, hp, hw, h01, Pair.u, keyValid_spec, l1In_ok]
          repeat' (refine sel_split (fun h => ?_) (fun h => ?_))
          · simp_all [pairAt]
          · simp_all [pairAt]
          · rw [ih (i + 1) _ (by omega) ⟨by simp only [↓xP, xQ, xR, flatR, eqCells_ok, eqSh, eqBs, Nat.reduceLT, decide_true, Nat.reduceBEq, Nat.reduceAdd, IOp.dst, IOp.isF, IOp.args, coolOp, Nat.reduceSub, h0], by simp only [↓xP, xQ, xR, flatR, eqCells_ok, eqSh, eqBs, Nat.reduceLT, decide_true, Nat.reduceBEq, Nat.reduceAdd, IOp.dst, IOp.isF, IOp.args, coolOp, Nat.reduceSub]⟩]
            simp_all [pairAt]
        · obtain ⟨⟨qk, qv⟩, hq⟩ : ∃ q, l[i - 1]? = some q := ⟨_, List.getElem?_eq_getElem (by omega)⟩
          have hw2 : IntKind.i64.wrap ((i : Int) - 1) = ((i - 1 : Nat) : Int) := by rw [w64 (by omega) (by omega)]; omega
          have h01 : (0 : Int) < (i : Int) := by omega
          simp only [↓xP, xQ, xR, flatR, eqCells_ok, eqSh, eqBs, Nat.reduceLT, decide_true, Nat.reduceBEq, Nat.reduceAdd, IOp.dst, IOp.isF, IOp.args, coolOp, Nat.reduceSub, h0, h3, hi, hp, hw, hw2, hq, h01, Pair.u, keyValid_spec, l1In_ok, le_iff]
          repeat' (refine sel_split (fun h => ?_) (fun h => ?_))
          · simp_all [pairAt]
          · simp_all [pairAt]
          · simp_all [pairAt]
          · rw [ih (i + 1) _ (by omega) ⟨by simp only [↓xP, xQ, xR, flatR, eqCells_ok, eqSh, eqBs, Nat.reduceLT, decide_true, Nat.reduceBEq, Nat.reduceAdd, IOp.dst, IOp.isF, IOp.args, coolOp, Nat.reduceSub, h0], by simp only [↓xP, xQ, xR, flatR, eqCells_ok, eqSh, eqBs, Nat.reduceLT, decide_true, Nat.reduceBEq, Nat.reduceAdd, IOp.dst, IOp.isF, IOp.args, coolOp, Nat.reduceSub]⟩]
            simp_all [pairAt]
      · simp only [↓xP, xQ, xR, flatR, eqCells_ok, eqSh, eqBs, Nat.reduceLT, decide_true, Nat.reduceBEq, Nat.reduceAdd, IOp.dst, IOp.isF, IOp.args, coolOp, Nat.reduceSub, h0, h3, hi]
        rw [allF_ge hi]
    · simp [pairsValid, show l.length ≤ 48 by omega]
theorem pairsValid_at {l : List Pair} (h : pairsValid l = true) {i : Nat} {p : Pair} (hp : l[i]? = some p) : keyValid p.key = true ∧ inR p.value 0 999 = true := by
  simp only [pairsValid, Bool.and_eq_true, decide_eq_true_eq] at h
  have := (allF_iff _ 0 rfl).1 h.2 i (by omega) (List.getElem?_eq_some_iff.1 hp).1
  simp only [pairAt, hp, Bool.and_eq_true] at this
  exact this.1
theorem seqValid_ok (n : Int) : EE F 178 [I n] [] = ok1 (B (inR n 1 999)) := by
  rw [R178, b178]
  simp only [↓xP, xQ, xR, flatR, eqCells_ok, eqSh, eqBs, Nat.reduceLT, decide_true, Nat.reduceBEq, Nat.reduceAdd, IOp.dst, IOp.isF, IOp.args, coolOp, Nat.reduceSub]
  repeat' (refine sel_split (fun h => ?_) (fun h => ?_))
  all_goals (simp_all [inR] <;> (intros; omega))
def cutOk (v : Interval) (key : Str) : Bool := intervalValid v && keyValid key && intervalValid ⟨v.low, key⟩ && intervalValid ⟨key, v.high⟩
def cutRet (v : Interval) (key : Str) : Option Ret := sel (cutOk v key) (some ⟨[.ag [.u (.str v.low), .u (.str key)], .ag [.u (.str key), .u (.str v.high)], B true], [], []⟩) (some ⟨[.ag [.u (.str []), .u (.str [])], .ag [.u (.str []), .u (.str [])], B false], [], []⟩)
theorem intervalCut_spec (lo hi key : Str) : EE F 190 [.ag [.u (.str lo), .u (.str hi)], S key] [] = cutRet ⟨lo, hi⟩ key := by
  rw [R190, b190]
  simp only [↓xP, xQ, xR, flatR, eqCells_ok, eqSh, eqBs, Nat.reduceLT, decide_true, Nat.reduceBEq, Nat.reduceAdd, IOp.dst, IOp.isF, IOp.args, coolOp, Nat.reduceSub, intervalValid_spec, keyValid_spec]
  repeat' (refine sel_split (fun h => ?_) (fun h => ?_))
  all_goals simp_all [cutOk, cutRet, sel]
theorem intervalCut_impl (lo hi key : Str) : EE F 145 [.ag [.u (.str lo), .u (.str hi)], S key] [] = cutRet ⟨lo, hi⟩ key := by
  rw [R145, b145]
  simp only [↓xP, xQ, xR, flatR, eqCells_ok, eqSh, eqBs, Nat.reduceLT, decide_true, Nat.reduceBEq, Nat.reduceAdd, IOp.dst, IOp.isF, IOp.args, coolOp, Nat.reduceSub, intervalValid_impl, keyValid_impl]
  repeat' (refine sel_split (fun h => ?_) (fun h => ?_))
  all_goals simp_all [cutOk, cutRet, sel]
def sessionAt (l : List Session) (i : Nat) : Bool := match l[i]? with
  | none => true
  | some s => inR s.client 0 3 && inR s.seq 1 999 && inR s.reply (-2) 999 && (decide (i = 0) || (match l[i - 1]? with
    | some r => decide (r.client < s.client)
    | none => true))
def sessionsValid (l : List Session) : Bool := allF l.length (sessionAt l) 0
theorem sessionsValid_spec (l : List Session) (hn : l.length ≤ 4611686018427387904) : EE F 189 [L 3 (l.map Session.u)] [] = ok1 (B (sessionsValid l)) := by
  rw [R189, b189]
  simp only [↓xP, xQ, xR, flatR, eqCells_ok, eqSh, eqBs, Nat.reduceLT, decide_true, Nat.reduceBEq, Nat.reduceAdd, IOp.dst, IOp.isF, IOp.args, coolOp, Nat.reduceSub]
  refine (loop_ind (fun (i : Nat) st => st.s 0 = DU (.sl 3 (l.map Session.u)) ∧ st.s 3 = DI i) (fun i => l.length - i) (fun i => ok1 (B (allF l.length (sessionAt l) i))) ?_ 0 ⟨by simp only [↓xP, xQ, xR, flatR, eqCells_ok, eqSh, eqBs, Nat.reduceLT, decide_true, Nat.reduceBEq, Nat.reduceAdd, IOp.dst, IOp.isF, IOp.args, coolOp, Nat.reduceSub], by simp only [↓xP, xQ, xR, flatR, eqCells_ok, eqSh, eqBs, Nat.reduceLT, decide_true, Nat.reduceBEq, Nat.reduceAdd, IOp.dst, IOp.isF, IOp.args, coolOp, Nat.reduceSub]; rfl⟩).trans ?_
  · rintro i st ⟨h0, h3⟩ ih
    by_cases hi : i < l.length
    · obtain ⟨⟨c, s, r⟩, hp⟩ : ∃ p, l[i]? = some p := ⟨_, List.getElem?_eq_getElem hi⟩
      have hw := w_succ (i := i) (by omega)
      rw [allF_lt hi]
      by_cases hz : i = 0
      · have h01 : ¬ (0 : Int) < (i : Int) := by omega
        simp only [↓xP, xQ, xR, flatR, eqCells_ok, eqSh, eqBs, Nat.reduceLT, decide_true, Nat.reduceBEq, Nat.reduceAdd, IOp.dst, IOp.isF, IOp.args, coolOp, Nat.reduceSub, h0, h3, hi, hp, hw, h01, Session.u, l1In_ok]
        repeat' (refine sel_split (fun h => ?_) (fun h => ?_))
        all_goals first | (rw [ih (i + 1) _ (by omega) ⟨by simp only [↓xP, xQ, xR, flatR, eqCells_ok, eqSh, eqBs, Nat.reduceLT, decide_true, Nat.reduceBEq, Nat.reduceAdd, IOp.dst, IOp.isF, IOp.args, coolOp, Nat.reduceSub, h0], by simp only [↓xP, xQ, xR, flatR, eqCells_ok, eqSh, eqBs, Nat.reduceLT, decide_true, Nat.reduceBEq, Nat.reduceAdd, IOp.dst, IOp.isF, IOp.args, coolOp, Nat.reduceSub]⟩]; simp_all [sessionAt]; done) | (simp_all [sessionAt]; done)
      · obtain ⟨⟨qc, qs, qr⟩, hq⟩ : ∃ q, l[i - 1]? = some q := ⟨_, List.getElem?_eq_getElem (by omega)⟩
        have hw2 : IntKind.i64.wrap ((i : Int) - 1) = ((i - 1 : Nat) : Int) := by rw [w64 (by omega) (by omega)]; omega
        have h01 : (0 : Int) < (i : Int) := by omega
        simp only [↓xP, xQ, xR, flatR, eqCells_ok, eqSh, eqBs, Nat.reduceLT, decide_true, Nat.reduceBEq, Nat.reduceAdd, IOp.dst, IOp.isF, IOp.args, coolOp, Nat.reduceSub, h0, h3, hi, hp, hw, hw2, hq, h01, Session.u, l1In_ok]
        repeat' (refine sel_split (fun h => ?_) (fun h => ?_))
        all_goals first | (rw [ih (i + 1) _ (by omega) ⟨by simp only [↓xP, xQ, xR, flatR, eqCells_ok, eqSh, eqBs, Nat.reduceLT, decide_true, Nat.reduceBEq, Nat.reduceAdd, IOp.dst, IOp.isF, IOp.args, coolOp, Nat.reduceSub, h0], by simp only [↓xP, xQ, xR, flatR, eqCells_ok, eqSh, eqBs, Nat.reduceLT, decide_true, Nat.reduceBEq, Nat.reduceAdd, IOp.dst, IOp.isF, IOp.args, coolOp, Nat.reduceSub]⟩]; simp_all [sessionAt]; done) | (simp_all [sessionAt]; done) | (simp_all [sessionAt] <;> (intros; omega))
    · simp only [↓xP, xQ, xR, flatR, eqCells_ok, eqSh, eqBs, Nat.reduceLT, decide_true, Nat.reduceBEq, Nat.reduceAdd, IOp.dst, IOp.isF, IOp.args, coolOp, Nat.reduceSub, h0, h3, hi]
      rw [allF_ge hi]
  · rfl
theorem sessionsValid_impl (l : List Session) (hn : l.length ≤ 4611686018427387904) : EE F 144 [L 3 (l.map Session.u)] [] = ok1 (B (sessionsValid l)) := by
  rw [R144, b144]
  simp only [↓xP, xQ, xR, flatR, eqCells_ok, eqSh, eqBs, Nat.reduceLT, decide_true, Nat.reduceBEq, Nat.reduceAdd, IOp.dst, IOp.isF, IOp.args, coolOp, Nat.reduceSub]
  refine (loop_ind (fun (i : Nat) st => st.s 0 = DU (.sl 3 (l.map Session.u)) ∧ st.s 5 = DU (.sl 3 (l.map Session.u)) ∧ st.s 6 = DI l.length ∧ st.s 7 = DI i) (fun i => l.length - i) (fun i => ok1 (B (allF l.length (sessionAt l) i))) ?_ 0 ⟨by simp only [↓xP, xQ, xR, flatR, eqCells_ok, eqSh, eqBs, Nat.reduceLT, decide_true, Nat.reduceBEq, Nat.reduceAdd, IOp.dst, IOp.isF, IOp.args, coolOp, Nat.reduceSub], by simp only [↓xP, xQ, xR, flatR, eqCells_ok, eqSh, eqBs, Nat.reduceLT, decide_true, Nat.reduceBEq, Nat.reduceAdd, IOp.dst, IOp.isF, IOp.args, coolOp, Nat.reduceSub], by simp only [↓xP, xQ, xR, flatR, eqCells_ok, eqSh, eqBs, Nat.reduceLT, decide_true, Nat.reduceBEq, Nat.reduceAdd, IOp.dst, IOp.isF, IOp.args, coolOp, Nat.reduceSub], by simp only [↓xP, xQ, xR, flatR, eqCells_ok, eqSh, eqBs, Nat.reduceLT, decide_true, Nat.reduceBEq, Nat.reduceAdd, IOp.dst, IOp.isF, IOp.args, coolOp, Nat.reduceSub]; rfl⟩).trans ?_
  · rintro i st ⟨h0, h5, h6, h7⟩ ih
    by_cases hi : i < l.length
    · obtain ⟨⟨c, s, r⟩, hp⟩ : ∃ p, l[i]? = some p := ⟨_, List.getElem?_eq_getElem hi⟩
      have hw := w_succ (i := i) (by omega)
      rw [allF_lt hi]
      by_cases hz : i = 0
      · have h01 : ¬ (0 : Int) < (i : Int) := by omega
        simp only [↓xP, xQ, xR, flatR, eqCells_ok, eqSh, eqBs, Nat.reduceLT, decide_true, Nat.reduceBEq, Nat.reduceAdd, IOp.dst, IOp.isF, IOp.args, coolOp, Nat.reduceSub, h0, h5, h6, h7, hi, hp, hw, h01, Session.u, seqValid_ok]
        repeat' (refine sel_split (fun h => ?_) (fun h => ?_))
        all_goals first | (rw [ih (i + 1) _ (by omega) ⟨by simp only [↓xP, xQ, xR, flatR, eqCells_ok, eqSh, eqBs, Nat.reduceLT, decide_true, Nat.reduceBEq, Nat.reduceAdd, IOp.dst, IOp.isF, IOp.args, coolOp, Nat.reduceSub, h0], by simp only [↓xP, xQ, xR, flatR, eqCells_ok, eqSh, eqBs, Nat.reduceLT, decide_true, Nat.reduceBEq, Nat.reduceAdd, IOp.dst, IOp.isF, IOp.args, coolOp, Nat.reduceSub, h5], by simp only [↓xP, xQ, xR, flatR, eqCells_ok, eqSh, eqBs, Nat.reduceLT, decide_true, Nat.reduceBEq, Nat.reduceAdd, IOp.dst, IOp.isF, IOp.args, coolOp, Nat.reduceSub, h6], by simp only [↓xP, xQ, xR, flatR, eqCells_ok, eqSh, eqBs, Nat.reduceLT, decide_true, Nat.reduceBEq, Nat.reduceAdd, IOp.dst, IOp.isF, IOp.args, coolOp, Nat.reduceSub]⟩]; simp_all [sessionAt, inR]; done) | (rw [ih (i + 1) _ (by omega) ⟨by simp only [↓xP, xQ, xR, flatR, eqCells_ok, eqSh, eqBs, Nat.reduceLT, decide_true, Nat.reduceBEq, Nat.reduceAdd, IOp.dst, IOp.isF, IOp.args, coolOp, Nat.reduceSub, h0], by simp only [↓xP, xQ, xR, flatR, eqCells_ok, eqSh, eqBs, Nat.reduceLT, decide_true, Nat.reduceBEq, Nat.reduceAdd, IOp.dst, IOp.isF, IOp.args, coolOp, Nat.reduceSub, h5], by simp only [↓xP, xQ, xR, flatR, eqCells_ok, eqSh, eqBs, Nat.reduceLT, decide_true, Nat.reduceBEq, Nat.reduceAdd, IOp.dst, IOp.isF, IOp.args, coolOp, Nat.reduceSub, h6], by simp only [↓xP, xQ, xR, flatR, eqCells_ok, eqSh, eqBs, Nat.reduceLT, decide_true, Nat.reduceBEq, Nat.reduceAdd, IOp.dst, IOp.isF, IOp.args, coolOp, Nat.reduceSub]⟩]; simp_all [sessionAt, inR] <;> (intros; omega)) | (simp_all [sessionAt, inR]; done) | (simp_all [sessionAt, inR] <;> (intros; omega))
      · obtain ⟨⟨qc, qs, qr⟩, hq⟩ : ∃ q, l[i - 1]? = some q := ⟨_, List.getElem?_eq_getElem (by omega)⟩
        have hw2 : IntKind.i64.wrap ((i : Int) - 1) = ((i - 1 : Nat) : Int) := by rw [w64 (by omega) (by omega)]; omega
        have h01 : (0 : Int) < (i : Int) := by omega
        simp only [↓xP, xQ, xR, flatR, eqCells_ok, eqSh, eqBs, Nat.reduceLT, decide_true, Nat.reduceBEq, Nat.reduceAdd, IOp.dst, IOp.isF, IOp.args, coolOp, Nat.reduceSub, h0, h5, h6, h7, hi, hp, hw, hw2, hq, h01, Session.u, seqValid_ok]
        repeat' (refine sel_split (fun h => ?_) (fun h => ?_))
        all_goals first | (rw [ih (i + 1) _ (by omega) ⟨by simp only [↓xP, xQ, xR, flatR, eqCells_ok, eqSh, eqBs, Nat.reduceLT, decide_true, Nat.reduceBEq, Nat.reduceAdd, IOp.dst, IOp.isF, IOp.args, coolOp, Nat.reduceSub, h0], by simp only [↓xP, xQ, xR, flatR, eqCells_ok, eqSh, eqBs, Nat.reduceLT, decide_true, Nat.reduceBEq, Nat.reduceAdd, IOp.dst, IOp.isF, IOp.args, coolOp, Nat.reduceSub, h5], by simp only [↓xP, xQ, xR, flatR, eqCells_ok, eqSh, eqBs, Nat.reduceLT, decide_true, Nat.reduceBEq, Nat.reduceAdd, IOp.dst, IOp.isF, IOp.args, coolOp, Nat.reduceSub, h6], by simp only [↓xP, xQ, xR, flatR, eqCells_ok, eqSh, eqBs, Nat.reduceLT, decide_true, Nat.reduceBEq, Nat.reduceAdd, IOp.dst, IOp.isF, IOp.args, coolOp, Nat.reduceSub]⟩]; simp_all [sessionAt, inR]; done) | (rw [ih (i + 1) _ (by omega) ⟨by simp only [↓xP, xQ, xR, flatR, eqCells_ok, eqSh, eqBs, Nat.reduceLT, decide_true, Nat.reduceBEq, Nat.reduceAdd, IOp.dst, IOp.isF, IOp.args, coolOp, Nat.reduceSub, h0], by simp only [↓xP, xQ, xR, flatR, eqCells_ok, eqSh, eqBs, Nat.reduceLT, decide_true, Nat.reduceBEq, Nat.reduceAdd, IOp.dst, IOp.isF, IOp.args, coolOp, Nat.reduceSub, h5], by simp only [↓xP, xQ, xR, flatR, eqCells_ok, eqSh, eqBs, Nat.reduceLT, decide_true, Nat.reduceBEq, Nat.reduceAdd, IOp.dst, IOp.isF, IOp.args, coolOp, Nat.reduceSub, h6], by simp only [↓xP, xQ, xR, flatR, eqCells_ok, eqSh, eqBs, Nat.reduceLT, decide_true, Nat.reduceBEq, Nat.reduceAdd, IOp.dst, IOp.isF, IOp.args, coolOp, Nat.reduceSub]⟩]; simp_all [sessionAt, inR] <;> (intros; omega)) | (simp_all [sessionAt, inR]; done) | (simp_all [sessionAt, inR] <;> (intros; omega))
    · simp only [↓xP, xQ, xR, flatR, eqCells_ok, eqSh, eqBs, Nat.reduceLT, decide_true, Nat.reduceBEq, Nat.reduceAdd, IOp.dst, IOp.isF, IOp.args, coolOp, Nat.reduceSub, h0, h5, h6, h7, hi]
      rw [allF_ge hi]
  · rfl
def stateValid (s : State) : Bool := intervalValid s.span && pairsValid s.pairs && sessionsValid s.known && (s.pairs.all fun q => inside s.span q.key) && (decide (s.cut = []) || s.sealed && cutOk s.span s.cut)
theorem pairsValid_len {l : List Pair} (h : pairsValid l = true) : l.length ≤ 48 := by
  simp only [pairsValid, Bool.and_eq_true, decide_eq_true_eq] at h; exact h.1
theorem stateValid_impl (lo hi : Str) (l : List Pair) (k : List Session) (se : Bool) (cut : Str) (hn : k.length ≤ 4611686018427387904) : EE F 71 [.ag [.u (.str lo), .u (.str hi), .u (.sl 2 (l.map Pair.u)), .u (.sl 3 (k.map Session.u)), .u (.bool se), .u (.str cut)]] [] = ok1 (B (stateValid ⟨⟨lo, hi⟩, l, k, se, cut⟩)) := by
  rw [R71, b71]
  simp only [↓xP, xQ, xR, flatR, eqCells_ok, eqSh, eqBs, Nat.reduceLT, decide_true, Nat.reduceBEq, Nat.reduceAdd, IOp.dst, IOp.isF, IOp.args, coolOp, Nat.reduceSub, intervalValid_impl, pairsValid_impl, sessionsValid_impl k hn]
  refine sel_split (fun h => ?_) (fun h => ?_)
  · simp_all [stateValid]
  refine sel_split (fun h2 => ?_) (fun h2 => ?_)
  · simp_all [stateValid]
  refine sel_split (fun h3 => ?_) (fun h3 => ?_)
  · simp_all [stateValid]
  simp only [Bool.not_eq_false'] at h h2 h3
  have hlen := pairsValid_len h2
  refine (loop_ind (fun (i : Nat) st => st.s 1 = .t (.sc (.ptr (.loc 1 0) 0 0)) ∧ st.o (.loc 1 0) = some (.box [.u (.str lo), .u (.str hi), .u (.sl 2 (l.map Pair.u)), .u (.sl 3 (k.map Session.u)), .u (.bool se), .u (.str cut)]) ∧ st.s 25 = DU (.sl 2 (l.map Pair.u)) ∧ st.s 26 = DI l.length ∧ st.s 27 = DI i) (fun i => l.length - i) (fun i => ok1 (B (((l.drop i).all fun q => inside ⟨lo, hi⟩ q.key) && (decide (cut = []) || se && cutOk ⟨lo, hi⟩ cut)))) ?_ 0 ⟨by simp only [↓xP, xQ, xR, flatR, eqCells_ok, eqSh, eqBs, Nat.reduceLT, decide_true, Nat.reduceBEq, Nat.reduceAdd, IOp.dst, IOp.isF, IOp.args, coolOp, Nat.reduceSub], by simp only [↓xP, xQ, xR, flatR, eqCells_ok, eqSh, eqBs, Nat.reduceLT, decide_true, Nat.reduceBEq, Nat.reduceAdd, IOp.dst, IOp.isF, IOp.args, coolOp, Nat.reduceSub], by simp only [↓xP, xQ, xR, flatR, eqCells_ok, eqSh, eqBs, Nat.reduceLT, decide_true, Nat.reduceBEq, Nat.reduceAdd, IOp.dst, IOp.isF, IOp.args, coolOp, Nat.reduceSub], by simp only [↓xP, xQ, xR, flatR, eqCells_ok, eqSh, eqBs, Nat.reduceLT, decide_true, Nat.reduceBEq, Nat.reduceAdd, IOp.dst, IOp.isF, IOp.args, coolOp, Nat.reduceSub], by simp only [↓xP, xQ, xR, flatR, eqCells_ok, eqSh, eqBs, Nat.reduceLT, decide_true, Nat.reduceBEq, Nat.reduceAdd, IOp.dst, IOp.isF, IOp.args, coolOp, Nat.reduceSub]; rfl⟩).trans ?_
  · rintro i st ⟨h1, ho, h25, h26, h27⟩ ih
    by_cases hi' : i < l.length
    · obtain ⟨⟨pk, pv⟩, hp⟩ : ∃ p, l[i]? = some p := ⟨_, List.getElem?_eq_getElem hi'⟩
      have hd : l.drop i = ⟨pk, pv⟩ :: l.drop (i + 1) := by rw [List.drop_eq_getElem_cons hi', (List.getElem?_eq_some_iff.1 hp).2]
      have hw := w_succ (i := i) (by omega)
      simp only [↓xP, xQ, xR, flatR, eqCells_ok, eqSh, eqBs, Nat.reduceLT, decide_true, Nat.reduceBEq, Nat.reduceAdd, IOp.dst, IOp.isF, IOp.args, coolOp, Nat.reduceSub, h1, ho, h25, h26, h27, hi', hp, hw, Pair.u, inside_ok]
      rw [hd]
      refine sel_split (fun h => ?_) (fun h => ?_)
      · simp_all
      · rw [ih (i + 1) _ (by omega) ⟨by simp only [↓xP, xQ, xR, flatR, eqCells_ok, eqSh, eqBs, Nat.reduceLT, decide_true, Nat.reduceBEq, Nat.reduceAdd, IOp.dst, IOp.isF, IOp.args, coolOp, Nat.reduceSub, h1], by simp only [↓xP, xQ, xR, flatR, eqCells_ok, eqSh, eqBs, Nat.reduceLT, decide_true, Nat.reduceBEq, Nat.reduceAdd, IOp.dst, IOp.isF, IOp.args, coolOp, Nat.reduceSub, ho], by simp only [↓xP, xQ, xR, flatR, eqCells_ok, eqSh, eqBs, Nat.reduceLT, decide_true, Nat.reduceBEq, Nat.reduceAdd, IOp.dst, IOp.isF, IOp.args, coolOp, Nat.reduceSub, h25], by simp only [↓xP, xQ, xR, flatR, eqCells_ok, eqSh, eqBs, Nat.reduceLT, decide_true, Nat.reduceBEq, Nat.reduceAdd, IOp.dst, IOp.isF, IOp.args, coolOp, Nat.reduceSub, h26], by simp only [↓xP, xQ, xR, flatR, eqCells_ok, eqSh, eqBs, Nat.reduceLT, decide_true, Nat.reduceBEq, Nat.reduceAdd, IOp.dst, IOp.isF, IOp.args, coolOp, Nat.reduceSub]⟩]
        simp_all
    · simp only [↓xP, xQ, xR, flatR, eqCells_ok, eqSh, eqBs, Nat.reduceLT, decide_true, Nat.reduceBEq, Nat.reduceAdd, IOp.dst, IOp.isF, IOp.args, coolOp, Nat.reduceSub, h1, ho, h25, h26, h27, hi', intervalCut_impl]
      rw [List.drop_of_length_le (by omega)]
      refine sel_split (fun h => ?_) (fun h => ?_)
      · simp_all
      cases hc : cutOk ⟨lo, hi⟩ cut <;> simp only [↓xP, xQ, xR, flatR, eqCells_ok, eqSh, eqBs, Nat.reduceLT, decide_true, Nat.reduceBEq, Nat.reduceAdd, IOp.dst, IOp.isF, IOp.args, coolOp, Nat.reduceSub, cutRet, hc, h1, ho]
      all_goals repeat' (refine sel_split (fun h => ?_) (fun h => ?_))
      all_goals simp_all
  · simp [stateValid, h, h2, h3]
theorem stateValid_spec (lo hi : Str) (l : List Pair) (k : List Session) (se : Bool) (cut : Str) (hn : k.length ≤ 4611686018427387904) : EE F 125 [.ag [.u (.str lo), .u (.str hi), .u (.sl 2 (l.map Pair.u)), .u (.sl 3 (k.map Session.u)), .u (.bool se), .u (.str cut)]] [] = ok1 (B (stateValid ⟨⟨lo, hi⟩, l, k, se, cut⟩)) := by
  rw [R125, b125]
  simp only [↓xP, xQ, xR, flatR, eqCells_ok, eqSh, eqBs, Nat.reduceLT, decide_true, Nat.reduceBEq, Nat.reduceAdd, IOp.dst, IOp.isF, IOp.args, coolOp, Nat.reduceSub, intervalValid_spec, pairsValid_spec, sessionsValid_spec k hn]
  refine sel_split (fun h => ?_) (fun h => ?_)
  · simp_all [stateValid]
  refine sel_split (fun h2 => ?_) (fun h2 => ?_)
  · simp_all [stateValid]
  refine sel_split (fun h3 => ?_) (fun h3 => ?_)
  · simp_all [stateValid]
  simp only [Bool.not_eq_false'] at h h2 h3
  have hlen := pairsValid_len h2
  refine (loop_ind (fun (i : Nat) st => st.s 1 = .t (.sc (.ptr (.loc 1 0) 0 0)) ∧ st.o (.loc 1 0) = some (.box [.u (.str lo), .u (.str hi), .u (.sl 2 (l.map Pair.u)), .u (.sl 3 (k.map Session.u)), .u (.bool se), .u (.str cut)]) ∧ st.s 3 = DI i) (fun i => l.length - i) (fun i => ok1 (B (((l.drop i).all fun q => inside ⟨lo, hi⟩ q.key) && (decide (cut = []) || se && cutOk ⟨lo, hi⟩ cut)))) ?_ 0 ⟨by simp only [↓xP, xQ, xR, flatR, eqCells_ok, eqSh, eqBs, Nat.reduceLT, decide_true, Nat.reduceBEq, Nat.reduceAdd, IOp.dst, IOp.isF, IOp.args, coolOp, Nat.reduceSub], by simp only [↓xP, xQ, xR, flatR, eqCells_ok, eqSh, eqBs, Nat.reduceLT, decide_true, Nat.reduceBEq, Nat.reduceAdd, IOp.dst, IOp.isF, IOp.args, coolOp, Nat.reduceSub], by simp only [↓xP, xQ, xR, flatR, eqCells_ok, eqSh, eqBs, Nat.reduceLT, decide_true, Nat.reduceBEq, Nat.reduceAdd, IOp.dst, IOp.isF, IOp.args, coolOp, Nat.reduceSub]; rfl⟩).trans ?_
  · rintro i st ⟨h1, ho, h3'⟩ ih
    by_cases hi' : i < l.length
    · obtain ⟨⟨pk, pv⟩, hp⟩ : ∃ p, l[i]? = some p := ⟨_, List.getElem?_eq_getElem hi'⟩
      have hd : l.drop i = ⟨pk, pv⟩ :: l.drop (i + 1) := by rw [List.drop_eq_getElem_cons hi', (List.getElem?_eq_some_iff.1 hp).2]
      have hw := w_succ (i := i) (by omega)
      have hk := (pairsValid_at h2 hp).1
      simp only [↓xP, xQ, xR, flatR, eqCells_ok, eqSh, eqBs, Nat.reduceLT, decide_true, Nat.reduceBEq, Nat.reduceAdd, IOp.dst, IOp.isF, IOp.args, coolOp, Nat.reduceSub, h1, ho, h3', hi', hp, hw, Pair.u, intervalHas_spec]
      rw [hd]
      refine sel_split (fun h => ?_) (fun h => ?_)
      · simp_all [intervalHas]
      · rw [ih (i + 1) _ (by omega) ⟨by simp only [↓xP, xQ, xR, flatR, eqCells_ok, eqSh, eqBs, Nat.reduceLT, decide_true, Nat.reduceBEq, Nat.reduceAdd, IOp.dst, IOp.isF, IOp.args, coolOp, Nat.reduceSub, h1], by simp only [↓xP, xQ, xR, flatR, eqCells_ok, eqSh, eqBs, Nat.reduceLT, decide_true, Nat.reduceBEq, Nat.reduceAdd, IOp.dst, IOp.isF, IOp.args, coolOp, Nat.reduceSub, ho], by simp only [↓xP, xQ, xR, flatR, eqCells_ok, eqSh, eqBs, Nat.reduceLT, decide_true, Nat.reduceBEq, Nat.reduceAdd, IOp.dst, IOp.isF, IOp.args, coolOp, Nat.reduceSub]⟩]
        simp_all [intervalHas]
    · simp only [↓xP, xQ, xR, flatR, eqCells_ok, eqSh, eqBs, Nat.reduceLT, decide_true, Nat.reduceBEq, Nat.reduceAdd, IOp.dst, IOp.isF, IOp.args, coolOp, Nat.reduceSub, h1, ho, h3', hi', intervalCut_spec]
      rw [List.drop_of_length_le (by omega)]
      cases hc : cutOk ⟨lo, hi⟩ cut <;> simp only [↓xP, xQ, xR, flatR, eqCells_ok, eqSh, eqBs, Nat.reduceLT, decide_true, Nat.reduceBEq, Nat.reduceAdd, IOp.dst, IOp.isF, IOp.args, coolOp, Nat.reduceSub, cutRet, hc, h1, ho]
      all_goals repeat' (refine sel_split (fun h => ?_) (fun h => ?_))
      all_goals simp_all
  · simp [stateValid, h, h2, h3]
def digs (k : Nat) (o : Str) : Str := if h : k = 0 then o else digs (k / 10) (UInt8.ofNat (IntKind.u8.wrap (IntKind.i64.wrap (48 + (k : Int).tmod 10))).toNat :: o)
termination_by k
decreasing_by omega
def mtext (K : Int) : Str := 109 :: digs K.toNat []
theorem markText_ok (K : Int) (h0 : 1 ≤ K) (h1 : K ≤ 4611686018427387904) : EE F 115 [I K] [] = ok1 (S (mtext K)) := by
  rw [R115, b115]
  have hk : ¬ K ≤ 0 := by omega
  obtain ⟨k, rfl⟩ : ∃ k : Nat, K = k := ⟨K.toNat, by omega⟩
  simp only [↓xP, xQ, xR, flatR, eqCells_ok, eqSh, eqBs, Nat.reduceLT, decide_true, Nat.reduceBEq, Nat.reduceAdd, IOp.dst, IOp.isF, IOp.args, coolOp, Nat.reduceSub, hk]
  refine (loop_ind (fun (a : Nat × Str) st => a.2.length + a.1 ≤ 4611686018427387904 ∧ st.s 0 = DI (a.1 : Int) ∧ st.s 3 = DS a.2) (fun a => a.1) (fun a => ok1 (S (109 :: digs a.1 a.2))) ?_ (k, []) ⟨by simp; omega, by simp only [↓xP, xQ, xR, flatR, eqCells_ok, eqSh, eqBs, Nat.reduceLT, decide_true, Nat.reduceBEq, Nat.reduceAdd, IOp.dst, IOp.isF, IOp.args, coolOp, Nat.reduceSub], by simp only [↓xP, xQ, xR, flatR, eqCells_ok, eqSh, eqBs, Nat.reduceLT, decide_true, Nat.reduceBEq, Nat.reduceAdd, IOp.dst, IOp.isF, IOp.args, coolOp, Nat.reduceSub]⟩).trans ?_
  · rintro ⟨k, o⟩ st ⟨hl, h0, h3⟩ ih
    dsimp only at hl h0 h3 ih ⊢
    rw [digs]
    by_cases hz : k = 0
    · subst hz
      have hlen : 1 + o.length ≤ 9223372036854775807 := by omega
      rw [dif_pos rfl]
      have hno : ¬ (0 : Int) < ((0 : Nat) : Int) := by omega
      simp only [↓xP, xQ, xR, flatR, eqCells_ok, eqSh, eqBs, Nat.reduceLT, decide_true, Nat.reduceBEq, Nat.reduceAdd, IOp.dst, IOp.isF, IOp.args, coolOp, Nat.reduceSub, h0, h3, hno, hlen]
    · have hyes : (0 : Int) < (k : Int) := by omega
      have hq : IntKind.i64.wrap ((k : Int).tdiv 10) = ((k / 10 : Nat) : Int) := by
        have : (k : Int).tdiv 10 = ((k / 10 : Nat) : Int) := by rw [Int.tdiv_eq_ediv_of_nonneg (by omega)]; rfl
        rw [this, w64 (by omega) (by omega)]
      have hle : 1 + o.length ≤ 9223372036854775807 := by omega
      have h10 : ¬ (10 : Int) = 0 := by omega
      simp only [↓xP, xQ, xR, flatR, eqCells_ok, eqSh, eqBs, Nat.reduceLT, decide_true, Nat.reduceBEq, Nat.reduceAdd, IOp.dst, IOp.isF, IOp.args, coolOp, Nat.reduceSub, h0, h3, hyes, hq, hle, h10]
      rw [dif_neg hz]
      refine ih (k / 10, _) _ (by dsimp only; omega) ⟨?_, ?_, ?_⟩
      · simp only [List.length_cons]; omega
      · simp only [↓xP, xQ, xR, flatR, eqCells_ok, eqSh, eqBs, Nat.reduceLT, decide_true, Nat.reduceBEq, Nat.reduceAdd, IOp.dst, IOp.isF, IOp.args, coolOp, Nat.reduceSub]
      · simp only [↓xP, xQ, xR, flatR, eqCells_ok, eqSh, eqBs, Nat.reduceLT, decide_true, Nat.reduceBEq, Nat.reduceAdd, IOp.dst, IOp.isF, IOp.args, coolOp, Nat.reduceSub]
  · simp [mtext]
def mkL {α : Type} (f : Int → α) (w : Int) (K : Int) (n : Nat) : List α := (List.range n).map fun (i : Nat) => f (K + w * (i : Int))
theorem mkL_len {α : Type} (f : Int → α) (w K : Int) (n : Nat) : (mkL f w K n).length = n := by simp [mkL]
theorem mkL_take {α : Type} (u : α → List U) (f : Int → α) (w K : Int) (n : Nat) : List.take n (List.map u (mkL f w K n)) = List.map u (mkL f w K n) := List.take_of_length_le (by simp [mkL_len])
theorem mkL_get {α : Type} (f : Int → α) (w K : Int) {n i : Nat} (h : i < n) : (mkL f w K n)[i]? = some (f (K + w * i)) := by simp [mkL, List.getElem?_map, List.getElem?_range h]
theorem mk_get {α β : Type} {u : α → β} {f : Int → α} {w K : Int} {l : List α} {i : Nat} {x : α} (h : l[i]? = some x) : ((mkL f w K i ++ l.drop i).map u)[i]? = some (u x) := by
  rw [List.getElem?_map, List.getElem?_append_right (by simp [mkL_len]), mkL_len, List.getElem?_drop]
  simp [h]
theorem mk_set {α β : Type} {u : α → β} {f : Int → α} {w K : Int} {l : List α} {i : Nat} {x : α} (h : l[i]? = some x) : ((mkL f w K i ++ l.drop i).map u).set i (u (f (K + w * i))) = (mkL f w K (i + 1) ++ l.drop (i + 1)).map u := by
  have hi := (List.getElem?_eq_some_iff.1 h).1
  have e : mkL f w K (i + 1) = mkL f w K i ++ [f (K + w * i)] := by simp [mkL, List.range_succ]
  rw [← List.map_set, List.set_append_right _ _ (by simp [mkL_len]), mkL_len, Nat.sub_self, List.drop_eq_getElem_cons hi, List.set_cons_zero, e, List.append_assoc]
  rfl
theorem get_set {α : Type} (r : List α) (i : Nat) (h : i < r.length) (c : α) : (r.set i c)[i]? = some c := by simp [h]
theorem DI_eq {a b : Int} (h : a = b) : DI a = DI b := by rw [h]

def mkPair (K : Int) : Pair := ⟨(mtext (K)), (K + 1)⟩
theorem markPairS_ok (l : List Pair) (K : Int) (h1 : 1 ≤ K) (h2 : K + 2 * l.length ≤ 4611686018427387904) : EE F 46 [.sc (.own (.par 0) l.length), I K] [.row 2 (l.map Pair.u)] = some ⟨[I (K + 2 * l.length)], [], [.row 2 ((mkL mkPair 2 K l.length).map Pair.u)]⟩ := by
  refine (EE_run (fn := i46) (by kernel_rfl) rfl).trans ?_
  simp only [i46, b46, argSt, insSt, List.length_cons, List.length_nil]
  simp only [↓xP, xQ, xR, flatR, eqCells_ok, eqSh, eqBs, Nat.reduceLT, decide_true, Nat.reduceBEq, Nat.reduceAdd, IOp.dst, IOp.isF, IOp.args, coolOp, Nat.reduceSub]
  refine (loop_ind (fun (i : Nat) st => i ≤ l.length ∧ st.s 0 = .t (.sc (.own (.par 0) l.length)) ∧ st.s 5 = DI i ∧ st.s 1 = DI (K + 2 * i) ∧ st.o (.par 0) = some (.row 2 ((mkL mkPair 2 K i ++ l.drop i).map Pair.u))) (fun i => l.length - i) (fun i => some ⟨[I (K + 2 * l.length)], [], [.row 2 ((mkL mkPair 2 K l.length).map Pair.u)]⟩) ?_ 0 ⟨by omega, by simp only [↓xP, xQ, xR, flatR, eqCells_ok, eqSh, eqBs, Nat.reduceLT, decide_true, Nat.reduceBEq, Nat.reduceAdd, IOp.dst, IOp.isF, IOp.args, coolOp, Nat.reduceSub], by simp only [↓xP, xQ, xR, flatR, eqCells_ok, eqSh, eqBs, Nat.reduceLT, decide_true, Nat.reduceBEq, Nat.reduceAdd, IOp.dst, IOp.isF, IOp.args, coolOp, Nat.reduceSub]; rfl, by simp only [↓xP, xQ, xR, flatR, eqCells_ok, eqSh, eqBs, Nat.reduceLT, decide_true, Nat.reduceBEq, Nat.reduceAdd, IOp.dst, IOp.isF, IOp.args, coolOp, Nat.reduceSub]; exact DI_eq (by omega), by simp only [↓xP, xQ, xR, flatR, eqCells_ok, eqSh, eqBs, Nat.reduceLT, decide_true, Nat.reduceBEq, Nat.reduceAdd, IOp.dst, IOp.isF, IOp.args, coolOp, Nat.reduceSub]; simp [mkL]⟩).trans rfl
  rintro i st ⟨hle, h0, h5, h1', ho⟩ ih
  by_cases hi : i < l.length
  · obtain ⟨x, hx⟩ : ∃ x, l[i]? = some x := ⟨_, List.getElem?_eq_getElem hi⟩
    have hw := w_succ (i := i) (by omega)
    have hg := mk_get (u := Pair.u) (f := mkPair) (w := 2) (K := K) hx
    have hf := mk_set (u := Pair.u) (f := mkPair) (w := 2) (K := K) hx
    have hlen : i < ((mkL mkPair 2 K i ++ l.drop i).map Pair.u).length := by simp [mkL_len]; omega
    have hk1 : 1 ≤ K + 2 * (i : Int) := by omega
    have hk2 : K + 2 * (i : Int) + 2 ≤ 4611686018427387904 := by omega
    have hn : K + 2 * ((i + 1 : Nat) : Int) = K + 2 * (i : Int) + 2 := by omega
    generalize (mkL mkPair 2 K i ++ l.drop i).map Pair.u = r at hg hf hlen ho
    obtain ⟨K', hK⟩ : ∃ K', K' = K + 2 * (i : Int) := ⟨_, rfl⟩
    rw [← hK] at h1' hf hn hk1 hk2
    obtain ⟨c1, c2⟩ := x
    simp only [Pair.u, mkPair] at hg hf
    have hgs := get_set r i hlen
    have hw0 : IntKind.i64.wrap (K' + 1) = K' + 1 := by rw [w64 (by omega) (by omega)]
    have hw1 : IntKind.i64.wrap (K' + 1 + 1) = K' + 1 + 1 := by rw [w64 (by omega) (by omega)]
    have mt0 := markText_ok (K') (by omega) (by omega)
    simp only [↓xP, xQ, xR, flatR, eqCells_ok, eqSh, eqBs, Nat.reduceLT, decide_true, Nat.reduceBEq, Nat.reduceAdd, IOp.dst, IOp.isF, IOp.args, coolOp, Nat.reduceSub, h0, h5, h1', ho, hi, hg, hgs, List.set_set, hw, hf, hw0, hw1, mt0]
    exact ih (i + 1) _ (by omega) ⟨by omega, by simp only [↓xP, xQ, xR, flatR, eqCells_ok, eqSh, eqBs, Nat.reduceLT, decide_true, Nat.reduceBEq, Nat.reduceAdd, IOp.dst, IOp.isF, IOp.args, coolOp, Nat.reduceSub, h0], by simp only [↓xP, xQ, xR, flatR, eqCells_ok, eqSh, eqBs, Nat.reduceLT, decide_true, Nat.reduceBEq, Nat.reduceAdd, IOp.dst, IOp.isF, IOp.args, coolOp, Nat.reduceSub], by simp only [↓xP, xQ, xR, flatR, eqCells_ok, eqSh, eqBs, Nat.reduceLT, decide_true, Nat.reduceBEq, Nat.reduceAdd, IOp.dst, IOp.isF, IOp.args, coolOp, Nat.reduceSub]; exact DI_eq (by omega), by simp only [↓xP, xQ, xR, flatR, eqCells_ok, eqSh, eqBs, Nat.reduceLT, decide_true, Nat.reduceBEq, Nat.reduceAdd, IOp.dst, IOp.isF, IOp.args, coolOp, Nat.reduceSub]⟩
  · have : i = l.length := by omega
    subst this
    simp only [↓xP, xQ, xR, flatR, eqCells_ok, eqSh, eqBs, Nat.reduceLT, decide_true, Nat.reduceBEq, Nat.reduceAdd, IOp.dst, IOp.isF, IOp.args, coolOp, Nat.reduceSub, h0, h5, h1', ho, hi, List.drop_length, List.append_nil, List.length_map, mkL_len]
def mkSession (K : Int) : Session := ⟨(K), (K + 1), (K + 1 + 1)⟩
theorem markSessionS_ok (l : List Session) (K : Int) (h1 : 1 ≤ K) (h2 : K + 3 * l.length ≤ 4611686018427387904) : EE F 132 [.sc (.own (.par 0) l.length), I K] [.row 3 (l.map Session.u)] = some ⟨[I (K + 3 * l.length)], [], [.row 3 ((mkL mkSession 3 K l.length).map Session.u)]⟩ := by
  refine (EE_run (fn := i132) (by kernel_rfl) rfl).trans ?_
  simp only [i132, b132, argSt, insSt, List.length_cons, List.length_nil]
  simp only [↓xP, xQ, xR, flatR, eqCells_ok, eqSh, eqBs, Nat.reduceLT, decide_true, Nat.reduceBEq, Nat.reduceAdd, IOp.dst, IOp.isF, IOp.args, coolOp, Nat.reduceSub]
  refine (loop_ind (fun (i : Nat) st => i ≤ l.length ∧ st.s 0 = .t (.sc (.own (.par 0) l.length)) ∧ st.s 5 = DI i ∧ st.s 1 = DI (K + 3 * i) ∧ st.o (.par 0) = some (.row 3 ((mkL mkSession 3 K i ++ l.drop i).map Session.u))) (fun i => l.length - i) (fun i => some ⟨[I (K + 3 * l.length)], [], [.row 3 ((mkL mkSession 3 K l.length).map Session.u)]⟩) ?_ 0 ⟨by omega, by simp only [↓xP, xQ, xR, flatR, eqCells_ok, eqSh, eqBs, Nat.reduceLT, decide_true, Nat.reduceBEq, Nat.reduceAdd, IOp.dst, IOp.isF, IOp.args, coolOp, Nat.reduceSub], by simp only [↓xP, xQ, xR, flatR, eqCells_ok, eqSh, eqBs, Nat.reduceLT, decide_true, Nat.reduceBEq, Nat.reduceAdd, IOp.dst, IOp.isF, IOp.args, coolOp, Nat.reduceSub]; rfl, by simp only [↓xP, xQ, xR, flatR, eqCells_ok, eqSh, eqBs, Nat.reduceLT, decide_true, Nat.reduceBEq, Nat.reduceAdd, IOp.dst, IOp.isF, IOp.args, coolOp, Nat.reduceSub]; exact DI_eq (by omega), by simp only [↓xP, xQ, xR, flatR, eqCells_ok, eqSh, eqBs, Nat.reduceLT, decide_true, Nat.reduceBEq, Nat.reduceAdd, IOp.dst, IOp.isF, IOp.args, coolOp, Nat.reduceSub]; simp [mkL]⟩).trans rfl
  rintro i st ⟨hle, h0, h5, h1', ho⟩ ih
  by_cases hi : i < l.length
  · obtain ⟨x, hx⟩ : ∃ x, l[i]? = some x := ⟨_, List.getElem?_eq_getElem hi⟩
    have hw := w_succ (i := i) (by omega)
    have hg := mk_get (u := Session.u) (f := mkSession) (w := 3) (K := K) hx
    have hf := mk_set (u := Session.u) (f := mkSession) (w := 3) (K := K) hx
    have hlen : i < ((mkL mkSession 3 K i ++ l.drop i).map Session.u).length := by simp [mkL_len]; omega
    have hk1 : 1 ≤ K + 3 * (i : Int) := by omega
    have hk2 : K + 3 * (i : Int) + 3 ≤ 4611686018427387904 := by omega
    have hn : K + 3 * ((i + 1 : Nat) : Int) = K + 3 * (i : Int) + 3 := by omega
    generalize (mkL mkSession 3 K i ++ l.drop i).map Session.u = r at hg hf hlen ho
    obtain ⟨K', hK⟩ : ∃ K', K' = K + 3 * (i : Int) := ⟨_, rfl⟩
    rw [← hK] at h1' hf hn hk1 hk2
    obtain ⟨c1, c2, c3⟩ := x
    simp only [Session.u, mkSession] at hg hf
    have hgs := get_set r i hlen
    have hw0 : IntKind.i64.wrap (K' + 1) = K' + 1 := by rw [w64 (by omega) (by omega)]
    have hw1 : IntKind.i64.wrap (K' + 1 + 1) = K' + 1 + 1 := by rw [w64 (by omega) (by omega)]
    have hw2 : IntKind.i64.wrap (K' + 1 + 1 + 1) = K' + 1 + 1 + 1 := by rw [w64 (by omega) (by omega)]
    simp only [↓xP, xQ, xR, flatR, eqCells_ok, eqSh, eqBs, Nat.reduceLT, decide_true, Nat.reduceBEq, Nat.reduceAdd, IOp.dst, IOp.isF, IOp.args, coolOp, Nat.reduceSub, h0, h5, h1', ho, hi, hg, hgs, List.set_set, hw, hf, hw0, hw1, hw2]
    exact ih (i + 1) _ (by omega) ⟨by omega, by simp only [↓xP, xQ, xR, flatR, eqCells_ok, eqSh, eqBs, Nat.reduceLT, decide_true, Nat.reduceBEq, Nat.reduceAdd, IOp.dst, IOp.isF, IOp.args, coolOp, Nat.reduceSub, h0], by simp only [↓xP, xQ, xR, flatR, eqCells_ok, eqSh, eqBs, Nat.reduceLT, decide_true, Nat.reduceBEq, Nat.reduceAdd, IOp.dst, IOp.isF, IOp.args, coolOp, Nat.reduceSub], by simp only [↓xP, xQ, xR, flatR, eqCells_ok, eqSh, eqBs, Nat.reduceLT, decide_true, Nat.reduceBEq, Nat.reduceAdd, IOp.dst, IOp.isF, IOp.args, coolOp, Nat.reduceSub]; exact DI_eq (by omega), by simp only [↓xP, xQ, xR, flatR, eqCells_ok, eqSh, eqBs, Nat.reduceLT, decide_true, Nat.reduceBEq, Nat.reduceAdd, IOp.dst, IOp.isF, IOp.args, coolOp, Nat.reduceSub]⟩
  · have : i = l.length := by omega
    subst this
    simp only [↓xP, xQ, xR, flatR, eqCells_ok, eqSh, eqBs, Nat.reduceLT, decide_true, Nat.reduceBEq, Nat.reduceAdd, IOp.dst, IOp.isF, IOp.args, coolOp, Nat.reduceSub, h0, h5, h1', ho, hi, List.drop_length, List.append_nil, List.length_map, mkL_len]
def cmpS (a b : Str) : Int := if strLt a b = true then -1 else if strLt b a = true then 1 else 0
theorem isNaN_s (s : Str) : EE F 215 [S s] [] = ok1 (B false) := by
  rw [R215, b215]
  simp only [↓xP, xQ, xR, flatR, eqCells_ok, eqSh, eqBs, Nat.reduceLT, decide_true, Nat.reduceBEq, Nat.reduceAdd, IOp.dst, IOp.isF, IOp.args, coolOp, Nat.reduceSub, ne_eq, not_true_eq_false, decide_false]
theorem compare_s (a b : Str) : EE F 187 [S a, S b] [] = ok1 (I (cmpS a b)) := by
  rw [R187, b187]
  simp only [↓xP, xQ, xR, flatR, eqCells_ok, eqSh, eqBs, Nat.reduceLT, decide_true, Nat.reduceBEq, Nat.reduceAdd, IOp.dst, IOp.isF, IOp.args, coolOp, Nat.reduceSub, isNaN_s, le_iff]
  repeat' (refine sel_split (fun h => ?_) (fun h => ?_))
  all_goals simp_all [cmpS]
theorem pairCmp (p : Str) (v : Int) (key : Str) : EE F 186 [.ag [.u (.str p), .u (.int .i64 v)], S key] [] = ok1 (I (cmpS p key)) := by
  rw [R186, b186]
  simp only [↓xP, xQ, xR, flatR, eqCells_ok, eqSh, eqBs, Nat.reduceLT, decide_true, Nat.reduceBEq, Nat.reduceAdd, IOp.dst, IOp.isF, IOp.args, coolOp, Nat.reduceSub, compare_s]
def place (key : Str) : List Pair → Nat
  | [] => 0
  | p :: l => if strLt p.key key = true then place key l + 1 else 0
theorem place_le (key : Str) : ∀ l, place key l ≤ l.length
  | [] => Nat.le_refl _
  | p :: l => by simp only [place]; split; simpa using place_le key l; simp
theorem place_eq (key : Str) : ∀ (l : List Pair) (i : Nat), i ≤ l.length → (∀ t p, t < i → l[t]? = some p → strLt p.key key = true) → (∀ p, l[i]? = some p → strLt p.key key = false) → place key l = i
  | [], i, hi, _, _ => by simp at hi; simp [place, hi]
  | p :: l, 0, _, _, h2 => by simp [place, h2 p rfl]
  | p :: l, i + 1, hi, h1, h2 => by
    have := h1 0 p (by omega) rfl
    simp only [place, this, if_true]
    rw [place_eq key l i (by simpa using hi) (fun t q ht hq => h1 (t + 1) q (by omega) hq) (fun q hq => h2 q hq)]
/-- The keys ascend. -/
def Asc (l : List Pair) : Prop := ∀ (s t : Nat) p q, s < t → l[s]? = some p → l[t]? = some q → strLt p.key q.key = true
theorem asc_of {l : List Pair} (h : pairsValid l = true) : Asc l := by
  have hc : ∀ (t : Nat) p q, l[t]? = some p → l[t + 1]? = some q → strLt p.key q.key = true := by
    intro t p q hp hq
    simp only [pairsValid, Bool.and_eq_true, decide_eq_true_eq] at h
    have := (allF_iff _ 0 rfl).1 h.2 (t + 1) (by omega) (List.getElem?_eq_some_iff.1 hq).1
    simp only [pairAt, hq, Nat.add_sub_cancel, hp] at this
    simp_all
  intro s t p q hst hp hq
  induction t generalizing q with
  | zero => omega
  | succ t ih =>
    obtain ⟨r, hr⟩ : ∃ r, l[t]? = some r := ⟨_, List.getElem?_eq_getElem (by have := (List.getElem?_eq_some_iff.1 hq).1; omega)⟩
    by_cases e : s = t
    · subst e; exact hc _ _ _ hp hq
    · exact lt_trans (ih r (by omega) hr) (hc _ _ _ hr hq)
theorem mid64 {i j : Nat} (h : i + j < 9223372036854775808) : IntKind.i64.wrap ((IntKind.u64.wrap (IntKind.i64.wrap ((i : Int) + (j : Int)))).fdiv (2 ^ min (Int.toNat 1) IntKind.u64.bits)) = (((i + j) / 2 : Nat) : Int) := by
  rw [show (2 : Int) ^ min (Int.toNat 1) IntKind.u64.bits = 2 from rfl]
  rw [show IntKind.i64.wrap ((i : Int) + (j : Int)) = (i : Int) + j from w64 (by omega) (by omega)]
  have : IntKind.u64.wrap ((i : Int) + j) = (i : Int) + j := by rw [IntKind.wrap_u64]; omega
  rw [this, Int.fdiv_eq_ediv_of_nonneg _ (by omega), w64 (by omega) (by omega)]
  omega
def found (key : Str) (l : List Pair) : Bool := match l[place key l]? with
  | some p => decide (p.key = key)
  | none => false
theorem search_ok (l : List Pair) (key : Str) (ha : Asc l) (hn : l.length ≤ 1048576) : EE F 185 [L 2 (l.map Pair.u), S key, .sc (.u (.fn 186 []))] [] = some ⟨[I (place key l), B (found key l)], [], []⟩ := by
  rw [R185, b185]
  simp only [↓xP, xQ, xR, flatR, eqCells_ok, eqSh, eqBs, Nat.reduceLT, decide_true, Nat.reduceBEq, Nat.reduceAdd, IOp.dst, IOp.isF, IOp.args, coolOp, Nat.reduceSub]
  refine (loop_ind (fun (a : Nat × Nat) st => a.1 ≤ a.2 ∧ a.2 ≤ l.length ∧ (∀ t p, t < a.1 → l[t]? = some p → strLt p.key key = true) ∧ (∀ t p, a.2 ≤ t → l[t]? = some p → strLt p.key key = false) ∧
    st.s 0 = DU (.sl 2 (l.map Pair.u)) ∧ st.s 1 = DS key ∧ st.s 2 = .t (.sc (.u (.fn 186 []))) ∧ st.s 8 = DI l.length ∧ st.s 9 = DI a.1 ∧ st.s 10 = DI a.2) (fun a => a.2 - a.1) (fun a => some ⟨[I (place key l), B (found key l)], [], []⟩) ?_ (0, l.length) ⟨by omega, by dsimp only; omega, by omega, ?_, by simp only [↓xP, xQ, xR, flatR, eqCells_ok, eqSh, eqBs, Nat.reduceLT, decide_true, Nat.reduceBEq, Nat.reduceAdd, IOp.dst, IOp.isF, IOp.args, coolOp, Nat.reduceSub], by simp only [↓xP, xQ, xR, flatR, eqCells_ok, eqSh, eqBs, Nat.reduceLT, decide_true, Nat.reduceBEq, Nat.reduceAdd, IOp.dst, IOp.isF, IOp.args, coolOp, Nat.reduceSub], by simp only [↓xP, xQ, xR, flatR, eqCells_ok, eqSh, eqBs, Nat.reduceLT, decide_true, Nat.reduceBEq, Nat.reduceAdd, IOp.dst, IOp.isF, IOp.args, coolOp, Nat.reduceSub], by simp only [↓xP, xQ, xR, flatR, eqCells_ok, eqSh, eqBs, Nat.reduceLT, decide_true, Nat.reduceBEq, Nat.reduceAdd, IOp.dst, IOp.isF, IOp.args, coolOp, Nat.reduceSub], by simp only [↓xP, xQ, xR, flatR, eqCells_ok, eqSh, eqBs, Nat.reduceLT, decide_true, Nat.reduceBEq, Nat.reduceAdd, IOp.dst, IOp.isF, IOp.args, coolOp, Nat.reduceSub]; rfl, by simp only [↓xP, xQ, xR, flatR, eqCells_ok, eqSh, eqBs, Nat.reduceLT, decide_true, Nat.reduceBEq, Nat.reduceAdd, IOp.dst, IOp.isF, IOp.args, coolOp, Nat.reduceSub]⟩).trans rfl
  · rintro ⟨i, j⟩ st ⟨hij, hj, hlo, hhi, h0, h1, h2, h8, h9, h10⟩ ih
    dsimp only at hij hj hlo hhi h9 h10 ih
    by_cases h : i < j
    · obtain ⟨⟨pk, pv⟩, hp⟩ : ∃ p, l[(i + j) / 2]? = some p := ⟨_, List.getElem?_eq_getElem (by omega)⟩
      have hm := mid64 (i := i) (j := j) (by omega)
      have hw := w_succ (i := (i + j) / 2) (by omega)
      have hb : ¬ (1 : Int) < 0 := by omega
      by_cases hc : strLt pk key = true
      · have hs : cmpS pk key = -1 := by simp [cmpS, hc]
        have hn1 : (-1 : Int) < 0 := by omega
        simp only [↓xP, xQ, xR, flatR, eqCells_ok, eqSh, eqBs, Nat.reduceLT, decide_true, Nat.reduceBEq, Nat.reduceAdd, IOp.dst, IOp.isF, IOp.args, coolOp, Nat.reduceSub, h0, h1, h2, h8, h9, h10, h, hb, hm, hp, hw, Pair.u, pairCmp, hs, hn1]
        refine ih ((i + j) / 2 + 1, j) _ (by dsimp only; omega) ⟨by dsimp only; omega, hj, fun t q ht hq => ?_, hhi, by simp only [↓xP, xQ, xR, flatR, eqCells_ok, eqSh, eqBs, Nat.reduceLT, decide_true, Nat.reduceBEq, Nat.reduceAdd, IOp.dst, IOp.isF, IOp.args, coolOp, Nat.reduceSub, h0], by simp only [↓xP, xQ, xR, flatR, eqCells_ok, eqSh, eqBs, Nat.reduceLT, decide_true, Nat.reduceBEq, Nat.reduceAdd, IOp.dst, IOp.isF, IOp.args, coolOp, Nat.reduceSub, h1], by simp only [↓xP, xQ, xR, flatR, eqCells_ok, eqSh, eqBs, Nat.reduceLT, decide_true, Nat.reduceBEq, Nat.reduceAdd, IOp.dst, IOp.isF, IOp.args, coolOp, Nat.reduceSub, h2], by simp only [↓xP, xQ, xR, flatR, eqCells_ok, eqSh, eqBs, Nat.reduceLT, decide_true, Nat.reduceBEq, Nat.reduceAdd, IOp.dst, IOp.isF, IOp.args, coolOp, Nat.reduceSub, h8], by simp only [↓xP, xQ, xR, flatR, eqCells_ok, eqSh, eqBs, Nat.reduceLT, decide_true, Nat.reduceBEq, Nat.reduceAdd, IOp.dst, IOp.isF, IOp.args, coolOp, Nat.reduceSub], by simp only [↓xP, xQ, xR, flatR, eqCells_ok, eqSh, eqBs, Nat.reduceLT, decide_true, Nat.reduceBEq, Nat.reduceAdd, IOp.dst, IOp.isF, IOp.args, coolOp, Nat.reduceSub, h10]⟩
        dsimp only at ht
        by_cases e : t = (i + j) / 2
        · subst e; rw [hp] at hq; cases hq; exact hc
        · exact lt_trans (ha t _ _ _ (by omega) hq hp) hc
      · have hs : ¬ cmpS pk key < 0 := by unfold cmpS; rw [if_neg hc]; split <;> omega
        simp only [↓xP, xQ, xR, flatR, eqCells_ok, eqSh, eqBs, Nat.reduceLT, decide_true, Nat.reduceBEq, Nat.reduceAdd, IOp.dst, IOp.isF, IOp.args, coolOp, Nat.reduceSub, h0, h1, h2, h8, h9, h10, h, hb, hm, hp, hw, Pair.u, pairCmp, hs]
        refine ih (i, (i + j) / 2) _ (by dsimp only; omega) ⟨by dsimp only; omega, by dsimp only; omega, hlo, fun t q ht hq => ?_, by simp only [↓xP, xQ, xR, flatR, eqCells_ok, eqSh, eqBs, Nat.reduceLT, decide_true, Nat.reduceBEq, Nat.reduceAdd, IOp.dst, IOp.isF, IOp.args, coolOp, Nat.reduceSub, h0], by simp only [↓xP, xQ, xR, flatR, eqCells_ok, eqSh, eqBs, Nat.reduceLT, decide_true, Nat.reduceBEq, Nat.reduceAdd, IOp.dst, IOp.isF, IOp.args, coolOp, Nat.reduceSub, h1], by simp only [↓xP, xQ, xR, flatR, eqCells_ok, eqSh, eqBs, Nat.reduceLT, decide_true, Nat.reduceBEq, Nat.reduceAdd, IOp.dst, IOp.isF, IOp.args, coolOp, Nat.reduceSub, h2], by simp only [↓xP, xQ, xR, flatR, eqCells_ok, eqSh, eqBs, Nat.reduceLT, decide_true, Nat.reduceBEq, Nat.reduceAdd, IOp.dst, IOp.isF, IOp.args, coolOp, Nat.reduceSub, h8], by simp only [↓xP, xQ, xR, flatR, eqCells_ok, eqSh, eqBs, Nat.reduceLT, decide_true, Nat.reduceBEq, Nat.reduceAdd, IOp.dst, IOp.isF, IOp.args, coolOp, Nat.reduceSub, h9], by simp only [↓xP, xQ, xR, flatR, eqCells_ok, eqSh, eqBs, Nat.reduceLT, decide_true, Nat.reduceBEq, Nat.reduceAdd, IOp.dst, IOp.isF, IOp.args, coolOp, Nat.reduceSub]⟩
        dsimp only at ht
        rw [Bool.eq_false_iff]
        intro h3
        by_cases e : t = (i + j) / 2
        · subst e; rw [hp] at hq; cases hq; exact hc h3
        · exact hc (lt_trans (ha _ t _ _ (by omega) hp hq) h3)
    · have hpl : place key l = i := place_eq key l i (by omega) hlo (fun p hp => hhi i p (by omega) hp)
      by_cases hi : i < l.length
      · obtain ⟨⟨pk, pv⟩, hp⟩ : ∃ p, l[i]? = some p := ⟨_, List.getElem?_eq_getElem hi⟩
        have h3 := hhi i _ (by omega) hp
        simp only [↓xP, xQ, xR, flatR, eqCells_ok, eqSh, eqBs, Nat.reduceLT, decide_true, Nat.reduceBEq, Nat.reduceAdd, IOp.dst, IOp.isF, IOp.args, coolOp, Nat.reduceSub, h0, h1, h2, h8, h9, h10, h, hi, hp, Pair.u, pairCmp, found, hpl]
        have : decide (cmpS pk key = 0) = decide (pk = key) := by
          simp only at h3
          rcases lt_total pk key with h4 | h4 | h4
          · rw [h3] at h4; cases h4
          · subst h4; simp [cmpS, lt_irrefl]
          · have : pk ≠ key := fun e => by subst e; simp [lt_irrefl] at h4
            simp [cmpS, h3, h4, this]
        rw [this]
      · have hp : l[i]? = none := List.getElem?_eq_none (by omega)
        simp only [↓xP, xQ, xR, flatR, eqCells_ok, eqSh, eqBs, Nat.reduceLT, decide_true, Nat.reduceBEq, Nat.reduceAdd, IOp.dst, IOp.isF, IOp.args, coolOp, Nat.reduceSub, h0, h1, h2, h8, h9, h10, h, hi, found, hpl, hp]
  · intro t p ht hp
    have := (List.getElem?_eq_some_iff.1 hp).1
    dsimp only at ht
    omega
theorem pairPlace_ok (l : List Pair) (key : Str) (ha : Asc l) (hn : l.length ≤ 1048576) : EE F 121 [L 2 (l.map Pair.u), S key] [] = some ⟨[I (place key l), B (found key l)], [], []⟩ := by
  rw [R121, b121]
  simp only [↓xP, xQ, xR, flatR, eqCells_ok, eqSh, eqBs, Nat.reduceLT, decide_true, Nat.reduceBEq, Nat.reduceAdd, IOp.dst, IOp.isF, IOp.args, coolOp, Nat.reduceSub, search_ok l key ha hn]
theorem place_lt {key : Str} : ∀ {l : List Pair} {t : Nat} {p : Pair}, t < place key l → l[t]? = some p → strLt p.key key = true
  | [], t, p, ht, hp => by simp at hp
  | q :: l, t, p, ht, hp => by
    simp only [place] at ht
    split at ht
    · rename_i hq
      cases t with
      | zero => cases hp; exact hq
      | succ t => exact place_lt (l := l) (t := t) (by omega) hp
    · omega
theorem place_at {key : Str} : ∀ {l : List Pair} {p : Pair}, l[place key l]? = some p → strLt p.key key = false
  | [], p, hp => by simp at hp
  | q :: l, p, hp => by
    simp only [place] at hp
    split at hp
    · exact place_at (l := l) hp
    · rename_i hq; cases hp; simpa using hq
theorem place_ge {key : Str} {l : List Pair} (ha : Asc l) {t : Nat} {p : Pair} (ht : place key l ≤ t) (hp : l[t]? = some p) : strLt p.key key = false := by
  obtain ⟨q, hq⟩ : ∃ q, l[place key l]? = some q := ⟨_, List.getElem?_eq_getElem (by have := (List.getElem?_eq_some_iff.1 hp).1; omega)⟩
  have h1 := place_at hq
  by_cases e : place key l = t
  · subst e; rw [hq] at hp; cases hp; exact h1
  · rw [Bool.eq_false_iff]
    intro h2
    rw [lt_trans (ha _ t _ _ (by omega) hq hp) h2] at h1
    cases h1
theorem place_mono {a b : Str} {l : List Pair} (ha : Asc l) (h : strLt a b = true) : place a l ≤ place b l := by
  by_cases hc : place a l ≤ place b l
  · exact hc
  · have hl := place_le a l
    obtain ⟨q, hq⟩ : ∃ q, l[place b l]? = some q := ⟨_, List.getElem?_eq_getElem (by omega)⟩
    have h1 := place_at hq
    rw [lt_trans (place_lt (by omega) hq) h] at h1
    cases h1
theorem filter_cut {α : Type} (q : α → Bool) : ∀ (l : List α) (a b : Nat), (∀ t p, l[t]? = some p → (q p = true ↔ a ≤ t ∧ t < b)) → l.filter q = (l.take b).drop a
  | [], a, b, _ => by simp
  | x :: l, a, b, h => by
    have h0 := h 0 x rfl
    cases b with
    | zero =>
      have : q x = false := by simpa using h0
      rw [List.filter_cons, this]
      simpa using filter_cut q l 0 0 (fun t p hp => by have := h (t + 1) p hp; simpa using this)
    | succ b =>
      cases a with
      | zero =>
        have : q x = true := by simpa using h0
        rw [List.filter_cons, this]
        have := filter_cut q l 0 b (fun t p hp => by have := h (t + 1) p hp; simpa using this)
        simpa using this
      | succ a =>
        have : q x = false := by simpa using h0
        rw [List.filter_cons, this]
        have := filter_cut q l a b (fun t p hp => by have := h (t + 1) p hp; simpa using this)
        simpa using this
def pairsIn (l : List Pair) (v : Interval) : List Pair := l.filter fun p => inside v p.key
theorem pairsIn_cut {l : List Pair} (ha : Asc l) (v : Interval) : (l.take (if v.high = [] then l.length else place v.high l)).drop (place v.low l) = pairsIn l v := by
  refine (filter_cut _ l _ _ (fun t p hp => ?_)).symm
  have hlen := (List.getElem?_eq_some_iff.1 hp).1
  have h1 : place v.low l ≤ t ↔ strLt p.key v.low = false := by
    refine ⟨fun h => place_ge ha h hp, fun h => ?_⟩
    by_cases hc : place v.low l ≤ t
    · exact hc
    · rw [place_lt (by omega) hp] at h; cases h
  have h2 : t < place v.high l ↔ strLt p.key v.high = true := by
    refine ⟨fun h => place_lt h hp, fun h => ?_⟩
    by_cases hc : t < place v.high l
    · exact hc
    · rw [place_ge ha (by omega) hp] at h; cases h
  by_cases hh : v.high = []
  · simp [inside, hh, h1, hlen]
  · simp [inside, hh, h1, h2]
theorem valid_lt {v : Interval} (h : intervalValid v = true) (hh : v.high ≠ []) : strLt v.low v.high = true := by
  simp only [intervalValid, Bool.and_eq_true, Bool.or_eq_true, decide_eq_true_eq, hh, false_or] at h
  by_cases hl : v.low = []
  · rw [hl, lt_nil]; simpa using hh
  · have := h.2
    rwa [if_neg hl] at this
theorem copyOf_Pair (l : List Pair) (hn : l.length ≤ 1048576) : EE F 139 [L 2 (l.map Pair.u)] [] = some ⟨[.sc (.own (.par 0) l.length)], [.row 2 (l.map Pair.u)], []⟩ := by
  rw [R139, b139]
  have h1 : l.length ≤ maxLen := by simp [maxLen]; omega
  have h2 : l.length * 24 ≤ 140737488355328 := by omega
  simp only [↓xP, xQ, xR, flatR, eqCells_ok, eqSh, eqBs, Nat.reduceLT, decide_true, Nat.reduceBEq, Nat.reduceAdd, IOp.dst, IOp.isF, IOp.args, coolOp, Nat.reduceSub, h1, h2]
theorem pairsIn_le (l : List Pair) (v : Interval) : (pairsIn l v).length ≤ l.length := List.length_filter_le ..
def pairsInV (l : List Pair) (v : Interval) : List Pair := if pairsValid l = true ∧ intervalValid v = true then pairsIn l v else []
theorem pairsIn_impl (l : List Pair) (lo hi : Str) : EE F 66 [L 2 (l.map Pair.u), .ag [.u (.str lo), .u (.str hi)]] [] = some ⟨[.sc (.own (.par 0) (pairsInV l ⟨lo, hi⟩).length)], [.row 2 ((pairsInV l ⟨lo, hi⟩).map Pair.u)], []⟩ := by
  rw [R66, b66]
  simp only [↓xP, xQ, xR, flatR, eqCells_ok, eqSh, eqBs, Nat.reduceLT, decide_true, Nat.reduceBEq, Nat.reduceAdd, IOp.dst, IOp.isF, IOp.args, coolOp, Nat.reduceSub, pairsValid_impl, intervalValid_impl]
  refine sel_split (fun h => ?_) (fun h => ?_)
  · simp only [Bool.not_eq_true'] at h; simp [pairsInV, h]
  refine sel_split (fun h2 => ?_) (fun h2 => ?_)
  · simp only [Bool.not_eq_true'] at h2; simp [pairsInV, h2]
  simp only [Bool.not_eq_false'] at h h2
  have ha := asc_of h
  have hl := pairsValid_len h
  have hn : l.length ≤ 1048576 := by omega
  have e : pairsInV l ⟨lo, hi⟩ = pairsIn l ⟨lo, hi⟩ := by simp [pairsInV, h, h2]
  have hp1 := place_le lo l
  have hp2 := place_le hi l
  have hc := pairsIn_cut ha ⟨lo, hi⟩
  dsimp only at hc
  have hpl := pairsIn_le l ⟨lo, hi⟩
  rw [e]
  by_cases hh : hi = []
  · subst hh
    rw [if_pos rfl] at hc
    have hcut : vcut l.length (some (DI (place lo l))) (some (DI l.length)) = some (place lo l, l.length) := by simp [vcut, D.int?]; omega
    have hm : (l.map Pair.u).drop (place lo l) = (pairsIn l ⟨lo, []⟩).map Pair.u := by rw [← hc, List.map_drop, List.take_length]
    have hcp := copyOf_Pair (pairsIn l ⟨lo, []⟩) (by omega)
    simp only [↓xP, xQ, xR, flatR, eqCells_ok, eqSh, eqBs, Nat.reduceLT, decide_true, Nat.reduceBEq, Nat.reduceAdd, IOp.dst, IOp.isF, IOp.args, coolOp, Nat.reduceSub, pairPlace_ok l lo ha hn, ne_eq, not_true_eq_false, decide_false, hcut, hm, hcp]
  · rw [if_neg hh] at hc
    have hlt := place_mono ha (valid_lt h2 hh)
    dsimp only at hlt
    have hcut : vcut l.length (some (DI (place lo l))) (some (DI (place hi l))) = some (place lo l, place hi l) := by simp [vcut, D.int?]; omega
    have hm : ((l.map Pair.u).take (place hi l)).drop (place lo l) = (pairsIn l ⟨lo, hi⟩).map Pair.u := by rw [← hc, List.map_drop, List.map_take]
    have hcp := copyOf_Pair (pairsIn l ⟨lo, hi⟩) (by omega)
    simp only [↓xP, xQ, xR, flatR, eqCells_ok, eqSh, eqBs, Nat.reduceLT, decide_true, Nat.reduceBEq, Nat.reduceAdd, IOp.dst, IOp.isF, IOp.args, coolOp, Nat.reduceSub, pairPlace_ok l lo ha hn, pairPlace_ok l hi ha hn, hh, ne_eq, not_false_eq_true, decide_true, hcut, hm, hcp]
def meetOf (a b : Interval) : Interval := ⟨if strLt a.low b.low = true then b.low else a.low, if b.high ≠ [] ∧ (a.high = [] ∨ strLt b.high a.high = true) then b.high else a.high⟩
def meetOk (a b : Interval) : Bool := intervalValid a && intervalValid b && intervalValid (meetOf a b)
def meetRet (a b : Interval) : Option Ret := sel (meetOk a b) (some ⟨[.ag [.u (.str (meetOf a b).low), .u (.str (meetOf a b).high)], B true], [], []⟩) (some ⟨[.ag [.u (.str []), .u (.str [])], B false], [], []⟩)
theorem intervalMeet_spec (al ah bl bh : Str) : EE F 124 [.ag [.u (.str al), .u (.str ah)], .ag [.u (.str bl), .u (.str bh)]] [] = meetRet ⟨al, ah⟩ ⟨bl, bh⟩ := by
  rw [R124, b124]
  simp only [↓xP, xQ, xR, flatR, eqCells_ok, eqSh, eqBs, Nat.reduceLT, decide_true, Nat.reduceBEq, Nat.reduceAdd, IOp.dst, IOp.isF, IOp.args, coolOp, Nat.reduceSub, intervalValid_spec]
  repeat' (refine sel_split (fun h => ?_) (fun h => ?_))
  all_goals simp_all [meetOk, meetRet, meetOf, sel, le_iff]
theorem lesserHigh_ok (a b : Str) : EE F 193 [S a, S b] [] = ok1 (S (if b ≠ [] ∧ (a = [] ∨ strLt b a = true) then b else a)) := by
  rw [R193, b193]
  simp only [↓xP, xQ, xR, flatR, eqCells_ok, eqSh, eqBs, Nat.reduceLT, decide_true, Nat.reduceBEq, Nat.reduceAdd, IOp.dst, IOp.isF, IOp.args, coolOp, Nat.reduceSub]
  repeat' (refine sel_split (fun h => ?_) (fun h => ?_))
  all_goals (have hle := le_iff a b; cases hx : strLt b a <;> rw [hx] at hle <;> simp_all)
theorem intervalMeet_impl (al ah bl bh : Str) : EE F 129 [.ag [.u (.str al), .u (.str ah)], .ag [.u (.str bl), .u (.str bh)]] [] = meetRet ⟨al, ah⟩ ⟨bl, bh⟩ := by
  rw [R129, b129]
  simp only [↓xP, xQ, xR, flatR, eqCells_ok, eqSh, eqBs, Nat.reduceLT, decide_true, Nat.reduceBEq, Nat.reduceAdd, IOp.dst, IOp.isF, IOp.args, coolOp, Nat.reduceSub, intervalValid_impl, lesserHigh_ok]
  repeat' (refine sel_split (fun h => ?_) (fun h => ?_))
  all_goals (cases hx : strLt al bl <;> simp_all [meetOk, meetRet, meetOf, sel, le_iff])
theorem pairsIn_take {l : List Pair} {v : Interval} {k : Nat} {p : Pair} (hp : l[k]? = some p) : pairsIn (l.take (k + 1)) v = pairsIn (l.take k) v ++ (if inside v p.key = true then [p] else []) := by
  have : l.take (k + 1) = l.take k ++ [p] := by rw [List.take_add_one, hp]; rfl
  simp only [pairsIn, this, List.filter_append, List.filter_cons, List.filter_nil]
theorem pairScan_spec (l : List Pair) (lo hi : Str) : EE F 136 [L 2 (l.map Pair.u), .ag [.u (.str lo), .u (.str hi)], I 48] [] = some ⟨[.sc (.own (.par 0) (pairsInV l ⟨lo, hi⟩).length)], [.row 2 ((pairsInV l ⟨lo, hi⟩).map Pair.u)], []⟩ := by
  rw [R136, b136]
  have h48 : inR 48 0 48 = true := by simp [inR]
  simp only [↓xP, xQ, xR, flatR, eqCells_ok, eqSh, eqBs, Nat.reduceLT, decide_true, Nat.reduceBEq, Nat.reduceAdd, IOp.dst, IOp.isF, IOp.args, coolOp, Nat.reduceSub, pairsValid_spec, intervalValid_spec, l1In_ok, h48]
  refine sel_split (fun h => ?_) (fun h => ?_)
  · simp only [Bool.not_eq_true'] at h; simp [pairsInV, h]
  refine sel_split (fun h2 => ?_) (fun h2 => ?_)
  · simp only [Bool.not_eq_true'] at h2; simp [pairsInV, h2]
  simp only [Bool.not_eq_false'] at h h2
  have hl := pairsValid_len h
  have e : pairsInV l ⟨lo, hi⟩ = pairsIn l ⟨lo, hi⟩ := by simp [pairsInV, h, h2]
  rw [e]
  refine (loop_ind (fun (k : Nat) st => k ≤ l.length ∧ st.s 0 = DU (.sl 2 (l.map Pair.u)) ∧ st.s 4 = .t (.sc (.ptr (.loc 4 0) 0 0)) ∧ st.o (.loc 4 0) = some (.box [.u (.str lo), .u (.str hi)]) ∧ st.s 2 = DI 48 ∧ st.s 8 = DI k ∧
    st.s 7 = .t (.sc (.own (.loc 9 0) (pairsIn (l.take k) ⟨lo, hi⟩).length)) ∧ st.o (.loc 9 0) = some (.row 2 ((pairsIn (l.take k) ⟨lo, hi⟩).map Pair.u))) (fun k => l.length - k) (fun k => some ⟨[.sc (.own (.par 0) (pairsIn l ⟨lo, hi⟩).length)], [.row 2 ((pairsIn l ⟨lo, hi⟩).map Pair.u)], []⟩) ?_ 0 ⟨by omega, by simp only [↓xP, xQ, xR, flatR, eqCells_ok, eqSh, eqBs, Nat.reduceLT, decide_true, Nat.reduceBEq, Nat.reduceAdd, IOp.dst, IOp.isF, IOp.args, coolOp, Nat.reduceSub], by simp only [↓xP, xQ, xR, flatR, eqCells_ok, eqSh, eqBs, Nat.reduceLT, decide_true, Nat.reduceBEq, Nat.reduceAdd, IOp.dst, IOp.isF, IOp.args, coolOp, Nat.reduceSub], by simp only [↓xP, xQ, xR, flatR, eqCells_ok, eqSh, eqBs, Nat.reduceLT, decide_true, Nat.reduceBEq, Nat.reduceAdd, IOp.dst, IOp.isF, IOp.args, coolOp, Nat.reduceSub], by simp only [↓xP, xQ, xR, flatR, eqCells_ok, eqSh, eqBs, Nat.reduceLT, decide_true, Nat.reduceBEq, Nat.reduceAdd, IOp.dst, IOp.isF, IOp.args, coolOp, Nat.reduceSub], by simp only [↓xP, xQ, xR, flatR, eqCells_ok, eqSh, eqBs, Nat.reduceLT, decide_true, Nat.reduceBEq, Nat.reduceAdd, IOp.dst, IOp.isF, IOp.args, coolOp, Nat.reduceSub]; rfl, by simp only [↓xP, xQ, xR, flatR, eqCells_ok, eqSh, eqBs, Nat.reduceLT, decide_true, Nat.reduceBEq, Nat.reduceAdd, IOp.dst, IOp.isF, IOp.args, coolOp, Nat.reduceSub]; simp [pairsIn], by simp only [↓xP, xQ, xR, flatR, eqCells_ok, eqSh, eqBs, Nat.reduceLT, decide_true, Nat.reduceBEq, Nat.reduceAdd, IOp.dst, IOp.isF, IOp.args, coolOp, Nat.reduceSub]; simp [pairsIn]⟩).trans rfl
  rintro k st ⟨hle, h0, h4, ho, h2', h8, h7, ho9⟩ ih
  by_cases hi' : k < l.length
  · obtain ⟨⟨pk, pv⟩, hp⟩ : ∃ p, l[k]? = some p := ⟨_, List.getElem?_eq_getElem hi'⟩
    have hw := w_succ (i := k) (by omega)
    have hk := (pairsValid_at h hp).1
    have hq := pairsIn_le (l.take k) ⟨lo, hi⟩
    have hq2 : (l.take k).length = k := by simp; omega
    have h47 : ((pairsIn (l.take k) ⟨lo, hi⟩).length : Int) < 48 := by omega
    have hin : intervalHas ⟨lo, hi⟩ pk = inside ⟨lo, hi⟩ pk := by simp [intervalHas, h2, hk]
    have hm1 : (pairsIn (l.take k) ⟨lo, hi⟩).length + 1 ≤ maxLen := by simp [maxLen]; omega
    have hm2 : ((pairsIn (l.take k) ⟨lo, hi⟩).length + 1) * 24 ≤ 140737488355328 := by omega
    have hnx := pairsIn_take (v := ⟨lo, hi⟩) hp
    by_cases hc : inside ⟨lo, hi⟩ pk = true
    · rw [if_pos hc] at hnx
      simp only [↓xP, xQ, xR, flatR, eqCells_ok, eqSh, eqBs, Nat.reduceLT, decide_true, Nat.reduceBEq, Nat.reduceAdd, IOp.dst, IOp.isF, IOp.args, coolOp, Nat.reduceSub, h0, h4, ho, h2', h8, h7, ho9, hi', hp, hw, h47, Pair.u, intervalHas_spec, hin, hc, hm1, hm2]
      refine ih (k + 1) _ (by omega) ⟨by omega, by simp only [↓xP, xQ, xR, flatR, eqCells_ok, eqSh, eqBs, Nat.reduceLT, decide_true, Nat.reduceBEq, Nat.reduceAdd, IOp.dst, IOp.isF, IOp.args, coolOp, Nat.reduceSub, h0], by simp only [↓xP, xQ, xR, flatR, eqCells_ok, eqSh, eqBs, Nat.reduceLT, decide_true, Nat.reduceBEq, Nat.reduceAdd, IOp.dst, IOp.isF, IOp.args, coolOp, Nat.reduceSub, h4], by simp only [↓xP, xQ, xR, flatR, eqCells_ok, eqSh, eqBs, Nat.reduceLT, decide_true, Nat.reduceBEq, Nat.reduceAdd, IOp.dst, IOp.isF, IOp.args, coolOp, Nat.reduceSub, ho], by simp only [↓xP, xQ, xR, flatR, eqCells_ok, eqSh, eqBs, Nat.reduceLT, decide_true, Nat.reduceBEq, Nat.reduceAdd, IOp.dst, IOp.isF, IOp.args, coolOp, Nat.reduceSub, h2'], by simp only [↓xP, xQ, xR, flatR, eqCells_ok, eqSh, eqBs, Nat.reduceLT, decide_true, Nat.reduceBEq, Nat.reduceAdd, IOp.dst, IOp.isF, IOp.args, coolOp, Nat.reduceSub], ?_, ?_⟩
      · rw [hnx]; simp only [↓xP, xQ, xR, flatR, eqCells_ok, eqSh, eqBs, Nat.reduceLT, decide_true, Nat.reduceBEq, Nat.reduceAdd, IOp.dst, IOp.isF, IOp.args, coolOp, Nat.reduceSub, List.length_append]
      · rw [hnx]; simp only [↓xP, xQ, xR, flatR, eqCells_ok, eqSh, eqBs, Nat.reduceLT, decide_true, Nat.reduceBEq, Nat.reduceAdd, IOp.dst, IOp.isF, IOp.args, coolOp, Nat.reduceSub, List.map_append]; rfl
    · rw [if_neg hc, List.append_nil] at hnx
      simp only [Bool.not_eq_true] at hc
      simp only [↓xP, xQ, xR, flatR, eqCells_ok, eqSh, eqBs, Nat.reduceLT, decide_true, Nat.reduceBEq, Nat.reduceAdd, IOp.dst, IOp.isF, IOp.args, coolOp, Nat.reduceSub, h0, h4, ho, h2', h8, h7, ho9, hi', hp, hw, h47, Pair.u, intervalHas_spec, hin, hc]
      exact ih (k + 1) _ (by omega) ⟨by omega, by simp only [↓xP, xQ, xR, flatR, eqCells_ok, eqSh, eqBs, Nat.reduceLT, decide_true, Nat.reduceBEq, Nat.reduceAdd, IOp.dst, IOp.isF, IOp.args, coolOp, Nat.reduceSub, h0], by simp only [↓xP, xQ, xR, flatR, eqCells_ok, eqSh, eqBs, Nat.reduceLT, decide_true, Nat.reduceBEq, Nat.reduceAdd, IOp.dst, IOp.isF, IOp.args, coolOp, Nat.reduceSub, h4], by simp only [↓xP, xQ, xR, flatR, eqCells_ok, eqSh, eqBs, Nat.reduceLT, decide_true, Nat.reduceBEq, Nat.reduceAdd, IOp.dst, IOp.isF, IOp.args, coolOp, Nat.reduceSub, ho], by simp only [↓xP, xQ, xR, flatR, eqCells_ok, eqSh, eqBs, Nat.reduceLT, decide_true, Nat.reduceBEq, Nat.reduceAdd, IOp.dst, IOp.isF, IOp.args, coolOp, Nat.reduceSub, h2'], by simp only [↓xP, xQ, xR, flatR, eqCells_ok, eqSh, eqBs, Nat.reduceLT, decide_true, Nat.reduceBEq, Nat.reduceAdd, IOp.dst, IOp.isF, IOp.args, coolOp, Nat.reduceSub], by rw [hnx]; simp only [↓xP, xQ, xR, flatR, eqCells_ok, eqSh, eqBs, Nat.reduceLT, decide_true, Nat.reduceBEq, Nat.reduceAdd, IOp.dst, IOp.isF, IOp.args, coolOp, Nat.reduceSub, h7], by rw [hnx]; simp only [↓xP, xQ, xR, flatR, eqCells_ok, eqSh, eqBs, Nat.reduceLT, decide_true, Nat.reduceBEq, Nat.reduceAdd, IOp.dst, IOp.isF, IOp.args, coolOp, Nat.reduceSub, ho9]⟩
  · have : k = l.length := by omega
    subst this
    rw [List.take_length] at h7 ho9
    simp only [↓xP, xQ, xR, flatR, eqCells_ok, eqSh, eqBs, Nat.reduceLT, decide_true, Nat.reduceBEq, Nat.reduceAdd, IOp.dst, IOp.isF, IOp.args, coolOp, Nat.reduceSub, h0, h4, ho, h2', h8, h7, ho9, hi']
theorem pairsIn_spec (l : List Pair) (lo hi : Str) : EE F 126 [L 2 (l.map Pair.u), .ag [.u (.str lo), .u (.str hi)]] [] = some ⟨[.sc (.own (.par 0) (pairsInV l ⟨lo, hi⟩).length)], [.row 2 ((pairsInV l ⟨lo, hi⟩).map Pair.u)], []⟩ := by
  rw [R126, b126]
  simp only [↓xP, xQ, xR, flatR, eqCells_ok, eqSh, eqBs, Nat.reduceLT, decide_true, Nat.reduceBEq, Nat.reduceAdd, IOp.dst, IOp.isF, IOp.args, coolOp, Nat.reduceSub, pairScan_spec]
def scanOk (s : State) (v : Interval) : Bool := stateValid s && meetOk s.span v
def scanRet (s : State) (v : Interval) : Option Ret := sel (scanOk s v)
  (some ⟨[.ag [.u (.str (meetOf s.span v).low), .u (.str (meetOf s.span v).high), .own (.par 0) (pairsInV s.pairs (meetOf s.span v)).length], B true], [.row 2 ((pairsInV s.pairs (meetOf s.span v)).map Pair.u)], []⟩)
  (some ⟨[.ag [.u (.str []), .u (.str []), .u (.sl 2 [])], B false], [], []⟩)
theorem scanPiece_spec (lo hi : Str) (l : List Pair) (k : List Session) (se : Bool) (cut : Str) (hn : k.length ≤ 4611686018427387904) (vl vh : Str) : EE F 53 [.ag [.u (.str lo), .u (.str hi), .u (.sl 2 (l.map Pair.u)), .u (.sl 3 (k.map Session.u)), .u (.bool se), .u (.str cut)], .ag [.u (.str vl), .u (.str vh)]] [] = scanRet ⟨⟨lo, hi⟩, l, k, se, cut⟩ ⟨vl, vh⟩ := by
  rw [R53, b53]
  cases hm : meetOk ⟨lo, hi⟩ ⟨vl, vh⟩ <;> cases hs : stateValid ⟨⟨lo, hi⟩, l, k, se, cut⟩ <;> simp only [↓xP, xQ, xR, flatR, eqCells_ok, eqSh, eqBs, Nat.reduceLT, decide_true, Nat.reduceBEq, Nat.reduceAdd, IOp.dst, IOp.isF, IOp.args, coolOp, Nat.reduceSub, stateValid_spec lo hi l k se cut hn, intervalMeet_spec, meetRet, hm, hs, scanRet, scanOk, pairsIn_spec]
theorem scanPiece_impl (lo hi : Str) (l : List Pair) (k : List Session) (se : Bool) (cut : Str) (hn : k.length ≤ 4611686018427387904) (vl vh : Str) : EE F 56 [.ag [.u (.str lo), .u (.str hi), .u (.sl 2 (l.map Pair.u)), .u (.sl 3 (k.map Session.u)), .u (.bool se), .u (.str cut)], .ag [.u (.str vl), .u (.str vh)]] [] = scanRet ⟨⟨lo, hi⟩, l, k, se, cut⟩ ⟨vl, vh⟩ := by
  rw [R56, b56]
  cases hm : meetOk ⟨lo, hi⟩ ⟨vl, vh⟩ <;> cases hs : stateValid ⟨⟨lo, hi⟩, l, k, se, cut⟩ <;> simp only [↓xP, xQ, xR, flatR, eqCells_ok, eqSh, eqBs, Nat.reduceLT, decide_true, Nat.reduceBEq, Nat.reduceAdd, IOp.dst, IOp.isF, IOp.args, coolOp, Nat.reduceSub, stateValid_impl lo hi l k se cut hn, intervalMeet_impl, meetRet, hm, hs, scanRet, scanOk, pairsIn_impl]
theorem heldPairS_ok (n : Nat) (K : Int) (h1 : 1 ≤ K) (h2 : K + 2 * n ≤ 4611686018427387904) : EE F 47 [L 2 ((mkL mkPair 2 K n).map Pair.u), I K] [] = ok1 (I (K + 2 * n)) := by
  rw [R47, b47]
  simp only [↓xP, xQ, xR, flatR, eqCells_ok, eqSh, eqBs, Nat.reduceLT, decide_true, Nat.reduceBEq, Nat.reduceAdd, IOp.dst, IOp.isF, IOp.args, coolOp, Nat.reduceSub]
  refine (loop_ind (fun (i : Nat) st => i ≤ n ∧ st.s 0 = DU (.sl 2 ((mkL mkPair 2 K n).map Pair.u)) ∧ st.s 5 = DI i ∧ st.s 1 = DI (K + 2 * i)) (fun i => n - i) (fun i => ok1 (I (K + 2 * n))) ?_ 0 ⟨by omega, by simp only [↓xP, xQ, xR, flatR, eqCells_ok, eqSh, eqBs, Nat.reduceLT, decide_true, Nat.reduceBEq, Nat.reduceAdd, IOp.dst, IOp.isF, IOp.args, coolOp, Nat.reduceSub], by simp only [↓xP, xQ, xR, flatR, eqCells_ok, eqSh, eqBs, Nat.reduceLT, decide_true, Nat.reduceBEq, Nat.reduceAdd, IOp.dst, IOp.isF, IOp.args, coolOp, Nat.reduceSub]; rfl, by simp only [↓xP, xQ, xR, flatR, eqCells_ok, eqSh, eqBs, Nat.reduceLT, decide_true, Nat.reduceBEq, Nat.reduceAdd, IOp.dst, IOp.isF, IOp.args, coolOp, Nat.reduceSub]; exact DI_eq (by omega)⟩).trans rfl
  rintro i st ⟨hle, h0, h5, h1'⟩ ih
  have hlen := mkL_len mkPair 2 K n
  by_cases hi : i < n
  · have hx := mkL_get mkPair 2 K hi
    have hw := w_succ (i := i) (by omega)
    have hk1 : 1 ≤ K + 2 * (i : Int) := by omega
    have hk2 : K + 2 * (i : Int) + 2 ≤ 4611686018427387904 := by omega
    have hn : K + 2 * ((i + 1 : Nat) : Int) = K + 2 * (i : Int) + 2 := by omega
    obtain ⟨K', hK⟩ : ∃ K', K' = K + 2 * (i : Int) := ⟨_, rfl⟩
    rw [← hK] at h1' hx hn hk1 hk2
    have hw0 : IntKind.i64.wrap (K' + 1) = K' + 1 := by rw [w64 (by omega) (by omega)]
    have hw1 : IntKind.i64.wrap (K' + 1 + 1) = K' + 1 + 1 := by rw [w64 (by omega) (by omega)]
    have mt0 := markText_ok K' (by omega) (by omega)
    simp only [↓xP, xQ, xR, flatR, eqCells_ok, eqSh, eqBs, Nat.reduceLT, decide_true, Nat.reduceBEq, Nat.reduceAdd, IOp.dst, IOp.isF, IOp.args, coolOp, Nat.reduceSub, h0, h5, h1', hlen, hi, hx, hw, Pair.u, mkPair, hw0, hw1, mt0, ne_eq, not_true_eq_false, decide_false]
    exact ih (i + 1) _ (by omega) ⟨by omega, by simp only [↓xP, xQ, xR, flatR, eqCells_ok, eqSh, eqBs, Nat.reduceLT, decide_true, Nat.reduceBEq, Nat.reduceAdd, IOp.dst, IOp.isF, IOp.args, coolOp, Nat.reduceSub, h0], by simp only [↓xP, xQ, xR, flatR, eqCells_ok, eqSh, eqBs, Nat.reduceLT, decide_true, Nat.reduceBEq, Nat.reduceAdd, IOp.dst, IOp.isF, IOp.args, coolOp, Nat.reduceSub], by simp only [↓xP, xQ, xR, flatR, eqCells_ok, eqSh, eqBs, Nat.reduceLT, decide_true, Nat.reduceBEq, Nat.reduceAdd, IOp.dst, IOp.isF, IOp.args, coolOp, Nat.reduceSub]; exact DI_eq (by omega)⟩
  · have : i = n := by omega
    subst this
    simp only [↓xP, xQ, xR, flatR, eqCells_ok, eqSh, eqBs, Nat.reduceLT, decide_true, Nat.reduceBEq, Nat.reduceAdd, IOp.dst, IOp.isF, IOp.args, coolOp, Nat.reduceSub, h0, h5, h1', hlen, hi]
theorem markPairS_nil (K : Int) : EE F 46 [L 2 [], I K] [] = ok1 (I K) := by
  rw [R46, b46]
  simp only [↓xP, xQ, xR, flatR, eqCells_ok, eqSh, eqBs, Nat.reduceLT, decide_true, Nat.reduceBEq, Nat.reduceAdd, IOp.dst, IOp.isF, IOp.args, coolOp, Nat.reduceSub]
  refine (loop_ind (fun (i : Nat) st => i = 0 ∧ st.s 0 = DU (.sl 2 []) ∧ st.s 5 = DI 0 ∧ st.s 1 = DI K) (fun i => 0) (fun i => ok1 (I K)) ?_ 0 ⟨rfl, by simp only [↓xP, xQ, xR, flatR, eqCells_ok, eqSh, eqBs, Nat.reduceLT, decide_true, Nat.reduceBEq, Nat.reduceAdd, IOp.dst, IOp.isF, IOp.args, coolOp, Nat.reduceSub], by simp only [↓xP, xQ, xR, flatR, eqCells_ok, eqSh, eqBs, Nat.reduceLT, decide_true, Nat.reduceBEq, Nat.reduceAdd, IOp.dst, IOp.isF, IOp.args, coolOp, Nat.reduceSub], by simp only [↓xP, xQ, xR, flatR, eqCells_ok, eqSh, eqBs, Nat.reduceLT, decide_true, Nat.reduceBEq, Nat.reduceAdd, IOp.dst, IOp.isF, IOp.args, coolOp, Nat.reduceSub]⟩).trans rfl
  rintro i st ⟨hi, h0, h5, h1'⟩ ih
  have : ¬ (0 : Int) < 0 := by omega
  have : ¬ (0 : Int) < ((0 : Nat) : Int) := by omega
  simp only [↓xP, xQ, xR, flatR, eqCells_ok, eqSh, eqBs, Nat.reduceLT, decide_true, Nat.reduceBEq, Nat.reduceAdd, IOp.dst, IOp.isF, IOp.args, coolOp, Nat.reduceSub, h0, h5, h1', List.length_nil, *]
theorem markPiece_ok (lo hi : Str) (l : List Pair) (K : Int) (h1 : 1 ≤ K) (h2 : K + 2 * l.length ≤ 4611686018427387904) : EE F 60 [.ag [.u (.str lo), .u (.str hi), .own (.par 0) l.length], I K] [.row 2 (l.map Pair.u)] = some ⟨[I (K + 2 * l.length)], [], [.row 2 ((mkL mkPair 2 K l.length).map Pair.u)]⟩ := by
  refine (EE_run (fn := i60) (by kernel_rfl) rfl).trans ?_
  simp only [i60, b60, argSt, insSt, List.length_cons, List.length_nil]
  simp only [↓xP, xQ, xR, flatR, eqCells_ok, eqSh, eqBs, Nat.reduceLT, decide_true, Nat.reduceBEq, Nat.reduceAdd, IOp.dst, IOp.isF, IOp.args, coolOp, Nat.reduceSub, markPairS_ok l K h1 h2, mkL_len]
theorem markPiece_nil (lo hi : Str) (K : Int) : EE F 60 [.ag [.u (.str lo), .u (.str hi), .u (.sl 2 [])], I K] [] = ok1 (I K) := by
  rw [R60, b60]
  simp only [↓xP, xQ, xR, flatR, eqCells_ok, eqSh, eqBs, Nat.reduceLT, decide_true, Nat.reduceBEq, Nat.reduceAdd, IOp.dst, IOp.isF, IOp.args, coolOp, Nat.reduceSub, markPairS_nil]
theorem heldPiece_ok (lo hi : Str) (n : Nat) (K : Int) (h1 : 1 ≤ K) (h2 : K + 2 * n ≤ 4611686018427387904) : EE F 61 [.ag [.u (.str lo), .u (.str hi), .u (.sl 2 ((mkL mkPair 2 K n).map Pair.u))], I K] [] = ok1 (I (K + 2 * n)) := by
  rw [R61, b61]
  have h : ¬ K + 2 * (n : Int) < 0 := by omega
  simp only [↓xP, xQ, xR, flatR, eqCells_ok, eqSh, eqBs, Nat.reduceLT, decide_true, Nat.reduceBEq, Nat.reduceAdd, IOp.dst, IOp.isF, IOp.args, coolOp, Nat.reduceSub, heldPairS_ok n K h1 h2, h]
theorem markState_ok (lo hi : Str) (l : List Pair) (k : List Session) (se : Bool) (cut : Str) (K : Int) (h1 : 1 ≤ K) (h2 : K + 2 * l.length + 3 * k.length ≤ 4611686018427387904) : EE F 59 [.ag [.u (.str lo), .u (.str hi), .own (.par 0) l.length, .own (.par 1) k.length, .u (.bool se), .u (.str cut)], I K] [.row 2 (l.map Pair.u), .row 3 (k.map Session.u)] =
    some ⟨[I (K + 2 * l.length + 3 * k.length)], [], [.row 2 ((mkL mkPair 2 K l.length).map Pair.u), .row 3 ((mkL mkSession 3 (K + 2 * l.length) k.length).map Session.u)]⟩ := by
  refine (EE_run (fn := i59) (by kernel_rfl) rfl).trans ?_
  simp only [i59, b59, argSt, insSt, List.length_cons, List.length_nil]
  simp only [↓xP, xQ, xR, flatR, eqCells_ok, eqSh, eqBs, Nat.reduceLT, decide_true, Nat.reduceBEq, Nat.reduceAdd, IOp.dst, IOp.isF, IOp.args, coolOp, Nat.reduceSub, markPairS_ok l K h1 (by omega), markSessionS_ok k (K + 2 * l.length) (by omega) h2, mkL_len]
set_option maxHeartbeats 4000000 in
theorem law_FnExactScanPiece (us : List U) (hl : us.length = 6) (ht : ∀ (j : Nat) ty u, [Ty.s, .s, .sl [.s, .i .i64], .sl [.i .i64, .i .i64, .i .i64], .b, .s][j]? = some ty → us[j]? = some u → UT ty u)
    (us' : List U) (hl' : us'.length = 2) (ht' : ∀ (j : Nat) ty u, [Ty.s, .s][j]? = some ty → us'[j]? = some u → UT ty u) : EE F 9 [.ag (us.map .u), .ag (us'.map .u)] [] = ok1 (B true) := by
  obtain ⟨⟨⟨lo, hi⟩, l, k, se, cut⟩, rfl, hf⟩ := State.of us hl ht
  obtain ⟨⟨vl, vh⟩, rfl, hf'⟩ := Interval.of us' hl' ht'
  rw [R9, b9]
  simp only [↓xP, xQ, xR, flatR, eqCells_ok, eqSh, eqBs, Nat.reduceLT, decide_true, Nat.reduceBEq, Nat.reduceAdd, IOp.dst, IOp.isF, IOp.args, coolOp, Nat.reduceSub, State.u, Interval.u, List.map, szState_ok lo hi l k se cut hf, szInterval_ok]
  refine sel_split (fun h => ?_) (fun h => ?_)
  · rfl
  refine sel_split (fun h2 => ?_) (fun h2 => ?_)
  · rfl
  simp only [decide_eq_false_iff_not] at h h2
  have hz := szState_le _ hf 1048576 (by omega) (by omega)
  have hs := hz.2 (by omega)
  have hz1 := hz.1
  have hs' := (szInterval_le _ hf' (szStateG ⟨⟨lo, hi⟩, l, k, se, cut⟩ 1048576) (by omega) (by omega)).2 (by omega)
  have hn : k.length ≤ 4611686018427387904 := Nat.le_trans hs.2.2.1.1 (by omega)
  have hl1 : l.length ≤ 1048576 := hs.2.1.1
  have hk1 : k.length ≤ 1048576 := hs.2.2.1.1
  have hpl : (pairsInV l (meetOf ⟨lo, hi⟩ ⟨vl, vh⟩)).length ≤ l.length := by unfold pairsInV; split; exact pairsIn_le ..; exact Nat.zero_le _
  have hpm : ∀ p, p ∈ pairsInV l (meetOf ⟨lo, hi⟩ ⟨vl, vh⟩) → p ∈ l := by intro p hp; unfold pairsInV at hp; split at hp; exact (List.mem_filter.1 hp).1; cases hp
  have hps : Piece.Small ⟨meetOf ⟨lo, hi⟩ ⟨vl, vh⟩, pairsInV l (meetOf ⟨lo, hi⟩ ⟨vl, vh⟩)⟩ := by
    refine ⟨?_, ⟨by dsimp only; omega, fun y hy => hs.2.1.2 y (hpm y hy)⟩, trivial⟩
    have h1 := hs.1
    unfold meetOf Interval.Small at *
    dsimp only at *
    refine ⟨?_, ?_, trivial⟩ <;> split <;> simp_all
  have hp0 : Piece.Small ⟨⟨[], []⟩, []⟩ := ⟨⟨by simp, by simp, trivial⟩, ⟨by simp, by simp⟩, trivial⟩
  generalize hmm : meetOf ⟨lo, hi⟩ ⟨vl, vh⟩ = mm at hpl hps hpm
  obtain ⟨ml, mh⟩ := mm
  generalize hp : pairsInV l ⟨ml, mh⟩ = ps at hpl hps
  cases hc : scanOk ⟨⟨lo, hi⟩, l, k, se, cut⟩ ⟨vl, vh⟩
  · have e0 := eqPiece_ok [] [] [] hp0
    rw [List.map_nil] at e0
    have hm := markState_ok lo hi l k se cut 1 (by omega) (by omega)
    have hh := heldPiece_ok [] [] 0 1 (by omega) (by omega)
    rw [show mkL mkPair 2 1 0 = [] from rfl, List.map_nil, show (1 : Int) + 2 * ((0 : Nat) : Int) = 1 from rfl] at hh
    have h10 : ¬ (1 : Int) < 0 := by omega
    have hg : ¬ (1 : Int) + 2 * (l.length : Int) + 3 * k.length < 0 := by omega
    simp only [↓xP, xQ, xR, flatR, eqCells_ok, eqSh, eqBs, Nat.reduceLT, decide_true, Nat.reduceBEq, Nat.reduceAdd, IOp.dst, IOp.isF, IOp.args, coolOp, Nat.reduceSub, toState_ok lo hi l k se cut hs, toInterval_ok, scanPiece_spec lo hi l k se cut hn, scanPiece_impl lo hi l k se cut hn, scanRet, hc, eqState_ok lo hi l k se cut hs, hm, hg, e0, hh, h10, markPiece_nil, mkL_len, ne_eq, not_true_eq_false]
    done
  · have e0 := eqPiece_ok _ _ _ hps
    have hm := markState_ok lo hi l k se cut 1 (by omega) (by omega)
    have hg : ¬ (1 : Int) + 2 * (l.length : Int) + 3 * k.length < 0 := by omega
    have hh := fun a b => heldPiece_ok a b ps.length 1 (by omega) (by omega)
    have hk := fun a b => markPiece_ok a b ps 1 (by omega) (by omega)
    have hg2 : ¬ (1 : Int) + 2 * (ps.length : Int) < 0 := by omega
    simp only [↓xP, xQ, xR, flatR, eqCells_ok, eqSh, eqBs, Nat.reduceLT, decide_true, Nat.reduceBEq, Nat.reduceAdd, IOp.dst, IOp.isF, IOp.args, coolOp, Nat.reduceSub, toState_ok lo hi l k se cut hs, toInterval_ok, scanPiece_spec lo hi l k se cut hn, scanPiece_impl lo hi l k se cut hn, scanRet, hc, hmm, hp, e0, eqState_ok lo hi l k se cut hs, hm, hg, hh, hk, hg2, mkL_len, mkL_take, ne_eq, not_true_eq_false]
    done
end Go.Proofs.YtdnhamehpdlbgaaV
