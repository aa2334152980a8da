/- The laws' functions that measure, copy and compare data. No conditions but those that the lemmas state. -/
import Derived.Test.YtbieglaagpogkaaT1
import Derived.Test.YtbieglaagpogkaaI
namespace Go.Proofs.YtbieglaagpogkaaV
open Go Go.RowKit
set_option linter.unusedVariables false
set_option linter.unusedSimpArgs false
set_option maxRecDepth 4000
/-- A part is taken off, unless that is too much. -/
def offZ (left : Int) (n : Nat) (k : Int → Int) : Int := if IntKind.i64.wrap (left - n) < 0 then -1 else k (IntKind.i64.wrap (left - n))
def chkZ (a : Int) (k : Int → Int) : Int := if a < 0 then -1 else k a
def allZ {α : Type} (g : α → Int → Int) : List α → Int → Int
  | [], a => a
  | x :: xs, a => chkZ (g x a) (allZ g xs)
theorem allZ_at {α : Type} {g : α → Int → Int} {l : List α} {i : Nat} {x : α} (h : l[i]? = some x) (a : Int) : allZ g (l.drop i) a = chkZ (g x a) (allZ g (l.drop (i + 1))) := by
  have hi := (List.getElem?_eq_some_iff.1 h).1
  have he := (List.getElem?_eq_some_iff.1 h).2
  rw [List.drop_eq_getElem_cons hi, he]; rfl
/-- No more is left than was there; what was counted is small. -/
def LeZ (g : Int → Int) (P : Prop) : Prop := ∀ a, 0 ≤ a → a ≤ 1048576 → g a ≤ a ∧ (0 ≤ g a → P)
theorem LeZ.id : LeZ (fun a => a) True := fun a _ _ => ⟨Int.le_refl _, fun _ => trivial⟩
theorem LeZ.off {n : Nat} {k : Int → Int} {P : Prop} (hn : n ≤ 9223372036854775807) (hk : LeZ k P) : LeZ (fun a => offZ a n k) (n ≤ 1048576 ∧ P) := by
  intro a h0 h1
  simp only [offZ]
  rw [w64 (by omega) (by omega)]
  split
  · exact ⟨by omega, fun h => by omega⟩
  · obtain ⟨h2, h3⟩ := hk (a - n) (by omega) (by omega)
    exact ⟨by omega, fun h => ⟨by omega, h3 h⟩⟩
theorem LeZ.chk {g k : Int → Int} {P Q : Prop} (hg : LeZ g P) (hk : LeZ k Q) : LeZ (fun a => chkZ (g a) k) (P ∧ Q) := by
  intro a h0 h1
  obtain ⟨h2, h3⟩ := hg a h0 h1
  simp only [chkZ]
  split
  · exact ⟨by omega, fun h => by omega⟩
  · obtain ⟨h4, h5⟩ := hk (g a) (by omega) (by omega)
    exact ⟨by omega, fun h => ⟨h3 (by omega), h5 h⟩⟩
theorem LeZ.all {α : Type} {g : α → Int → Int} {P : α → Prop} : ∀ {l : List α}, (∀ x, x ∈ l → LeZ (g x) (P x)) → LeZ (allZ g l) (∀ x, x ∈ l → P x)
  | [], _ => fun a _ _ => ⟨Int.le_refl _, fun _ x h => by cases h⟩
  | x :: xs, h => by
    have h1 := (h x (List.mem_cons_self ..)).chk (LeZ.all (l := xs) (fun y hy => h y (List.mem_cons_of_mem _ hy)))
    intro a h0 h2
    obtain ⟨h3, h4⟩ := h1 a h0 h2
    refine ⟨h3, fun h y hy => ?_⟩
    rcases List.mem_cons.1 hy with rfl | hy
    · exact (h4 h).1
    · exact (h4 h).2 y hy
theorem fill_set {α : Type} {f : α → List U} {z : List U} {l : List α} {i : Nat} {x : α} (h : l[i]? = some x) : ((l.take i).map f ++ List.replicate (l.length - i) z).set i (f x) = (l.take (i + 1)).map f ++ List.replicate (l.length - (i + 1)) z := by
  have hi := (List.getElem?_eq_some_iff.1 h).1
  have he := (List.getElem?_eq_some_iff.1 h).2
  have h1 : ((l.take i).map f).length = i := by simp; omega
  rw [List.set_append_right _ _ (by omega), h1, Nat.sub_self, show l.length - i = (l.length - (i + 1)) + 1 by omega, List.replicate_succ, List.set_cons_zero, List.take_succ_eq_append_getElem hi, List.map_append, List.append_assoc, he]
  rfl
theorem fill_get {α : Type} {f : α → List U} {z : List U} {l : List α} {i : Nat} (hi : i < l.length) : ((l.take i).map f ++ List.replicate (l.length - i) z)[i]? = some z := by
  have h1 : ((l.take i).map f).length = i := by simp; omega
  rw [List.getElem?_append_right (by omega), h1, Nat.sub_self, show l.length - i = (l.length - (i + 1)) + 1 by omega, List.replicate_succ]
  rfl
theorem fill_len {α : Type} {f : α → List U} {z : List U} {l : List α} {i : Nat} (hi : i ≤ l.length) : ((l.take i).map f ++ List.replicate (l.length - i) z).length = l.length := by simp; omega
theorem fill_all {α : Type} {f : α → List U} {z : List U} {l : List α} : (l.take l.length).map f ++ List.replicate (l.length - l.length) z = l.map f := by simp
theorem fill_none {α : Type} {f : α → List U} {z : List U} {l : List α} : (l.take 0).map f ++ List.replicate (l.length - 0) z = List.replicate l.length z := by simp
theorem mk_ok (st : St) (d n : Nat) (zero : List U) (bytes : Nat) (h : n * bytes ≤ 140737488355328) : stMk st d (DI (n : Int)) (DI (n : Int)) zero bytes = some (((st.cool (.loc d 0)).obj (.loc d 0) (some (.row zero.length (List.replicate n zero)))).put d (.t (.sc (.own (.loc d 0) n)))) := by
  simp [stMk, D.int?, h]
def SmallIntS (l : (List Int)) : Prop := l.length ≤ 1048576 ∧ True
def szIntSG (l : (List Int)) (left : Int) : Int := offZ left l.length fun a => a
theorem szIntS_ok (l : (List Int)) (left : Int) : EE F 99 [L 1 (l.map iU), I left] [] = ok1 (I (szIntSG l left)) := by
  rw [R99, b99]
  simp only [↓xP, xQ, Nat.reduceBEq, Nat.reduceAdd, IOp.dst, IOp.isF, IOp.args, coolOp]
  refine sel_split (fun h => ?_) (fun h => ?_) <;> (simp only [decide_eq_true_eq, decide_eq_false_iff_not] at h; simp [szIntSG, offZ, h])
theorem szIntS_le (l : (List Int)) (hf : (l.length ≤ 9223372036854775807 ∧ ∀ y, y ∈ l → Fit64 y)) : LeZ (szIntSG l) (SmallIntS l) := LeZ.off hf.1 (LeZ.id)
theorem toIntS_ok (l : (List Int)) (hs : SmallIntS l) : EE F 38 [L 1 (l.map iU)] [] = some ⟨[.sc (.own (.par 0) l.length)], [.row 1 (l.map iU)], []⟩ := by
  have hl := hs.1
  rw [R38, b38]
  simp only [↓xP, xQ, Nat.reduceBEq, Nat.reduceAdd, IOp.dst, IOp.isF, IOp.args, coolOp, mk_ok _ 7 l.length [.int .i64 0] 8 (by omega)]
  refine (loop_ind (fun (i : Nat) st => i ≤ l.length ∧ st.s 0 = DU (.sl 1 (l.map iU)) ∧ st.s 4 = DI i ∧ st.s 3 = .t (.sc (.own (.loc 7 0) l.length)) ∧ st.o (.loc 7 0) = some (.row 1 ((l.take i).map iU ++ List.replicate (l.length - i) [.int .i64 0]))) (fun i => l.length - i) (fun i => some ⟨[.sc (.own (.par 0) l.length)], [.row 1 (l.map iU)], []⟩) ?_ 0 ⟨by omega, by simp only [↓xP, xQ, Nat.reduceBEq, Nat.reduceAdd, IOp.dst, IOp.isF, IOp.args, coolOp], by simp only [↓xP, xQ, Nat.reduceBEq, Nat.reduceAdd, IOp.dst, IOp.isF, IOp.args, coolOp]; rfl, by simp only [↓xP, xQ, Nat.reduceBEq, Nat.reduceAdd, IOp.dst, IOp.isF, IOp.args, coolOp], by simp only [↓xP, xQ, Nat.reduceBEq, Nat.reduceAdd, IOp.dst, IOp.isF, IOp.args, coolOp, Nat.sub_zero]⟩)
  rintro i st ⟨hle, h0, h4, h3, ho⟩ ih
  by_cases hi : i < l.length
  · obtain ⟨x, hx⟩ : ∃ x, l[i]? = some x := ⟨_, List.getElem?_eq_getElem hi⟩
    have hw := w_succ (i := i) (by omega)
    have hg := fill_get (f := iU) (z := [.int .i64 0]) hi
    have hf := fill_set (f := iU) (z := [.int .i64 0]) hx
    simp only [iU] at hf
    simp only [↓xP, xQ, Nat.reduceBEq, Nat.reduceAdd, IOp.dst, IOp.isF, IOp.args, coolOp, h0, h4, h3, ho, hi, hx, hw, hg, hf, iU]
    exact ih (i + 1) _ (by omega) ⟨by omega, by simp only [↓xP, xQ, Nat.reduceBEq, Nat.reduceAdd, IOp.dst, IOp.isF, IOp.args, coolOp, h0], by simp only [↓xP, xQ, Nat.reduceBEq, Nat.reduceAdd, IOp.dst, IOp.isF, IOp.args, coolOp], by simp only [↓xP, xQ, Nat.reduceBEq, Nat.reduceAdd, IOp.dst, IOp.isF, IOp.args, coolOp, h3], by simp only [↓xP, xQ, Nat.reduceBEq, Nat.reduceAdd, IOp.dst, IOp.isF, IOp.args, coolOp, iU]⟩
  · have : i = l.length := by omega
    subst this
    rw [fill_all] at ho
    simp only [↓xP, xQ, Nat.reduceBEq, Nat.reduceAdd, IOp.dst, IOp.isF, IOp.args, coolOp, h0, h4, h3, ho, hi]
theorem eqIntS_ok (l : (List Int)) (hs : SmallIntS l) : EE F 41 [L 1 (l.map iU), L 1 (l.map iU)] [] = ok1 (B true) := by
  have hl := hs.1
  rw [R41, b41]
  simp only [↓xP, xQ, Nat.reduceBEq, Nat.reduceAdd, IOp.dst, IOp.isF, IOp.args, coolOp, ne_eq, not_true_eq_false]
  refine (loop_ind (fun (i : Nat) st => st.s 0 = DU (.sl 1 (l.map iU)) ∧ st.s 1 = DU (.sl 1 (l.map iU)) ∧ st.s 5 = DI i) (fun i => l.length - i) (fun i => ok1 (B true)) ?_ 0 ⟨by simp only [↓xP, xQ, Nat.reduceBEq, Nat.reduceAdd, IOp.dst, IOp.isF, IOp.args, coolOp], by simp only [↓xP, xQ, Nat.reduceBEq, Nat.reduceAdd, IOp.dst, IOp.isF, IOp.args, coolOp], by simp only [↓xP, xQ, Nat.reduceBEq, Nat.reduceAdd, IOp.dst, IOp.isF, IOp.args, coolOp]; rfl⟩)
  rintro i st ⟨h0, h1, h5⟩ ih
  by_cases hi : i < l.length
  · obtain ⟨x, hx⟩ : ∃ x, l[i]? = some x := ⟨_, List.getElem?_eq_getElem hi⟩
    have hw := w_succ (i := i) (by omega)
    simp only [↓xP, xQ, Nat.reduceBEq, Nat.reduceAdd, IOp.dst, IOp.isF, IOp.args, coolOp, h0, h1, h5, hi, hx, hw, iU, ne_eq, not_true_eq_false]
    exact ih (i + 1) _ (by omega) ⟨by simp only [↓xP, xQ, Nat.reduceBEq, Nat.reduceAdd, IOp.dst, IOp.isF, IOp.args, coolOp, h0], by simp only [↓xP, xQ, Nat.reduceBEq, Nat.reduceAdd, IOp.dst, IOp.isF, IOp.args, coolOp, h1], by simp only [↓xP, xQ, Nat.reduceBEq, Nat.reduceAdd, IOp.dst, IOp.isF, IOp.args, coolOp]⟩
  · simp only [↓xP, xQ, Nat.reduceBEq, Nat.reduceAdd, IOp.dst, IOp.isF, IOp.args, coolOp, h0, h1, h5, hi]
def SmallBoolS (l : (List Bool)) : Prop := l.length ≤ 1048576 ∧ True
def Interval.Small (x : Interval) : Prop := x.low.length ≤ 1048576 ∧ x.high.length ≤ 1048576 ∧ True
def szIntervalG (x : Interval) (a : Int) : Int := offZ a x.low.length fun a => offZ a x.high.length fun a => a
theorem szInterval_ok (c0 : Str) (c1 : Str) (left : Int) : EE F 64 [.ag [.u (.str c0), .u (.str c1)], I left] [] = ok1 (I (szIntervalG ⟨c0, c1⟩ left)) := by
  rw [R64, b64]
  simp only [↓xP, xQ, Nat.reduceBEq, Nat.reduceAdd, IOp.dst, IOp.isF, IOp.args, coolOp]
  repeat' (refine sel_split (fun h => ?_) (fun h => ?_))
  all_goals (simp only [decide_eq_true_eq, decide_eq_false_iff_not] at *; simp [szIntervalG, offZ, chkZ, *])
theorem szInterval_le (x : Interval) (hf : Interval.Fit x) : LeZ (szIntervalG x) (Interval.Small x) := LeZ.off hf.1 (LeZ.off hf.2 LeZ.id)
theorem toInterval_ok (c0 : Str) (c1 : Str) : EE F 67 [.ag [.u (.str c0), .u (.str c1)]] [] = ok1 (.ag [.u (.str c0), .u (.str c1)]) := by
  rw [R67, b67]
  simp only [↓xP, xQ, Nat.reduceBEq, Nat.reduceAdd, IOp.dst, IOp.isF, IOp.args, coolOp]
theorem eqInterval_ok (c0 : Str) (c1 : Str) : EE F 98 [.ag [.u (.str c0), .u (.str c1)], .ag [.u (.str c0), .u (.str c1)]] [] = ok1 (B true) := by
  rw [R98, b98]
  simp only [↓xP, xQ, Nat.reduceBEq, Nat.reduceAdd, IOp.dst, IOp.isF, IOp.args, coolOp, ne_eq, not_true_eq_false]
def SmallIntervalS (l : (List Interval)) : Prop := l.length ≤ 1048576 ∧ ∀ y, y ∈ l → Interval.Small y
def Pair.Small (x : Pair) : Prop := x.key.length ≤ 1048576 ∧ True
def szPairG (x : Pair) (a : Int) : Int := offZ a x.key.length fun a => a
theorem szPair_ok (c0 : Str) (c1 : Int) (left : Int) : EE F 142 [.ag [.u (.str c0), .u (.int .i64 c1)], I left] [] = ok1 (I (szPairG ⟨c0, c1⟩ left)) := by
  rw [R142, b142]
  simp only [↓xP, xQ, Nat.reduceBEq, Nat.reduceAdd, IOp.dst, IOp.isF, IOp.args, coolOp]
  repeat' (refine sel_split (fun h => ?_) (fun h => ?_))
  all_goals (simp only [decide_eq_true_eq, decide_eq_false_iff_not] at *; simp [szPairG, offZ, chkZ, *])
theorem szPair_le (x : Pair) (hf : Pair.Fit x) : LeZ (szPairG x) (Pair.Small x) := LeZ.off hf.1 LeZ.id
theorem toPair_ok (c0 : Str) (c1 : Int) : EE F 144 [.ag [.u (.str c0), .u (.int .i64 c1)]] [] = ok1 (.ag [.u (.str c0), .u (.int .i64 c1)]) := by
  rw [R144, b144]
  simp only [↓xP, xQ, Nat.reduceBEq, Nat.reduceAdd, IOp.dst, IOp.isF, IOp.args, coolOp]
theorem eqPair_ok (c0 : Str) (c1 : Int) : EE F 133 [.ag [.u (.str c0), .u (.int .i64 c1)], .ag [.u (.str c0), .u (.int .i64 c1)]] [] = ok1 (B true) := by
  rw [R133, b133]
  simp only [↓xP, xQ, Nat.reduceBEq, Nat.reduceAdd, IOp.dst, IOp.isF, IOp.args, coolOp, ne_eq, not_true_eq_false]
def SmallPairS (l : (List Pair)) : Prop := l.length ≤ 1048576 ∧ ∀ y, y ∈ l → Pair.Small y
def szPairSG (l : (List Pair)) (left : Int) : Int := offZ left l.length fun a => allZ szPairG l a
theorem szPairS_ok (l : (List Pair)) (hf : (l.length ≤ 9223372036854775807 ∧ ∀ y, y ∈ l → Pair.Fit y)) (left : Int) : EE F 90 [L 2 (l.map Pair.u), I left] [] = ok1 (I (szPairSG l left)) := by
  have hl := hf.1
  rw [R90, b90]
  simp only [↓xP, xQ, Nat.reduceBEq, Nat.reduceAdd, IOp.dst, IOp.isF, IOp.args, coolOp]
  refine sel_split (fun h => ?_) (fun h => ?_)
  · simp only [decide_eq_true_eq] at h
    simp [szPairSG, offZ, h]
  · refine (loop_ind (fun (a : Nat × Int) st => st.s 0 = DU (.sl 2 (l.map Pair.u)) ∧ st.s 5 = DI a.1 ∧ st.s 1 = DI a.2) (fun a => l.length - a.1) (fun a => ok1 (I (allZ szPairG (l.drop a.1) a.2))) ?_ (0, IntKind.i64.wrap (left - l.length)) ⟨by simp only [↓xP, xQ, Nat.reduceBEq, Nat.reduceAdd, IOp.dst, IOp.isF, IOp.args, coolOp], by simp only [↓xP, xQ, Nat.reduceBEq, Nat.reduceAdd, IOp.dst, IOp.isF, IOp.args, coolOp]; rfl, by simp only [↓xP, xQ, Nat.reduceBEq, Nat.reduceAdd, IOp.dst, IOp.isF, IOp.args, coolOp]⟩).trans ?_
    · rintro ⟨i, a⟩ st ⟨h0, h5, h1⟩ ih
      dsimp only at h0 h5 h1 ih ⊢
      by_cases hi : i < l.length
      · obtain ⟨⟨c0, c1⟩, hx⟩ : ∃ x, l[i]? = some x := ⟨_, List.getElem?_eq_getElem hi⟩
        have hw := w_succ (i := i) (by omega)
        have hfx := hf.2 _ (List.mem_of_getElem? hx)
        simp only [↓xP, xQ, Nat.reduceBEq, Nat.reduceAdd, IOp.dst, IOp.isF, IOp.args, coolOp, h0, h5, h1, hi, hx, hw, Pair.u, szPair_ok]
        rw [allZ_at hx, chkZ]
        refine sel_split (fun h => ?_) (fun h => ?_)
        · simp only [decide_eq_true_eq] at h
          simp [h]
        · rw [ih (i + 1, szPairG ⟨c0, c1⟩ a) _ (by dsimp only; omega) ⟨by simp only [↓xP, xQ, Nat.reduceBEq, Nat.reduceAdd, IOp.dst, IOp.isF, IOp.args, coolOp, h0], by simp only [↓xP, xQ, Nat.reduceBEq, Nat.reduceAdd, IOp.dst, IOp.isF, IOp.args, coolOp], by simp only [↓xP, xQ, Nat.reduceBEq, Nat.reduceAdd, IOp.dst, IOp.isF, IOp.args, coolOp]⟩]
          simp only [decide_eq_false_iff_not] at h
          simp [h]
      · simp only [↓xP, xQ, Nat.reduceBEq, Nat.reduceAdd, IOp.dst, IOp.isF, IOp.args, coolOp, h0, h5, h1, hi]
        rw [List.drop_of_length_le (by omega)]; rfl
    · simp only [decide_eq_false_iff_not] at h
      simp [szPairSG, offZ, h]
theorem szPairS_le (l : (List Pair)) (hf : (l.length ≤ 9223372036854775807 ∧ ∀ y, y ∈ l → Pair.Fit y)) : LeZ (szPairSG l) (SmallPairS l) := LeZ.off hf.1 (LeZ.all fun x hx => szPair_le x (hf.2 x hx))
theorem toPairS_ok (l : (List Pair)) (hs : SmallPairS l) : EE F 94 [L 2 (l.map Pair.u)] [] = some ⟨[.sc (.own (.par 0) l.length)], [.row 2 (l.map Pair.u)], []⟩ := by
  have hl := hs.1
  rw [R94, b94]
  simp only [↓xP, xQ, Nat.reduceBEq, Nat.reduceAdd, IOp.dst, IOp.isF, IOp.args, coolOp, mk_ok _ 7 l.length [.str [], .int .i64 0] 24 (by omega)]
  refine (loop_ind (fun (i : Nat) st => i ≤ l.length ∧ st.s 0 = DU (.sl 2 (l.map Pair.u)) ∧ st.s 4 = DI i ∧ st.s 3 = .t (.sc (.own (.loc 7 0) l.length)) ∧ st.o (.loc 7 0) = some (.row 2 ((l.take i).map Pair.u ++ List.replicate (l.length - i) [.str [], .int .i64 0]))) (fun i => l.length - i) (fun i => some ⟨[.sc (.own (.par 0) l.length)], [.row 2 (l.map Pair.u)], []⟩) ?_ 0 ⟨by omega, by simp only [↓xP, xQ, Nat.reduceBEq, Nat.reduceAdd, IOp.dst, IOp.isF, IOp.args, coolOp], by simp only [↓xP, xQ, Nat.reduceBEq, Nat.reduceAdd, IOp.dst, IOp.isF, IOp.args, coolOp]; rfl, by simp only [↓xP, xQ, Nat.reduceBEq, Nat.reduceAdd, IOp.dst, IOp.isF, IOp.args, coolOp], by simp only [↓xP, xQ, Nat.reduceBEq, Nat.reduceAdd, IOp.dst, IOp.isF, IOp.args, coolOp, Nat.sub_zero]⟩)
  rintro i st ⟨hle, h0, h4, h3, ho⟩ ih
  by_cases hi : i < l.length
  · obtain ⟨⟨c0, c1⟩, hx⟩ : ∃ x, l[i]? = some x := ⟨_, List.getElem?_eq_getElem hi⟩
    have hw := w_succ (i := i) (by omega)
    have hg := fill_get (f := Pair.u) (z := [.str [], .int .i64 0]) hi
    have hf := fill_set (f := Pair.u) (z := [.str [], .int .i64 0]) hx
    simp only [Pair.u] at hf
    simp only [↓xP, xQ, Nat.reduceBEq, Nat.reduceAdd, IOp.dst, IOp.isF, IOp.args, coolOp, h0, h4, h3, ho, hi, hx, hw, hg, hf, Pair.u, toPair_ok]
    exact ih (i + 1) _ (by omega) ⟨by omega, by simp only [↓xP, xQ, Nat.reduceBEq, Nat.reduceAdd, IOp.dst, IOp.isF, IOp.args, coolOp, h0], by simp only [↓xP, xQ, Nat.reduceBEq, Nat.reduceAdd, IOp.dst, IOp.isF, IOp.args, coolOp], by simp only [↓xP, xQ, Nat.reduceBEq, Nat.reduceAdd, IOp.dst, IOp.isF, IOp.args, coolOp, h3], by simp only [↓xP, xQ, Nat.reduceBEq, Nat.reduceAdd, IOp.dst, IOp.isF, IOp.args, coolOp, Pair.u]⟩
  · have : i = l.length := by omega
    subst this
    rw [fill_all] at ho
    simp only [↓xP, xQ, Nat.reduceBEq, Nat.reduceAdd, IOp.dst, IOp.isF, IOp.args, coolOp, h0, h4, h3, ho, hi]
theorem eqPairS_ok (l : (List Pair)) (hs : SmallPairS l) : EE F 69 [L 2 (l.map Pair.u), L 2 (l.map Pair.u)] [] = ok1 (B true) := by
  have hl := hs.1
  rw [R69, b69]
  simp only [↓xP, xQ, Nat.reduceBEq, Nat.reduceAdd, IOp.dst, IOp.isF, IOp.args, coolOp, ne_eq, not_true_eq_false]
  refine (loop_ind (fun (i : Nat) st => st.s 0 = DU (.sl 2 (l.map Pair.u)) ∧ st.s 1 = DU (.sl 2 (l.map Pair.u)) ∧ st.s 5 = DI i) (fun i => l.length - i) (fun i => ok1 (B true)) ?_ 0 ⟨by simp only [↓xP, xQ, Nat.reduceBEq, Nat.reduceAdd, IOp.dst, IOp.isF, IOp.args, coolOp], by simp only [↓xP, xQ, Nat.reduceBEq, Nat.reduceAdd, IOp.dst, IOp.isF, IOp.args, coolOp], by simp only [↓xP, xQ, Nat.reduceBEq, Nat.reduceAdd, IOp.dst, IOp.isF, IOp.args, coolOp]; rfl⟩)
  rintro i st ⟨h0, h1, h5⟩ ih
  by_cases hi : i < l.length
  · obtain ⟨⟨c0, c1⟩, hx⟩ : ∃ x, l[i]? = some x := ⟨_, List.getElem?_eq_getElem hi⟩
    have hw := w_succ (i := i) (by omega)
    simp only [↓xP, xQ, Nat.reduceBEq, Nat.reduceAdd, IOp.dst, IOp.isF, IOp.args, coolOp, h0, h1, h5, hi, hx, hw, Pair.u, eqPair_ok, ne_eq, not_true_eq_false]
    exact ih (i + 1) _ (by omega) ⟨by simp only [↓xP, xQ, Nat.reduceBEq, Nat.reduceAdd, IOp.dst, IOp.isF, IOp.args, coolOp, h0], by simp only [↓xP, xQ, Nat.reduceBEq, Nat.reduceAdd, IOp.dst, IOp.isF, IOp.args, coolOp, h1], by simp only [↓xP, xQ, Nat.reduceBEq, Nat.reduceAdd, IOp.dst, IOp.isF, IOp.args, coolOp]⟩
  · simp only [↓xP, xQ, Nat.reduceBEq, Nat.reduceAdd, IOp.dst, IOp.isF, IOp.args, coolOp, h0, h1, h5, hi]
def Command.Small (x : Command) : Prop := x.key.length ≤ 1048576 ∧ True
def szCommandG (x : Command) (a : Int) : Int := offZ a x.key.length fun a => a
theorem szCommand_ok (c0 : Int) (c1 : Str) (c2 : Int) (c3 : Int) (left : Int) : EE F 106 [.ag [.u (.int .i64 c0), .u (.str c1), .u (.int .i64 c2), .u (.int .i64 c3)], I left] [] = ok1 (I (szCommandG ⟨c0, c1, c2, c3⟩ left)) := by
  rw [R106, b106]
  simp only [↓xP, xQ, Nat.reduceBEq, Nat.reduceAdd, IOp.dst, IOp.isF, IOp.args, coolOp]
  repeat' (refine sel_split (fun h => ?_) (fun h => ?_))
  all_goals (simp only [decide_eq_true_eq, decide_eq_false_iff_not] at *; simp [szCommandG, offZ, chkZ, *])
theorem szCommand_le (x : Command) (hf : Command.Fit x) : LeZ (szCommandG x) (Command.Small x) := LeZ.off hf.2.1 LeZ.id
theorem toCommand_ok (c0 : Int) (c1 : Str) (c2 : Int) (c3 : Int) : EE F 112 [.ag [.u (.int .i64 c0), .u (.str c1), .u (.int .i64 c2), .u (.int .i64 c3)]] [] = ok1 (.ag [.u (.int .i64 c0), .u (.str c1), .u (.int .i64 c2), .u (.int .i64 c3)]) := by
  rw [R112, b112]
  simp only [↓xP, xQ, Nat.reduceBEq, Nat.reduceAdd, IOp.dst, IOp.isF, IOp.args, coolOp]
def SmallCommandS (l : (List Command)) : Prop := l.length ≤ 1048576 ∧ ∀ y, y ∈ l → Command.Small y
theorem toSession_ok (c0 : Int) (c1 : Int) (c2 : Int) : EE F 158 [.ag [.u (.int .i64 c0), .u (.int .i64 c1), .u (.int .i64 c2)]] [] = ok1 (.ag [.u (.int .i64 c0), .u (.int .i64 c1), .u (.int .i64 c2)]) := by
  rw [R158, b158]
  simp only [↓xP, xQ, Nat.reduceBEq, Nat.reduceAdd, IOp.dst, IOp.isF, IOp.args, coolOp]
theorem eqSession_ok (c0 : Int) (c1 : Int) (c2 : Int) : EE F 161 [.ag [.u (.int .i64 c0), .u (.int .i64 c1), .u (.int .i64 c2)], .ag [.u (.int .i64 c0), .u (.int .i64 c1), .u (.int .i64 c2)]] [] = ok1 (B true) := by
  rw [R161, b161]
  simp only [↓xP, xQ, Nat.reduceBEq, Nat.reduceAdd, IOp.dst, IOp.isF, IOp.args, coolOp, ne_eq, not_true_eq_false]
def SmallSessionS (l : (List Session)) : Prop := l.length ≤ 1048576 ∧ True
def szSessionSG (l : (List Session)) (left : Int) : Int := offZ left l.length fun a => a
theorem szSessionS_ok (l : (List Session)) (left : Int) : EE F 123 [L 3 (l.map Session.u), I left] [] = ok1 (I (szSessionSG l left)) := by
  rw [R123, b123]
  simp only [↓xP, xQ, Nat.reduceBEq, Nat.reduceAdd, IOp.dst, IOp.isF, IOp.args, coolOp]
  refine sel_split (fun h => ?_) (fun h => ?_) <;> (simp only [decide_eq_true_eq, decide_eq_false_iff_not] at h; simp [szSessionSG, offZ, h])
theorem szSessionS_le (l : (List Session)) (hf : (l.length ≤ 9223372036854775807 ∧ ∀ y, y ∈ l → Session.Fit y)) : LeZ (szSessionSG l) (SmallSessionS l) := LeZ.off hf.1 (LeZ.id)
theorem toSessionS_ok (l : (List Session)) (hs : SmallSessionS l) : EE F 126 [L 3 (l.map Session.u)] [] = some ⟨[.sc (.own (.par 0) l.length)], [.row 3 (l.map Session.u)], []⟩ := by
  have hl := hs.1
  rw [R126, b126]
  simp only [↓xP, xQ, Nat.reduceBEq, Nat.reduceAdd, IOp.dst, IOp.isF, IOp.args, coolOp, mk_ok _ 7 l.length [.int .i64 0, .int .i64 0, .int .i64 0] 24 (by omega)]
  refine (loop_ind (fun (i : Nat) st => i ≤ l.length ∧ st.s 0 = DU (.sl 3 (l.map Session.u)) ∧ st.s 4 = DI i ∧ st.s 3 = .t (.sc (.own (.loc 7 0) l.length)) ∧ st.o (.loc 7 0) = some (.row 3 ((l.take i).map Session.u ++ List.replicate (l.length - i) [.int .i64 0, .int .i64 0, .int .i64 0]))) (fun i => l.length - i) (fun i => some ⟨[.sc (.own (.par 0) l.length)], [.row 3 (l.map Session.u)], []⟩) ?_ 0 ⟨by omega, by simp only [↓xP, xQ, Nat.reduceBEq, Nat.reduceAdd, IOp.dst, IOp.isF, IOp.args, coolOp], by simp only [↓xP, xQ, Nat.reduceBEq, Nat.reduceAdd, IOp.dst, IOp.isF, IOp.args, coolOp]; rfl, by simp only [↓xP, xQ, Nat.reduceBEq, Nat.reduceAdd, IOp.dst, IOp.isF, IOp.args, coolOp], by simp only [↓xP, xQ, Nat.reduceBEq, Nat.reduceAdd, IOp.dst, IOp.isF, IOp.args, coolOp, Nat.sub_zero]⟩)
  rintro i st ⟨hle, h0, h4, h3, ho⟩ ih
  by_cases hi : i < l.length
  · obtain ⟨⟨c0, c1, c2⟩, hx⟩ : ∃ x, l[i]? = some x := ⟨_, List.getElem?_eq_getElem hi⟩
    have hw := w_succ (i := i) (by omega)
    have hg := fill_get (f := Session.u) (z := [.int .i64 0, .int .i64 0, .int .i64 0]) hi
    have hf := fill_set (f := Session.u) (z := [.int .i64 0, .int .i64 0, .int .i64 0]) hx
    simp only [Session.u] at hf
    simp only [↓xP, xQ, Nat.reduceBEq, Nat.reduceAdd, IOp.dst, IOp.isF, IOp.args, coolOp, h0, h4, h3, ho, hi, hx, hw, hg, hf, Session.u, toSession_ok]
    exact ih (i + 1) _ (by omega) ⟨by omega, by simp only [↓xP, xQ, Nat.reduceBEq, Nat.reduceAdd, IOp.dst, IOp.isF, IOp.args, coolOp, h0], by simp only [↓xP, xQ, Nat.reduceBEq, Nat.reduceAdd, IOp.dst, IOp.isF, IOp.args, coolOp], by simp only [↓xP, xQ, Nat.reduceBEq, Nat.reduceAdd, IOp.dst, IOp.isF, IOp.args, coolOp, h3], by simp only [↓xP, xQ, Nat.reduceBEq, Nat.reduceAdd, IOp.dst, IOp.isF, IOp.args, coolOp, Session.u]⟩
  · have : i = l.length := by omega
    subst this
    rw [fill_all] at ho
    simp only [↓xP, xQ, Nat.reduceBEq, Nat.reduceAdd, IOp.dst, IOp.isF, IOp.args, coolOp, h0, h4, h3, ho, hi]
theorem eqSessionS_ok (l : (List Session)) (hs : SmallSessionS l) : EE F 129 [L 3 (l.map Session.u), L 3 (l.map Session.u)] [] = ok1 (B true) := by
  have hl := hs.1
  rw [R129, b129]
  simp only [↓xP, xQ, Nat.reduceBEq, Nat.reduceAdd, IOp.dst, IOp.isF, IOp.args, coolOp, ne_eq, not_true_eq_false]
  refine (loop_ind (fun (i : Nat) st => st.s 0 = DU (.sl 3 (l.map Session.u)) ∧ st.s 1 = DU (.sl 3 (l.map Session.u)) ∧ st.s 5 = DI i) (fun i => l.length - i) (fun i => ok1 (B true)) ?_ 0 ⟨by simp only [↓xP, xQ, Nat.reduceBEq, Nat.reduceAdd, IOp.dst, IOp.isF, IOp.args, coolOp], by simp only [↓xP, xQ, Nat.reduceBEq, Nat.reduceAdd, IOp.dst, IOp.isF, IOp.args, coolOp], by simp only [↓xP, xQ, Nat.reduceBEq, Nat.reduceAdd, IOp.dst, IOp.isF, IOp.args, coolOp]; rfl⟩)
  rintro i st ⟨h0, h1, h5⟩ ih
  by_cases hi : i < l.length
  · obtain ⟨⟨c0, c1, c2⟩, hx⟩ : ∃ x, l[i]? = some x := ⟨_, List.getElem?_eq_getElem hi⟩
    have hw := w_succ (i := i) (by omega)
    simp only [↓xP, xQ, Nat.reduceBEq, Nat.reduceAdd, IOp.dst, IOp.isF, IOp.args, coolOp, h0, h1, h5, hi, hx, hw, Session.u, eqSession_ok, ne_eq, not_true_eq_false]
    exact ih (i + 1) _ (by omega) ⟨by simp only [↓xP, xQ, Nat.reduceBEq, Nat.reduceAdd, IOp.dst, IOp.isF, IOp.args, coolOp, h0], by simp only [↓xP, xQ, Nat.reduceBEq, Nat.reduceAdd, IOp.dst, IOp.isF, IOp.args, coolOp, h1], by simp only [↓xP, xQ, Nat.reduceBEq, Nat.reduceAdd, IOp.dst, IOp.isF, IOp.args, coolOp]⟩
  · simp only [↓xP, xQ, Nat.reduceBEq, Nat.reduceAdd, IOp.dst, IOp.isF, IOp.args, coolOp, h0, h1, h5, hi]
def Entry.Small (x : Entry) : Prop := Command.Small x.cmd ∧ True
def szEntryG (x : Entry) (a : Int) : Int := chkZ (szCommandG x.cmd a) fun a => a
theorem szEntry_ok (c0 : Int) (c1 : Int) (c2 : Int) (c3 : Str) (c4 : Int) (c5 : Int) (left : Int) : EE F 148 [.ag [.u (.int .i64 c0), .u (.int .i64 c1), .u (.int .i64 c2), .u (.str c3), .u (.int .i64 c4), .u (.int .i64 c5)], I left] [] = ok1 (I (szEntryG ⟨c0, c1, ⟨c2, c3, c4, c5⟩⟩ left)) := by
  rw [R148, b148]
  simp only [↓xP, xQ, Nat.reduceBEq, Nat.reduceAdd, IOp.dst, IOp.isF, IOp.args, coolOp, szCommand_ok]
  repeat' (refine sel_split (fun h => ?_) (fun h => ?_))
  all_goals (simp only [decide_eq_true_eq, decide_eq_false_iff_not] at *; simp [szEntryG, offZ, chkZ, *])
theorem szEntry_le (x : Entry) (hf : Entry.Fit x) : LeZ (szEntryG x) (Entry.Small x) := LeZ.chk (szCommand_le _ hf.2.2) LeZ.id
theorem toEntry_ok (c0 : Int) (c1 : Int) (c2 : Int) (c3 : Str) (c4 : Int) (c5 : Int) : EE F 151 [.ag [.u (.int .i64 c0), .u (.int .i64 c1), .u (.int .i64 c2), .u (.str c3), .u (.int .i64 c4), .u (.int .i64 c5)]] [] = ok1 (.ag [.u (.int .i64 c0), .u (.int .i64 c1), .u (.int .i64 c2), .u (.str c3), .u (.int .i64 c4), .u (.int .i64 c5)]) := by
  rw [R151, b151]
  simp only [↓xP, xQ, Nat.reduceBEq, Nat.reduceAdd, IOp.dst, IOp.isF, IOp.args, coolOp, toCommand_ok]
def SmallEntryS (l : (List Entry)) : Prop := l.length ≤ 1048576 ∧ ∀ y, y ∈ l → Entry.Small y
def Answer.Small (x : Answer) : Prop := Entry.Small x.asked ∧ True
def SmallAnswerS (l : (List Answer)) : Prop := l.length ≤ 1048576 ∧ ∀ y, y ∈ l → Answer.Small y
def State.Small (x : State) : Prop := Interval.Small x.span ∧ SmallPairS x.pairs ∧ SmallSessionS x.known ∧ x.cut.length ≤ 1048576 ∧ True
def szStateG (x : State) (a : Int) : Int := chkZ (szIntervalG x.span a) fun a => chkZ (szPairSG x.pairs a) fun a => chkZ (szSessionSG x.known a) fun a => offZ a x.cut.length fun a => a
theorem szState_ok (c0 : Str) (c1 : Str) (c2 : (List Pair)) (c3 : (List Session)) (c4 : Bool) (c5 : Str) (hf : State.Fit ⟨⟨c0, c1⟩, c2, c3, c4, c5⟩) (left : Int) : EE F 56 [.ag [.u (.str c0), .u (.str c1), .u (.sl 2 (c2.map Pair.u)), .u (.sl 3 (c3.map Session.u)), .u (.bool c4), .u (.str c5)], I left] [] = ok1 (I (szStateG ⟨⟨c0, c1⟩, c2, c3, c4, c5⟩ left)) := by
  rw [R56, b56]
  simp only [↓xP, xQ, Nat.reduceBEq, Nat.reduceAdd, IOp.dst, IOp.isF, IOp.args, coolOp, szInterval_ok, szPairS_ok c2 hf.2.1, szSessionS_ok]
  repeat' (refine sel_split (fun h => ?_) (fun h => ?_))
  all_goals (simp only [decide_eq_true_eq, decide_eq_false_iff_not] at *; simp [szStateG, offZ, chkZ, *])
theorem szState_le (x : State) (hf : State.Fit x) : LeZ (szStateG x) (State.Small x) := LeZ.chk (szInterval_le _ hf.1) (LeZ.chk (szPairS_le _ hf.2.1) (LeZ.chk (szSessionS_le _ hf.2.2.1) (LeZ.off hf.2.2.2.2 LeZ.id)))
theorem toState_ok (c0 : Str) (c1 : Str) (c2 : (List Pair)) (c3 : (List Session)) (c4 : Bool) (c5 : Str) (hs : State.Small ⟨⟨c0, c1⟩, c2, c3, c4, c5⟩) : EE F 58 [.ag [.u (.str c0), .u (.str c1), .u (.sl 2 (c2.map Pair.u)), .u (.sl 3 (c3.map Session.u)), .u (.bool c4), .u (.str c5)]] [] = some ⟨[.ag [.u (.str c0), .u (.str c1), .own (.par 0) c2.length, .own (.par 1) c3.length, .u (.bool c4), .u (.str c5)]], [.row 2 (c2.map Pair.u), .row 3 (c3.map Session.u)], []⟩ := by
  rw [R58, b58]
  simp only [↓xP, xQ, Nat.reduceBEq, Nat.reduceAdd, IOp.dst, IOp.isF, IOp.args, coolOp, toInterval_ok, toPairS_ok c2 hs.2.1, toSessionS_ok c3 hs.2.2.1]
theorem eqState_ok (c0 : Str) (c1 : Str) (c2 : (List Pair)) (c3 : (List Session)) (c4 : Bool) (c5 : Str) (hs : State.Small ⟨⟨c0, c1⟩, c2, c3, c4, c5⟩) : EE F 60 [.ag [.u (.str c0), .u (.str c1), .u (.sl 2 (c2.map Pair.u)), .u (.sl 3 (c3.map Session.u)), .u (.bool c4), .u (.str c5)], .ag [.u (.str c0), .u (.str c1), .u (.sl 2 (c2.map Pair.u)), .u (.sl 3 (c3.map Session.u)), .u (.bool c4), .u (.str c5)]] [] = ok1 (B true) := by
  rw [R60, b60]
  simp only [↓xP, xQ, Nat.reduceBEq, Nat.reduceAdd, IOp.dst, IOp.isF, IOp.args, coolOp, eqInterval_ok, eqPairS_ok c2 hs.2.1, eqSessionS_ok c3 hs.2.2.1, ne_eq, not_true_eq_false]
def SmallStateS (l : (List State)) : Prop := l.length ≤ 1048576 ∧ ∀ y, y ∈ l → State.Small y
def Piece.Small (x : Piece) : Prop := Interval.Small x.span ∧ SmallPairS x.pairs ∧ True
def szPieceG (x : Piece) (a : Int) : Int := chkZ (szIntervalG x.span a) fun a => chkZ (szPairSG x.pairs a) fun a => a
theorem szPiece_ok (c0 : Str) (c1 : Str) (c2 : (List Pair)) (hf : Piece.Fit ⟨⟨c0, c1⟩, c2⟩) (left : Int) : EE F 30 [.ag [.u (.str c0), .u (.str c1), .u (.sl 2 (c2.map Pair.u))], I left] [] = ok1 (I (szPieceG ⟨⟨c0, c1⟩, c2⟩ left)) := by
  rw [R30, b30]
  simp only [↓xP, xQ, Nat.reduceBEq, Nat.reduceAdd, IOp.dst, IOp.isF, IOp.args, coolOp, szInterval_ok, szPairS_ok c2 hf.2]
  repeat' (refine sel_split (fun h => ?_) (fun h => ?_))
  all_goals (simp only [decide_eq_true_eq, decide_eq_false_iff_not] at *; simp [szPieceG, offZ, chkZ, *])
theorem szPiece_le (x : Piece) (hf : Piece.Fit x) : LeZ (szPieceG x) (Piece.Small x) := LeZ.chk (szInterval_le _ hf.1) (LeZ.chk (szPairS_le _ hf.2) LeZ.id)
theorem toPiece_ok (c0 : Str) (c1 : Str) (c2 : (List Pair)) (hs : Piece.Small ⟨⟨c0, c1⟩, c2⟩) : EE F 32 [.ag [.u (.str c0), .u (.str c1), .u (.sl 2 (c2.map Pair.u))]] [] = some ⟨[.ag [.u (.str c0), .u (.str c1), .own (.par 0) c2.length]], [.row 2 (c2.map Pair.u)], []⟩ := by
  rw [R32, b32]
  simp only [↓xP, xQ, Nat.reduceBEq, Nat.reduceAdd, IOp.dst, IOp.isF, IOp.args, coolOp, toInterval_ok, toPairS_ok c2 hs.2.1]
theorem eqPiece_ok (c0 : Str) (c1 : Str) (c2 : (List Pair)) (hs : Piece.Small ⟨⟨c0, c1⟩, c2⟩) : EE F 34 [.ag [.u (.str c0), .u (.str c1), .u (.sl 2 (c2.map Pair.u))], .ag [.u (.str c0), .u (.str c1), .u (.sl 2 (c2.map Pair.u))]] [] = ok1 (B true) := by
  rw [R34, b34]
  simp only [↓xP, xQ, Nat.reduceBEq, Nat.reduceAdd, IOp.dst, IOp.isF, IOp.args, coolOp, eqInterval_ok, eqPairS_ok c2 hs.2.1, ne_eq, not_true_eq_false]
def SmallPieceS (l : (List Piece)) : Prop := l.length ≤ 1048576 ∧ ∀ y, y ∈ l → Piece.Small y
def szPieceSG (l : (List Piece)) (left : Int) : Int := offZ left l.length fun a => allZ szPieceG l a
theorem szPieceS_ok (l : (List Piece)) (hf : (l.length ≤ 9223372036854775807 ∧ ∀ y, y ∈ l → Piece.Fit y)) (left : Int) : EE F 63 [L 3 (l.map Piece.u), I left] [] = ok1 (I (szPieceSG l left)) := by
  have hl := hf.1
  rw [R63, b63]
  simp only [↓xP, xQ, Nat.reduceBEq, Nat.reduceAdd, IOp.dst, IOp.isF, IOp.args, coolOp]
  refine sel_split (fun h => ?_) (fun h => ?_)
  · simp only [decide_eq_true_eq] at h
    simp [szPieceSG, offZ, h]
  · refine (loop_ind (fun (a : Nat × Int) st => st.s 0 = DU (.sl 3 (l.map Piece.u)) ∧ st.s 5 = DI a.1 ∧ st.s 1 = DI a.2) (fun a => l.length - a.1) (fun a => ok1 (I (allZ szPieceG (l.drop a.1) a.2))) ?_ (0, IntKind.i64.wrap (left - l.length)) ⟨by simp only [↓xP, xQ, Nat.reduceBEq, Nat.reduceAdd, IOp.dst, IOp.isF, IOp.args, coolOp], by simp only [↓xP, xQ, Nat.reduceBEq, Nat.reduceAdd, IOp.dst, IOp.isF, IOp.args, coolOp]; rfl, by simp only [↓xP, xQ, Nat.reduceBEq, Nat.reduceAdd, IOp.dst, IOp.isF, IOp.args, coolOp]⟩).trans ?_
    · rintro ⟨i, a⟩ st ⟨h0, h5, h1⟩ ih
      dsimp only at h0 h5 h1 ih ⊢
      by_cases hi : i < l.length
      · obtain ⟨⟨⟨c0, c1⟩, c2⟩, hx⟩ : ∃ x, l[i]? = some x := ⟨_, List.getElem?_eq_getElem hi⟩
        have hw := w_succ (i := i) (by omega)
        have hfx := hf.2 _ (List.mem_of_getElem? hx)
        simp only [↓xP, xQ, Nat.reduceBEq, Nat.reduceAdd, IOp.dst, IOp.isF, IOp.args, coolOp, h0, h5, h1, hi, hx, hw, Piece.u, szPiece_ok c0 c1 c2 hfx]
        rw [allZ_at hx, chkZ]
        refine sel_split (fun h => ?_) (fun h => ?_)
        · simp only [decide_eq_true_eq] at h
          simp [h]
        · rw [ih (i + 1, szPieceG ⟨⟨c0, c1⟩, c2⟩ a) _ (by dsimp only; omega) ⟨by simp only [↓xP, xQ, Nat.reduceBEq, Nat.reduceAdd, IOp.dst, IOp.isF, IOp.args, coolOp, h0], by simp only [↓xP, xQ, Nat.reduceBEq, Nat.reduceAdd, IOp.dst, IOp.isF, IOp.args, coolOp], by simp only [↓xP, xQ, Nat.reduceBEq, Nat.reduceAdd, IOp.dst, IOp.isF, IOp.args, coolOp]⟩]
          simp only [decide_eq_false_iff_not] at h
          simp [h]
      · simp only [↓xP, xQ, Nat.reduceBEq, Nat.reduceAdd, IOp.dst, IOp.isF, IOp.args, coolOp, h0, h5, h1, hi]
        rw [List.drop_of_length_le (by omega)]; rfl
    · simp only [decide_eq_false_iff_not] at h
      simp [szPieceSG, offZ, h]
theorem szPieceS_le (l : (List Piece)) (hf : (l.length ≤ 9223372036854775807 ∧ ∀ y, y ∈ l → Piece.Fit y)) : LeZ (szPieceSG l) (SmallPieceS l) := LeZ.off hf.1 (LeZ.all fun x hx => szPiece_le x (hf.2 x hx))
theorem toPieceS_ok (l : (List Piece)) (hs : SmallPieceS l) : EE F 66 [L 3 (l.map Piece.u)] [] = some ⟨[.sc (.own (.par 0) l.length)], [.row 3 (l.map Piece.u)], []⟩ := by
  have hl := hs.1
  rw [R66, b66]
  simp only [↓xP, xQ, Nat.reduceBEq, Nat.reduceAdd, IOp.dst, IOp.isF, IOp.args, coolOp, mk_ok _ 7 l.length [.str [], .str [], .sl 2 []] 56 (by omega)]
  refine (loop_ind (fun (i : Nat) st => i ≤ l.length ∧ st.s 0 = DU (.sl 3 (l.map Piece.u)) ∧ st.s 4 = DI i ∧ st.s 3 = .t (.sc (.own (.loc 7 0) l.length)) ∧ st.o (.loc 7 0) = some (.row 3 ((l.take i).map Piece.u ++ List.replicate (l.length - i) [.str [], .str [], .sl 2 []]))) (fun i => l.length - i) (fun i => some ⟨[.sc (.own (.par 0) l.length)], [.row 3 (l.map Piece.u)], []⟩) ?_ 0 ⟨by omega, by simp only [↓xP, xQ, Nat.reduceBEq, Nat.reduceAdd, IOp.dst, IOp.isF, IOp.args, coolOp], by simp only [↓xP, xQ, Nat.reduceBEq, Nat.reduceAdd, IOp.dst, IOp.isF, IOp.args, coolOp]; rfl, by simp only [↓xP, xQ, Nat.reduceBEq, Nat.reduceAdd, IOp.dst, IOp.isF, IOp.args, coolOp], by simp only [↓xP, xQ, Nat.reduceBEq, Nat.reduceAdd, IOp.dst, IOp.isF, IOp.args, coolOp, Nat.sub_zero]⟩)
  rintro i st ⟨hle, h0, h4, h3, ho⟩ ih
  by_cases hi : i < l.length
  · obtain ⟨⟨⟨c0, c1⟩, c2⟩, hx⟩ : ∃ x, l[i]? = some x := ⟨_, List.getElem?_eq_getElem hi⟩
    have hw := w_succ (i := i) (by omega)
    have hg := fill_get (f := Piece.u) (z := [.str [], .str [], .sl 2 []]) hi
    have hf := fill_set (f := Piece.u) (z := [.str [], .str [], .sl 2 []]) hx
    simp only [Piece.u] at hf
    have hsx := hs.2 _ (List.mem_of_getElem? hx)
    simp only [↓xP, xQ, Nat.reduceBEq, Nat.reduceAdd, IOp.dst, IOp.isF, IOp.args, coolOp, h0, h4, h3, ho, hi, hx, hw, hg, hf, Piece.u, toPiece_ok c0 c1 c2 hsx]
    exact ih (i + 1) _ (by omega) ⟨by omega, by simp only [↓xP, xQ, Nat.reduceBEq, Nat.reduceAdd, IOp.dst, IOp.isF, IOp.args, coolOp, h0], by simp only [↓xP, xQ, Nat.reduceBEq, Nat.reduceAdd, IOp.dst, IOp.isF, IOp.args, coolOp], by simp only [↓xP, xQ, Nat.reduceBEq, Nat.reduceAdd, IOp.dst, IOp.isF, IOp.args, coolOp, h3], by simp only [↓xP, xQ, Nat.reduceBEq, Nat.reduceAdd, IOp.dst, IOp.isF, IOp.args, coolOp, Piece.u]⟩
  · have : i = l.length := by omega
    subst this
    rw [fill_all] at ho
    simp only [↓xP, xQ, Nat.reduceBEq, Nat.reduceAdd, IOp.dst, IOp.isF, IOp.args, coolOp, h0, h4, h3, ho, hi]
theorem eqPieceS_ok (l : (List Piece)) (hs : SmallPieceS l) : EE F 70 [L 3 (l.map Piece.u), L 3 (l.map Piece.u)] [] = ok1 (B true) := by
  have hl := hs.1
  rw [R70, b70]
  simp only [↓xP, xQ, Nat.reduceBEq, Nat.reduceAdd, IOp.dst, IOp.isF, IOp.args, coolOp, ne_eq, not_true_eq_false]
  refine (loop_ind (fun (i : Nat) st => st.s 0 = DU (.sl 3 (l.map Piece.u)) ∧ st.s 1 = DU (.sl 3 (l.map Piece.u)) ∧ st.s 5 = DI i) (fun i => l.length - i) (fun i => ok1 (B true)) ?_ 0 ⟨by simp only [↓xP, xQ, Nat.reduceBEq, Nat.reduceAdd, IOp.dst, IOp.isF, IOp.args, coolOp], by simp only [↓xP, xQ, Nat.reduceBEq, Nat.reduceAdd, IOp.dst, IOp.isF, IOp.args, coolOp], by simp only [↓xP, xQ, Nat.reduceBEq, Nat.reduceAdd, IOp.dst, IOp.isF, IOp.args, coolOp]; rfl⟩)
  rintro i st ⟨h0, h1, h5⟩ ih
  by_cases hi : i < l.length
  · obtain ⟨⟨⟨c0, c1⟩, c2⟩, hx⟩ : ∃ x, l[i]? = some x := ⟨_, List.getElem?_eq_getElem hi⟩
    have hw := w_succ (i := i) (by omega)
    have hsx := hs.2 _ (List.mem_of_getElem? hx)
    simp only [↓xP, xQ, Nat.reduceBEq, Nat.reduceAdd, IOp.dst, IOp.isF, IOp.args, coolOp, h0, h1, h5, hi, hx, hw, Piece.u, eqPiece_ok c0 c1 c2 hsx, ne_eq, not_true_eq_false]
    exact ih (i + 1) _ (by omega) ⟨by simp only [↓xP, xQ, Nat.reduceBEq, Nat.reduceAdd, IOp.dst, IOp.isF, IOp.args, coolOp, h0], by simp only [↓xP, xQ, Nat.reduceBEq, Nat.reduceAdd, IOp.dst, IOp.isF, IOp.args, coolOp, h1], by simp only [↓xP, xQ, Nat.reduceBEq, Nat.reduceAdd, IOp.dst, IOp.isF, IOp.args, coolOp]⟩
  · simp only [↓xP, xQ, Nat.reduceBEq, Nat.reduceAdd, IOp.dst, IOp.isF, IOp.args, coolOp, h0, h1, h5, hi]
def Config.Small (x : Config) : Prop := SmallIntS x.members ∧ True
def szConfigG (x : Config) (a : Int) : Int := chkZ (szIntSG x.members a) fun a => a
theorem szConfig_ok (c0 : Int) (c1 : (List Int)) (c2 : Bool) (left : Int) : EE F 35 [.ag [.u (.int .i64 c0), .u (.sl 1 (c1.map iU)), .u (.bool c2)], I left] [] = ok1 (I (szConfigG ⟨c0, c1, c2⟩ left)) := by
  rw [R35, b35]
  simp only [↓xP, xQ, Nat.reduceBEq, Nat.reduceAdd, IOp.dst, IOp.isF, IOp.args, coolOp, szIntS_ok]
  repeat' (refine sel_split (fun h => ?_) (fun h => ?_))
  all_goals (simp only [decide_eq_true_eq, decide_eq_false_iff_not] at *; simp [szConfigG, offZ, chkZ, *])
theorem szConfig_le (x : Config) (hf : Config.Fit x) : LeZ (szConfigG x) (Config.Small x) := LeZ.chk (szIntS_le _ hf.2.1) LeZ.id
theorem toConfig_ok (c0 : Int) (c1 : (List Int)) (c2 : Bool) (hs : Config.Small ⟨c0, c1, c2⟩) : EE F 37 [.ag [.u (.int .i64 c0), .u (.sl 1 (c1.map iU)), .u (.bool c2)]] [] = some ⟨[.ag [.u (.int .i64 c0), .own (.par 0) c1.length, .u (.bool c2)]], [.row 1 (c1.map iU)], []⟩ := by
  rw [R37, b37]
  simp only [↓xP, xQ, Nat.reduceBEq, Nat.reduceAdd, IOp.dst, IOp.isF, IOp.args, coolOp, toIntS_ok c1 hs.1]
theorem eqConfig_ok (c0 : Int) (c1 : (List Int)) (c2 : Bool) (hs : Config.Small ⟨c0, c1, c2⟩) : EE F 40 [.ag [.u (.int .i64 c0), .u (.sl 1 (c1.map iU)), .u (.bool c2)], .ag [.u (.int .i64 c0), .u (.sl 1 (c1.map iU)), .u (.bool c2)]] [] = ok1 (B true) := by
  rw [R40, b40]
  simp only [↓xP, xQ, Nat.reduceBEq, Nat.reduceAdd, IOp.dst, IOp.isF, IOp.args, coolOp, eqIntS_ok c1 hs.1, ne_eq, not_true_eq_false]
def SmallConfigS (l : (List Config)) : Prop := l.length ≤ 1048576 ∧ ∀ y, y ∈ l → Config.Small y
def Event.Small (x : Event) : Prop := Entry.Small x.sent ∧ True
def szEventG (x : Event) (a : Int) : Int := chkZ (szEntryG x.sent a) fun a => a
theorem szEvent_ok (c0 : Int) (c1 : Int) (c2 : Int) (c3 : Int) (c4 : Int) (c5 : Int) (c6 : Str) (c7 : Int) (c8 : Int) (left : Int) : EE F 107 [.ag [.u (.int .i64 c0), .u (.int .i64 c1), .u (.int .i64 c2), .u (.int .i64 c3), .u (.int .i64 c4), .u (.int .i64 c5), .u (.str c6), .u (.int .i64 c7), .u (.int .i64 c8)], I left] [] = ok1 (I (szEventG ⟨c0, c1, c2, ⟨c3, c4, ⟨c5, c6, c7, c8⟩⟩⟩ left)) := by
  rw [R107, b107]
  simp only [↓xP, xQ, Nat.reduceBEq, Nat.reduceAdd, IOp.dst, IOp.isF, IOp.args, coolOp, szEntry_ok]
  repeat' (refine sel_split (fun h => ?_) (fun h => ?_))
  all_goals (simp only [decide_eq_true_eq, decide_eq_false_iff_not] at *; simp [szEventG, offZ, chkZ, *])
theorem szEvent_le (x : Event) (hf : Event.Fit x) : LeZ (szEventG x) (Event.Small x) := LeZ.chk (szEntry_le _ hf.2.2.2) LeZ.id
theorem toEvent_ok (c0 : Int) (c1 : Int) (c2 : Int) (c3 : Int) (c4 : Int) (c5 : Int) (c6 : Str) (c7 : Int) (c8 : Int) : EE F 113 [.ag [.u (.int .i64 c0), .u (.int .i64 c1), .u (.int .i64 c2), .u (.int .i64 c3), .u (.int .i64 c4), .u (.int .i64 c5), .u (.str c6), .u (.int .i64 c7), .u (.int .i64 c8)]] [] = ok1 (.ag [.u (.int .i64 c0), .u (.int .i64 c1), .u (.int .i64 c2), .u (.int .i64 c3), .u (.int .i64 c4), .u (.int .i64 c5), .u (.str c6), .u (.int .i64 c7), .u (.int .i64 c8)]) := by
  rw [R113, b113]
  simp only [↓xP, xQ, Nat.reduceBEq, Nat.reduceAdd, IOp.dst, IOp.isF, IOp.args, coolOp, toEntry_ok]
def SmallEventS (l : (List Event)) : Prop := l.length ≤ 1048576 ∧ ∀ y, y ∈ l → Event.Small y
def Plan.Small (x : Plan) : Prop := x.key.length ≤ 1048576 ∧ True
def szPlanG (x : Plan) (a : Int) : Int := offZ a x.key.length fun a => a
theorem szPlan_ok (c0 : Int) (c1 : Int) (c2 : Int) (c3 : Str) (c4 : Int) (c5 : Int) (c6 : Int) (left : Int) : EE F 108 [.ag [.u (.int .i64 c0), .u (.int .i64 c1), .u (.int .i64 c2), .u (.str c3), .u (.int .i64 c4), .u (.int .i64 c5), .u (.int .i64 c6)], I left] [] = ok1 (I (szPlanG ⟨c0, c1, c2, c3, c4, c5, c6⟩ left)) := by
  rw [R108, b108]
  simp only [↓xP, xQ, Nat.reduceBEq, Nat.reduceAdd, IOp.dst, IOp.isF, IOp.args, coolOp]
  repeat' (refine sel_split (fun h => ?_) (fun h => ?_))
  all_goals (simp only [decide_eq_true_eq, decide_eq_false_iff_not] at *; simp [szPlanG, offZ, chkZ, *])
theorem szPlan_le (x : Plan) (hf : Plan.Fit x) : LeZ (szPlanG x) (Plan.Small x) := LeZ.off hf.2.2.2.1 LeZ.id
theorem toPlan_ok (c0 : Int) (c1 : Int) (c2 : Int) (c3 : Str) (c4 : Int) (c5 : Int) (c6 : Int) : EE F 114 [.ag [.u (.int .i64 c0), .u (.int .i64 c1), .u (.int .i64 c2), .u (.str c3), .u (.int .i64 c4), .u (.int .i64 c5), .u (.int .i64 c6)]] [] = ok1 (.ag [.u (.int .i64 c0), .u (.int .i64 c1), .u (.int .i64 c2), .u (.str c3), .u (.int .i64 c4), .u (.int .i64 c5), .u (.int .i64 c6)]) := by
  rw [R114, b114]
  simp only [↓xP, xQ, Nat.reduceBEq, Nat.reduceAdd, IOp.dst, IOp.isF, IOp.args, coolOp]
def SmallPlanS (l : (List Plan)) : Prop := l.length ≤ 1048576 ∧ ∀ y, y ∈ l → Plan.Small y
def Deed.Small (x : Deed) : Prop := Command.Small x.wish ∧ Event.Small x.inner ∧ Plan.Small x.work ∧ True
def szDeedG (x : Deed) (a : Int) : Int := chkZ (szCommandG x.wish a) fun a => chkZ (szEventG x.inner a) fun a => chkZ (szPlanG x.work a) fun a => a
theorem szDeed_ok (c0 : Int) (c1 : Int) (c2 : Int) (c3 : Int) (c4 : Int) (c5 : Str) (c6 : Int) (c7 : Int) (c8 : Int) (c9 : Int) (c10 : Int) (c11 : Int) (c12 : Int) (c13 : Int) (c14 : Str) (c15 : Int) (c16 : Int) (c17 : Int) (c18 : Int) (c19 : Int) (c20 : Str) (c21 : Int) (c22 : Int) (c23 : Int) (left : Int) : EE F 45 [.ag [.u (.int .i64 c0), .u (.int .i64 c1), .u (.int .i64 c2), .u (.int .i64 c3), .u (.int .i64 c4), .u (.str c5), .u (.int .i64 c6), .u (.int .i64 c7), .u (.int .i64 c8), .u (.int .i64 c9), .u (.int .i64 c10), .u (.int .i64 c11), .u (.int .i64 c12), .u (.int .i64 c13), .u (.str c14), .u (.int .i64 c15), .u (.int .i64 c16), .u (.int .i64 c17), .u (.int .i64 c18), .u (.int .i64 c19), .u (.str c20), .u (.int .i64 c21), .u (.int .i64 c22), .u (.int .i64 c23)], I left] [] = ok1 (I (szDeedG ⟨c0, c1, c2, c3, ⟨c4, c5, c6, c7⟩, ⟨c8, c9, c10, ⟨c11, c12, ⟨c13, c14, c15, c16⟩⟩⟩, ⟨c17, c18, c19, c20, c21, c22, c23⟩⟩ left)) := by
  rw [R45, b45]
  simp only [↓xP, xQ, Nat.reduceBEq, Nat.reduceAdd, IOp.dst, IOp.isF, IOp.args, coolOp, szCommand_ok, szEvent_ok, szPlan_ok]
  repeat' (refine sel_split (fun h => ?_) (fun h => ?_))
  all_goals (simp only [decide_eq_true_eq, decide_eq_false_iff_not] at *; simp [szDeedG, offZ, chkZ, *])
theorem szDeed_le (x : Deed) (hf : Deed.Fit x) : LeZ (szDeedG x) (Deed.Small x) := LeZ.chk (szCommand_le _ hf.2.2.2.2.1) (LeZ.chk (szEvent_le _ hf.2.2.2.2.2.1) (LeZ.chk (szPlan_le _ hf.2.2.2.2.2.2) LeZ.id))
theorem toDeed_ok (c0 : Int) (c1 : Int) (c2 : Int) (c3 : Int) (c4 : Int) (c5 : Str) (c6 : Int) (c7 : Int) (c8 : Int) (c9 : Int) (c10 : Int) (c11 : Int) (c12 : Int) (c13 : Int) (c14 : Str) (c15 : Int) (c16 : Int) (c17 : Int) (c18 : Int) (c19 : Int) (c20 : Str) (c21 : Int) (c22 : Int) (c23 : Int) : EE F 47 [.ag [.u (.int .i64 c0), .u (.int .i64 c1), .u (.int .i64 c2), .u (.int .i64 c3), .u (.int .i64 c4), .u (.str c5), .u (.int .i64 c6), .u (.int .i64 c7), .u (.int .i64 c8), .u (.int .i64 c9), .u (.int .i64 c10), .u (.int .i64 c11), .u (.int .i64 c12), .u (.int .i64 c13), .u (.str c14), .u (.int .i64 c15), .u (.int .i64 c16), .u (.int .i64 c17), .u (.int .i64 c18), .u (.int .i64 c19), .u (.str c20), .u (.int .i64 c21), .u (.int .i64 c22), .u (.int .i64 c23)]] [] = ok1 (.ag [.u (.int .i64 c0), .u (.int .i64 c1), .u (.int .i64 c2), .u (.int .i64 c3), .u (.int .i64 c4), .u (.str c5), .u (.int .i64 c6), .u (.int .i64 c7), .u (.int .i64 c8), .u (.int .i64 c9), .u (.int .i64 c10), .u (.int .i64 c11), .u (.int .i64 c12), .u (.int .i64 c13), .u (.str c14), .u (.int .i64 c15), .u (.int .i64 c16), .u (.int .i64 c17), .u (.int .i64 c18), .u (.int .i64 c19), .u (.str c20), .u (.int .i64 c21), .u (.int .i64 c22), .u (.int .i64 c23)]) := by
  rw [R47, b47]
  simp only [↓xP, xQ, Nat.reduceBEq, Nat.reduceAdd, IOp.dst, IOp.isF, IOp.args, coolOp, toCommand_ok, toEvent_ok, toPlan_ok]
def SmallDeedS (l : (List Deed)) : Prop := l.length ≤ 1048576 ∧ ∀ y, y ∈ l → Deed.Small y
def Replica.Small (x : Replica) : Prop := Config.Small x.conf ∧ SmallEntryS x.log ∧ True
def SmallReplicaS (l : (List Replica)) : Prop := l.length ≤ 1048576 ∧ ∀ y, y ∈ l → Replica.Small y
def Message.Small (x : Message) : Prop := Config.Small x.conf ∧ SmallEntryS x.log ∧ True
def SmallMessageS (l : (List Message)) : Prop := l.length ≤ 1048576 ∧ ∀ y, y ∈ l → Message.Small y
def Chain.Small (x : Chain) : Prop := State.Small x.base ∧ Config.Small x.conf ∧ SmallReplicaS x.nodes ∧ SmallBoolS x.up ∧ SmallMessageS x.bag ∧ SmallAnswerS x.answers ∧ True
def SmallChainS (l : (List Chain)) : Prop := l.length ≤ 1048576 ∧ ∀ y, y ∈ l → Chain.Small y
def Route.Small (x : Route) : Prop := Interval.Small x.span ∧ True
def SmallRouteS (l : (List Route)) : Prop := l.length ≤ 1048576 ∧ ∀ y, y ∈ l → Route.Small y
def Caller.Small (x : Caller) : Prop := SmallRouteS x.cache ∧ Command.Small x.wish ∧ True
def SmallCallerS (l : (List Caller)) : Prop := l.length ≤ 1048576 ∧ ∀ y, y ∈ l → Caller.Small y
def Result.Small (x : Result) : Prop := Command.Small x.wish ∧ True
def SmallResultS (l : (List Result)) : Prop := l.length ≤ 1048576 ∧ ∀ y, y ∈ l → Result.Small y
def Shard.Small (x : Shard) : Prop := Chain.Small x.group ∧ True
def SmallShardS (l : (List Shard)) : Prop := l.length ≤ 1048576 ∧ ∀ y, y ∈ l → Shard.Small y
def Cluster.Small (x : Cluster) : Prop := SmallShardS x.shards ∧ SmallCallerS x.clients ∧ SmallResultS x.results ∧ Plan.Small x.work ∧ True
def SmallClusterS (l : (List Cluster)) : Prop := l.length ≤ 1048576 ∧ ∀ y, y ∈ l → Cluster.Small y
end Go.Proofs.YtbieglaagpogkaaV
