/- Small facts on whole numbers, rows and loops, for the plain side of the proofs. Conditions: as each lemma states. -/
import Derived.Test.YtbieglaagpogkaaLim
namespace Go.Proofs.YtbieglaagpogkaaL
open Go.RowKit Go.Proofs.YtbieglaagpogkaaW.PrintWords
theorem wr_id {x : Int} (h0 : -9223372036854775808 ≤ x) (h1 : x ≤ 9223372036854775807) : wrap64 x = x := by unfold wrap64; omega
theorem wr_succ {i : Nat} (h : i < 9223372036854775807) : wrap64 ((i : Int) + 1) = ((i + 1 : Nat) : Int) := by rw [wr_id (by omega) (by omega)]; omega
theorem rd_nat {xs : List Int} {i : Nat} (h : i < xs.length) : rd xs (i : Int) = xs[i] := by simp [rd, h]
theorem rdOf_nat {α : Type} {d : α} {xs : List α} {i : Nat} (h : i < xs.length) : rdOf d xs (i : Int) = xs[i] := by simp [rdOf, h]
theorem drop_at {α : Type} {xs : List α} {i : Nat} (h : i < xs.length) : xs.drop i = xs[i] :: xs.drop (i + 1) := List.drop_eq_getElem_cons h
/-- A loop over the places i .. n - 1, with a state. -/
theorem loop_fold {σ β : Type} (L : Nat → σ → Option β) (n : Nat) (f : Nat → σ → σ) (g : σ → β) (Inv : Nat → σ → Prop)
    (step : ∀ i s, i < n → Inv i s → L i s = L (i + 1) (f i s) ∧ Inv (i + 1) (f i s)) (fin : ∀ s, Inv n s → L n s = some (g s)) :
    ∀ d i s, i + d = n → Inv i s → L i s = some (g ((List.range' i d).foldl (fun s i => f i s) s)) := by
  intro d
  induction d with
  | zero => intro i s hi h; obtain rfl : i = n := by omega
            simpa using fin s h
  | succ d ih =>
    intro i s hi h
    obtain ⟨h1, h2⟩ := step i s (by omega) h
    rw [h1, ih (i + 1) (f i s) (by omega) h2, List.range'_succ, List.foldl_cons]
/-- A loop that stops at the first element that fails. -/
theorem loop_all {α : Type} (L : Nat → Option Bool) (xs : List α) (p : α → Bool)
    (step : ∀ i (h : i < xs.length), L i = if p xs[i] = true then L (i + 1) else some false) (fin : L xs.length = some true) :
    ∀ d i, i + d = xs.length → L i = some ((xs.drop i).all p) := by
  intro d
  induction d with
  | zero => intro i hi; obtain rfl : i = xs.length := by omega
            simp [fin]
  | succ d ih =>
    intro i hi
    rw [step i (by omega), drop_at (by omega), List.all_cons]
    cases h : p xs[i]
    · simp
    · simp [ih (i + 1) (by omega)]
/-- A loop that stops at the first element that serves. -/
theorem loop_any {α : Type} (L : Nat → Option Bool) (xs : List α) (p : α → Bool)
    (step : ∀ i (h : i < xs.length), L i = if p xs[i] = true then some true else L (i + 1)) (fin : L xs.length = some false) :
    ∀ d i, i + d = xs.length → L i = some ((xs.drop i).any p) := by
  intro d
  induction d with
  | zero => intro i hi; obtain rfl : i = xs.length := by omega
            simp [fin]
  | succ d ih =>
    intro i hi
    rw [step i (by omega), drop_at (by omega), List.any_cons]
    cases h : p xs[i]
    · simp [ih (i + 1) (by omega)]
    · simp
/-- A loop that holds two rows of one length against each other. -/
theorem loop_eq {α : Type} [DecidableEq α] (L : Nat → Option Bool) (xs ys : List α) (hl : xs.length = ys.length)
    (step : ∀ i (h : i < xs.length) (h' : i < ys.length), L i = if xs[i] = ys[i] then L (i + 1) else some false) (fin : L xs.length = some true) :
    ∀ d i, i + d = xs.length → L i = some (decide (xs.drop i = ys.drop i)) := by
  intro d
  induction d with
  | zero => intro i hi; obtain rfl : i = xs.length := by omega
            rw [fin, List.drop_length, hl, List.drop_length]; simp
  | succ d ih =>
    intro i hi
    rw [step i (by omega) (by omega), drop_at (xs := xs) (i := i) (by omega), drop_at (xs := ys) (i := i) (by omega)]
    by_cases h : xs[i] = ys[i]
    · rw [if_pos h, ih (i + 1) (by omega), Option.some.injEq, decide_eq_decide, List.cons.injEq]; exact ⟨fun e => ⟨h, e⟩, fun e => e.2⟩
    · rw [if_neg h, Option.some.injEq, eq_comm, decide_eq_false_iff_not, List.cons.injEq]; exact fun e => h e.1
/-- A loop that builds a row out of another one, at most m elements of it a round. -/
theorem loop_app {α β γ : Type} (L : Nat → List β → Option γ) (g : List β → γ) (xs : List α) (f : α → List β) (b m : Nat) (hf : ∀ x, (f x).length ≤ m)
    (step : ∀ i (h : i < xs.length) acc, acc.length ≤ b + m * i → L i acc = L (i + 1) (acc ++ f xs[i])) (fin : ∀ acc, acc.length ≤ b + m * xs.length → L xs.length acc = some (g acc)) :
    ∀ d i acc, i + d = xs.length → acc.length ≤ b + m * i → L i acc = some (g (acc ++ (xs.drop i).flatMap f)) := by
  intro d
  induction d with
  | zero => intro i acc hi ha; obtain rfl : i = xs.length := by omega
            rw [fin acc ha]; simp
  | succ d ih =>
    intro i acc hi ha
    have hl := hf xs[i]
    rw [step i (by omega) acc ha, ih (i + 1) _ (by omega) (by rw [List.length_append, Nat.mul_add]; omega), drop_at (i := i) (by omega), List.flatMap_cons, List.append_assoc]
/-- A loop that writes a row's elements, one after the other. -/
theorem loop_set {α β : Type} (L : Nat → List β → Option (List β)) (xs : List α) (f : α → β) (z : β)
    (step : ∀ i (h : i < xs.length) acc, acc.length = xs.length → L i acc = L (i + 1) (acc.set i (f xs[i]))) (fin : ∀ acc, acc.length = xs.length → L xs.length acc = some acc) :
    ∀ d i, i + d = xs.length → L i ((xs.take i).map f ++ List.replicate d z) = some (xs.map f) := by
  intro d
  induction d with
  | zero => intro i hi; obtain rfl : i = xs.length := by omega
            rw [fin _ (by simp)]; simp
  | succ d ih =>
    intro i hi
    have hi' : i < xs.length := by omega
    rw [step i hi' _ (by simp; omega)]
    have e : ((xs.take i).map f ++ List.replicate (d + 1) z).set i (f xs[i]) = (xs.take (i + 1)).map f ++ List.replicate d z := by
      rw [List.set_append_right _ _ (by simp; omega), List.take_succ_eq_append_getElem hi', List.map_append, List.append_assoc]
      have : i - ((xs.take i).map f).length = 0 := by simp; omega
      rw [this, List.replicate_succ]
      simp
    rw [e]
    exact ih (i + 1) (by omega)
/-- The numbers that a marking writes. -/
def marks (n : Nat) (k : Int) : List Int := (List.range n).map fun (i : Nat) => k + (i : Int)
theorem marks_len (n : Nat) (k : Int) : (marks n k).length = n := by simp [marks]
theorem marks_at (n : Nat) (k : Int) (i : Nat) (h : i < (marks n k).length) : (marks n k)[i] = k + (i : Int) := by simp [marks]
theorem loop_mark (L : Nat → List Int → Int → Option (Int × List Int)) (n : Nat) (k : Int)
    (step : ∀ i acc, i < n → acc.length = n → L i acc (k + i) = L (i + 1) (acc.set i (k + i)) (k + (i + 1 : Nat))) (fin : ∀ acc, acc.length = n → L n acc (k + n) = some (k + n, acc)) :
    ∀ d i (xs : List Int), xs.length = n → i + d = n → L i ((marks i k) ++ xs.drop i) (k + i) = some (k + n, marks n k) := by
  intro d
  induction d with
  | zero => intro i xs hx hi; obtain rfl : i = n := by omega
            rw [fin _ (by simp [marks_len, hx])]; simp [← hx]
  | succ d ih =>
    intro i xs hx hi
    rw [step i _ (by omega) (by simp [marks_len, hx]; omega)]
    have e : (marks i k ++ xs.drop i).set i (k + i) = marks (i + 1) k ++ xs.drop (i + 1) := by
      rw [List.set_append_right _ _ (by simp [marks_len]), drop_at (by omega), marks_len, Nat.sub_self, List.set_cons_zero]
      simp [marks, List.range_succ]
    rw [e]
    exact ih (i + 1) xs hx (by omega)
theorem loop_held (L : Nat → Int → Option Int) (n : Nat) (k : Int)
    (step : ∀ i, i < n → L i (k + i) = L (i + 1) (k + (i + 1 : Nat))) (fin : L n (k + n) = some (k + n)) :
    ∀ d i, i + d = n → L i (k + i) = some (k + n) := by
  intro d
  induction d with
  | zero => intro i hi; obtain rfl : i = n := by omega
            exact fin
  | succ d ih => intro i hi; rw [step i (by omega)]; exact ih (i + 1) (by omega)
end Go.Proofs.YtbieglaagpogkaaL
