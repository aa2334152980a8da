/- Calls begin; loops; what is left when a call ends. No conditions but those that the lemmas state. -/
import Derived.Test.YtmfjkbbmhaofbaaGreatS2
namespace Go.Proofs.YtmfjkbbmhaofbaaGreatV
open Go Go.RowKit
set_option linter.unusedVariables false
set_option linter.unusedSimpArgs false
def argSt : Nat → List T → St → St
  | _, [], st => st
  | k, x :: xs, st => argSt (k + 1) xs (st.put k (.t x))
def insSt : Nat → List Obj → St → St
  | _, [], st => st
  | k, x :: xs, st => insSt (k + 1) xs (st.obj (.par k) (some x))
theorem argSt_o : ∀ (xs : List T) (k : Nat) (st : St), (argSt k xs st).o = st.o
  | [], _, _ => rfl
  | x :: xs, k, st => argSt_o xs (k + 1) _
theorem argSt_s : ∀ (xs : List T) (k : Nat) (st : St) (t : Nat), (argSt k xs st).s t = if k ≤ t ∧ t < k + xs.length then startS xs (t - k) else st.s t
  | [], k, st, t => by
    rw [if_neg (by simp)]; rfl
  | x :: xs, k, st, t => by
    show (argSt (k + 1) xs (st.put k (.t x))).s t = _
    rw [argSt_s xs (k + 1)]
    by_cases h : t = k
    · subst h
      rw [if_neg (by omega), if_pos ⟨Nat.le_refl _, by simp⟩]
      simp [St.put, startS]
    · by_cases h2 : k ≤ t ∧ t < k + (x :: xs).length
      · rw [if_pos h2, if_pos (by simp at h2; omega)]
        unfold startS
        rw [show t - k = (t - (k + 1)) + 1 by omega]
        rfl
      · rw [if_neg h2, if_neg (by simp at h2; omega)]
        simp [St.put, h]
theorem insSt_s : ∀ (xs : List Obj) (k : Nat) (st : St), (insSt k xs st).s = st.s
  | [], _, _ => rfl
  | x :: xs, k, st => insSt_s xs (k + 1) _
theorem insSt_loc : ∀ (xs : List Obj) (k : Nat) (st : St) (a b : Nat), (insSt k xs st).o (.loc a b) = st.o (.loc a b)
  | [], _, _, _, _ => rfl
  | x :: xs, k, st, a, b => by
    show (insSt (k + 1) xs (st.obj (.par k) (some x))).o (.loc a b) = _
    rw [insSt_loc xs (k + 1)]; simp [St.obj]
theorem insSt_par : ∀ (xs : List Obj) (k : Nat) (st : St) (j : Nat), (insSt k xs st).o (.par j) = if k ≤ j ∧ j < k + xs.length then xs[j - k]? else st.o (.par j)
  | [], k, st, j => by rw [if_neg (by simp)]; rfl
  | x :: xs, k, st, j => by
    show (insSt (k + 1) xs (st.obj (.par k) (some x))).o (.par j) = _
    rw [insSt_par xs (k + 1)]
    by_cases h : j = k
    · subst h
      rw [if_neg (by omega), if_pos ⟨Nat.le_refl _, by simp⟩]
      simp [St.obj]
    · by_cases h2 : k ≤ j ∧ j < k + (x :: xs).length
      · rw [if_pos h2, if_pos (by simp at h2; omega), show j - k = (j - (k + 1)) + 1 by omega]
        rfl
      · rw [if_neg h2, if_neg (by simp at h2; omega)]
        simp [St.obj, h]
theorem start_eq (args : List T) (ins : List Obj) : (⟨startS args, startO ins⟩ : St) = argSt 0 args (insSt 0 ins S0) := by
  apply congr (congrArg St.mk ?_) ?_
  · funext t
    rw [argSt_s]
    by_cases h : 0 ≤ t ∧ t < 0 + args.length
    · rw [if_pos h]; rfl
    · rw [if_neg h, insSt_s]
      unfold startS
      rw [List.getElem?_eq_none (by omega)]
      rfl
  · rw [argSt_o]
    funext i
    cases i with
    | loc a b => rw [insSt_loc]; rfl
    | par j =>
      rw [insSt_par]
      by_cases h : 0 ≤ j ∧ j < 0 + ins.length
      · rw [if_pos h]; rfl
      · rw [if_neg h]
        show ins[j]? = none
        exact List.getElem?_eq_none (by omega)
theorem EE_run {F : Nat → Option IFn} {f : Nat} {fn : IFn} (h : F f = some fn) {args : List T} {ins : List Obj} (hn : args.length = fn.np) : EE F f args ins = KK F (FF fn.res ins.length) [.code fn.body] (argSt 0 args (insSt 0 ins S0)) := by
  rw [← start_eq]
  simp only [EE, callOf, h, Option.bind_some, hn, if_true, KK]
  rfl
/-- A loop: what holds of a state, and what comes of it. -/
theorem loop_ind {F : Nat → Option IFn} {fin : St → Option Ret} {is : List IItem} {c : IC} {α : Type} (Inv : α → St → Prop) (μ : α → Nat) (Q : α → Option Ret)
    (h : ∀ a st, Inv a st → (∀ a' st', μ a' < μ a → Inv a' st' → KK F fin (.inLoop c :: is) st' = Q a') → KK F fin (.code c :: .inLoop c :: is) st = Q a) {st : St} (a : α) (hI : Inv a st) : KK F fin (.code (.loop c) :: is) st = Q a := by
  rw [KK_loop]
  have all : ∀ n a st, μ a < n → Inv a st → KK F fin (.inLoop c :: is) st = Q a := by
    intro n
    induction n with
    | zero => intro a st h0; omega
    | succ n ih =>
      intro a st hn hI
      rw [KK_inLoop]
      exact h a st hI (fun a' st' hm hI' => ih a' st' (by omega) hI')
  exact all (μ a + 1) a st (by omega) hI
end Go.Proofs.YtmfjkbbmhaofbaaGreatV
