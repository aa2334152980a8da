/- A call's end. No conditions but those that the lemmas state. -/
import Derived.Test.YtdnhamehpdlbgaaV16
namespace Go.Proofs.YtdnhamehpdlbgaaV
open Go Go.RowKit
set_option linter.unusedVariables false
set_option linter.unusedSimpArgs false
variable {base : Nat} {σ0 : Sig} {X : Nat → Prop} {w0 w w' : World} {σ σ' : Sig} {M M' : Nat → Prop} {a : Act} {st st' : St} {P : Program} {n : Nat} {o : Oper} {E : CallE}
theorem nodup_idx {α : Type} {l : List α} (h : l.Nodup) {i j : Nat} {x : α} (hi : l[i]? = some x) (hj : l[j]? = some x) : i = j := by
  have h1 := (List.getElem?_eq_some_iff.1 hi).1
  exact (List.getElem?_inj h1 h).1 (hi.trans hj.symm)
theorem finish_out (h : Rel w.heap.size σ0 X w σ M w' a st) (hn : a.tmps.size = n) {ifn : IFn} {fn : Func} {nout : Nat} {r : Ret} (hok : resOk P n ifn.res fn.results.toList = true) (hf : finish ifn nout st = some r) :
    ∃ σn N M1 vs, (results fn a.tmps).run P w' = .ok (retV vs) w' ∧ Out w X σ0 nout r σn N M1 vs w' := by
  unfold finish at hf
  simp only [Option.bind_eq_some_iff] at hf
  obtain ⟨xs, hxs, new, hnew, out, hout, hf⟩ := hf
  split at hf
  · rename_i hc
    cases hf
    simp only [Bool.and_eq_true, List.all_eq_true, decide_eq_true_eq] at hc
    obtain ⟨⟨⟨⟨hloc, hnd⟩, _⟩, hnd2⟩, hod⟩ := hc
    generalize hids : xs.flatMap T.ids = ids at *
    obtain ⟨hnl, hng⟩ := mapM_some hnew
    obtain ⟨hol, hog⟩ := mapM_some hout
    have hol' : out.length = nout := by rw [hol]; simp
    obtain ⟨vs, hrun, hvl, hvr⟩ := results_run (P := P) h hn hok hxs
    let σn : Sig := fun i => match i with
      | .par j => (ids[j]?).bind σ
      | .loc .. => none
    have hσn : ∀ (j : Nat) id, ids[j]? = some id → σn (.par j) = σ id := fun j id hj => by show (ids[j]?).bind σ = _; rw [hj]; rfl
    have hnget : ∀ (j : Nat), j < new.length → ∃ id x, ids[j]? = some id ∧ new[j]? = some x ∧ st.o id = some x := by
      intro j hj
      have hj' : j < ids.length := by omega
      obtain ⟨y, h1, h2⟩ := hng j ids[j] (by simp [hj'])
      exact ⟨ids[j], y, by simp [hj'], h1, h2⟩
    have hoget : ∀ (j : Nat), j < out.length → ∃ x, out[j]? = some x ∧ st.o (.par j) = some x := by
      intro j hj
      obtain ⟨y, h1, h2⟩ := hog j (.par j) (by rw [List.getElem?_map, List.getElem?_range (show j < nout by omega)]; rfl)
      exact ⟨y, h1, h2⟩
    let N : Nat → Prop := fun b => ∃ j L, j < new.length ∧ σn (.par j) = some L ∧ L.g = b
    let M1 : Nat → Prop := fun b => X b ∨ N b ∨ ∃ j L, j < out.length ∧ σ0 (.par j) = some L ∧ L.g = b
    have hN : ∀ b, N b → ∃ id L, id ∈ ids ∧ (st.o id).isSome = true ∧ σ id = some L ∧ L.g = b := by
      rintro b ⟨j, L, hj, hL, rfl⟩
      obtain ⟨id, x, h1, h2, h3⟩ := hnget j hj
      rw [hσn j id h1] at hL
      exact ⟨id, L, List.mem_of_getElem? h1, by rw [h3]; rfl, hL, rfl⟩
    have hO : ∀ j L, j < out.length → σ0 (.par j) = some L → M L.g := by
      intro j L hj hL
      obtain ⟨x, h1, h2⟩ := hoget j hj
      exact h.inM (id := .par j) (by rw [h2]; rfl) (by rw [h.par]; exact hL)
    have k : Keeps w' w' M M1 := by
      refine ⟨Nat.le_refl _, fun _ _ _ => rfl, fun b _ hb => ?_⟩
      rcases hb with hX | hNb | ⟨j, L, hj, hL, rfl⟩
      · exact (h.sup b hX).1
      · obtain ⟨id, L, _, h1, h2, rfl⟩ := hN b hNb
        exact h.inM h1 h2
      · exact hO j L hj hL
    refine ⟨σn, N, M1, vs, hrun, fun b => Iff.rfl, fun b => Iff.rfl, fun b hb => ?_, fun j j' L L' hj hj' hL hL' e => ?_, fun j x hj => ?_, fun j x hj => ?_, hol', by simpa using hvl, fun j x hj => ?_, h.os, h.tape, h.output, h.size, h.same⟩
    · obtain ⟨id, L, hid, h1, h2, rfl⟩ := hN b hb
      refine ⟨?_, h.ltM (h.inM h1 h2)⟩
      rcases (h.mine id L h1 h2).2 with h3 | ⟨j, rfl⟩
      · exact h3
      · have := hloc _ hid
        cases this
    · obtain ⟨id, x, h1, h2, h3⟩ := hnget j hj
      obtain ⟨id', x', h1', h2', h3'⟩ := hnget j' hj'
      rw [hσn j id h1] at hL
      rw [hσn j' id' h1'] at hL'
      have := h.inj id id' L L' (by rw [h3]; rfl) (by rw [h3']; rfl) hL hL' e
      subst this
      exact nodup_idx hnd h1 h1'
    · have hlt : j < new.length := (List.getElem?_eq_some_iff.1 hj).1
      obtain ⟨id, x', h1, h2, h3⟩ := hnget j hlt
      have : x' = x := by
        have h2' : new[j]? = some x := hj
        rw [h2] at h2'; cases h2'; rfl
      subst this
      have hd := hnd2 x' (List.mem_of_getElem? h2)
      refine ⟨hd, data_repO hd k (hσn j id h1) (fun L hL => .inr (.inl ⟨j, L, hlt, by rw [hσn j id h1]; exact hL, rfl⟩)) (h.obj id x' h3)⟩
    · have hlt : j < out.length := (List.getElem?_eq_some_iff.1 hj).1
      obtain ⟨x', h1, h2⟩ := hoget j hlt
      have : x' = x := by
        have h2' : out[j]? = some x := hj
        rw [h1] at h2'; cases h2'; rfl
      subst this
      have hd := hod x' (List.mem_of_getElem? h1)
      refine ⟨hd, data_repO hd k (h.par j).symm (fun L hL => .inr (.inr ⟨j, L, hlt, by rw [← h.par]; exact hL, rfl⟩)) (h.obj _ x' h2)⟩
    · rw [List.getElem?_map] at hj
      obtain ⟨x0, hx0, rfl⟩ := Option.map_eq_some_iff.1 hj
      obtain ⟨y, hy, hr⟩ := hvr j x0 hx0
      refine ⟨y, hy, ren_repT k (fun i q hi hs => ?_) hr⟩
      obtain ⟨m, rfl, hm⟩ := posOf_spec hi
      have hml : m < new.length := by rw [hnl]; exact (List.getElem?_eq_some_iff.1 hm).1
      obtain ⟨id, x', h1, h2, h3⟩ := hnget m hml
      rw [hm] at h1; cases h1
      exact ⟨by show new[m]? = _; rw [h2, h3], hσn m i hm⟩
  · cases hf
end Go.Proofs.YtdnhamehpdlbgaaV
