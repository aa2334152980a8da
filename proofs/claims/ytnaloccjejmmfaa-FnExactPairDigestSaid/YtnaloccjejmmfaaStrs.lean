/- Strings read as rows of numbers. No conditions but those that the lemmas state. -/
import Derived.Test.YtnaloccjejmmfaaBase
import Derived.Laws.Strings
namespace Go.Proofs.YtnaloccjejmmfaaL
open Go Go.RowKit Go.Proofs.YtnaloccjejmmfaaW.PrintWords
/-! Strings as rows of numbers. -/
theorem toList_nil (s : ByteArray) : s.toList = [] ↔ bytesOf s = [] := by
  rw [ByteArray.toList_eq]
  unfold bytesOf
  exact (List.map_eq_nil_iff).symm
theorem bytesOf_drop (s : ByteArray) (i : Nat) : bytesOf (s.extract i s.size) = (bytesOf s).drop i := by
  unfold bytesOf
  rw [ByteArray.data_extract, ← List.map_drop, Array.toList_extract, List.extract_eq_take_drop]
  congr 1
  exact List.take_of_length_le (by rw [List.length_drop, Array.length_toList]; exact Nat.le_refl _)
theorem bytesOf_take (s : ByteArray) (i : Nat) : bytesOf (s.extract 0 i) = (bytesOf s).take i := by
  unfold bytesOf
  rw [ByteArray.data_extract, ← List.map_take, Array.toList_extract, List.extract_eq_take_drop, List.drop_zero, Nat.sub_zero]
theorem bytesOf_range (s : ByteArray) : ∀ x ∈ bytesOf s, 0 ≤ x ∧ x ≤ 255 := by
  intro x hx
  obtain ⟨b, _, rfl⟩ := List.mem_map.1 hx
  have := b.toNat_lt
  omega
theorem bytesOf_inj {s t : ByteArray} (h : bytesOf s = bytesOf t) : s = t := by
  have : s.data.toList = t.data.toList := by
    unfold bytesOf at h
    exact (List.map_inj_right (fun a b hab => by have : a.toNat = b.toNat := by exact_mod_cast hab
                                                 exact UInt8.toNat_inj.1 this)).1 h
  exact ByteArray.ext (Array.toList_inj.1 this)
end Go.Proofs.YtnaloccjejmmfaaL
