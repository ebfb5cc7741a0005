/-
  Small lemmas on worlds, more of them; no program.
-/
import Derived.Test.YtpbkoooljelhjaaKit0
import Derived.WideShapes
namespace Go.Proofs.Ytpbkoooljelhjaa
set_option linter.unusedVariables false
set_option linter.unusedSimpArgs false
open Go.RowKit
namespace Kit
/-- A new block's cells stay so behind a call that only makes memory. -/
theorem cell_new {w w1 : World} {cs : Array Value} {e : TypeId} {z : Nat × Nat} (h : Below (w.alloc (.cells cs e z)).heap.size (w.alloc (.cells cs e z)) w1) (i : Nat) {v : Value} (hv : cs[i]? = some v) : w1.cell? ⟨w.heap.size, i, none⟩ = some v :=
  cell_below h ((World.cell?_alloc_mark ..).trans hv)
theorem str_ne {a b : ByteArray} (h : a ≠ b) : (a.toList == b.toList) = false := by
  rw [beq_eq_false_iff_ne, ByteArray.toList_eq, ByteArray.toList_eq]
  exact fun e => h (WideShapes.bytes_inj e)
theorem str_eq {a b : ByteArray} (h : a = b) : (a.toList == b.toList) = true := by rw [h]; simp
theorem str_some {s : ByteArray} (h : s.size ≠ 0) : (s.toList == (⟨#[]⟩ : ByteArray).toList) = false := str_ne (by rintro rfl; exact h rfl)
theorem str_full {s : ByteArray} (h : s.size ≠ 0) : s.toList.isEmpty = false := by
  rw [ByteArray.toList_eq]
  have hl : s.data.toList.length = s.size := Array.length_toList
  cases e : s.data.toList with
  | nil => rw [e] at hl; exact absurd hl.symm h
  | cons a l => rfl
theorem str_none {s : ByteArray} (h : s.size = 0) : s = ByteArray.empty := by
  obtain ⟨⟨l⟩⟩ := s
  have : l = [] := List.eq_nil_of_length_eq_zero h
  subst this
  rfl
end Kit
end Go.Proofs.Ytpbkoooljelhjaa
