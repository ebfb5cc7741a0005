/-
  Small lemmas on worlds, a third part; no program.
-/
import Derived.Test.YtpbkoooljelhjaaKit2
namespace Go.Proofs.Ytpbkoooljelhjaa
set_option linter.unusedVariables false
set_option linter.unusedSimpArgs false
open Go.RowKit
namespace Kit
theorem free_below {w w1 : World} (h : Below w.heap.size w w1) {a : Addr} {v : Value} (hc : w.cell? a = some v) (hf : w.frozen? a = false) : w1.frozen? a = false := (h.frozen (World.block_lt_of_cell? w a hc)).trans hf
theorem free_new {w w1 : World} {cs : Array Value} {e : TypeId} (h : Below (w.alloc (.cells cs e)).heap.size (w.alloc (.cells cs e)) w1) (i : Nat) : w1.frozen? ⟨w.heap.size, i, none⟩ = false :=
  (h.frozen (p := ⟨w.heap.size, i, none⟩) (by simp)).trans (by unfold World.frozen?; rw [heap_alloc_new]; simp)
theorem alloc1 (w : World) (cs : Array Value) (T : TypeId) : Below w.heap.size w (w.alloc (.cells cs T)) := (Below.refl _ _).alloc (Nat.le_refl _) _
theorem alloc2 (w : World) (cs cs2 : Array Value) (T T2 : TypeId) : Below w.heap.size w ((w.alloc (.cells cs T)).alloc (.cells cs2 T2)) := ((Below.refl _ _).alloc (Nat.le_refl _) _).alloc (by simp) _
theorem alloc3 (w : World) (cs cs2 cs3 : Array Value) (T T2 T3 : TypeId) : Below w.heap.size w (((w.alloc (.cells cs T)).alloc (.cells cs2 T2)).alloc (.cells cs3 T3)) := (((Below.refl _ _).alloc (Nat.le_refl _) _).alloc (by simp) _).alloc (by simp; omega) _
theorem cell_old {w w1 : World} {cs cs2 : Array Value} {e e2 : TypeId} (h : Below ((w.alloc (.cells cs e)).alloc (.cells cs2 e2)).heap.size ((w.alloc (.cells cs e)).alloc (.cells cs2 e2)) w1) (i : Nat) {v : Value} (hv : cs[i]? = some v) : w1.cell? ⟨w.heap.size, i, none⟩ = some v :=
  cell_below h (cell_below (alloc1 ..) ((World.cell?_alloc_mark ..).trans hv))
theorem cell_two {w w1 : World} {cs cs2 : Array Value} {e e2 : TypeId} (h : Below ((w.alloc (.cells cs e)).alloc (.cells cs2 e2)).heap.size ((w.alloc (.cells cs e)).alloc (.cells cs2 e2)) w1) (i : Nat) {v : Value} (hv : cs2[i]? = some v) : w1.cell? ⟨w.heap.size + 1, i, none⟩ = some v := by
  have := cell_new h i hv
  rw [World.size_alloc] at this
  exact this
theorem lt_two {w w1 : World} {cs cs2 : Array Value} {e e2 : TypeId} (h : Below ((w.alloc (.cells cs e)).alloc (.cells cs2 e2)).heap.size ((w.alloc (.cells cs e)).alloc (.cells cs2 e2)) w1) : w.heap.size + 1 < w1.heap.size := by
  have := h.size
  simp at this
  omega
theorem lt_new {w w1 : World} {cs : Array Value} {e : TypeId} (h : Below (w.alloc (.cells cs e)).heap.size (w.alloc (.cells cs e)) w1) : w.heap.size < w1.heap.size := by
  have := h.size
  simp at this
  omega
end Kit
end Go.Proofs.Ytpbkoooljelhjaa
