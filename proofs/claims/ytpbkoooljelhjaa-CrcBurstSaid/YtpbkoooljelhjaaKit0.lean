/-
  Small lemmas on worlds for this seat's walks; no program.
-/
import Derived.WalkKit
import Derived.WalkLawsBesides
import Derived.WalkSpells
import Derived.Lib.Hide
import Derived.Laws.IdiomStrings
import Derived.Laws.BytesArg
namespace Go.Proofs.Ytpbkoooljelhjaa
open Go.RowKit
namespace Kit
theorem bcell {W w1 : World} (hb : Below W.heap.size W w1) : (∀ b o, b < W.heap.size → w1.cell? ⟨b, o, none⟩ = W.cell? ⟨b, o, none⟩) ∧ (∀ b o, b < W.heap.size → w1.frozen? ⟨b, o, none⟩ = W.frozen? ⟨b, o, none⟩) :=
  ⟨fun b o h => hb.cell (p := ⟨b, o, none⟩) h, fun b o h => hb.frozen (p := ⟨b, o, none⟩) h⟩
theorem below_drewN (w : World) (n : Nat) : Below w.heap.size w (w.drewN n) := by
  have h := Below.refl w.heap.size w
  exact ⟨h.os, h.tape, h.output, h.size, h.block⟩
theorem chain {w w1 w2 : World} (h : Below w.heap.size w w1) (k : Below w1.heap.size w1 w2) : Below w.heap.size w w2 := h.trans (k.mono h.size)
/-- A text made into bytes: the block, its cells, nothing else turned. -/
theorem conv_bytes {P : Program} (src dst e : TypeId) (hs : P.underlying src = some .string) (hd : P.underlying dst = some (.slice e)) (he : P.underlying e = some (.int .u8)) (s : ByteArray) :
    ∃ (cap : World → Nat) (F : World → World), (∀ w, (convert src dst (.string s)).run P w = .ok (.slice (some ⟨w.heap.size, 0, none⟩) s.size (cap w)) (F w)) ∧
      ∀ w, Below w.heap.size w (F w) ∧ (F w).heap.size = w.heap.size + 1 ∧ (∀ j (h : j < s.data.toList.length), (F w).cell? ⟨w.heap.size, j, none⟩ = some (.int .u8 ((s.data.toList[j]).toNat : Int))) ∧ ∀ j, j < s.size → (F w).frozen? ⟨w.heap.size, j, none⟩ = false := by
  refine ⟨_, _, fun w => run_bytes_of_string w src dst e s hs hd he, fun w => ⟨?_, ?_, ?_, ?_⟩⟩
  · have h := ((Below.refl w.heap.size w).drew).alloc (by simp) (.cells (bytesRow s (grownCap w s.size 0 e)) e ((bytesRow s (grownCap w s.size 0 e)).size, (bytesRow s (grownCap w s.size 0 e)).size + 1))
    exact h
  · simp
  · intro j h
    have h' : j < s.data.size := by simpa using h
    have := bytesRow_at s (grownCap w s.size 0 e) j h'
    rw [show w.heap.size = w.drew.heap.size from rfl, World.cell?_alloc_mark, this]
    simp
  · intro j h
    have hz : s.size ≤ (bytesRow s (grownCap w s.size 0 e)).size := by
      have : s.data.size = s.size := rfl
      unfold bytesRow; simp
    have hb : (w.drew.alloc (.cells (bytesRow s (grownCap w s.size 0 e)) e ((bytesRow s (grownCap w s.size 0 e)).size, (bytesRow s (grownCap w s.size 0 e)).size + 1))).heap[w.heap.size]? = some (.cells (bytesRow s (grownCap w s.size 0 e)) e ((bytesRow s (grownCap w s.size 0 e)).size, (bytesRow s (grownCap w s.size 0 e)).size + 1)) := heap_alloc_new w.drew _
    unfold World.frozen?
    simp only [hb]
    simp
    omega
/-- A new block of bytes made into a text. -/
theorem conv_back {P : Program} (src dst e : TypeId) (hs : P.underlying src = some (.slice e)) (he : P.underlying e = some (.int .u8)) (hd : P.underlying dst = some .string) (xs : List Int) (cs : Array Value) (hc : cs.toList = xs.map (Value.int .u8)) (n c : Nat) (hn : xs.length = n) (w : World) :
    (convert src dst (.slice (some ⟨w.heap.size, 0, none⟩) n c)).run P (w.alloc (.cells cs e)) = .ok (.string (strOfNums xs)) (w.alloc (.cells cs e)) := by
  refine run_convert_bytes_arg _ src e hs he w.heap.size 0 n c xs hn (fun i hi => ?_) dst hd
  rw [Nat.zero_add, World.cell?_alloc_new]
  have h1 : cs[i]? = cs.toList[i]? := by simp
  rw [h1, hc]
  simp [List.getElem?_eq_getElem (show i < xs.length by omega), List.getD_eq_getElem?_getD]
end Kit
end Go.Proofs.Ytpbkoooljelhjaa
