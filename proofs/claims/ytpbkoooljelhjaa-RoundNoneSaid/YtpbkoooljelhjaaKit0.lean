/-
  Small lemmas on worlds for this seat's walks; no program.
-/
import Derived.WalkKit
import Derived.OwnWalk
import Derived.Laws.OwnMore
import Derived.Deep.OwnRows
import Derived.Deep.AppendLies
import Derived.Laws.MakeOwn
import Derived.Maps.AppendAt
import Derived.WalkLawsBesides
import Derived.WalkSpells
import Derived.Lib.Hide
import Derived.Laws.IdiomStrings
import Derived.Laws.BytesArg
namespace Go.Proofs.Ytpbkoooljelhjaa
set_option linter.unusedVariables false
set_option linter.unusedSimpArgs false
open Go.RowKit
namespace Kit
theorem bcell {W w1 : World} (hb : Below W.heap.size W w1) : (∀ b o, b < W.heap.size → w1.cell? ⟨b, o, none⟩ = W.cell? ⟨b, o, none⟩) ∧ (∀ b o, b < W.heap.size → w1.frozen? ⟨b, o, none⟩ = W.frozen? ⟨b, o, none⟩) :=
  ⟨fun b o h => hb.cell (p := ⟨b, o, none⟩) h, fun b o h => hb.frozen (p := ⟨b, o, none⟩) h⟩
theorem below_drewN (w : World) (n : Nat) : Below w.heap.size w (w.drewN n) := by
  have h := Below.refl w.heap.size w
  exact ⟨h.os, h.tape, h.output, h.size, h.block⟩
theorem chain {w w1 w2 : World} (h : Below w.heap.size w w1) (k : Below w1.heap.size w1 w2) : Below w.heap.size w w2 := h.trans (k.mono h.size)
theorem grown_of_below {w w1 : World} (h : Below w.heap.size w w1) (row : Option Nat) : w.grownBy w1 row := ⟨h.os, h.tape, h.output, h.size, fun i hi _ => h.block i hi⟩
/-- What is owned stays so behind a call that only makes memory. -/
theorem own_below {w w1 : World} {base : Nat} {e : TypeId} {size n : Nat} {v : Value} {xs : List Value} (h : w.ownsRow base e size v n xs) (hb : Below w.heap.size w w1) : w1.ownsRow base e size v n xs :=
  h.kept (grown_of_below hb none) (by cases v.ownBlock <;> simp)
theorem enters {P : Program} {g : Nat} {fn : Func} {c : Code} (hf : P.funcs[g]? = some fn) (hname : (fn.name == "runtime.NumGoroutine") = false) (hb : fn.body = some c) : ∀ args w, (callFunc g args).run P w = .ok (.enter g args) w := by
  intro args w
  have h1 : fn.name ≠ "runtime.NumGoroutine" := by simpa using hname
  simp [callFunc, hf, h1, hb, mark]
theorem own_base {w : World} {base : Nat} {e : TypeId} {size n : Nat} {v : Value} {xs : List Value} (h : w.ownsRow base e size v n xs) (k : Nat) (hk : v.ownBlock = some k) : base ≤ k := by
  rcases h.2 with ⟨rfl, _⟩ | ⟨g, cap, cur, rfl, hb, _⟩
  · simp [Value.ownBlock] at hk
  · have : g = k := by simpa [Value.ownBlock] using hk
    omega
theorem own_weaken {w : World} {base b' : Nat} {e : TypeId} {size n : Nat} {v : Value} {xs : List Value} (h : w.ownsRow base e size v n xs) (hb : b' ≤ base) : w.ownsRow b' e size v n xs := by
  refine ⟨h.1, ?_⟩
  rcases h.2 with h0 | ⟨g, cap, cur, e1, hb1, h2⟩
  · exact .inl h0
  · exact .inr ⟨g, cap, cur, e1, by omega, h2⟩
/-- A cell ahead of the rows of the call's own reads as it did behind an append. -/
theorem grown_cell {w w1 : World} {row : Option Nat} (hg : w.grownBy w1 row) {b o : Nat} {v : Value} (hr : ∀ k, row = some k → b < k) (hc : w.cell? ⟨b, o, none⟩ = some v) : w1.cell? ⟨b, o, none⟩ = some v := by
  have hlt := World.block_lt_of_cell? w ⟨b, o, none⟩ hc
  have hb : w1.heap[b]? = w.heap[b]? := hg.block b hlt (fun e => by have := hr b e.symm; omega)
  exact (World.cell?_of_block (w := w) (w' := w1) (a := ⟨b, o, none⟩) hb).trans hc
theorem cell_below {w w1 : World} (h : Below w.heap.size w w1) {a : Addr} {v : Value} (hc : w.cell? a = some v) : w1.cell? a = some v := (h.cell (World.block_lt_of_cell? w a hc)).trans hc
/-- A text made into bytes: the block, its cells, nothing else turned. -/
theorem conv_bytes {P : Program} (src dst e : TypeId) (hs : P.underlying src = some .string) (hd : P.underlying dst = some (.slice e)) (he : P.underlying e = some (.int .u8)) (s : ByteArray) :
    ∃ (cap : World → Nat) (F : World → World), (∀ w, (convert src dst (.string s)).run P w = .ok (.slice (some ⟨w.heap.size, 0, none⟩) s.size (cap w)) (F w)) ∧
      ∀ w, Below w.heap.size w (F w) ∧ (F w).heap.size = w.heap.size + 1 ∧ (∀ j (h : j < s.data.toList.length), (F w).cell? ⟨w.heap.size, j, none⟩ = some (.int .u8 ((s.data.toList[j]).toNat : Int))) ∧ ∀ j, j < s.size → (F w).frozen? ⟨w.heap.size, j, none⟩ = false := by
  refine ⟨_, _, fun w => run_bytes_of_string w src dst e s hs hd he, fun w => ⟨?_, ?_, ?_, ?_⟩⟩
  · have h := ((Below.refl w.heap.size w).drew).alloc (by simp) (.cells (bytesRow s (grownCap w s.size 0 e)) e ((bytesRow s (grownCap w s.size 0 e)).size, (bytesRow s (grownCap w s.size 0 e)).size + 1))
    exact h
  · simp
  · intro j h
    have h' : j < s.data.size := by simpa using h
    have := bytesRow_at s (grownCap w s.size 0 e) j h'
    rw [show w.heap.size = w.drew.heap.size from rfl, World.cell?_alloc_mark, this]
    simp
  · intro j h
    have hz : s.size ≤ (bytesRow s (grownCap w s.size 0 e)).size := by
      have : s.data.size = s.size := rfl
      unfold bytesRow; simp
    have hb : (w.drew.alloc (.cells (bytesRow s (grownCap w s.size 0 e)) e ((bytesRow s (grownCap w s.size 0 e)).size, (bytesRow s (grownCap w s.size 0 e)).size + 1))).heap[w.heap.size]? = some (.cells (bytesRow s (grownCap w s.size 0 e)) e ((bytesRow s (grownCap w s.size 0 e)).size, (bytesRow s (grownCap w s.size 0 e)).size + 1)) := heap_alloc_new w.drew _
    unfold World.frozen?
    simp only [hb]
    simp
    omega
/-- A new block of bytes made into a text. -/
theorem conv_back {P : Program} (src dst e : TypeId) (hs : P.underlying src = some (.slice e)) (he : P.underlying e = some (.int .u8)) (hd : P.underlying dst = some .string) (xs : List Int) (cs : Array Value) (hc : cs.toList = xs.map (Value.int .u8)) (n c : Nat) (hn : xs.length = n) (w : World) :
    (convert src dst (.slice (some ⟨w.heap.size, 0, none⟩) n c)).run P (w.alloc (.cells cs e)) = .ok (.string (strOfNums xs)) (w.alloc (.cells cs e)) := by
  refine run_convert_bytes_arg _ src e hs he w.heap.size 0 n c xs hn (fun i hi => ?_) dst hd
  rw [Nat.zero_add, World.cell?_alloc_new]
  have h1 : cs[i]? = cs.toList[i]? := by simp
  rw [h1, hc]
  simp [List.getElem?_eq_getElem (show i < xs.length by omega), List.getD_eq_getElem?_getD]
end Kit
end Go.Proofs.Ytpbkoooljelhjaa
