/-
  Arguments opened: a slice of whatever elements, a struct of one-cell fields; what the reading says of the memory. Any program.
-/
import Derived.Test.YtpbkoooljelhjaaVw0
import Derived.Deep.Slices
import Derived.Deep.Fields
import Derived.ProofKit
import Derived.OpenShut
namespace Go.Proofs.Ytpbkoooljelhjaa
set_option linter.unusedVariables false
set_option linter.unusedSimpArgs false
open Go.RowKit Go.ChangeShapes Go.WideShapes Go.Deep
namespace Op
section
variable {H : Type} {enc : TypeId × Value → H} {P : Program} {w : World} {base : Nat} {spare : Nat → Bool} {held : Bool}

/-- A struct of one-cell fields: each field's cell, and its reading. -/
theorem fields {t : TypeId} {fs : Array Field} {fuel : Nat} {cs : List Value} {x : DataW H × List MemPlace} (ht : P.underlying t = some (.struct fs)) (hone : oneCellFields P fs = true) (hC : P.cellsOf t = fs.size)
    (h : DataW.trod enc P w base spare held fuel t cs = some x) :
    cs.length = fs.size ∧ ∀ (j : Nat) (f : Field), fs[j]? = some f → ∃ (v : Value) (n : Nat) (y : DataW H × List MemPlace), cs[j]? = some v ∧ DataW.trod enc P w base spare held n f.type [v] = some y := by
  obtain ⟨xs, n, _, _, hl, hxl, hg⟩ := DataW.trod_struct ht h
  have hl' : cs.length = fs.size := by rw [hl, hC]
  refine ⟨hl', fun j f hj => ?_⟩
  obtain ⟨ho, hc⟩ := hone_of hone j f hj
  have hjl : j < fs.size := (Array.getElem?_eq_some_iff.1 hj).1
  have h1 := hg j f hj
  rw [ho, hc] at h1
  have hv : cs[j]? = some (cs[j]'(by omega)) := List.getElem?_eq_getElem (by omega)
  have h2 : (cs.drop j).take 1 = [cs[j]'(by omega)] := by
    rw [List.drop_eq_getElem_cons (by omega)]
    rfl
  rw [h2] at h1
  have h3 : xs[j]? = some (xs[j]'(by omega)) := List.getElem?_eq_getElem (by omega)
  exact ⟨_, n, _, hv, h1.trans h3⟩

/-- A slice: nil, or each element's cells and reading. -/
theorem elems {t e : TypeId} {fuel k : Nat} {cs : List Value} {x : DataW H × List MemPlace} (ht : P.underlying t = some (.slice e)) (hk : P.cellsOf e = k) (h : DataW.trod enc P w base (fun _ => true) held fuel t cs = some x) :
    cs = [.slice none 0 0] ∨ ∃ (a : Addr) (len cap : Nat), cs = [.slice (some a) len cap] ∧ len ≤ maxLen ∧
      ∀ i, i < len → ∃ (c : List Value) (n : Nat) (y : DataW H × List MemPlace), c.length = k ∧ (∀ j, j < k → w.cell? (a.add (i * k + j)) = c[j]?) ∧ DataW.trod enc P w base (fun _ => true) held n e c = some y := by
  rcases open_slice ht h with h0 | ⟨a, len, cap, m, n, D, Pl, hcs, hb, hl, hm, hmm, hx, hi⟩
  · exact .inl h0.1
  · refine .inr ⟨a, len, cap, hcs, by omega, fun i hil => ?_⟩
    have hm' : m = cap := by simpa using hmm
    obtain ⟨c, hc, htr⟩ := hi i (by omega)
    rw [hk] at hc
    obtain ⟨_, hcl, hat⟩ := World.cells?_some hc
    exact ⟨c, n, _, hcl, fun j hj => by rw [← Go.Deep.add_add]; exact hat j hj, htr⟩

/-- The elements as a list of plain things. -/
theorem list {α : Type} [Inhabited α] (cells : α → List Value) (Q : α → Prop) {t e : TypeId} {fuel k : Nat} {A : Option Addr} {len cap : Nat} {x : DataW H × List MemPlace} (ht : P.underlying t = some (.slice e)) (hk : P.cellsOf e = k) (hk0 : 0 < k)
    (hel : ∀ (n : Nat) (c : List Value) (y : DataW H × List MemPlace), DataW.trod enc P w base (fun _ => true) held n e c = some y → ∃ z : α, c = cells z ∧ Q z)
    (h : DataW.trod enc P w base (fun _ => true) held fuel t [.slice A len cap] = some x) :
    len ≤ maxLen ∧ ∃ l : List α, Lies w A len k (l.map cells) ∧ ∀ z ∈ l, Q z := by
  rcases elems ht hk h with h0 | ⟨a, len', cap', hcs, hm, hi⟩
  · simp only [List.cons.injEq, Value.slice.injEq, and_true] at h0
    obtain ⟨rfl, rfl, rfl⟩ := h0
    exact ⟨by unfold maxLen; omega, [], ⟨rfl, fun h => absurd h (by omega)⟩, fun z hz => by simp at hz⟩
  · simp only [List.cons.injEq, Value.slice.injEq, and_true] at hcs
    obtain ⟨rfl, rfl, rfl⟩ := hcs
    obtain ⟨f, hf⟩ := choose_lt (α := α) (p := fun i z => (∀ j, j < k → w.cell? (a.add (i * k + j)) = (cells z)[j]?) ∧ (cells z).length = k ∧ Q z) (n := len) (fun i hil => by
      obtain ⟨c, n, y, hcl, hat, htr⟩ := hi i hil
      obtain ⟨z, rfl, hq⟩ := hel n c y htr
      exact ⟨z, hat, hcl, hq⟩)
    refine ⟨hm, (List.range len).map f, ⟨by simp, fun hn => ?_⟩, fun z hz => ?_⟩
    · obtain ⟨b, off, spot⟩ := a
      have hc0 : ∃ v, w.cell? ((⟨b, off, spot⟩ : Addr).add 0) = some v := by
        have h1 := (hf 0 hn).1 0 hk0
        rw [Nat.zero_mul, Nat.zero_add] at h1
        exact ⟨_, h1.trans (List.getElem?_eq_getElem (by rw [(hf 0 hn).2.1]; exact hk0))⟩
      obtain ⟨v0, hv0⟩ := hc0
      have hspot : spot = none := by simpa [Addr.add] using World.cell?_spot hv0
      subst hspot
      rw [Go.WideShapes.add_plain] at hv0
      refine ⟨b, off, rfl, World.block_lt_of_cell? w _ hv0, fun j c hj i v hv => ?_⟩
      rw [List.getElem?_map, List.getElem?_map] at hj
      have hjl : j < len := by
        rcases Nat.lt_or_ge j len with h1 | h1
        · exact h1
        · rw [List.getElem?_eq_none (by simpa using h1)] at hj; simp at hj
      rw [List.getElem?_range hjl] at hj
      simp only [Option.map_some, Option.some.injEq] at hj
      subst hj
      have hik : i < k := by have := (List.getElem?_eq_some_iff.1 hv).1; rw [(hf j hjl).2.1] at this; exact this
      have h1 := (hf j hjl).1 i hik
      rw [Go.WideShapes.add_plain, hv] at h1
      rw [← h1]
      congr 2
      omega
    · obtain ⟨i, hir, rfl⟩ := List.mem_map.1 hz
      exact (hf i (by simpa using hir)).2.2

/-- A whole number's cell. -/
theorem int64 {t : TypeId} {n : Nat} {v : Value} {y : DataW H × List MemPlace} (ht : P.underlying t = some (.int .i64)) (h : DataW.trod enc P w base spare held n t [v] = some y) :
    ∃ z : Int, v = .int .i64 z ∧ -9223372036854775808 ≤ z ∧ z ≤ 9223372036854775807 := by
  obtain ⟨z, hc, _, hw⟩ := DataW.trod_int ht h
  simp only [List.cons.injEq, and_true] at hc
  exact ⟨z, hc, (bounds_i64 hw).1, (bounds_i64 hw).2⟩
end
end Op
end Go.Proofs.Ytpbkoooljelhjaa
