/-
  What ports take in, without program: lists of frames; and what it is that texts and frames lie in memory.
-/
import Derived.Test.YtpbkoooljelhjaaWire0
import Derived.Test.YtpbkoooljelhjaaVw0
import Derived.WideShapes
namespace Go.Proofs.Ytpbkoooljelhjaa
set_option linter.unusedVariables false
set_option linter.unusedSimpArgs false
open Go.RowKit

/-- Texts that lie in memory. -/
def Strs (w : World) (A : Option Addr) (n : Nat) (l : List ByteArray) : Prop := Lies w A n 1 (l.map fun s => [Value.string s])
theorem Strs.below {w W : World} {A : Option Addr} {n : Nat} {l : List ByteArray} (h : Strs w A n l) (hb : Below w.heap.size w W) : Strs W A n l := Lies.below h hb
theorem Strs.len {w : World} {A : Option Addr} {n : Nat} {l : List ByteArray} (h : Strs w A n l) : l.length = n := by have := Lies.len h; simpa using this
theorem Strs.row {w : World} {A : Option Addr} {n : Nat} {l : List ByteArray} (h : Strs w A n l) (hn : 0 < n) : ∃ b off, A = some ⟨b, off, none⟩ ∧ b < w.heap.size ∧
    ∀ j s, l[j]? = some s → w.cell? ⟨b, off + j, none⟩ = some (.string s) := by
  obtain ⟨b, off, e, hlt, hc⟩ := Lies.at_ h hn
  refine ⟨b, off, e, hlt, fun j s hj => ?_⟩
  have hj' : (l.map fun s => [Value.string s])[j]? = some [.string s] := by rw [List.getElem?_map, hj]; rfl
  have := hc j _ hj' 0 _ rfl
  simpa using this

/-- Frames that lie in memory. -/
def Frames (w : World) (A : Option Addr) (n : Nat) (l : List Fr) : Prop := Lies w A n 2 (l.map Fr.cells)
theorem Frames.below {w W : World} {A : Option Addr} {n : Nat} {l : List Fr} (h : Frames w A n l) (hb : Below w.heap.size w W) : Frames W A n l := Lies.below h hb
theorem Frames.len {w : World} {A : Option Addr} {n : Nat} {l : List Fr} (h : Frames w A n l) : l.length = n := by have := Lies.len h; simpa using this
theorem Frames.row {w : World} {A : Option Addr} {n : Nat} {l : List Fr} (h : Frames w A n l) (hn : 0 < n) : ∃ b off, A = some ⟨b, off, none⟩ ∧ b < w.heap.size ∧
    ∀ j x, l[j]? = some x → w.cell? ⟨b, off + j * 2, none⟩ = some (.int .i64 x.k) ∧ w.cell? ⟨b, off + j * 2 + 1, none⟩ = some (.int .i64 x.i) := by
  obtain ⟨b, off, e, hlt, hc⟩ := Lies.at_ h hn
  refine ⟨b, off, e, hlt, fun j x hj => ?_⟩
  have hj' : (l.map Fr.cells)[j]? = some x.cells := by rw [List.getElem?_map, hj]; rfl
  exact ⟨hc j _ hj' 0 _ rfl, hc j _ hj' 1 _ rfl⟩

namespace Port
/-- The cells of frames. -/
def cells (l : List Fr) : List Value := (l.map Fr.cells).flatten
theorem cells_len (l : List Fr) : (cells l).length = l.length * 2 := by
  unfold cells
  induction l with
  | nil => rfl
  | cons a l ih => rw [List.map_cons, List.flatten_cons, List.length_append, ih, List.length_cons]; simp [Fr.cells]; omega
theorem cells_snoc (l : List Fr) (z : Fr) : cells (l ++ [z]) = cells l ++ z.cells := by simp [cells]
theorem cells_get (l : List Fr) (j : Nat) (z : Fr) (h : l[j]? = some z) : (cells l)[j * 2]? = some (.int .i64 z.k) ∧ (cells l)[j * 2 + 1]? = some (.int .i64 z.i) := by
  have hk : ∀ c ∈ l.map Fr.cells, c.length = 2 := by
    intro c hc
    obtain ⟨x, _, rfl⟩ := List.mem_map.1 hc
    rfl
  have hj : (l.map Fr.cells)[j]? = some z.cells := by rw [List.getElem?_map, h]; rfl
  exact ⟨flat_get 2 _ hk j _ hj 0 _ rfl, flat_get 2 _ hk j _ hj 1 _ rfl⟩
theorem cells_one (l : List Fr) : ∀ u ∈ cells l, u.oneCell' = true := by
  intro u hu
  unfold cells at hu
  obtain ⟨c, hc, hu⟩ := List.mem_flatten.1 hu
  obtain ⟨x, _, rfl⟩ := List.mem_map.1 hc
  simp [Fr.cells] at hu
  rcases hu with rfl | rfl <;> rfl
theorem cells_set (l : List Fr) : ∀ (j : Nat) (z : Fr), j < l.length → ((cells l).set (j * 2) (.int .i64 z.k)).set (j * 2 + 1) (.int .i64 z.i) = cells (l.set j z) := by
  induction l with
  | nil => intro j z h; simp at h
  | cons a l ih =>
    intro j z h
    cases j with
    | zero => rfl
    | succ j =>
      have h' : j < l.length := by simpa using h
      have := ih j z h'
      show ((a.cells ++ cells l).set ((j + 1) * 2) _).set ((j + 1) * 2 + 1) _ = a.cells ++ cells (l.set j z)
      rw [← this]
      have h2 : a.cells.length = 2 := rfl
      rw [List.set_append, if_neg (by rw [h2]; omega), List.set_append, if_neg (by rw [h2]; omega), h2, show (j + 1) * 2 - 2 = j * 2 by omega, show (j + 1) * 2 + 1 - 2 = j * 2 + 1 by omega]

/-- A row of the call's own, read as a slice of frames. -/
theorem of_own {w : World} {base : Nat} {e : TypeId} {v : Value} {l : List Fr} (h : w.ownsRow base e 2 v l.length (cells l)) : ∃ A c, v = .slice A l.length c ∧ Frames w A l.length l := by
  rcases Nat.eq_zero_or_pos l.length with h0 | h0
  · rcases h.2 with ⟨rfl, hn⟩ | ⟨g, cap, cur, rfl, _⟩
    · exact ⟨none, 0, by rw [hn], by simp, fun hp => absurd hp (by omega)⟩
    · exact ⟨_, cap, rfl, by simp, fun hp => absurd hp (by omega)⟩
  · obtain ⟨g, cap, rfl, _, hg⟩ := h.form h0
    refine ⟨_, cap, rfl, by simp, fun _ => ⟨g, 0, rfl, hg, fun j c hj i v hv => ?_⟩⟩
    have hk : ∀ c ∈ l.map Fr.cells, c.length = 2 := by
      intro c hc
      obtain ⟨x, _, rfl⟩ := List.mem_map.1 hc
      rfl
    have h1 : (cells l)[j * 2 + i]? = some v := flat_get 2 _ hk j c hj i v hv
    have hlt : j * 2 + i < l.length * 2 := by have := (List.getElem?_eq_some_iff.1 h1).1; rw [cells_len] at this; exact this
    rw [Nat.zero_add, h.cellAt _ hlt]
    exact h1

/-- What a port takes in. -/
def one (p : Nat) (s : ByteArray) : Fr := if (Wire.get s).right = true ∧ (Wire.get s).i = (p : Int) then Wire.get s else Fr.none
def take (l : List ByteArray) (k : Nat) : List Fr := (List.range k).map fun p => one p (l.getD p ByteArray.empty)
theorem take_len (l : List ByteArray) (k : Nat) : (take l k).length = k := by simp [take]
theorem take_succ (l : List ByteArray) (k : Nat) (s : ByteArray) (h : l[k]? = some s) : take l (k + 1) = take l k ++ [one k s] := by
  unfold take
  rw [List.range_succ, List.map_append]
  simp [List.getD_eq_getElem?_getD, h]
/-- Both. -/
def pick (a b : Fr) : Fr := if a = Fr.none then b else a
def both (a b : List Fr) : List Fr := List.zipWith pick a b
theorem _root_.List.set_eq_self_of {α : Type} {l : List α} {k : Nat} {x : α} (h : l[k]? = some x) : l.set k x = l := by
  apply List.ext_getElem?
  intro j
  by_cases e : j = k
  · subst e
    rw [List.getElem?_set_self (List.getElem?_eq_some_iff.1 h).1, h]
  · rw [List.getElem?_set_ne (fun h => e h.symm)]
theorem both_len (a b : List Fr) (h : a.length = b.length) : (both a b).length = b.length := by unfold both; rw [List.length_zipWith]; omega
theorem both_get (a b : List Fr) (k : Nat) (x y : Fr) (hx : a[k]? = some x) (hy : b[k]? = some y) : (both a b)[k]? = some (pick x y) := by
  unfold both
  rw [List.getElem?_zipWith, hx, hy]
theorem take_get (l : List ByteArray) (n k : Nat) (s : ByteArray) (h : k < n) (hs : l[k]? = some s) : (take l n)[k]? = some (one k s) := by
  unfold take
  rw [List.getElem?_map, List.getElem?_range h, Option.map_some, List.getD_eq_getElem?_getD, hs]
  rfl
/-- The first k of p, the rest of q. -/
def mix (p q : List Fr) (k : Nat) : List Fr := p.take k ++ q.drop k
theorem mix_zero (p q : List Fr) : mix p q 0 = q := by simp [mix]
theorem mix_all (p q : List Fr) (k : Nat) (hp : p.length = k) (hq : q.length = k) : mix p q k = p := by
  subst hp
  simp [mix, hq, List.drop_eq_nil_of_le (Nat.le_of_eq hq)]
theorem mix_len (p q : List Fr) (k : Nat) (h : p.length = q.length) (hk : k ≤ q.length) : (mix p q k).length = q.length := by simp [mix]; omega
theorem mix_at (p q : List Fr) (k : Nat) (y : Fr) (h : p.length = q.length) (hy : q[k]? = some y) : (mix p q k)[k]? = some y := by
  have hk : k < q.length := (List.getElem?_eq_some_iff.1 hy).1
  have hl : (p.take k).length = k := by rw [List.length_take]; omega
  unfold mix
  rw [List.getElem?_append_right (by omega), hl, Nat.sub_self, List.getElem?_drop, Nat.add_zero]
  exact hy
theorem mix_succ (p q : List Fr) (k : Nat) (x : Fr) (h : p.length = q.length) (hx : p[k]? = some x) : mix p q (k + 1) = (mix p q k).set k x := by
  have hk : k < p.length := (List.getElem?_eq_some_iff.1 hx).1
  have hx' : p[k] = x := (List.getElem?_eq_some_iff.1 hx).2
  have hl : (p.take k).length = k := by rw [List.length_take]; omega
  unfold mix
  rw [List.set_append, if_neg (by omega), hl, Nat.sub_self, List.drop_eq_getElem_cons (show k < q.length by omega), List.set_cons_zero, List.take_succ_eq_append_getElem hk, hx', List.append_assoc]
  rfl
theorem mix_same (p q : List Fr) (k : Nat) (x : Fr) (h : p.length = q.length) (hx : p[k]? = some x) (hy : q[k]? = some x) : mix p q (k + 1) = mix p q k := by
  rw [mix_succ p q k x h hx]
  exact List.set_eq_self_of (mix_at p q k x h hy)
theorem one_eq (p : Nat) (s : ByteArray) : one p s = if (Wire.get s).right = true ∧ (Wire.get s).i = (p : Int) then Wire.get s else Fr.none := rfl
/-- The cells that a slice of frames has, as a row. -/
theorem _root_.Go.Proofs.Ytpbkoooljelhjaa.Frames.news {w : World} {a : Addr} {n : Nat} {l : List Fr} (h : Frames w (some a) n l) : (cells l).length = n * 2 ∧ ∀ j u, (cells l)[j]? = some u → w.cell? (a.add j) = some u := by
  have hl := h.len
  refine ⟨by rw [cells_len, hl], fun j u hu => ?_⟩
  have hj : j < n * 2 := by have := (List.getElem?_eq_some_iff.1 hu).1; rw [cells_len, hl] at this; exact this
  obtain ⟨b, off, e, hb, hrow⟩ := h.row (by omega)
  simp only [Option.some.injEq] at e
  subst e
  obtain ⟨z, hz⟩ : ∃ z, l[j / 2]? = some z := ⟨_, List.getElem?_eq_getElem (by omega)⟩
  obtain ⟨c0, c1⟩ := cells_get l (j / 2) z hz
  obtain ⟨r0, r1⟩ := hrow (j / 2) z hz
  rw [Go.WideShapes.add_plain]
  rcases Nat.mod_two_eq_zero_or_one j with e | e
  · have ej : j / 2 * 2 = j := by omega
    rw [ej] at c0 r0
    rw [r0, ← hu, c0]
  · have ej : j / 2 * 2 + 1 = j := by omega
    rw [ej] at c1
    rw [show off + j / 2 * 2 + 1 = off + j by omega] at r1
    rw [r1, ← hu, c1]
end Port
end Go.Proofs.Ytpbkoooljelhjaa
