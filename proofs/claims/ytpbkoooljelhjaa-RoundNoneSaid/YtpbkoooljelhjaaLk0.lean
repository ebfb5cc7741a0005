/-
  Looks, as they lie in memory: a tick, two frames, nodes. No program.
-/
import Derived.Test.YtpbkoooljelhjaaPort0
namespace Go.Proofs.Ytpbkoooljelhjaa
set_option linter.unusedVariables false
set_option linter.unusedSimpArgs false
open Go.RowKit
/-- A look: its tick, what both hubs relayed, where its nodes lie, and which these are. -/
structure Lk where
  tick : Int
  r0 : Fr
  r1 : Fr
  at_ : Option Addr
  n : Nat
  cap : Nat
  nodes : List Nd
instance : Inhabited Lk := ⟨⟨0, Fr.none, Fr.none, none, 0, 0, []⟩⟩
def Lk.cells (x : Lk) : List Value := [.int .i64 x.tick, .int .i64 x.r0.k, .int .i64 x.r0.i, .int .i64 x.r1.k, .int .i64 x.r1.i, .slice x.at_ x.n x.cap]
structure Lk.There (w : World) (x : Lk) : Prop where
  tick : -9223372036854775808 ≤ x.tick ∧ x.tick ≤ 9223372036854775807
  f0 : x.r0.fits
  f1 : x.r1.fits
  most : x.n ≤ maxLen
  nodes : Nodes w x.at_ x.n x.nodes
  fits : ∀ z ∈ x.nodes, z.fits
theorem Lk.There.below {w W : World} {x : Lk} (h : Lk.There w x) (hb : Below w.heap.size w W) : Lk.There W x := ⟨h.tick, h.f0, h.f1, h.most, h.nodes.below hb, h.fits⟩
/-- Looks that lie in memory. -/
structure Looks (w : World) (A : Option Addr) (n : Nat) (l : List Lk) : Prop where
  lies : Lies w A n 6 (l.map Lk.cells)
  there : ∀ z ∈ l, z.There w
theorem Looks.below {w W : World} {A : Option Addr} {n : Nat} {l : List Lk} (h : Looks w A n l) (hb : Below w.heap.size w W) : Looks W A n l := ⟨h.lies.below hb, fun z hz => (h.there z hz).below hb⟩
theorem Looks.len {w : World} {A : Option Addr} {n : Nat} {l : List Lk} (h : Looks w A n l) : l.length = n := by have := h.lies.len; simpa using this
theorem Looks.row {w : World} {A : Option Addr} {n : Nat} {l : List Lk} (h : Looks w A n l) (hn : 0 < n) : ∃ b off, A = some ⟨b, off, none⟩ ∧ b < w.heap.size ∧
    ∀ j x, l[j]? = some x → w.cell? ⟨b, off + j * 6, none⟩ = some (.int .i64 x.tick) ∧ w.cell? ⟨b, off + j * 6 + 1, none⟩ = some (.int .i64 x.r0.k) ∧ w.cell? ⟨b, off + j * 6 + 2, none⟩ = some (.int .i64 x.r0.i) ∧
      w.cell? ⟨b, off + j * 6 + 3, none⟩ = some (.int .i64 x.r1.k) ∧ w.cell? ⟨b, off + j * 6 + 4, none⟩ = some (.int .i64 x.r1.i) ∧ w.cell? ⟨b, off + j * 6 + 5, none⟩ = some (.slice x.at_ x.n x.cap) := by
  obtain ⟨b, off, e, hlt, hc⟩ := h.lies.at_ hn
  refine ⟨b, off, e, hlt, fun j x hj => ?_⟩
  have hj' : (l.map Lk.cells)[j]? = some x.cells := by rw [List.getElem?_map, hj]; rfl
  exact ⟨hc j _ hj' 0 _ rfl, hc j _ hj' 1 _ rfl, hc j _ hj' 2 _ rfl, hc j _ hj' 3 _ rfl, hc j _ hj' 4 _ rfl, hc j _ hj' 5 _ rfl⟩
theorem Looks.drop {w : World} {b off n : Nat} {l : List Lk} (h : Looks w (some ⟨b, off, none⟩) n l) {a : Nat} (ha : a ≤ n) : Looks w (some ⟨b, off + a * 6, none⟩) (n - a) (l.drop a) where
  lies := {
    len := by have := h.len; simp; omega
    at_ := fun hn => by
      obtain ⟨b', off', e, hlt, hc⟩ := h.lies.at_ (by omega)
      injection e with e
      injection e with e1 e2 e3
      subst e1 e2
      refine ⟨b, off + a * 6, rfl, hlt, fun j c hj i v hi => ?_⟩
      have hj' : (l.map Lk.cells)[a + j]? = some c := by rw [List.map_drop, List.getElem?_drop] at hj; exact hj
      have := hc (a + j) c hj' i v hi
      rw [show off + a * 6 + j * 6 + i = off + (a + j) * 6 + i by omega]
      exact this }
  there := fun z hz => h.there z (List.mem_of_mem_drop hz)
theorem Looks.take {w : World} {A : Option Addr} {n : Nat} {l : List Lk} (h : Looks w A n l) {m : Nat} (hm : m ≤ n) : Looks w A m (l.take m) where
  lies := {
    len := by have := h.len; simp; omega
    at_ := fun hn => by
      obtain ⟨b', off', e, hlt, hc⟩ := h.lies.at_ (by omega)
      refine ⟨b', off', e, hlt, fun j c hj i v hi => hc j c ?_ i v hi⟩
      have hjm : j < m := by
        have := (List.getElem?_eq_some_iff.1 hj).1
        simp at this
        omega
      rw [List.map_take, List.getElem?_take_of_lt hjm] at hj
      exact hj }
  there := fun z hz => h.there z (List.mem_of_mem_take hz)
end Go.Proofs.Ytpbkoooljelhjaa
