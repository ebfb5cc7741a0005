/-
  Plain data of nodes, and which places of a list are so; and what it is that a slice of structs lies in memory. No program.
-/
import Derived.Test.YtpbkoooljelhjaaKit0
namespace Go.Proofs.Ytpbkoooljelhjaa
set_option linter.unusedVariables false
set_option linter.unusedSimpArgs false
open Go.RowKit

/-- A node: its number, its mode, a counter, its slot. -/
structure Nd where
  id : Int
  md : Int
  ct : Int
  ps : Int
def Nd.zero : Nd := ⟨0, 0, 0, 0⟩
instance : Inhabited Nd := ⟨Nd.zero⟩
def Nd.cells (x : Nd) : List Value := [.int .i64 x.id, .int .i64 x.md, .int .i64 x.ct, .int .i64 x.ps]
/-- The numbers of a list whose elements fit a kind. -/
def Nd.fits (x : Nd) : Prop := -9223372036854775808 ≤ x.ps ∧ x.ps ≤ 9223372036854775807 ∧ -9223372036854775808 ≤ x.md ∧ x.md ≤ 9223372036854775807

/-- A slice of n elements of k cells each lies in memory: its address may be anything if it is empty. -/
structure Lies (w : World) (A : Option Addr) (n k : Nat) (cs : List (List Value)) : Prop where
  len : cs.length = n
  at_ : 0 < n → ∃ b off, A = some ⟨b, off, none⟩ ∧ b < w.heap.size ∧ ∀ j c, cs[j]? = some c → ∀ i v, c[i]? = some v → w.cell? ⟨b, off + j * k + i, none⟩ = some v
theorem Lies.below {w W : World} {A : Option Addr} {n k : Nat} {cs : List (List Value)} (h : Lies w A n k cs) (hb : Below w.heap.size w W) : Lies W A n k cs where
  len := h.len
  at_ := fun hn => by
    obtain ⟨b, off, e, hlt, hc⟩ := h.at_ hn
    exact ⟨b, off, e, Nat.lt_of_lt_of_le hlt hb.size, fun j c hj i v hi => (hb.cell (p := ⟨b, off + j * k + i, none⟩) hlt).trans (hc j c hj i v hi)⟩

theorem flat_get (k : Nat) : ∀ (ll : List (List Value)), (∀ c ∈ ll, c.length = k) → ∀ (j : Nat) (c : List Value), ll[j]? = some c → ∀ (i : Nat) (v : Value), c[i]? = some v → ll.flatten[j * k + i]? = some v
  | [], _, j, c, h, _, _, _ => by simp at h
  | c0 :: ll, hk, 0, c, h, i, v, hv => by
    simp only [List.getElem?_cons_zero, Option.some.injEq] at h
    subst h
    have hi := (List.getElem?_eq_some_iff.1 hv).1
    rw [List.flatten_cons, Nat.zero_mul, Nat.zero_add, List.getElem?_append_left hi]
    exact hv
  | c0 :: ll, hk, j + 1, c, h, i, v, hv => by
    simp only [List.getElem?_cons_succ] at h
    have h0 : c0.length = k := hk c0 (by simp)
    rw [List.flatten_cons, List.getElem?_append_right (by rw [h0, Nat.succ_mul]; omega), h0, show (j + 1) * k + i - k = j * k + i by rw [Nat.succ_mul]; omega]
    exact flat_get k ll (fun c hc => hk c (by simp [hc])) j c h i v hv
/-- A slice that has just been built. -/
theorem Lies.built (w : World) (cs : Array Value) (e : TypeId) (k n : Nat) (ll : List (List Value)) (hc : cs.toList = ll.flatten) (hk : ∀ c ∈ ll, c.length = k) (hn : ll.length = n) :
    Lies (w.alloc (.cells cs e)) (some ⟨w.heap.size, 0, none⟩) n k ll where
  len := hn
  at_ := fun _ => ⟨w.heap.size, 0, rfl, by simp, fun j c hj i v hv => by
    rw [Nat.zero_add, World.cell?_alloc_new]
    have h1 : cs[j * k + i]? = cs.toList[j * k + i]? := by simp
    rw [h1, hc]
    exact flat_get k ll hk j c hj i v hv⟩

/-- Nodes that lie in memory. -/
def Nodes (w : World) (A : Option Addr) (n : Nat) (l : List Nd) : Prop := Lies w A n 4 (l.map Nd.cells)
theorem Nodes.below {w W : World} {A : Option Addr} {n : Nat} {l : List Nd} (h : Nodes w A n l) (hb : Below w.heap.size w W) : Nodes W A n l := Lies.below h hb
theorem Nodes.len {w : World} {A : Option Addr} {n : Nat} {l : List Nd} (h : Nodes w A n l) : l.length = n := by have := Lies.len h; simpa using this
theorem Nodes.row {w : World} {A : Option Addr} {n : Nat} {l : List Nd} (h : Nodes w A n l) (hn : 0 < n) : ∃ b off, A = some ⟨b, off, none⟩ ∧ b < w.heap.size ∧
    ∀ j x, l[j]? = some x → w.cell? ⟨b, off + j * 4, none⟩ = some (.int .i64 x.id) ∧ w.cell? ⟨b, off + j * 4 + 1, none⟩ = some (.int .i64 x.md) ∧ w.cell? ⟨b, off + j * 4 + 2, none⟩ = some (.int .i64 x.ct) ∧ w.cell? ⟨b, off + j * 4 + 3, none⟩ = some (.int .i64 x.ps) := by
  obtain ⟨b, off, e, hlt, hc⟩ := Lies.at_ h hn
  refine ⟨b, off, e, hlt, fun j x hj => ?_⟩
  have hj' : (l.map Nd.cells)[j]? = some x.cells := by rw [List.getElem?_map, hj]; rfl
  exact ⟨hc j _ hj' 0 _ rfl, hc j _ hj' 1 _ rfl, hc j _ hj' 2 _ rfl, hc j _ hj' 3 _ rfl⟩

namespace Vw
/-- Is the node i the faulty one? -/
def fnode (c v : Int) (i : Nat) : Bool := c == 1 && v == (i : Int)
/-- Which of the first k places are correct, and so. -/
def places (c v : Int) (so : Nat → Nd → Bool) (l : List Nd) (k : Nat) : List Nat := (List.range k).filter fun i => !fnode c v i && so i (l.getD i Nd.zero)
theorem places_succ (c v : Int) (so : Nat → Nd → Bool) (l : List Nd) (k : Nat) :
    places c v so l (k + 1) = places c v so l k ++ if (!fnode c v k && so k (l.getD k Nd.zero)) = true then [k] else [] := by
  unfold places
  rw [List.range_succ, List.filter_append]
  congr 1
  by_cases h : (!fnode c v k && so k (l.getD k Nd.zero)) = true
  · rw [if_pos h]; exact List.filter_cons_of_pos (p := fun i => !fnode c v i && so i (l.getD i Nd.zero)) h
  · rw [if_neg h]; exact List.filter_cons_of_neg (p := fun i => !fnode c v i && so i (l.getD i Nd.zero)) h
theorem places_len (c v : Int) (so : Nat → Nd → Bool) (l : List Nd) (k : Nat) : (places c v so l k).length ≤ k := by
  have := List.length_filter_le (fun i => !fnode c v i && so i (l.getD i Nd.zero)) (List.range k)
  simpa [places] using this
/-- A slice of whole numbers (places) that lies in memory. -/
structure Ints (w : World) (A : Option Addr) (n : Nat) (l : List Nat) : Prop where
  len : l.length = n
  at_ : 0 < n → ∃ b off, A = some ⟨b, off, none⟩ ∧ b < w.heap.size ∧ ∀ (j x : Nat), l[j]? = some x → w.cell? ⟨b, off + j, none⟩ = some (.int .i64 (x : Int))
theorem Ints.below {w W : World} {A : Option Addr} {n : Nat} {l : List Nat} (h : Ints w A n l) (hb : Below w.heap.size w W) : Ints W A n l where
  len := h.len
  at_ := fun hn => by
    obtain ⟨b, off, e, hlt, hc⟩ := h.at_ hn
    exact ⟨b, off, e, Nat.lt_of_lt_of_le hlt hb.size, fun j x hj => (hb.cell (p := ⟨b, off + j, none⟩) hlt).trans (hc j x hj)⟩
/-- The first place at which p holds, or -1. -/
def idx {α : Type} (p : α → Bool) (l : List α) : Int := match l.findIdx? p with | some i => (i : Int) | none => -1
theorem idx_hit {α : Type} (p : α → Bool) (l : List α) (k : Nat) (x : α) (hx : l[k]? = some x) (hp : p x = true) (h : ∀ (j : Nat) (y : α), j < k → l[j]? = some y → p y = false) : idx p l = (k : Int) := by
  have : l.findIdx? p = some k := by
    rw [List.findIdx?_eq_some_iff_getElem]
    obtain ⟨hk, he⟩ := List.getElem?_eq_some_iff.1 hx
    refine ⟨hk, by rw [he]; exact hp, fun j hj => ?_⟩
    rw [h j _ hj (List.getElem?_eq_getElem (by omega))]
    simp
  unfold idx
  rw [this]
theorem idx_miss {α : Type} (p : α → Bool) (l : List α) (h : ∀ (j : Nat) (y : α), l[j]? = some y → p y = false) : idx p l = -1 := by
  have : l.findIdx? p = none := by
    rw [List.findIdx?_eq_none_iff]
    intro x hx
    obtain ⟨j, hj⟩ := List.mem_iff_getElem?.1 hx
    exact h j x hj
  unfold idx
  rw [this]
theorem idx_any {α : Type} (p : α → Bool) (l : List α) : decide (0 ≤ idx p l) = l.any p := by
  unfold idx
  cases h : l.findIdx? p with
  | none =>
    rw [List.findIdx?_eq_none_iff] at h
    have : l.any p = false := by rw [List.any_eq_false]; intro x hx; rw [h x hx]; simp
    rw [this]; decide
  | some i =>
    have : l.any p = true := by
      rw [List.findIdx?_eq_some_iff_getElem] at h
      obtain ⟨hi, hp, _⟩ := h
      rw [List.any_eq_true]
      exact ⟨_, List.getElem_mem hi, hp⟩
    rw [this]
    simp
/-- Active? -/
def act (_ : Nat) (x : Nd) : Bool := x.md == 3
/-- The correct ones that are Active. -/
def active (c v : Int) (l : List Nd) : List Nat := places c v act l l.length
def psAt (l : List Nd) (i : Nat) : Int := (l.getD i Nd.zero).ps
/-- Their slot, if they have one. -/
def slot (c v : Int) (l : List Nd) : Option Int :=
  match active c v l with
  | [] => none
  | p :: r => if (p :: r).any (fun i => psAt l i != psAt l p) then none else some (psAt l p)
def all (c v : Int) (l : List Nd) : Bool := (places c v (fun i x => !act i x) l l.length).length == 0
/-- Those that are Active in l, and not in m. -/
def changed (c v : Int) (l m : List Nd) : List Nat := places c v (fun i x => act i x && (decide (m.length ≤ i) || !act i (m.getD i Nd.zero))) l l.length
theorem mem_places {c v : Int} {so : Nat → Nd → Bool} {l : List Nd} {k i : Nat} (h : i ∈ places c v so l k) : i < k := by
  unfold places at h
  have := (List.mem_filter.1 h).1
  simpa using this
def ints (l : List Nat) : List Value := l.map fun (i : Nat) => Value.int .i64 (i : Int)
/-- A row of the call's own, read as a slice of places. -/
theorem Ints.of_own {w : World} {base : Nat} {e : TypeId} {v : Value} {l : List Nat} (h : w.ownsRow base e 1 v l.length (ints l)) : ∃ A c, v = .slice A l.length c ∧ Ints w A l.length l := by
  rcases Nat.eq_zero_or_pos l.length with h0 | h0
  · rcases h.2 with ⟨rfl, hn⟩ | ⟨g, cap, cur, rfl, _⟩
    · exact ⟨none, 0, by rw [hn], rfl, fun hp => absurd hp (by omega)⟩
    · exact ⟨_, cap, rfl, rfl, fun hp => absurd hp (by omega)⟩
  · obtain ⟨g, cap, rfl, _, hg⟩ := h.form h0
    refine ⟨_, cap, rfl, rfl, fun _ => ⟨g, 0, rfl, ?_, fun j x hj => ?_⟩⟩
    · have hc := h.cells (g := g) rfl 0 (.int .i64 ((l.getD 0 0 : Nat) : Int)) (by
        unfold ints
        rw [List.getElem?_map, List.getElem?_eq_getElem h0, List.getD_eq_getElem?_getD, List.getElem?_eq_getElem h0]
        rfl)
      exact World.block_lt_of_cell? w _ hc
    · have hc := h.cells (g := g) rfl j (.int .i64 (x : Int)) (by unfold ints; rw [List.getElem?_map, hj]; rfl)
      rw [Nat.zero_add]
      have ha : (⟨g, 0, none⟩ : Addr).add j = ⟨g, 0 + j, none⟩ := by unfold Addr.add; split <;> simp_all
      rw [ha, Nat.zero_add] at hc
      exact hc
end Vw
end Go.Proofs.Ytpbkoooljelhjaa
