/-
  Where looks split, one leaves, and from where on all are there: plain words; no program.
-/
import Derived.Test.YtpbkoooljelhjaaLk0
import Derived.Test.YtpbkoooljelhjaaVw8
import Derived.Test.YtpbkoooljelhjaaWm0
namespace Go.Proofs.Ytpbkoooljelhjaa
set_option linter.unusedVariables false
set_option linter.unusedSimpArgs false
open Go.RowKit
instance : Inhabited Nd := ⟨Nd.zero⟩
namespace Sy
/-- Some are Active, in no one slot. -/
def parts (c v : Int) (x : Lk) : Bool := (!(Vw.active c v x.nodes).isEmpty) && (Vw.slot c v x.nodes).isNone
/-- All are there. -/
def ok (c v : Int) (x : Lk) : Bool := (Vw.slot c v x.nodes).isSome && Vw.all c v x.nodes
def nodesAt (l : List Lk) (k : Nat) : List Nd := (l.getD k default).nodes
def slotAt (c v : Int) (l : List Lk) (k : Nat) : Option Int := Vw.slot c v (nodesAt l k)
/-- At k all are there, and the slot behind is the next one. -/
def Good (n : Nat) (c v : Int) (l : List Lk) (k : Nat) : Prop := ok c v (l.getD k default) = true ∧ (k + 1 < l.length → ∀ p, slotAt c v l k = some p → slotAt c v l (k + 1) = some (Wm.nx n p))
/-- From a on all are there, and a is the first such place. -/
structure IsAt (n : Nat) (c v : Int) (l : List Lk) (a : Nat) : Prop where
  le : a ≤ l.length
  good : ∀ k, a ≤ k → k < l.length → Good n c v l k
  least : 0 < a → ¬ Good n c v l (a - 1)
theorem IsAt.unique {n : Nat} {c v : Int} {l : List Lk} {a b : Nat} (h : IsAt n c v l a) (k : IsAt n c v l b) : a = b := by
  rcases Nat.lt_trichotomy a b with e | e | e
  · exact absurd (h.good (b - 1) (by omega) (by have := k.le; omega)) (k.least (by omega))
  · exact e
  · exact absurd (k.good (a - 1) (by omega) (by have := h.le; omega)) (h.least (by omega))
/-- The two answers of it. -/
def thereV (l : List Lk) (a : Nat) : Value := .tuple #[.int .i64 (if a = l.length then 0 else (a : Int)), .bool (decide (a ≠ l.length))]
/-- The first place, as two answers. -/
def firstV (o : Option Nat) : Value := .tuple #[.int .i64 ((o.getD 0 : Nat) : Int), .bool o.isSome]
def split (c v : Int) (l : List Lk) : Option Nat := l.findIdx? (parts c v)
def leftAt (c v : Int) (l : List Lk) (k : Nat) : Bool := decide (0 < k) && !(Vw.changed c v (nodesAt l (k - 1)) (nodesAt l k)).isEmpty
def leaves (c v : Int) (l : List Lk) : Option Nat := (List.range l.length).find? (leftAt c v l)

theorem split_hit {c v : Int} {l : List Lk} {k : Nat} {x : Lk} (hx : l[k]? = some x) (hp : parts c v x = true) (h : ∀ (j : Nat) (y : Lk), j < k → l[j]? = some y → parts c v y = false) : split c v l = some k := by
  unfold split
  rw [List.findIdx?_eq_some_iff_getElem]
  obtain ⟨hk, he⟩ := List.getElem?_eq_some_iff.1 hx
  refine ⟨hk, by rw [he]; exact hp, fun j hj => ?_⟩
  rw [h j _ hj (List.getElem?_eq_getElem (by omega))]
  simp
theorem split_miss {c v : Int} {l : List Lk} (h : ∀ (j : Nat) (y : Lk), l[j]? = some y → parts c v y = false) : split c v l = none := by
  unfold split
  rw [List.findIdx?_eq_none_iff]
  intro x hx
  obtain ⟨j, hj⟩ := List.mem_iff_getElem?.1 hx
  exact h j x hj
theorem leaves_hit {c v : Int} {l : List Lk} {k : Nat} (hk : k < l.length) (hp : leftAt c v l k = true) (h : ∀ j, j < k → leftAt c v l j = false) : leaves c v l = some k := by
  unfold leaves
  rw [List.find?_range_eq_some]
  exact ⟨hp, List.mem_range.2 hk, fun j hj => by rw [h j hj]; rfl⟩
theorem leaves_miss {c v : Int} {l : List Lk} (h : ∀ j, j < l.length → leftAt c v l j = false) : leaves c v l = none := by
  unfold leaves
  rw [List.find?_eq_none]
  intro j hj
  rw [h j (List.mem_range.1 hj)]
  simp
theorem getD_of {l : List Lk} {k : Nat} {x : Lk} (h : l[k]? = some x) : l.getD k default = x := by rw [List.getD_eq_getElem?_getD, h]; rfl
theorem nodesAt_of {l : List Lk} {k : Nat} {x : Lk} (h : l[k]? = some x) : nodesAt l k = x.nodes := by unfold nodesAt; rw [getD_of h]
theorem slotAt_of {c v : Int} {l : List Lk} {k : Nat} {x : Lk} (h : l[k]? = some x) : slotAt c v l k = Vw.slot c v x.nodes := by unfold slotAt; rw [nodesAt_of h]
/-- A slot is some node's. -/
theorem slot_mem {c v : Int} {l : List Nd} {p : Int} (h : Vw.slot c v l = some p) : ∃ z ∈ l, p = z.ps := by
  unfold Vw.slot at h
  split at h
  · cases h
  · rename_i i r he
    split at h
    · cases h
    · injection h with h
      have hi : i ∈ Vw.active c v l := by rw [he]; simp
      have hl := Vw.mem_places hi
      refine ⟨l.getD i Nd.zero, ?_, h.symm⟩
      rw [List.getD_eq_getElem?_getD, List.getElem?_eq_getElem hl]
      exact List.getElem_mem hl
theorem slot_none {c v : Int} {l : List Nd} (h : (Vw.active c v l).isEmpty = true) : Vw.slot c v l = none := by
  unfold Vw.slot
  rw [List.isEmpty_iff.1 h]
/-- Where all are Active behind, none has left. -/
theorem changed_nil {c v : Int} {l m : List Nd} (hlen : l.length = m.length) (h : Vw.all c v m = true) : Vw.changed c v l m = [] := by
  unfold Vw.all at h
  have h0 := List.eq_nil_of_length_eq_zero (by simpa using h : (Vw.places c v (fun i x => !Vw.act i x) m m.length).length = 0)
  unfold Vw.changed
  unfold Vw.places at h0 ⊢
  rw [List.filter_eq_nil_iff] at h0 ⊢
  intro i hi
  have h1 := h0 i (by rw [← hlen]; exact hi)
  have hi' := List.mem_range.1 hi
  simp only [Bool.and_eq_true, Bool.not_eq_true', Bool.or_eq_true, decide_eq_true_eq, not_and, not_or] at h1 ⊢
  intro hf ha
  refine ⟨by omega, ?_⟩
  exact h1 hf
/-- How looks may be: n nodes each, each Pos within. -/
structure May (n : Nat) (l : List Lk) : Prop where
  lo : 3 ≤ n
  hi : n ≤ 8
  most : l.length ≤ 60
  len : ∀ x ∈ l, x.nodes.length = n ∧ ∀ z ∈ x.nodes, 0 ≤ z.ps ∧ z.ps < n
theorem May.drop {n : Nat} {l : List Lk} (h : May n l) (k : Nat) : May n (l.drop k) := ⟨h.lo, h.hi, by have := h.most; simp; omega, fun x hx => h.len x (List.mem_of_mem_drop hx)⟩
theorem May.slot {n : Nat} {l : List Lk} (h : May n l) {c v : Int} {k : Nat} {p : Int} (hk : k < l.length) (hp : slotAt c v l k = some p) : 0 ≤ p ∧ p < n := by
  have hx : l[k]? = some l[k] := List.getElem?_eq_getElem hk
  rw [slotAt_of hx] at hp
  obtain ⟨z, hz, rfl⟩ := slot_mem hp
  exact (h.len _ (List.mem_of_getElem? hx)).2 z hz
theorem getD_drop (l : List Lk) (a k : Nat) : (l.drop a).getD k default = l.getD (a + k) default := by
  rw [List.getD_eq_getElem?_getD, List.getD_eq_getElem?_getD, List.getElem?_drop]
theorem slotAt_drop (c v : Int) (l : List Lk) (a k : Nat) : slotAt c v (l.drop a) k = slotAt c v l (a + k) := by unfold slotAt nodesAt; rw [getD_drop]
theorem good_drop {n : Nat} {c v : Int} {l : List Lk} {a k : Nat} (h : Good n c v l (a + k)) (hk : a + k < l.length) : Good n c v (l.drop a) k := by
  unfold Good at h ⊢
  rw [getD_drop, slotAt_drop, slotAt_drop]
  refine ⟨h.1, fun h1 p hp => ?_⟩
  exact h.2 (by simp at h1; omega) p hp
theorem at_drop {n : Nat} {c v : Int} {l : List Lk} {a b : Nat} (h : IsAt n c v l a) (hab : a ≤ b) (hb : b ≤ l.length) : IsAt n c v (l.drop b) 0 :=
  ⟨by omega, fun k _ hk => by have hk' : b + k < l.length := by simp at hk; omega
                              exact good_drop (h.good (b + k) (by omega) hk') hk', fun h0 => absurd h0 (by omega)⟩
/-- From there on nothing splits, and none leaves. -/
theorem at_split {n : Nat} {c v : Int} {l : List Lk} {a : Nat} (h : IsAt n c v l a) : split c v (l.drop a) = none := by
  refine split_miss fun j y hy => ?_
  rw [List.getElem?_drop] at hy
  have hk := (List.getElem?_eq_some_iff.1 hy).1
  have hg := (h.good (a + j) (by omega) hk).1
  rw [getD_of hy] at hg
  unfold ok at hg
  unfold parts
  rw [Bool.and_eq_true] at hg
  have := hg.1
  cases hs : Vw.slot c v y.nodes with
  | none => rw [hs] at this; simp at this
  | some p => simp
theorem at_leaves {n : Nat} {c v : Int} {l : List Lk} {a : Nat} (hm : May n l) (h : IsAt n c v l a) : leaves c v (l.drop a) = none := by
  refine leaves_miss fun j hj => ?_
  unfold leftAt
  by_cases h0 : 0 < j
  · have hj' : a + j < l.length := by simp at hj; omega
    have e1 : nodesAt (l.drop a) j = nodesAt l (a + j) := by unfold nodesAt; rw [getD_drop]
    have e2 : nodesAt (l.drop a) (j - 1) = nodesAt l (a + j - 1) := by unfold nodesAt; rw [getD_drop]; congr 2; omega
    have hg := (h.good (a + j) (by omega) hj').1
    unfold ok at hg
    rw [Bool.and_eq_true] at hg
    have hlen : ∀ k, k < l.length → (nodesAt l k).length = n := fun k hk => by
      have hx : l[k]? = some l[k] := List.getElem?_eq_getElem hk
      rw [nodesAt_of hx]
      exact (hm.len _ (List.mem_of_getElem? hx)).1
    have hc : Vw.changed c v (nodesAt l (a + j - 1)) (nodesAt l (a + j)) = [] := changed_nil (by rw [hlen _ (by omega), hlen _ hj']) hg.2
    rw [e1, e2, hc]
    simp
  · rw [decide_eq_false h0]; rfl
theorem at_last {n : Nat} {c v : Int} {l : List Lk} {a : Nat} (h : IsAt n c v l a) (ha : a < l.length) : ok c v (l.getD (l.length - 1) default) = true := (h.good (l.length - 1) (by omega) (by omega)).1
theorem at_none {n : Nat} {c v : Int} {l : List Lk} (h : IsAt n c v l l.length) (hl : 0 < l.length) : ok c v (l.getD (l.length - 1) default) = false := by
  have := h.least hl
  cases e : ok c v (l.getD (l.length - 1) default) with
  | false => rfl
  | true => exact absurd ⟨e, fun h1 => absurd h1 (by omega)⟩ this
end Sy
end Go.Proofs.Ytpbkoooljelhjaa
