/-
  Whether looks are in order, and who is heard: plain words; no program.
-/
import Derived.Test.YtpbkoooljelhjaaSync0
namespace Go.Proofs.Ytpbkoooljelhjaa
set_option linter.unusedVariables false
set_option linter.unusedSimpArgs false
open Go.RowKit
namespace Rd
def fhub (c v : Int) (h : Nat) : Bool := c == 2 && v == (h : Int)
def pick (c v : Int) (h : Nat) (z : Fr) : List Fr := if fhub c v h then [] else [z]
/-- What correct hubs relayed. -/
def relayed (c v : Int) (a b : Fr) : List Fr := pick c v 0 a ++ pick c v 1 b
def relK (c v : Int) (a b : Fr) (k : Nat) : List Fr := if k = 0 then [] else if k = 1 then pick c v 0 a else relayed c v a b
/-- What isn't in order. -/
def bad (s : Int) (must : Bool) (z : Fr) : Bool := if z.k == 2 && z.i == s then false else if z.k == 0 && z.i == 0 then must else true
def owner (c v : Int) (l : List Nd) (s : Int) : Bool := (Vw.active c v l).any fun (i : Nat) => (i : Int) == s
def order (c v : Int) (ahead : List Nd) (a b : Fr) : Bool :=
  match Vw.slot c v ahead with
  | none => false
  | some s => !(relayed c v a b).any (bad s (owner c v ahead s))
/-- Is the look at i not in order, and behind from? -/
def wrongAt (c v from_ : Int) (l : List Lk) (i : Nat) : Bool := decide (from_ < (i : Int)) && !order c v (Sy.nodesAt l (i - 1)) (l.getD i default).r0 (l.getD i default).r1
def wrong (c v from_ : Int) (l : List Lk) : Option Nat := if from_ < 0 then none else (List.range l.length).find? (wrongAt c v from_ l)
/-- Does a correct hub relay a node's Info? -/
def says (c v id : Int) (x : Lk) : Bool := (relayed c v x.r0 x.r1).any fun z => 2 == z.k && id == z.i
def saysAt (c v id : Int) (l : List Lk) (k : Nat) : Bool := says c v id (l.getD k default)
/-- So many looks on end without it, from i on. -/
def Quiet (n : Nat) (c v id : Int) (l : List Lk) (i : Nat) : Prop := ∀ k, i ≤ k → k < i + n → saysAt c v id l k = false
def Gap (n : Nat) (c v id : Int) (l : List Lk) : Prop := ∃ i, i + n ≤ l.length ∧ Quiet n c v id l i
/-- A correct node that isn't heard behind from. -/
def Unheard (n : Nat) (c v from_ : Int) (l : List Lk) (id : Nat) : Prop := Vw.fnode c v id = false ∧ ∃ i : Nat, from_ < (i : Int) ∧ i + n ≤ l.length ∧ Quiet n c v id l i
/-- The answer on who isn't heard. -/
structure IsHeard (n c v from_ : Int) (l : List Lk) (o : Option Nat) : Prop where
  none_ : (from_ < 0 ∨ n < 1 ∨ 8 < n) → o = none
  some_ : ∀ id, ¬ (from_ < 0 ∨ n < 1 ∨ 8 < n) → (o = some id ↔ (id < n.toNat ∧ Unheard n.toNat c v from_ l id ∧ ∀ j, j < id → ¬ Unheard n.toNat c v from_ l j))
theorem IsHeard.unique {n c v from_ : Int} {l : List Lk} {o p : Option Nat} (h : IsHeard n c v from_ l o) (k : IsHeard n c v from_ l p) : o = p := by
  by_cases c : from_ < 0 ∨ n < 1 ∨ 8 < n
  · rw [h.none_ c, k.none_ c]
  · cases o with
    | some i => exact ((k.some_ i c).2 ((h.some_ i c).1 rfl)).symm
    | none =>
      cases p with
      | none => rfl
      | some i => exact (h.some_ i c).2 ((k.some_ i c).1 rfl)
theorem unheard_iff {n : Nat} {c v : Int} {l : List Lk} {id a : Nat} {from_ : Int} (h0 : 0 ≤ from_) (hn : 1 ≤ n) (ha : (a : Int) = min from_ ((l.length : Int) - 1) + 1) : Unheard n c v from_ l id ↔ (Vw.fnode c v id = false ∧ Gap n c v id (l.drop a)) := by
  unfold Unheard Gap Quiet saysAt
  constructor
  · rintro ⟨h1, i, h2, h3, h4⟩
    refine ⟨h1, i - a, by rw [List.length_drop]; omega, fun k hk1 hk2 => ?_⟩
    rw [Sy.getD_drop]
    exact h4 (a + k) (by omega) (by omega)
  · rintro ⟨h1, i, h2, h3⟩
    rw [List.length_drop] at h2
    refine ⟨h1, a + i, by omega, by omega, fun k hk1 hk2 => ?_⟩
    have := h3 (k - a) (by omega) (by omega)
    rw [Sy.getD_drop] at this
    rw [show k = a + (k - a) by omega]
    exact this
theorem wrong_hit {c v f : Int} {l : List Lk} {k : Nat} (h0 : 0 ≤ f) (hk : k < l.length) (hp : wrongAt c v f l k = true) (h : ∀ j, j < k → wrongAt c v f l j = false) : wrong c v f l = some k := by
  unfold wrong
  rw [if_neg (by omega), List.find?_range_eq_some]
  exact ⟨hp, List.mem_range.2 hk, fun j hj => by rw [h j hj]; rfl⟩
theorem wrong_miss {c v f : Int} {l : List Lk} (h : 0 ≤ f → ∀ j, j < l.length → wrongAt c v f l j = false) : wrong c v f l = none := by
  unfold wrong
  split
  · rfl
  · rw [List.find?_eq_none]
    intro j hj
    rw [h (by omega) j (List.mem_range.1 hj)]
    simp
theorem wrong_some {c v f : Int} {l : List Lk} {k : Nat} (h : wrong c v f l = some k) : 0 ≤ f ∧ k < l.length ∧ f < (k : Int) ∧ wrongAt c v f l k = true ∧ ∀ j, j < k → wrongAt c v f l j = false := by
  unfold wrong at h
  split at h
  · cases h
  · rw [List.find?_range_eq_some] at h
    obtain ⟨h1, h2, h3⟩ := h
    have h1' := h1
    unfold wrongAt at h1
    rw [Bool.and_eq_true, decide_eq_true_eq] at h1
    exact ⟨by omega, List.mem_range.1 h2, h1.1, h1', fun j hj => by simpa using h3 j hj⟩
theorem wrong_none {c v f : Int} {l : List Lk} (h : wrong c v f l = none) (h0 : 0 ≤ f) : ∀ j, j < l.length → wrongAt c v f l j = false := by
  unfold wrong at h
  rw [if_neg (by omega), List.find?_eq_none] at h
  intro j hj
  simpa using h j (List.mem_range.2 hj)
theorem wrongAt_later {c v f g : Int} {l : List Lk} {k : Nat} (hfg : f ≤ g) (h : wrongAt c v g l k = true) : wrongAt c v f l k = true := by
  unfold wrongAt at h ⊢
  rw [Bool.and_eq_true, decide_eq_true_eq] at h ⊢
  exact ⟨by omega, h.2⟩
/-- The first Info's place in what is relayed: a look with another frame of a faulty hub. -/
theorem relayed_swap0 (v : Int) (a b x : Fr) (hv : v = 0) : relayed 2 v a b = relayed 2 v x b := by subst hv; simp [relayed, pick, fhub]
theorem relayed_swap1 (v : Int) (a b x : Fr) (hv : v = 1) : relayed 2 v a b = relayed 2 v a x := by subst hv; simp [relayed, pick, fhub]
end Rd
end Go.Proofs.Ytpbkoooljelhjaa
