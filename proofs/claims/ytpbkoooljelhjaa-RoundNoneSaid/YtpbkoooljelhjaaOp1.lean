/-
  Arguments of this program opened: faults, nodes, lists of nodes.
-/
import Derived.Test.YtpbkoooljelhjaaProg
import Derived.Test.YtpbkoooljelhjaaOp0
namespace Go.Proofs.Ytpbkoooljelhjaa
set_option linter.unusedVariables false
set_option linter.unusedSimpArgs false
open Go.RowKit Go.ChangeShapes Go.WideShapes Go.Deep
namespace Op
set_option maxRecDepth 100000
section
variable {H : Type} {enc : TypeId × Value → H} {w : World} {base : Nat} {spare : Nat → Bool} {held : Bool}

theorem node {fuel : Nat} {c : List Value} {x : DataW H × List MemPlace} (h : DataW.trod enc Try.prog w base spare held fuel 45 c = some x) : ∃ z : Nd, c = z.cells ∧ z.fits := by
  obtain ⟨hl, hf⟩ := fields Try.underlying45 (by kernel_rfl) (by kernel_rfl) h
  have hl' : c.length = 4 := hl
  obtain ⟨v0, n0, y0, e0, t0⟩ := hf 0 _ rfl
  obtain ⟨v1, n1, y1, e1, t1⟩ := hf 1 _ rfl
  obtain ⟨v2, n2, y2, e2, t2⟩ := hf 2 _ rfl
  obtain ⟨v3, n3, y3, e3, t3⟩ := hf 3 _ rfl
  obtain ⟨a, rfl, a1, a2⟩ := int64 Try.underlying3 t0
  obtain ⟨b, rfl, b1, b2⟩ := int64 Try.underlying3 t1
  obtain ⟨d, rfl, d1, d2⟩ := int64 Try.underlying3 t2
  obtain ⟨e, rfl, e1', e2'⟩ := int64 Try.underlying3 t3
  match c, hl' with
  | [c0, c1, c2, c3], _ =>
    simp only [List.getElem?_cons_zero, List.getElem?_cons_succ, Option.some.injEq] at e0 e1 e2 e3
    subst e0 e1 e2 e3
    exact ⟨⟨a, b, d, e⟩, rfl, e1', e2', b1, b2⟩

/-- A list of nodes that came in. -/
theorem nodes {fuel : Nat} {A : Option Addr} {n cap : Nat} {x : DataW H × List MemPlace} (h : DataW.trod enc Try.prog w base (fun _ => true) held fuel 36 [.slice A n cap] = some x) :
    n ≤ maxLen ∧ ∃ l : List Nd, Nodes w A n l ∧ ∀ z ∈ l, z.fits :=
  list Nd.cells Nd.fits Try.underlying36 (by kernel_rfl) (by decide) (fun _ _ _ h => node h) h

/-- What the walk is told of an argument that is a list of nodes. -/
def IsNodes (w : World) (v : Value) : Prop := ∃ A n cap l, v = .slice A n cap ∧ n ≤ maxLen ∧ Nodes w A n l ∧ ∀ z ∈ l, z.fits
theorem isNodes {r : Reach} {b0 : Nat} {v : Value} {d : DataW H} {p : List MemPlace} (hv : Value.okWide Try.prog w r b0 36 v) (h : DataW.Trod enc Try.prog w base (fun _ => true) held 36 v d p) : IsNodes w v := by
  obtain ⟨A, n, cap, rfl⟩ := okWide_slice Try.underlying36 hv
  obtain ⟨fuel, hf⟩ := h
  obtain ⟨hm, l, hl, hq⟩ := nodes hf
  exact ⟨A, n, cap, l, rfl, hm, hl, hq⟩

/-- What the walk is told of an argument that is a fault. -/
def IsFault (v : Value) : Prop := ∃ a b : Int, v = .agg #[.int .i64 a, .int .i64 b] ∧ -9223372036854775808 ≤ a ∧ a ≤ 9223372036854775807 ∧ -9223372036854775808 ≤ b ∧ b ≤ 9223372036854775807
theorem isFault {r : Reach} {b0 : Nat} {v : Value} {d : DataW H} {p : List MemPlace} (hv : Value.okWide Try.prog w r b0 35 v) (h : DataW.Trod enc Try.prog w base spare held 35 v d p) : IsFault v := by
  obtain ⟨cs, rfl, _⟩ := okWide_struct Try.underlying35 hv
  obtain ⟨fuel, hf⟩ := h
  have hf' : DataW.trod enc Try.prog w base spare held fuel 35 cs.toList = some (d, p) := hf
  obtain ⟨hl, hg⟩ := fields Try.underlying35 (by kernel_rfl) (by kernel_rfl) hf'
  have hl' : cs.toList.length = 2 := hl
  obtain ⟨v0, n0, y0, e0, t0⟩ := hg 0 _ rfl
  obtain ⟨v1, n1, y1, e1, t1⟩ := hg 1 _ rfl
  obtain ⟨a, rfl, a1, a2⟩ := int64 Try.underlying3 t0
  obtain ⟨b, rfl, b1, b2⟩ := int64 Try.underlying3 t1
  obtain ⟨l⟩ := cs
  match l, hl' with
  | [c0, c1], _ =>
    simp only [List.getElem?_cons_zero, List.getElem?_cons_succ, Option.some.injEq] at e0 e1
    subst e0 e1
    exact ⟨a, b, rfl, a1, a2, b1, b2⟩
end
end Op
end Go.Proofs.Ytpbkoooljelhjaa
