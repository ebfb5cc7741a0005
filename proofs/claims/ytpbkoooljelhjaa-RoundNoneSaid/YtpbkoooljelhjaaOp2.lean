/-
  Arguments of this program opened: frames, and lists of them.
-/
import Derived.Test.YtpbkoooljelhjaaProg
import Derived.Test.YtpbkoooljelhjaaOp0
import Derived.Test.YtpbkoooljelhjaaWire0
namespace Go.Proofs.Ytpbkoooljelhjaa
set_option linter.unusedVariables false
set_option linter.unusedSimpArgs false
open Go.RowKit Go.ChangeShapes Go.WideShapes Go.Deep
namespace Op
set_option maxRecDepth 100000
section
variable {H : Type} {enc : TypeId × Value → H} {w : World} {base : Nat} {spare : Nat → Bool} {held : Bool}

theorem frame {fuel : Nat} {c : List Value} {x : DataW H × List MemPlace} (h : DataW.trod enc Try.prog w base spare held fuel 51 c = some x) : ∃ z : Fr, c = z.cells ∧ z.fits := by
  obtain ⟨hl, hf⟩ := fields Try.underlying51 (by kernel_rfl) (by kernel_rfl) h
  have hl' : c.length = 2 := hl
  obtain ⟨v0, n0, y0, e0, t0⟩ := hf 0 _ rfl
  obtain ⟨v1, n1, y1, e1, t1⟩ := hf 1 _ rfl
  obtain ⟨a, rfl, a1, a2⟩ := int64 Try.underlying3 t0
  obtain ⟨b, rfl, b1, b2⟩ := int64 Try.underlying3 t1
  match c, hl' with
  | [c0, c1], _ =>
    simp only [List.getElem?_cons_zero, List.getElem?_cons_succ, Option.some.injEq] at e0 e1
    subst e0 e1
    exact ⟨⟨a, b⟩, rfl, a1, a2, b1, b2⟩

/-- What the walk is told of an argument that is a frame. -/
def IsFrame (v : Value) : Prop := ∃ z : Fr, v = .agg #[.int .i64 z.k, .int .i64 z.i] ∧ z.fits
theorem isFrame {r : Reach} {b0 : Nat} {v : Value} {d : DataW H} {p : List MemPlace} (hv : Value.okWide Try.prog w r b0 51 v) (h : DataW.Trod enc Try.prog w base spare held 51 v d p) : IsFrame v := by
  obtain ⟨cs, rfl, _⟩ := okWide_struct Try.underlying51 hv
  obtain ⟨fuel, hf⟩ := h
  have hf' : DataW.trod enc Try.prog w base spare held fuel 51 cs.toList = some (d, p) := hf
  obtain ⟨z, hz, hq⟩ := frame hf'
  obtain ⟨l⟩ := cs
  have hz' : l = z.cells := hz
  subst hz'
  exact ⟨z, rfl, hq⟩
end
end Op
end Go.Proofs.Ytpbkoooljelhjaa
