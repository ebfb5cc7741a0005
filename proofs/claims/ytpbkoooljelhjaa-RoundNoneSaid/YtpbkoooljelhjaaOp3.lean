/-
  Arguments of this program opened: texts, frames, and what is asked of ports.
-/
import Derived.Test.YtpbkoooljelhjaaProg
import Derived.Test.YtpbkoooljelhjaaOp2
import Derived.Test.YtpbkoooljelhjaaPort0
namespace Go.Proofs.Ytpbkoooljelhjaa
set_option linter.unusedVariables false
set_option linter.unusedSimpArgs false
open Go.RowKit Go.ChangeShapes Go.WideShapes Go.Deep
instance : Inhabited Fr := ⟨Fr.none⟩
namespace Op
set_option maxRecDepth 100000
section
variable {H : Type} {enc : TypeId × Value → H} {w : World} {base : Nat} {spare : Nat → Bool} {held : Bool}

/-- What the walk is told of texts that came in. -/
def IsStrs (w : World) (v : Value) : Prop := ∃ A n cap l, v = .slice A n cap ∧ n ≤ maxLen ∧ Strs w A n l ∧ ∀ s ∈ l, s.size ≤ maxLen
theorem strs {fuel : Nat} {v : Value} {x : DataW H × List MemPlace} (h : DataW.trod enc Try.prog w base (fun _ => true) held fuel 58 [v] = some x) : IsStrs w v := by
  have h0 := elems (P := Try.prog) Try.underlying58 (k := 1) (by decide) h
  have hsh : ∃ A n cap, v = .slice A n cap := by
    rcases h0 with h1 | ⟨a, n, cap, h1, _⟩ <;> (simp only [List.cons.injEq, and_true] at h1; exact ⟨_, _, _, h1⟩)
  obtain ⟨A, n, cap, rfl⟩ := hsh
  obtain ⟨hm, l, hl, hq⟩ := list (P := Try.prog) (fun s : ByteArray => [Value.string s]) (fun s => s.size ≤ maxLen) Try.underlying58 (k := 1) (by decide) (by decide) (fun _ c _ h => by
    obtain ⟨s, hc, _, hs⟩ := DataW.trod_string Try.underlying9 h
    exact ⟨s, hc, hs⟩) h
  exact ⟨A, n, cap, l, rfl, hm, hl, hq⟩
theorem isStrs {r : Reach} {b0 : Nat} {v : Value} {d : DataW H} {p : List MemPlace} (hv : Value.okWide Try.prog w r b0 58 v) (h : DataW.Trod enc Try.prog w base (fun _ => true) held 58 v d p) : IsStrs w v := by
  obtain ⟨A, n, cap, rfl⟩ := okWide_slice Try.underlying58 hv
  obtain ⟨fuel, hf⟩ := h
  exact strs hf

/-- What the walk is told of frames that came in. -/
def IsFrames (w : World) (v : Value) : Prop := ∃ A n cap l, v = .slice A n cap ∧ n ≤ maxLen ∧ Frames w A n l ∧ (A = none → cap = 0) ∧ ∀ z ∈ l, z.fits
theorem frames {fuel : Nat} {v : Value} {x : DataW H × List MemPlace} (h : DataW.trod enc Try.prog w base (fun _ => true) held fuel 60 [v] = some x) : IsFrames w v := by
  have h0 := elems (P := Try.prog) Try.underlying60 (k := 2) (by decide) h
  have hsh : ∃ A n cap, v = .slice A n cap ∧ (A = none → cap = 0) := by
    rcases h0 with h1 | ⟨a, n, cap, h1, _⟩
    · simp only [List.cons.injEq, and_true] at h1; exact ⟨_, _, _, h1, fun _ => rfl⟩
    · simp only [List.cons.injEq, and_true] at h1; exact ⟨_, _, _, h1, fun h => by cases h⟩
  obtain ⟨A, n, cap, rfl, hcap⟩ := hsh
  obtain ⟨hm, l, hl, hq⟩ := list (P := Try.prog) Fr.cells Fr.fits Try.underlying60 (k := 2) (by decide) (by decide) (fun _ _ _ h => frame h) h
  exact ⟨A, n, cap, l, rfl, hm, hl, hcap, hq⟩
theorem isFrames {r : Reach} {b0 : Nat} {v : Value} {d : DataW H} {p : List MemPlace} (hv : Value.okWide Try.prog w r b0 60 v) (h : DataW.Trod enc Try.prog w base (fun _ => true) held 60 v d p) : IsFrames w v := by
  obtain ⟨A, n, cap, rfl⟩ := okWide_slice Try.underlying60 hv
  obtain ⟨fuel, hf⟩ := h
  exact frames hf

/-- What the walk is told of what is asked of ports. -/
def IsPAsk (w : World) (v : Value) : Prop := ∃ (n : Int) (l a b : Value), v = .agg #[.int .i64 n, l, a, b] ∧ IsStrs w l ∧ IsFrames w a ∧ IsFrames w b
theorem isPAsk {r : Reach} {b0 : Nat} {v : Value} {d : DataW H} {p : List MemPlace} (hv : Value.okWide Try.prog w r b0 85 v) (h : DataW.Trod enc Try.prog w base (fun _ => true) held 85 v d p) : IsPAsk w v := by
  obtain ⟨cs, rfl, _⟩ := okWide_struct Try.underlying85 hv
  obtain ⟨fuel, hf⟩ := h
  have hf' : DataW.trod enc Try.prog w base (fun _ => true) held fuel 85 cs.toList = some (d, p) := hf
  obtain ⟨hl, hg⟩ := fields Try.underlying85 (by kernel_rfl) (by kernel_rfl) hf'
  have hl' : cs.toList.length = 4 := hl
  obtain ⟨v0, n0, y0, e0, t0⟩ := hg 0 _ rfl
  obtain ⟨v1, n1, y1, e1, t1⟩ := hg 1 _ rfl
  obtain ⟨v2, n2, y2, e2, t2⟩ := hg 2 _ rfl
  obtain ⟨v3, n3, y3, e3, t3⟩ := hg 3 _ rfl
  obtain ⟨a, rfl, a1, a2⟩ := int64 Try.underlying3 t0
  have s1 := strs t1
  have s2 := frames t2
  have s3 := frames t3
  obtain ⟨l⟩ := cs
  match l, hl' with
  | [c0, c1, c2, c3], _ =>
    simp only [List.getElem?_cons_zero, List.getElem?_cons_succ, Option.some.injEq] at e0 e1 e2 e3
    subst e0 e1 e2 e3
    exact ⟨a, _, _, _, rfl, s1, s2, s3⟩
end
end Op
end Go.Proofs.Ytpbkoooljelhjaa
