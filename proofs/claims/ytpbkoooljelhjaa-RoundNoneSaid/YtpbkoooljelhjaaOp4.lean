/-
  Arguments of this program opened: what is heard, looks.
-/
import Derived.Test.YtpbkoooljelhjaaProg
import Derived.Test.YtpbkoooljelhjaaOp3
import Derived.Test.YtpbkoooljelhjaaOp1
import Derived.Test.YtpbkoooljelhjaaLk0
namespace Go.Proofs.Ytpbkoooljelhjaa
set_option linter.unusedVariables false
set_option linter.unusedSimpArgs false
open Go.RowKit Go.ChangeShapes Go.WideShapes Go.Deep
namespace Op
set_option maxRecDepth 100000
section
variable {H : Type} {enc : TypeId × Value → H} {P : Program} {w : World} {base : Nat} {spare : Nat → Bool} {held : Bool}
theorem len_struct {t : TypeId} {fs : Array Field} {fuel : Nat} {cs : List Value} {x : DataW H × List MemPlace} (ht : P.underlying t = some (.struct fs)) (h : DataW.trod enc P w base spare held fuel t cs = some x) : cs.length = P.cellsOf t := by
  obtain ⟨xs, n, _, _, hl, _, _⟩ := DataW.trod_struct ht h
  exact hl
theorem field {t : TypeId} {fs : Array Field} {fuel j k : Nat} {f : Field} {cs : List Value} {x : DataW H × List MemPlace} (ht : P.underlying t = some (.struct fs)) (hj : fs[j]? = some f) (hk : P.cellsOf f.type = k)
    (h : DataW.trod enc P w base spare held fuel t cs = some x) : ∃ (n : Nat) (y : DataW H × List MemPlace), DataW.trod enc P w base spare held n f.type ((cs.drop f.offset).take k) = some y := by
  obtain ⟨xs, n, _, _, hl, hxl, hg⟩ := DataW.trod_struct ht h
  have h1 := hg j f hj
  rw [hk] at h1
  have hjl : j < fs.size := (Array.getElem?_eq_some_iff.1 hj).1
  exact ⟨n, _, h1.trans (List.getElem?_eq_getElem (by omega))⟩
theorem elem {t e : TypeId} {fuel i k m : Nat} {cs : List Value} {x : DataW H × List MemPlace} (ht : P.underlying t = some (.array m e)) (hi : i < m) (hk : P.cellsOf e = k)
    (h : DataW.trod enc P w base spare held fuel t cs = some x) : ∃ (n : Nat) (y : DataW H × List MemPlace), DataW.trod enc P w base spare held n e ((cs.drop (i * k)).take k) = some y := by
  obtain ⟨xs, n, _, _, hl, hxl, hg⟩ := DataW.trod_array ht h
  have h1 := hg i hi
  rw [hk] at h1
  exact ⟨n, _, h1.trans (List.getElem?_eq_getElem (by omega))⟩
theorem int8u {t : TypeId} {n : Nat} {v : Value} {y : DataW H × List MemPlace} (ht : P.underlying t = some (.int .u8)) (h : DataW.trod enc P w base spare held n t [v] = some y) : ∃ z : Int, v = .int .u8 z ∧ 0 ≤ z ∧ z ≤ 255 := by
  obtain ⟨z, hc, _, hw⟩ := DataW.trod_int ht h
  simp only [List.cons.injEq, and_true] at hc
  exact ⟨z, hc, (bounds_u8 hw).1, (bounds_u8 hw).2⟩
theorem boolean {t : TypeId} {n : Nat} {v : Value} {y : DataW H × List MemPlace} (ht : P.underlying t = some .bool) (h : DataW.trod enc P w base spare held n t [v] = some y) : ∃ b : Bool, v = .bool b := by
  obtain ⟨b, hc, _⟩ := DataW.trod_bool ht h
  simp only [List.cons.injEq, and_true] at hc
  exact ⟨b, hc⟩
theorem text {t : TypeId} {n : Nat} {v : Value} {y : DataW H × List MemPlace} (ht : P.underlying t = some .string) (h : DataW.trod enc P w base spare held n t [v] = some y) : ∃ s : ByteArray, v = .string s ∧ s.size ≤ maxLen := by
  obtain ⟨s, hc, _, hs⟩ := DataW.trod_string ht h
  simp only [List.cons.injEq, and_true] at hc
  exact ⟨s, hc, hs⟩
theorem capOf {t e : TypeId} {fuel : Nat} {A : Option Addr} {n cap : Nat} {x : DataW H × List MemPlace} (ht : P.underlying t = some (.slice e)) (h : DataW.trod enc P w base (fun _ => true) held fuel t [.slice A n cap] = some x) : n ≤ cap := by
  rcases open_slice ht h with h0 | ⟨a, len, cap', m, k, D, Pl, hcs, hb, hl, hm, hmm, hx, hi⟩
  · have h1 := h0.1
    simp only [List.cons.injEq, Value.slice.injEq, and_true] at h1
    omega
  · simp only [List.cons.injEq, Value.slice.injEq, and_true] at hcs
    have hm' : m = cap' := by simpa using hmm
    omega
theorem nodesOf {fuel : Nat} {v : Value} {x : DataW H × List MemPlace} (h : DataW.trod enc Try.prog w base (fun _ => true) held fuel 36 [v] = some x) : IsNodes w v := by
  have h0 := elems (P := Try.prog) Try.underlying36 (k := 4) (by kernel_rfl) h
  have hsh : ∃ A n cap, v = .slice A n cap := by
    rcases h0 with h1 | ⟨a, n, cap, h1, _⟩ <;> (simp only [List.cons.injEq, and_true] at h1; exact ⟨_, _, _, h1⟩)
  obtain ⟨A, n, cap, rfl⟩ := hsh
  obtain ⟨hm, l, hl, hq⟩ := nodes h
  exact ⟨A, n, cap, l, rfl, hm, hl, hq⟩
/-- A look. -/
theorem lookOf {fuel : Nat} {c : List Value} {x : DataW H × List MemPlace} (h : DataW.trod enc Try.prog w base (fun _ => true) held fuel 77 c = some x) : ∃ (t : Int) (r0k : Int) (r0i : Int) (r1k : Int) (r1i : Int) (l : Value), c = [.int .i64 t, .int .i64 r0k, .int .i64 r0i, .int .i64 r1k, .int .i64 r1i, l] ∧ (-9223372036854775808 ≤ t ∧ t ≤ 9223372036854775807) ∧ (-9223372036854775808 ≤ r0k ∧ r0k ≤ 9223372036854775807) ∧ (-9223372036854775808 ≤ r0i ∧ r0i ≤ 9223372036854775807) ∧ (-9223372036854775808 ≤ r1k ∧ r1k ≤ 9223372036854775807) ∧ (-9223372036854775808 ≤ r1i ∧ r1i ≤ 9223372036854775807) ∧ (IsNodes w l) := by
  have hl : c.length = 6 := (len_struct Try.underlying77 h).trans (by kernel_rfl)
  match c, hl with
  | [c0, c1, c2, c3, c4, c5], _ =>
    obtain ⟨n_t1, y_t1, t1⟩ := field Try.underlying77 (j := 0) rfl (show Try.prog.cellsOf 3 = 1 by kernel_rfl) h
    replace t1 : DataW.trod enc Try.prog w base (fun _ => true) held n_t1 3 [c0] = some y_t1 := t1
    obtain ⟨t, rfl, p_t⟩ := int64 Try.underlying3 t1
    obtain ⟨n_t2, y_t2, t2⟩ := field Try.underlying77 (j := 1) rfl (show Try.prog.cellsOf 75 = 4 by kernel_rfl) h
    replace t2 : DataW.trod enc Try.prog w base (fun _ => true) held n_t2 75 [c1, c2, c3, c4] = some y_t2 := t2
    obtain ⟨n_t3, y_t3, t3⟩ := elem Try.underlying75 (i := 0) (by omega) (show Try.prog.cellsOf 51 = 2 by kernel_rfl) t2
    replace t3 : DataW.trod enc Try.prog w base (fun _ => true) held n_t3 51 [c1, c2] = some y_t3 := t3
    obtain ⟨n_t4, y_t4, t4⟩ := field Try.underlying51 (j := 0) rfl (show Try.prog.cellsOf 3 = 1 by kernel_rfl) t3
    replace t4 : DataW.trod enc Try.prog w base (fun _ => true) held n_t4 3 [c1] = some y_t4 := t4
    obtain ⟨r0k, rfl, p_r0k⟩ := int64 Try.underlying3 t4
    obtain ⟨n_t5, y_t5, t5⟩ := field Try.underlying51 (j := 1) rfl (show Try.prog.cellsOf 3 = 1 by kernel_rfl) t3
    replace t5 : DataW.trod enc Try.prog w base (fun _ => true) held n_t5 3 [c2] = some y_t5 := t5
    obtain ⟨r0i, rfl, p_r0i⟩ := int64 Try.underlying3 t5
    obtain ⟨n_t6, y_t6, t6⟩ := elem Try.underlying75 (i := 1) (by omega) (show Try.prog.cellsOf 51 = 2 by kernel_rfl) t2
    replace t6 : DataW.trod enc Try.prog w base (fun _ => true) held n_t6 51 [c3, c4] = some y_t6 := t6
    obtain ⟨n_t7, y_t7, t7⟩ := field Try.underlying51 (j := 0) rfl (show Try.prog.cellsOf 3 = 1 by kernel_rfl) t6
    replace t7 : DataW.trod enc Try.prog w base (fun _ => true) held n_t7 3 [c3] = some y_t7 := t7
    obtain ⟨r1k, rfl, p_r1k⟩ := int64 Try.underlying3 t7
    obtain ⟨n_t8, y_t8, t8⟩ := field Try.underlying51 (j := 1) rfl (show Try.prog.cellsOf 3 = 1 by kernel_rfl) t6
    replace t8 : DataW.trod enc Try.prog w base (fun _ => true) held n_t8 3 [c4] = some y_t8 := t8
    obtain ⟨r1i, rfl, p_r1i⟩ := int64 Try.underlying3 t8
    obtain ⟨n_t9, y_t9, t9⟩ := field Try.underlying77 (j := 2) rfl (show Try.prog.cellsOf 36 = 1 by kernel_rfl) h
    replace t9 : DataW.trod enc Try.prog w base (fun _ => true) held n_t9 36 [c5] = some y_t9 := t9
    have p_l := nodesOf t9
    exact ⟨t, r0k, r0i, r1k, r1i, _, rfl, p_t, p_r0k, p_r0i, p_r1k, p_r1i, p_l⟩

/-- A look's six cells. -/
theorem lookCells {fuel : Nat} {c : List Value} {x : DataW H × List MemPlace} (h : DataW.trod enc Try.prog w base (fun _ => true) held fuel 77 c = some x) : ∃ z : Lk, c = z.cells ∧ z.There w := by
  obtain ⟨t, k0, i0, k1, i1, l, rfl, pt, pk0, pi0, pk1, pi1, pl⟩ := lookOf h
  obtain ⟨A, n, cap, xs, rfl, hm, hl, hq⟩ := pl
  exact ⟨⟨t, ⟨k0, i0⟩, ⟨k1, i1⟩, A, n, cap, xs⟩, rfl, ⟨pt, ⟨pk0.1, pk0.2, pi0.1, pi0.2⟩, ⟨pk1.1, pk1.2, pi1.1, pi1.2⟩, hm, hl, hq⟩⟩
/-- What the walk is told of looks that came in. -/
def IsLooks (w : World) (v : Value) : Prop := ∃ A n cap l, v = .slice A n cap ∧ n ≤ maxLen ∧ Looks w A n l ∧ n ≤ cap ∧ (A = none → cap = 0)
theorem looksOf {fuel : Nat} {v : Value} {x : DataW H × List MemPlace} (h : DataW.trod enc Try.prog w base (fun _ => true) held fuel 65 [v] = some x) : IsLooks w v := by
  have h0 := elems (P := Try.prog) Try.underlying65 (k := 6) (by kernel_rfl) h
  have hsh : ∃ A n cap, v = .slice A n cap ∧ (A = none → cap = 0) := by
    rcases h0 with h1 | ⟨a, n, cap, h1, _⟩
    · simp only [List.cons.injEq, and_true] at h1; exact ⟨_, _, _, h1, fun _ => rfl⟩
    · simp only [List.cons.injEq, and_true] at h1; exact ⟨_, _, _, h1, fun h => by cases h⟩
  obtain ⟨A, n, cap, rfl, hnil⟩ := hsh
  have hcap := capOf Try.underlying65 h
  obtain ⟨hm, l, hl, hq⟩ := list (P := Try.prog) Lk.cells (Lk.There w) Try.underlying65 (k := 6) (by kernel_rfl) (by decide) (fun _ _ _ h => lookCells h) h
  exact ⟨A, n, cap, l, rfl, hm, ⟨hl, hq⟩, hcap, hnil⟩
theorem isLooks {r : Reach} {b0 : Nat} {v : Value} {d : DataW H} {p : List MemPlace} (hv : Value.okWide Try.prog w r b0 65 v) (h : DataW.Trod enc Try.prog w base (fun _ => true) held 65 v d p) : IsLooks w v := by
  obtain ⟨A, n, cap, rfl⟩ := okWide_slice Try.underlying65 hv
  obtain ⟨fuel, hf⟩ := h
  exact looksOf hf
/-- What is asked of what is heard. -/
theorem haskOf {fuel : Nat} {c : List Value} {x : DataW H × List MemPlace} (h : DataW.trod enc Try.prog w base (fun _ => true) held fuel 88 c = some x) : ∃ (n : Int) (a : ByteArray) (b : ByteArray) (h0k : Int) (h0i : Int) (h1k : Int) (h1i : Int) (q : Int) (i : Int), c = [.int .i64 n, .string a, .string b, .int .i64 h0k, .int .i64 h0i, .int .i64 h1k, .int .i64 h1i, .int .i64 q, .int .i64 i] ∧ (-9223372036854775808 ≤ n ∧ n ≤ 9223372036854775807) ∧ (a.size ≤ maxLen) ∧ (b.size ≤ maxLen) ∧ (-9223372036854775808 ≤ h0k ∧ h0k ≤ 9223372036854775807) ∧ (-9223372036854775808 ≤ h0i ∧ h0i ≤ 9223372036854775807) ∧ (-9223372036854775808 ≤ h1k ∧ h1k ≤ 9223372036854775807) ∧ (-9223372036854775808 ≤ h1i ∧ h1i ≤ 9223372036854775807) ∧ (-9223372036854775808 ≤ q ∧ q ≤ 9223372036854775807) ∧ (-9223372036854775808 ≤ i ∧ i ≤ 9223372036854775807) := by
  have hl : c.length = 9 := (len_struct Try.underlying88 h).trans (by kernel_rfl)
  match c, hl with
  | [c0, c1, c2, c3, c4, c5, c6, c7, c8], _ =>
    obtain ⟨n_t1, y_t1, t1⟩ := field Try.underlying88 (j := 0) rfl (show Try.prog.cellsOf 3 = 1 by kernel_rfl) h
    replace t1 : DataW.trod enc Try.prog w base (fun _ => true) held n_t1 3 [c0] = some y_t1 := t1
    obtain ⟨n, rfl, p_n⟩ := int64 Try.underlying3 t1
    obtain ⟨n_t2, y_t2, t2⟩ := field Try.underlying88 (j := 1) rfl (show Try.prog.cellsOf 9 = 1 by kernel_rfl) h
    replace t2 : DataW.trod enc Try.prog w base (fun _ => true) held n_t2 9 [c1] = some y_t2 := t2
    obtain ⟨a, rfl, p_a⟩ := text Try.underlying9 t2
    obtain ⟨n_t3, y_t3, t3⟩ := field Try.underlying88 (j := 2) rfl (show Try.prog.cellsOf 9 = 1 by kernel_rfl) h
    replace t3 : DataW.trod enc Try.prog w base (fun _ => true) held n_t3 9 [c2] = some y_t3 := t3
    obtain ⟨b, rfl, p_b⟩ := text Try.underlying9 t3
    obtain ⟨n_t4, y_t4, t4⟩ := field Try.underlying88 (j := 3) rfl (show Try.prog.cellsOf 75 = 4 by kernel_rfl) h
    replace t4 : DataW.trod enc Try.prog w base (fun _ => true) held n_t4 75 [c3, c4, c5, c6] = some y_t4 := t4
    obtain ⟨n_t5, y_t5, t5⟩ := elem Try.underlying75 (i := 0) (by omega) (show Try.prog.cellsOf 51 = 2 by kernel_rfl) t4
    replace t5 : DataW.trod enc Try.prog w base (fun _ => true) held n_t5 51 [c3, c4] = some y_t5 := t5
    obtain ⟨n_t6, y_t6, t6⟩ := field Try.underlying51 (j := 0) rfl (show Try.prog.cellsOf 3 = 1 by kernel_rfl) t5
    replace t6 : DataW.trod enc Try.prog w base (fun _ => true) held n_t6 3 [c3] = some y_t6 := t6
    obtain ⟨h0k, rfl, p_h0k⟩ := int64 Try.underlying3 t6
    obtain ⟨n_t7, y_t7, t7⟩ := field Try.underlying51 (j := 1) rfl (show Try.prog.cellsOf 3 = 1 by kernel_rfl) t5
    replace t7 : DataW.trod enc Try.prog w base (fun _ => true) held n_t7 3 [c4] = some y_t7 := t7
    obtain ⟨h0i, rfl, p_h0i⟩ := int64 Try.underlying3 t7
    obtain ⟨n_t8, y_t8, t8⟩ := elem Try.underlying75 (i := 1) (by omega) (show Try.prog.cellsOf 51 = 2 by kernel_rfl) t4
    replace t8 : DataW.trod enc Try.prog w base (fun _ => true) held n_t8 51 [c5, c6] = some y_t8 := t8
    obtain ⟨n_t9, y_t9, t9⟩ := field Try.underlying51 (j := 0) rfl (show Try.prog.cellsOf 3 = 1 by kernel_rfl) t8
    replace t9 : DataW.trod enc Try.prog w base (fun _ => true) held n_t9 3 [c5] = some y_t9 := t9
    obtain ⟨h1k, rfl, p_h1k⟩ := int64 Try.underlying3 t9
    obtain ⟨n_t10, y_t10, t10⟩ := field Try.underlying51 (j := 1) rfl (show Try.prog.cellsOf 3 = 1 by kernel_rfl) t8
    replace t10 : DataW.trod enc Try.prog w base (fun _ => true) held n_t10 3 [c6] = some y_t10 := t10
    obtain ⟨h1i, rfl, p_h1i⟩ := int64 Try.underlying3 t10
    obtain ⟨n_t11, y_t11, t11⟩ := field Try.underlying88 (j := 4) rfl (show Try.prog.cellsOf 3 = 1 by kernel_rfl) h
    replace t11 : DataW.trod enc Try.prog w base (fun _ => true) held n_t11 3 [c7] = some y_t11 := t11
    obtain ⟨q, rfl, p_q⟩ := int64 Try.underlying3 t11
    obtain ⟨n_t12, y_t12, t12⟩ := field Try.underlying88 (j := 5) rfl (show Try.prog.cellsOf 3 = 1 by kernel_rfl) h
    replace t12 : DataW.trod enc Try.prog w base (fun _ => true) held n_t12 3 [c8] = some y_t12 := t12
    obtain ⟨i, rfl, p_i⟩ := int64 Try.underlying3 t12
    exact ⟨n, a, b, h0k, h0i, h1k, h1i, q, i, rfl, p_n, p_a, p_b, p_h0k, p_h0i, p_h1k, p_h1i, p_q, p_i⟩
/-- What the walk is told: what is asked. -/
def IsHAsk (w : World) (v : Value) : Prop := ∃ (n : Int) (a : ByteArray) (b : ByteArray) (h0k : Int) (h0i : Int) (h1k : Int) (h1i : Int) (q : Int) (i : Int), v = .agg #[.int .i64 n, .string a, .string b, .int .i64 h0k, .int .i64 h0i, .int .i64 h1k, .int .i64 h1i, .int .i64 q, .int .i64 i] ∧ (-9223372036854775808 ≤ n ∧ n ≤ 9223372036854775807) ∧ (a.size ≤ maxLen) ∧ (b.size ≤ maxLen) ∧ (-9223372036854775808 ≤ h0k ∧ h0k ≤ 9223372036854775807) ∧ (-9223372036854775808 ≤ h0i ∧ h0i ≤ 9223372036854775807) ∧ (-9223372036854775808 ≤ h1k ∧ h1k ≤ 9223372036854775807) ∧ (-9223372036854775808 ≤ h1i ∧ h1i ≤ 9223372036854775807) ∧ (-9223372036854775808 ≤ q ∧ q ≤ 9223372036854775807) ∧ (-9223372036854775808 ≤ i ∧ i ≤ 9223372036854775807)
theorem IsHAsk' {r : Reach} {b0 : Nat} {v : Value} {d : DataW H} {p : List MemPlace} (hv : Value.okWide Try.prog w r b0 88 v) (h : DataW.Trod enc Try.prog w base (fun _ => true) held 88 v d p) : IsHAsk w v := by
  obtain ⟨cs, rfl, _⟩ := okWide_struct Try.underlying88 hv
  obtain ⟨fuel, hf⟩ := h
  have hf' : DataW.trod enc Try.prog w base (fun _ => true) held fuel 88 cs.toList = some (d, p) := hf
  obtain ⟨n, a, b, h0k, h0i, h1k, h1i, q, i, hz, hq⟩ := haskOf hf'
  obtain ⟨l⟩ := cs
  have hz' : l = _ := hz
  subst hz'
  exact ⟨n, a, b, h0k, h0i, h1k, h1i, q, i, rfl, hq⟩
/-- A number and three texts. -/
theorem hthreeOf {fuel : Nat} {c : List Value} {x : DataW H × List MemPlace} (h : DataW.trod enc Try.prog w base (fun _ => true) held fuel 80 c = some x) : ∃ (n : Int) (a : ByteArray) (b : ByteArray) (d : ByteArray), c = [.int .u8 n, .string a, .string b, .string d] ∧ (0 ≤ n ∧ n ≤ 255) ∧ (a.size ≤ maxLen) ∧ (b.size ≤ maxLen) ∧ (d.size ≤ maxLen) := by
  have hl : c.length = 4 := (len_struct Try.underlying80 h).trans (by kernel_rfl)
  match c, hl with
  | [c0, c1, c2, c3], _ =>
    obtain ⟨n_t1, y_t1, t1⟩ := field Try.underlying80 (j := 0) rfl (show Try.prog.cellsOf 5 = 1 by kernel_rfl) h
    replace t1 : DataW.trod enc Try.prog w base (fun _ => true) held n_t1 5 [c0] = some y_t1 := t1
    obtain ⟨n, rfl, p_n⟩ := int8u Try.underlying5 t1
    obtain ⟨n_t2, y_t2, t2⟩ := field Try.underlying80 (j := 1) rfl (show Try.prog.cellsOf 9 = 1 by kernel_rfl) h
    replace t2 : DataW.trod enc Try.prog w base (fun _ => true) held n_t2 9 [c1] = some y_t2 := t2
    obtain ⟨a, rfl, p_a⟩ := text Try.underlying9 t2
    obtain ⟨n_t3, y_t3, t3⟩ := field Try.underlying80 (j := 2) rfl (show Try.prog.cellsOf 9 = 1 by kernel_rfl) h
    replace t3 : DataW.trod enc Try.prog w base (fun _ => true) held n_t3 9 [c2] = some y_t3 := t3
    obtain ⟨b, rfl, p_b⟩ := text Try.underlying9 t3
    obtain ⟨n_t4, y_t4, t4⟩ := field Try.underlying80 (j := 3) rfl (show Try.prog.cellsOf 9 = 1 by kernel_rfl) h
    replace t4 : DataW.trod enc Try.prog w base (fun _ => true) held n_t4 9 [c3] = some y_t4 := t4
    obtain ⟨d, rfl, p_d⟩ := text Try.underlying9 t4
    exact ⟨n, a, b, d, rfl, p_n, p_a, p_b, p_d⟩
/-- What the walk is told: a number and three texts. -/
def IsHThree (w : World) (v : Value) : Prop := ∃ (n : Int) (a : ByteArray) (b : ByteArray) (d : ByteArray), v = .agg #[.int .u8 n, .string a, .string b, .string d] ∧ (0 ≤ n ∧ n ≤ 255) ∧ (a.size ≤ maxLen) ∧ (b.size ≤ maxLen) ∧ (d.size ≤ maxLen)
theorem IsHThree' {r : Reach} {b0 : Nat} {v : Value} {d : DataW H} {p : List MemPlace} (hv : Value.okWide Try.prog w r b0 80 v) (h : DataW.Trod enc Try.prog w base (fun _ => true) held 80 v d p) : IsHThree w v := by
  obtain ⟨cs, rfl, _⟩ := okWide_struct Try.underlying80 hv
  obtain ⟨fuel, hf⟩ := h
  have hf' : DataW.trod enc Try.prog w base (fun _ => true) held fuel 80 cs.toList = some (d, p) := hf
  obtain ⟨n, a, b, d, hz, hq⟩ := hthreeOf hf'
  obtain ⟨l⟩ := cs
  have hz' : l = _ := hz
  subst hz'
  exact ⟨n, a, b, d, rfl, hq⟩
/-- Looks and how many more. -/
theorem cutOf {fuel : Nat} {c : List Value} {x : DataW H × List MemPlace} (h : DataW.trod enc Try.prog w base (fun _ => true) held fuel 67 c = some x) : ∃ (n : Int) (fc : Int) (fw : Int) (l : Value) (more : Int), c = [.int .i64 n, .int .i64 fc, .int .i64 fw, l, .int .u8 more] ∧ (-9223372036854775808 ≤ n ∧ n ≤ 9223372036854775807) ∧ (-9223372036854775808 ≤ fc ∧ fc ≤ 9223372036854775807) ∧ (-9223372036854775808 ≤ fw ∧ fw ≤ 9223372036854775807) ∧ (IsLooks w l) ∧ (0 ≤ more ∧ more ≤ 255) := by
  have hl : c.length = 5 := (len_struct Try.underlying67 h).trans (by kernel_rfl)
  match c, hl with
  | [c0, c1, c2, c3, c4], _ =>
    obtain ⟨n_t1, y_t1, t1⟩ := field Try.underlying67 (j := 0) rfl (show Try.prog.cellsOf 3 = 1 by kernel_rfl) h
    replace t1 : DataW.trod enc Try.prog w base (fun _ => true) held n_t1 3 [c0] = some y_t1 := t1
    obtain ⟨n, rfl, p_n⟩ := int64 Try.underlying3 t1
    obtain ⟨n_t2, y_t2, t2⟩ := field Try.underlying67 (j := 1) rfl (show Try.prog.cellsOf 35 = 2 by kernel_rfl) h
    replace t2 : DataW.trod enc Try.prog w base (fun _ => true) held n_t2 35 [c1, c2] = some y_t2 := t2
    obtain ⟨n_t3, y_t3, t3⟩ := field Try.underlying35 (j := 0) rfl (show Try.prog.cellsOf 3 = 1 by kernel_rfl) t2
    replace t3 : DataW.trod enc Try.prog w base (fun _ => true) held n_t3 3 [c1] = some y_t3 := t3
    obtain ⟨fc, rfl, p_fc⟩ := int64 Try.underlying3 t3
    obtain ⟨n_t4, y_t4, t4⟩ := field Try.underlying35 (j := 1) rfl (show Try.prog.cellsOf 3 = 1 by kernel_rfl) t2
    replace t4 : DataW.trod enc Try.prog w base (fun _ => true) held n_t4 3 [c2] = some y_t4 := t4
    obtain ⟨fw, rfl, p_fw⟩ := int64 Try.underlying3 t4
    obtain ⟨n_t5, y_t5, t5⟩ := field Try.underlying67 (j := 2) rfl (show Try.prog.cellsOf 65 = 1 by kernel_rfl) h
    replace t5 : DataW.trod enc Try.prog w base (fun _ => true) held n_t5 65 [c3] = some y_t5 := t5
    have p_l := looksOf t5
    obtain ⟨n_t6, y_t6, t6⟩ := field Try.underlying67 (j := 3) rfl (show Try.prog.cellsOf 5 = 1 by kernel_rfl) h
    replace t6 : DataW.trod enc Try.prog w base (fun _ => true) held n_t6 5 [c4] = some y_t6 := t6
    obtain ⟨more, rfl, p_more⟩ := int8u Try.underlying5 t6
    exact ⟨n, fc, fw, _, more, rfl, p_n, p_fc, p_fw, p_l, p_more⟩
/-- What the walk is told: looks and how many more. -/
def IsCut (w : World) (v : Value) : Prop := ∃ (n : Int) (fc : Int) (fw : Int) (l : Value) (more : Int), v = .agg #[.int .i64 n, .int .i64 fc, .int .i64 fw, l, .int .u8 more] ∧ (-9223372036854775808 ≤ n ∧ n ≤ 9223372036854775807) ∧ (-9223372036854775808 ≤ fc ∧ fc ≤ 9223372036854775807) ∧ (-9223372036854775808 ≤ fw ∧ fw ≤ 9223372036854775807) ∧ (IsLooks w l) ∧ (0 ≤ more ∧ more ≤ 255)
theorem IsCut' {r : Reach} {b0 : Nat} {v : Value} {d : DataW H} {p : List MemPlace} (hv : Value.okWide Try.prog w r b0 67 v) (h : DataW.Trod enc Try.prog w base (fun _ => true) held 67 v d p) : IsCut w v := by
  obtain ⟨cs, rfl, _⟩ := okWide_struct Try.underlying67 hv
  obtain ⟨fuel, hf⟩ := h
  have hf' : DataW.trod enc Try.prog w base (fun _ => true) held fuel 67 cs.toList = some (d, p) := hf
  obtain ⟨n, fc, fw, l, more, hz, hq⟩ := cutOf hf'
  obtain ⟨l⟩ := cs
  have hz' : l = _ := hz
  subst hz'
  exact ⟨n, fc, fw, l, more, rfl, hq⟩
/-- What is asked of looks. -/
theorem raskOf {fuel : Nat} {c : List Value} {x : DataW H × List MemPlace} (h : DataW.trod enc Try.prog w base (fun _ => true) held fuel 98 c = some x) : ∃ (n : Int) (fr : Int) (fc : Int) (fw : Int) (ah : Value) (l : Value), c = [.int .i64 n, .int .i64 fr, .int .i64 fc, .int .i64 fw, ah, l] ∧ (-9223372036854775808 ≤ n ∧ n ≤ 9223372036854775807) ∧ (-9223372036854775808 ≤ fr ∧ fr ≤ 9223372036854775807) ∧ (-9223372036854775808 ≤ fc ∧ fc ≤ 9223372036854775807) ∧ (-9223372036854775808 ≤ fw ∧ fw ≤ 9223372036854775807) ∧ (IsNodes w ah) ∧ (IsLooks w l) := by
  have hl : c.length = 6 := (len_struct Try.underlying98 h).trans (by kernel_rfl)
  match c, hl with
  | [c0, c1, c2, c3, c4, c5], _ =>
    obtain ⟨n_t1, y_t1, t1⟩ := field Try.underlying98 (j := 0) rfl (show Try.prog.cellsOf 3 = 1 by kernel_rfl) h
    replace t1 : DataW.trod enc Try.prog w base (fun _ => true) held n_t1 3 [c0] = some y_t1 := t1
    obtain ⟨n, rfl, p_n⟩ := int64 Try.underlying3 t1
    obtain ⟨n_t2, y_t2, t2⟩ := field Try.underlying98 (j := 1) rfl (show Try.prog.cellsOf 3 = 1 by kernel_rfl) h
    replace t2 : DataW.trod enc Try.prog w base (fun _ => true) held n_t2 3 [c1] = some y_t2 := t2
    obtain ⟨fr, rfl, p_fr⟩ := int64 Try.underlying3 t2
    obtain ⟨n_t3, y_t3, t3⟩ := field Try.underlying98 (j := 2) rfl (show Try.prog.cellsOf 35 = 2 by kernel_rfl) h
    replace t3 : DataW.trod enc Try.prog w base (fun _ => true) held n_t3 35 [c2, c3] = some y_t3 := t3
    obtain ⟨n_t4, y_t4, t4⟩ := field Try.underlying35 (j := 0) rfl (show Try.prog.cellsOf 3 = 1 by kernel_rfl) t3
    replace t4 : DataW.trod enc Try.prog w base (fun _ => true) held n_t4 3 [c2] = some y_t4 := t4
    obtain ⟨fc, rfl, p_fc⟩ := int64 Try.underlying3 t4
    obtain ⟨n_t5, y_t5, t5⟩ := field Try.underlying35 (j := 1) rfl (show Try.prog.cellsOf 3 = 1 by kernel_rfl) t3
    replace t5 : DataW.trod enc Try.prog w base (fun _ => true) held n_t5 3 [c3] = some y_t5 := t5
    obtain ⟨fw, rfl, p_fw⟩ := int64 Try.underlying3 t5
    obtain ⟨n_t6, y_t6, t6⟩ := field Try.underlying98 (j := 3) rfl (show Try.prog.cellsOf 36 = 1 by kernel_rfl) h
    replace t6 : DataW.trod enc Try.prog w base (fun _ => true) held n_t6 36 [c4] = some y_t6 := t6
    have p_ah := nodesOf t6
    obtain ⟨n_t7, y_t7, t7⟩ := field Try.underlying98 (j := 4) rfl (show Try.prog.cellsOf 65 = 1 by kernel_rfl) h
    replace t7 : DataW.trod enc Try.prog w base (fun _ => true) held n_t7 65 [c5] = some y_t7 := t7
    have p_l := looksOf t7
    exact ⟨n, fr, fc, fw, _, _, rfl, p_n, p_fr, p_fc, p_fw, p_ah, p_l⟩
/-- What the walk is told: what is asked of looks. -/
def IsRAsk (w : World) (v : Value) : Prop := ∃ (n : Int) (fr : Int) (fc : Int) (fw : Int) (ah : Value) (l : Value), v = .agg #[.int .i64 n, .int .i64 fr, .int .i64 fc, .int .i64 fw, ah, l] ∧ (-9223372036854775808 ≤ n ∧ n ≤ 9223372036854775807) ∧ (-9223372036854775808 ≤ fr ∧ fr ≤ 9223372036854775807) ∧ (-9223372036854775808 ≤ fc ∧ fc ≤ 9223372036854775807) ∧ (-9223372036854775808 ≤ fw ∧ fw ≤ 9223372036854775807) ∧ (IsNodes w ah) ∧ (IsLooks w l)
theorem IsRAsk' {r : Reach} {b0 : Nat} {v : Value} {d : DataW H} {p : List MemPlace} (hv : Value.okWide Try.prog w r b0 98 v) (h : DataW.Trod enc Try.prog w base (fun _ => true) held 98 v d p) : IsRAsk w v := by
  obtain ⟨cs, rfl, _⟩ := okWide_struct Try.underlying98 hv
  obtain ⟨fuel, hf⟩ := h
  have hf' : DataW.trod enc Try.prog w base (fun _ => true) held fuel 98 cs.toList = some (d, p) := hf
  obtain ⟨n, fr, fc, fw, ah, l, hz, hq⟩ := raskOf hf'
  obtain ⟨l⟩ := cs
  have hz' : l = _ := hz
  subst hz'
  exact ⟨n, fr, fc, fw, ah, l, rfl, hq⟩
/-- A look and a frame. -/
theorem swapOf {fuel : Nat} {c : List Value} {x : DataW H × List MemPlace} (h : DataW.trod enc Try.prog w base (fun _ => true) held fuel 94 c = some x) : ∃ (who : Bool) (ah : Value) (mt : Int) (mr0k : Int) (mr0i : Int) (mr1k : Int) (mr1i : Int) (ml : Value) (xk : Int) (xi : Int), c = [.bool who, ah, .int .i64 mt, .int .i64 mr0k, .int .i64 mr0i, .int .i64 mr1k, .int .i64 mr1i, ml, .int .i64 xk, .int .i64 xi] ∧ (True) ∧ (IsNodes w ah) ∧ (-9223372036854775808 ≤ mt ∧ mt ≤ 9223372036854775807) ∧ (-9223372036854775808 ≤ mr0k ∧ mr0k ≤ 9223372036854775807) ∧ (-9223372036854775808 ≤ mr0i ∧ mr0i ≤ 9223372036854775807) ∧ (-9223372036854775808 ≤ mr1k ∧ mr1k ≤ 9223372036854775807) ∧ (-9223372036854775808 ≤ mr1i ∧ mr1i ≤ 9223372036854775807) ∧ (IsNodes w ml) ∧ (-9223372036854775808 ≤ xk ∧ xk ≤ 9223372036854775807) ∧ (-9223372036854775808 ≤ xi ∧ xi ≤ 9223372036854775807) := by
  have hl : c.length = 10 := (len_struct Try.underlying94 h).trans (by kernel_rfl)
  match c, hl with
  | [c0, c1, c2, c3, c4, c5, c6, c7, c8, c9], _ =>
    obtain ⟨n_t1, y_t1, t1⟩ := field Try.underlying94 (j := 0) rfl (show Try.prog.cellsOf 4 = 1 by kernel_rfl) h
    replace t1 : DataW.trod enc Try.prog w base (fun _ => true) held n_t1 4 [c0] = some y_t1 := t1
    obtain ⟨who, rfl⟩ := boolean Try.underlying4 t1
    have p_who : True := trivial
    obtain ⟨n_t2, y_t2, t2⟩ := field Try.underlying94 (j := 1) rfl (show Try.prog.cellsOf 36 = 1 by kernel_rfl) h
    replace t2 : DataW.trod enc Try.prog w base (fun _ => true) held n_t2 36 [c1] = some y_t2 := t2
    have p_ah := nodesOf t2
    obtain ⟨n_t3, y_t3, t3⟩ := field Try.underlying94 (j := 2) rfl (show Try.prog.cellsOf 77 = 6 by kernel_rfl) h
    replace t3 : DataW.trod enc Try.prog w base (fun _ => true) held n_t3 77 [c2, c3, c4, c5, c6, c7] = some y_t3 := t3
    obtain ⟨n_t4, y_t4, t4⟩ := field Try.underlying77 (j := 0) rfl (show Try.prog.cellsOf 3 = 1 by kernel_rfl) t3
    replace t4 : DataW.trod enc Try.prog w base (fun _ => true) held n_t4 3 [c2] = some y_t4 := t4
    obtain ⟨mt, rfl, p_mt⟩ := int64 Try.underlying3 t4
    obtain ⟨n_t5, y_t5, t5⟩ := field Try.underlying77 (j := 1) rfl (show Try.prog.cellsOf 75 = 4 by kernel_rfl) t3
    replace t5 : DataW.trod enc Try.prog w base (fun _ => true) held n_t5 75 [c3, c4, c5, c6] = some y_t5 := t5
    obtain ⟨n_t6, y_t6, t6⟩ := elem Try.underlying75 (i := 0) (by omega) (show Try.prog.cellsOf 51 = 2 by kernel_rfl) t5
    replace t6 : DataW.trod enc Try.prog w base (fun _ => true) held n_t6 51 [c3, c4] = some y_t6 := t6
    obtain ⟨n_t7, y_t7, t7⟩ := field Try.underlying51 (j := 0) rfl (show Try.prog.cellsOf 3 = 1 by kernel_rfl) t6
    replace t7 : DataW.trod enc Try.prog w base (fun _ => true) held n_t7 3 [c3] = some y_t7 := t7
    obtain ⟨mr0k, rfl, p_mr0k⟩ := int64 Try.underlying3 t7
    obtain ⟨n_t8, y_t8, t8⟩ := field Try.underlying51 (j := 1) rfl (show Try.prog.cellsOf 3 = 1 by kernel_rfl) t6
    replace t8 : DataW.trod enc Try.prog w base (fun _ => true) held n_t8 3 [c4] = some y_t8 := t8
    obtain ⟨mr0i, rfl, p_mr0i⟩ := int64 Try.underlying3 t8
    obtain ⟨n_t9, y_t9, t9⟩ := elem Try.underlying75 (i := 1) (by omega) (show Try.prog.cellsOf 51 = 2 by kernel_rfl) t5
    replace t9 : DataW.trod enc Try.prog w base (fun _ => true) held n_t9 51 [c5, c6] = some y_t9 := t9
    obtain ⟨n_t10, y_t10, t10⟩ := field Try.underlying51 (j := 0) rfl (show Try.prog.cellsOf 3 = 1 by kernel_rfl) t9
    replace t10 : DataW.trod enc Try.prog w base (fun _ => true) held n_t10 3 [c5] = some y_t10 := t10
    obtain ⟨mr1k, rfl, p_mr1k⟩ := int64 Try.underlying3 t10
    obtain ⟨n_t11, y_t11, t11⟩ := field Try.underlying51 (j := 1) rfl (show Try.prog.cellsOf 3 = 1 by kernel_rfl) t9
    replace t11 : DataW.trod enc Try.prog w base (fun _ => true) held n_t11 3 [c6] = some y_t11 := t11
    obtain ⟨mr1i, rfl, p_mr1i⟩ := int64 Try.underlying3 t11
    obtain ⟨n_t12, y_t12, t12⟩ := field Try.underlying77 (j := 2) rfl (show Try.prog.cellsOf 36 = 1 by kernel_rfl) t3
    replace t12 : DataW.trod enc Try.prog w base (fun _ => true) held n_t12 36 [c7] = some y_t12 := t12
    have p_ml := nodesOf t12
    obtain ⟨n_t13, y_t13, t13⟩ := field Try.underlying94 (j := 3) rfl (show Try.prog.cellsOf 51 = 2 by kernel_rfl) h
    replace t13 : DataW.trod enc Try.prog w base (fun _ => true) held n_t13 51 [c8, c9] = some y_t13 := t13
    obtain ⟨n_t14, y_t14, t14⟩ := field Try.underlying51 (j := 0) rfl (show Try.prog.cellsOf 3 = 1 by kernel_rfl) t13
    replace t14 : DataW.trod enc Try.prog w base (fun _ => true) held n_t14 3 [c8] = some y_t14 := t14
    obtain ⟨xk, rfl, p_xk⟩ := int64 Try.underlying3 t14
    obtain ⟨n_t15, y_t15, t15⟩ := field Try.underlying51 (j := 1) rfl (show Try.prog.cellsOf 3 = 1 by kernel_rfl) t13
    replace t15 : DataW.trod enc Try.prog w base (fun _ => true) held n_t15 3 [c9] = some y_t15 := t15
    obtain ⟨xi, rfl, p_xi⟩ := int64 Try.underlying3 t15
    exact ⟨who, _, mt, mr0k, mr0i, mr1k, mr1i, _, xk, xi, rfl, p_who, p_ah, p_mt, p_mr0k, p_mr0i, p_mr1k, p_mr1i, p_ml, p_xk, p_xi⟩
/-- What the walk is told: a look and a frame. -/
def IsSwap (w : World) (v : Value) : Prop := ∃ (who : Bool) (ah : Value) (mt : Int) (mr0k : Int) (mr0i : Int) (mr1k : Int) (mr1i : Int) (ml : Value) (xk : Int) (xi : Int), v = .agg #[.bool who, ah, .int .i64 mt, .int .i64 mr0k, .int .i64 mr0i, .int .i64 mr1k, .int .i64 mr1i, ml, .int .i64 xk, .int .i64 xi] ∧ (True) ∧ (IsNodes w ah) ∧ (-9223372036854775808 ≤ mt ∧ mt ≤ 9223372036854775807) ∧ (-9223372036854775808 ≤ mr0k ∧ mr0k ≤ 9223372036854775807) ∧ (-9223372036854775808 ≤ mr0i ∧ mr0i ≤ 9223372036854775807) ∧ (-9223372036854775808 ≤ mr1k ∧ mr1k ≤ 9223372036854775807) ∧ (-9223372036854775808 ≤ mr1i ∧ mr1i ≤ 9223372036854775807) ∧ (IsNodes w ml) ∧ (-9223372036854775808 ≤ xk ∧ xk ≤ 9223372036854775807) ∧ (-9223372036854775808 ≤ xi ∧ xi ≤ 9223372036854775807)
theorem IsSwap' {r : Reach} {b0 : Nat} {v : Value} {d : DataW H} {p : List MemPlace} (hv : Value.okWide Try.prog w r b0 94 v) (h : DataW.Trod enc Try.prog w base (fun _ => true) held 94 v d p) : IsSwap w v := by
  obtain ⟨cs, rfl, _⟩ := okWide_struct Try.underlying94 hv
  obtain ⟨fuel, hf⟩ := h
  have hf' : DataW.trod enc Try.prog w base (fun _ => true) held fuel 94 cs.toList = some (d, p) := hf
  obtain ⟨who, ah, mt, mr0k, mr0i, mr1k, mr1i, ml, xk, xi, hz, hq⟩ := swapOf hf'
  obtain ⟨l⟩ := cs
  have hz' : l = _ := hz
  subst hz'
  exact ⟨who, ah, mt, mr0k, mr0i, mr1k, mr1i, ml, xk, xi, rfl, hq⟩
end
end Op
end Go.Proofs.Ytpbkoooljelhjaa
