/-
  Part 34 of a merged text.
-/
import Derived.Test.YtgiojagdmglinaaGreatDoorProg
import Derived.Test.YtgiojagdmglinaaGreatDoorGb33
import Derived.Test.YtgiojagdmglinaaGreatDoorGb27
import Derived.Test.YtgiojagdmglinaaGreatDoorGb28
import Derived.Test.YtgiojagdmglinaaGreatDoorGb30
import Derived.Test.YtgiojagdmglinaaGreatDoorRows
import Derived.ProofKit
import Derived.LaidMore
import Derived.OpenShut
import Derived.Stop.Joined
set_option linter.unusedVariables false
set_option linter.unusedSimpArgs false
set_option maxRecDepth 100000
namespace Go.Proofs.YtgiojagdmglinaaGreatDoor
open Go.RowKit Go.ChangeShapes Go.WideShapes Go.Deep
namespace Op
set_option maxRecDepth 100000
section
variable {H : Type} {enc : TypeId × Value → H} {P : Program} {w : World} {base : Nat} {spare : Nat → Bool} {held : Bool}
theorem len_struct {t : TypeId} {fs : Array Field} {fuel : Nat} {cs : List Value} {x : DataW H × List MemPlace} (ht : P.underlying t = some (.struct fs)) (h : DataW.trod enc P w base spare held fuel t cs = some x) : cs.length = P.cellsOf t := by
 obtain ⟨xs, n, _, _, hl, _, _⟩ := DataW.trod_struct ht h
 exact hl
theorem field {t : TypeId} {fs : Array Field} {fuel j k : Nat} {f : Field} {cs : List Value} {x : DataW H × List MemPlace} (ht : P.underlying t = some (.struct fs)) (hj : fs[j]? = some f) (hk : P.cellsOf f.type = k)
  (h : DataW.trod enc P w base spare held fuel t cs = some x) : ∃ (n : Nat) (y : DataW H × List MemPlace), DataW.trod enc P w base spare held n f.type ((cs.drop f.offset).take k) = some y := by
 obtain ⟨xs, n, _, _, hl, hxl, hg⟩ := DataW.trod_struct ht h
 have h1 := hg j f hj
 rw [hk] at h1
 have hjl : j < fs.size := (Array.getElem?_eq_some_iff.1 hj).1
 exact ⟨n, _, h1.trans (List.getElem?_eq_getElem (by omega))⟩
theorem elem {t e : TypeId} {fuel i k m : Nat} {cs : List Value} {x : DataW H × List MemPlace} (ht : P.underlying t = some (.array m e)) (hi : i < m) (hk : P.cellsOf e = k)
  (h : DataW.trod enc P w base spare held fuel t cs = some x) : ∃ (n : Nat) (y : DataW H × List MemPlace), DataW.trod enc P w base spare held n e ((cs.drop (i * k)).take k) = some y := by
 obtain ⟨xs, n, _, _, hl, hxl, hg⟩ := DataW.trod_array ht h
 have h1 := hg i hi
 rw [hk] at h1
 exact ⟨n, _, h1.trans (List.getElem?_eq_getElem (by omega))⟩
theorem int8u {t : TypeId} {n : Nat} {v : Value} {y : DataW H × List MemPlace} (ht : P.underlying t = some (.int .u8)) (h : DataW.trod enc P w base spare held n t [v] = some y) : ∃ z : Int, v = .int .u8 z ∧ 0 ≤ z ∧ z ≤ 255 := by
 obtain ⟨z, hc, _, hw⟩ := DataW.trod_int ht h
 simp only [List.cons.injEq, and_true] at hc
 exact ⟨z, hc, (bounds_u8 hw).1, (bounds_u8 hw).2⟩
theorem boolean {t : TypeId} {n : Nat} {v : Value} {y : DataW H × List MemPlace} (ht : P.underlying t = some .bool) (h : DataW.trod enc P w base spare held n t [v] = some y) : ∃ b : Bool, v = .bool b := by
 obtain ⟨b, hc, _⟩ := DataW.trod_bool ht h
 simp only [List.cons.injEq, and_true] at hc
 exact ⟨b, hc⟩
theorem text {t : TypeId} {n : Nat} {v : Value} {y : DataW H × List MemPlace} (ht : P.underlying t = some .string) (h : DataW.trod enc P w base spare held n t [v] = some y) : ∃ s : ByteArray, v = .string s ∧ s.size ≤ maxLen := by
 obtain ⟨s, hc, _, hs⟩ := DataW.trod_string ht h
 simp only [List.cons.injEq, and_true] at hc
 exact ⟨s, hc, hs⟩
theorem capOf {t e : TypeId} {fuel : Nat} {A : Option Addr} {n cap : Nat} {x : DataW H × List MemPlace} (ht : P.underlying t = some (.slice e)) (h : DataW.trod enc P w base (fun _ => true) held fuel t [.slice A n cap] = some x) : n ≤ cap := by
 rcases open_slice ht h with h0 | ⟨a, len, cap', m, k, D, Pl, hcs, hb, hl, hm, hmm, hx, hi⟩
 ·have h1 := h0.1
  simp only [List.cons.injEq, Value.slice.injEq, and_true] at h1
  omega
 ·simp only [List.cons.injEq, Value.slice.injEq, and_true] at hcs
  have hm' : m = cap' := by simpa using hmm
  omega
theorem nodesOf {fuel : Nat} {v : Value} {x : DataW H × List MemPlace} (h : DataW.trod enc Tryz.prog w base (fun _ => true) held fuel 25 [v] = some x) : IsNodes w v := by
 have h0 := elems (P := Tryz.prog) Tryz.underlying25 (k := 4) (by kernel_rfl) h
 have hsh : ∃ A n cap, v = .slice A n cap := by
  rcases h0 with h1 | ⟨a, n, cap, h1, _⟩ <;> (simp only [List.cons.injEq, and_true] at h1; exact ⟨_, _, _, h1⟩)
 obtain ⟨A, n, cap, rfl⟩ := hsh
 obtain ⟨hm, l, hl, hq⟩ := nodes h
 exact ⟨A, n, cap, l, rfl, hm, hl, hq⟩
theorem lookOf {fuel : Nat} {c : List Value} {x : DataW H × List MemPlace} (h : DataW.trod enc Tryz.prog w base (fun _ => true) held fuel 48 c = some x) : ∃ (t : Int) (r0k : Int) (r0i : Int) (r1k : Int) (r1i : Int) (l : Value), c = [.int .i64 t, .int .i64 r0k, .int .i64 r0i, .int .i64 r1k, .int .i64 r1i, l] ∧ (-9223372036854775808 ≤ t ∧ t ≤ 9223372036854775807) ∧ (-9223372036854775808 ≤ r0k ∧ r0k ≤ 9223372036854775807) ∧ (-9223372036854775808 ≤ r0i ∧ r0i ≤ 9223372036854775807) ∧ (-9223372036854775808 ≤ r1k ∧ r1k ≤ 9223372036854775807) ∧ (-9223372036854775808 ≤ r1i ∧ r1i ≤ 9223372036854775807) ∧ (IsNodes w l) := by
 have hl : c.length = 6 := (len_struct Tryz.underlying48 h).trans (by kernel_rfl)
 match c, hl with
 | [c0, c1, c2, c3, c4, c5], _ =>
  obtain ⟨n_t1, y_t1, t1⟩ := field Tryz.underlying48 (j := 0) rfl (show Tryz.prog.cellsOf 3 = 1 by kernel_rfl) h
  replace t1 : DataW.trod enc Tryz.prog w base (fun _ => true) held n_t1 3 [c0] = some y_t1 := t1
  obtain ⟨t, rfl, p_t⟩ := int64 Tryz.underlying3 t1
  obtain ⟨n_t2, y_t2, t2⟩ := field Tryz.underlying48 (j := 1) rfl (show Tryz.prog.cellsOf 46 = 4 by kernel_rfl) h
  replace t2 : DataW.trod enc Tryz.prog w base (fun _ => true) held n_t2 46 [c1, c2, c3, c4] = some y_t2 := t2
  obtain ⟨n_t3, y_t3, t3⟩ := elem Tryz.underlying46 (i := 0) (by omega) (show Tryz.prog.cellsOf 45 = 2 by kernel_rfl) t2
  replace t3 : DataW.trod enc Tryz.prog w base (fun _ => true) held n_t3 45 [c1, c2] = some y_t3 := t3
  obtain ⟨n_t4, y_t4, t4⟩ := field Tryz.underlying45 (j := 0) rfl (show Tryz.prog.cellsOf 3 = 1 by kernel_rfl) t3
  replace t4 : DataW.trod enc Tryz.prog w base (fun _ => true) held n_t4 3 [c1] = some y_t4 := t4
  obtain ⟨r0k, rfl, p_r0k⟩ := int64 Tryz.underlying3 t4
  obtain ⟨n_t5, y_t5, t5⟩ := field Tryz.underlying45 (j := 1) rfl (show Tryz.prog.cellsOf 3 = 1 by kernel_rfl) t3
  replace t5 : DataW.trod enc Tryz.prog w base (fun _ => true) held n_t5 3 [c2] = some y_t5 := t5
  obtain ⟨r0i, rfl, p_r0i⟩ := int64 Tryz.underlying3 t5
  obtain ⟨n_t6, y_t6, t6⟩ := elem Tryz.underlying46 (i := 1) (by omega) (show Tryz.prog.cellsOf 45 = 2 by kernel_rfl) t2
  replace t6 : DataW.trod enc Tryz.prog w base (fun _ => true) held n_t6 45 [c3, c4] = some y_t6 := t6
  obtain ⟨n_t7, y_t7, t7⟩ := field Tryz.underlying45 (j := 0) rfl (show Tryz.prog.cellsOf 3 = 1 by kernel_rfl) t6
  replace t7 : DataW.trod enc Tryz.prog w base (fun _ => true) held n_t7 3 [c3] = some y_t7 := t7
  obtain ⟨r1k, rfl, p_r1k⟩ := int64 Tryz.underlying3 t7
  obtain ⟨n_t8, y_t8, t8⟩ := field Tryz.underlying45 (j := 1) rfl (show Tryz.prog.cellsOf 3 = 1 by kernel_rfl) t6
  replace t8 : DataW.trod enc Tryz.prog w base (fun _ => true) held n_t8 3 [c4] = some y_t8 := t8
  obtain ⟨r1i, rfl, p_r1i⟩ := int64 Tryz.underlying3 t8
  obtain ⟨n_t9, y_t9, t9⟩ := field Tryz.underlying48 (j := 2) rfl (show Tryz.prog.cellsOf 25 = 1 by kernel_rfl) h
  replace t9 : DataW.trod enc Tryz.prog w base (fun _ => true) held n_t9 25 [c5] = some y_t9 := t9
  have p_l := nodesOf t9
  exact ⟨t, r0k, r0i, r1k, r1i, _, rfl, p_t, p_r0k, p_r0i, p_r1k, p_r1i, p_l⟩
theorem lookCells {fuel : Nat} {c : List Value} {x : DataW H × List MemPlace} (h : DataW.trod enc Tryz.prog w base (fun _ => true) held fuel 48 c = some x) : ∃ z : Lk, c = z.cells ∧ z.There w := by
 obtain ⟨t, k0, i0, k1, i1, l, rfl, pt, pk0, pi0, pk1, pi1, pl⟩ := lookOf h
 obtain ⟨A, n, cap, xs, rfl, hm, hl, hq⟩ := pl
 exact ⟨⟨t, ⟨k0, i0⟩, ⟨k1, i1⟩, A, n, cap, xs⟩, rfl, ⟨pt, ⟨pk0.1, pk0.2, pi0.1, pi0.2⟩, ⟨pk1.1, pk1.2, pi1.1, pi1.2⟩, hm, hl, hq⟩⟩
def IsLooks (w : World) (v : Value) : Prop := ∃ A n cap l, v = .slice A n cap ∧ n ≤ maxLen ∧ Looks w A n l ∧ n ≤ cap ∧ (A = none → cap = 0)
theorem looksOf {fuel : Nat} {v : Value} {x : DataW H × List MemPlace} (h : DataW.trod enc Tryz.prog w base (fun _ => true) held fuel 40 [v] = some x) : IsLooks w v := by
 have h0 := elems (P := Tryz.prog) Tryz.underlying40 (k := 6) (by kernel_rfl) h
 have hsh : ∃ A n cap, v = .slice A n cap ∧ (A = none → cap = 0) := by
  rcases h0 with h1 | ⟨a, n, cap, h1, _⟩
  ·simp only [List.cons.injEq, and_true] at h1; exact ⟨_, _, _, h1, fun _ => rfl⟩
  ·simp only [List.cons.injEq, and_true] at h1; exact ⟨_, _, _, h1, fun h => by cases h⟩
 obtain ⟨A, n, cap, rfl, hnil⟩ := hsh
 have hcap := capOf Tryz.underlying40 h
 obtain ⟨hm, l, hl, hq⟩ := list (P := Tryz.prog) Lk.cells (Lk.There w) Tryz.underlying40 (k := 6) (by kernel_rfl) (by decide) (fun _ _ _ h => lookCells h) h
 exact ⟨A, n, cap, l, rfl, hm, ⟨hl, hq⟩, hcap, hnil⟩
theorem isLooks {r : Reach} {b0 : Nat} {v : Value} {d : DataW H} {p : List MemPlace} (hv : Value.okWide Tryz.prog w r b0 40 v) (h : DataW.Trod enc Tryz.prog w base (fun _ => true) held 40 v d p) : IsLooks w v := by
 obtain ⟨A, n, cap, rfl⟩ := okWide_slice Tryz.underlying40 hv
 obtain ⟨fuel, hf⟩ := h
 exact looksOf hf
def IsHAsk (w : World) (v : Value) : Prop := ∃ (n : Int) (a : ByteArray) (b : ByteArray) (h0k : Int) (h0i : Int) (h1k : Int) (h1i : Int) (q : Int) (i : Int), v = .agg #[.int .i64 n, .string a, .string b, .int .i64 h0k, .int .i64 h0i, .int .i64 h1k, .int .i64 h1i, .int .i64 q, .int .i64 i] ∧ (-9223372036854775808 ≤ n ∧ n ≤ 9223372036854775807) ∧ (a.size ≤ maxLen) ∧ (b.size ≤ maxLen) ∧ (-9223372036854775808 ≤ h0k ∧ h0k ≤ 9223372036854775807) ∧ (-9223372036854775808 ≤ h0i ∧ h0i ≤ 9223372036854775807) ∧ (-9223372036854775808 ≤ h1k ∧ h1k ≤ 9223372036854775807) ∧ (-9223372036854775808 ≤ h1i ∧ h1i ≤ 9223372036854775807) ∧ (-9223372036854775808 ≤ q ∧ q ≤ 9223372036854775807) ∧ (-9223372036854775808 ≤ i ∧ i ≤ 9223372036854775807)
def IsHThree (w : World) (v : Value) : Prop := ∃ (n : Int) (a : ByteArray) (b : ByteArray) (d : ByteArray), v = .agg #[.int .u8 n, .string a, .string b, .string d] ∧ (0 ≤ n ∧ n ≤ 255) ∧ (a.size ≤ maxLen) ∧ (b.size ≤ maxLen) ∧ (d.size ≤ maxLen)
def IsCut (w : World) (v : Value) : Prop := ∃ (n : Int) (fc : Int) (fw : Int) (l : Value) (more : Int), v = .agg #[.int .i64 n, .int .i64 fc, .int .i64 fw, l, .int .u8 more] ∧ (-9223372036854775808 ≤ n ∧ n ≤ 9223372036854775807) ∧ (-9223372036854775808 ≤ fc ∧ fc ≤ 9223372036854775807) ∧ (-9223372036854775808 ≤ fw ∧ fw ≤ 9223372036854775807) ∧ (IsLooks w l) ∧ (0 ≤ more ∧ more ≤ 255)
def IsRAsk (w : World) (v : Value) : Prop := ∃ (n : Int) (fr : Int) (fc : Int) (fw : Int) (ah : Value) (l : Value), v = .agg #[.int .i64 n, .int .i64 fr, .int .i64 fc, .int .i64 fw, ah, l] ∧ (-9223372036854775808 ≤ n ∧ n ≤ 9223372036854775807) ∧ (-9223372036854775808 ≤ fr ∧ fr ≤ 9223372036854775807) ∧ (-9223372036854775808 ≤ fc ∧ fc ≤ 9223372036854775807) ∧ (-9223372036854775808 ≤ fw ∧ fw ≤ 9223372036854775807) ∧ (IsNodes w ah) ∧ (IsLooks w l)
def IsSwap (w : World) (v : Value) : Prop := ∃ (who : Bool) (ah : Value) (mt : Int) (mr0k : Int) (mr0i : Int) (mr1k : Int) (mr1i : Int) (ml : Value) (xk : Int) (xi : Int), v = .agg #[.bool who, ah, .int .i64 mt, .int .i64 mr0k, .int .i64 mr0i, .int .i64 mr1k, .int .i64 mr1i, ml, .int .i64 xk, .int .i64 xi] ∧ (True) ∧ (IsNodes w ah) ∧ (-9223372036854775808 ≤ mt ∧ mt ≤ 9223372036854775807) ∧ (-9223372036854775808 ≤ mr0k ∧ mr0k ≤ 9223372036854775807) ∧ (-9223372036854775808 ≤ mr0i ∧ mr0i ≤ 9223372036854775807) ∧ (-9223372036854775808 ≤ mr1k ∧ mr1k ≤ 9223372036854775807) ∧ (-9223372036854775808 ≤ mr1i ∧ mr1i ≤ 9223372036854775807) ∧ (IsNodes w ml) ∧ (-9223372036854775808 ≤ xk ∧ xk ≤ 9223372036854775807) ∧ (-9223372036854775808 ≤ xi ∧ xi ≤ 9223372036854775807)
end
end Op
end Go.Proofs.YtgiojagdmglinaaGreatDoor
namespace Go.Proofs.YtgiojagdmglinaaGreatDoor
open Go.RowKit Go.ChangeShapes Go.WideShapes Go.Deep
namespace Op
set_option maxRecDepth 100000
section
variable {H : Type} {enc : TypeId × Value → H} {w : World} {base : Nat} {held : Bool}
def IsInts (w : World) (v : Value) : Prop := ∃ A n cap l, v = .slice A n cap ∧ n ≤ maxLen ∧ Whole w A n l
theorem intsOf {fuel : Nat} {v : Value} {x : DataW H × List MemPlace} (h : DataW.trod enc Tryz.prog w base (fun _ => true) held fuel 22 [v] = some x) : IsInts w v := by
 have h0 := elems (P := Tryz.prog) Tryz.underlying22 (k := 1) (by decide) h
 have hsh : ∃ A n cap, v = .slice A n cap := by
  rcases h0 with h1 | ⟨a, n, cap, h1, _⟩ <;> (simp only [List.cons.injEq, and_true] at h1; exact ⟨_, _, _, h1⟩)
 obtain ⟨A, n, cap, rfl⟩ := hsh
 obtain ⟨hm, l, hl, _⟩ := list (P := Tryz.prog) (fun z : Int => [Value.int .i64 z]) (fun _ => True) Tryz.underlying22 (k := 1) (by decide) (by decide) (fun n c y h => by
  have hlen : c.length = 1 := by
   obtain ⟨z, hc, _⟩ := DataW.trod_int Tryz.underlying3 h
   rw [hc]; rfl
  match c, hlen with
  | [c0], _ =>
   obtain ⟨z, rfl, _⟩ := int64 Tryz.underlying3 h
   exact ⟨z, rfl, trivial⟩) h
 exact ⟨A, n, cap, l, rfl, hm, hl⟩
theorem choiceOf {fuel : Nat} {c : List Value} {x : DataW H × List MemPlace} (h : DataW.trod enc Tryz.prog w base (fun _ => true) held fuel 53 c = some x) : ∃ (b0 : ByteArray) (b1 : ByteArray) (po : Value) (lk : Int), c = [.string b0, .string b1, po, .int .i64 lk] ∧ (b0.size ≤ maxLen) ∧ (b1.size ≤ maxLen) ∧ (IsInts w po) ∧ (-9223372036854775808 ≤ lk ∧ lk ≤ 9223372036854775807) := by
 have hl : c.length = 4 := (len_struct Tryz.underlying53 h).trans (by kernel_rfl)
 match c, hl with
 | [c0, c1, c2, c3], _ =>
  obtain ⟨n_t1, y_t1, t1⟩ := field Tryz.underlying53 (j := 0) rfl (show Tryz.prog.cellsOf 51 = 2 by kernel_rfl) h
  replace t1 : DataW.trod enc Tryz.prog w base (fun _ => true) held n_t1 51 [c0, c1] = some y_t1 := t1
  obtain ⟨n_t2, y_t2, t2⟩ := elem Tryz.underlying51 (i := 0) (by omega) (show Tryz.prog.cellsOf 9 = 1 by kernel_rfl) t1
  replace t2 : DataW.trod enc Tryz.prog w base (fun _ => true) held n_t2 9 [c0] = some y_t2 := t2
  obtain ⟨b0, rfl, p_b0⟩ := text Tryz.underlying9 t2
  obtain ⟨n_t3, y_t3, t3⟩ := elem Tryz.underlying51 (i := 1) (by omega) (show Tryz.prog.cellsOf 9 = 1 by kernel_rfl) t1
  replace t3 : DataW.trod enc Tryz.prog w base (fun _ => true) held n_t3 9 [c1] = some y_t3 := t3
  obtain ⟨b1, rfl, p_b1⟩ := text Tryz.underlying9 t3
  obtain ⟨n_t4, y_t4, t4⟩ := field Tryz.underlying53 (j := 1) rfl (show Tryz.prog.cellsOf 22 = 1 by kernel_rfl) h
  replace t4 : DataW.trod enc Tryz.prog w base (fun _ => true) held n_t4 22 [c2] = some y_t4 := t4
  have p_po := intsOf t4
  obtain ⟨n_t5, y_t5, t5⟩ := field Tryz.underlying53 (j := 2) rfl (show Tryz.prog.cellsOf 3 = 1 by kernel_rfl) h
  replace t5 : DataW.trod enc Tryz.prog w base (fun _ => true) held n_t5 3 [c3] = some y_t5 := t5
  obtain ⟨lk, rfl, p_lk⟩ := int64 Tryz.underlying3 t5
  exact ⟨b0, b1, _, lk, rfl, p_b0, p_b1, p_po, p_lk⟩
theorem choiceCells {fuel : Nat} {c : List Value} {x : DataW H × List MemPlace} (h : DataW.trod enc Tryz.prog w base (fun _ => true) held fuel 53 c = some x) : ∃ z : Ch, c = z.cells ∧ z.There w := by
 obtain ⟨b0, b1, po, lk, rfl, p0, p1, pp, _⟩ := choiceOf h
 obtain ⟨A, n, cap, l, rfl, hm, hl⟩ := pp
 exact ⟨⟨b0, b1, A, n, cap, l, lk⟩, rfl, ⟨p0, p1, hl, hm⟩⟩
def IsChs (w : World) (v : Value) : Prop := ∃ A n cap l, v = .slice A n cap ∧ n ≤ maxLen ∧ Chs w A n l
theorem chsOf {fuel : Nat} {v : Value} {x : DataW H × List MemPlace} (h : DataW.trod enc Tryz.prog w base (fun _ => true) held fuel 30 [v] = some x) : IsChs w v := by
 have h0 := elems (P := Tryz.prog) Tryz.underlying30 (k := 4) (by kernel_rfl) h
 have hsh : ∃ A n cap, v = .slice A n cap := by
  rcases h0 with h1 | ⟨a, n, cap, h1, _⟩ <;> (simp only [List.cons.injEq, and_true] at h1; exact ⟨_, _, _, h1⟩)
 obtain ⟨A, n, cap, rfl⟩ := hsh
 obtain ⟨hm, l, hl, hq⟩ := list (P := Tryz.prog) Ch.cells (Ch.There w) Tryz.underlying30 (k := 4) (by kernel_rfl) (by decide) (fun _ _ _ h => choiceCells h) h
 exact ⟨A, n, cap, l, rfl, hm, ⟨hl, hq⟩⟩
theorem scriptOf {fuel : Nat} {c : List Value} {x : DataW H × List MemPlace} (h : DataW.trod enc Tryz.prog w base (fun _ => true) held fuel 32 c = some x) : ∃ (n : Int) (pw : Value) (fc : Int) (fw : Int) (ld : Bool) (nd : Value) (xa0 : Int) (xa1 : Int) (xa2 : Int) (xa3 : Int) (xa4 : Int) (xa5 : Int) (xa6 : Int) (xa7 : Int) (xp : Int) (xg : Int) (xh : Int) (xs : Int) (ya0 : Int) (ya1 : Int) (ya2 : Int) (ya3 : Int) (ya4 : Int) (ya5 : Int) (ya6 : Int) (ya7 : Int) (yp : Int) (yg : Int) (yh : Int) (ys : Int) (tk : Value), c = [.int .i64 n, pw, .int .i64 fc, .int .i64 fw, .bool ld, nd, .int .i64 xa0, .int .i64 xa1, .int .i64 xa2, .int .i64 xa3, .int .i64 xa4, .int .i64 xa5, .int .i64 xa6, .int .i64 xa7, .int .i64 xp, .int .i64 xg, .int .i64 xh, .int .i64 xs, .int .i64 ya0, .int .i64 ya1, .int .i64 ya2, .int .i64 ya3, .int .i64 ya4, .int .i64 ya5, .int .i64 ya6, .int .i64 ya7, .int .i64 yp, .int .i64 yg, .int .i64 yh, .int .i64 ys, tk] ∧ (-9223372036854775808 ≤ n ∧ n ≤ 9223372036854775807) ∧ (IsInts w pw) ∧ (-9223372036854775808 ≤ fc ∧ fc ≤ 9223372036854775807) ∧ (-9223372036854775808 ≤ fw ∧ fw ≤ 9223372036854775807) ∧ (True) ∧ (IsNodes w nd) ∧ (-9223372036854775808 ≤ xa0 ∧ xa0 ≤ 9223372036854775807) ∧ (-9223372036854775808 ≤ xa1 ∧ xa1 ≤ 9223372036854775807) ∧ (-9223372036854775808 ≤ xa2 ∧ xa2 ≤ 9223372036854775807) ∧ (-9223372036854775808 ≤ xa3 ∧ xa3 ≤ 9223372036854775807) ∧ (-9223372036854775808 ≤ xa4 ∧ xa4 ≤ 9223372036854775807) ∧ (-9223372036854775808 ≤ xa5 ∧ xa5 ≤ 9223372036854775807) ∧ (-9223372036854775808 ≤ xa6 ∧ xa6 ≤ 9223372036854775807) ∧ (-9223372036854775808 ≤ xa7 ∧ xa7 ≤ 9223372036854775807) ∧ (-9223372036854775808 ≤ xp ∧ xp ≤ 9223372036854775807) ∧ (-9223372036854775808 ≤ xg ∧ xg ≤ 9223372036854775807) ∧ (-9223372036854775808 ≤ xh ∧ xh ≤ 9223372036854775807) ∧ (-9223372036854775808 ≤ xs ∧ xs ≤ 9223372036854775807) ∧ (-9223372036854775808 ≤ ya0 ∧ ya0 ≤ 9223372036854775807) ∧ (-9223372036854775808 ≤ ya1 ∧ ya1 ≤ 9223372036854775807) ∧ (-9223372036854775808 ≤ ya2 ∧ ya2 ≤ 9223372036854775807) ∧ (-9223372036854775808 ≤ ya3 ∧ ya3 ≤ 9223372036854775807) ∧ (-9223372036854775808 ≤ ya4 ∧ ya4 ≤ 9223372036854775807) ∧ (-9223372036854775808 ≤ ya5 ∧ ya5 ≤ 9223372036854775807) ∧ (-9223372036854775808 ≤ ya6 ∧ ya6 ≤ 9223372036854775807) ∧ (-9223372036854775808 ≤ ya7 ∧ ya7 ≤ 9223372036854775807) ∧ (-9223372036854775808 ≤ yp ∧ yp ≤ 9223372036854775807) ∧ (-9223372036854775808 ≤ yg ∧ yg ≤ 9223372036854775807) ∧ (-9223372036854775808 ≤ yh ∧ yh ≤ 9223372036854775807) ∧ (-9223372036854775808 ≤ ys ∧ ys ≤ 9223372036854775807) ∧ (IsChs w tk) := by
 have hl : c.length = 31 := (len_struct Tryz.underlying32 h).trans (by kernel_rfl)
 match c, hl with
 | [c0, c1, c2, c3, c4, c5, c6, c7, c8, c9, c10, c11, c12, c13, c14, c15, c16, c17, c18, c19, c20, c21, c22, c23, c24, c25, c26, c27, c28, c29, c30], _ =>
  obtain ⟨n_t1, y_t1, t1⟩ := field Tryz.underlying32 (j := 0) rfl (show Tryz.prog.cellsOf 3 = 1 by kernel_rfl) h
  replace t1 : DataW.trod enc Tryz.prog w base (fun _ => true) held n_t1 3 [c0] = some y_t1 := t1
  obtain ⟨n, rfl, p_n⟩ := int64 Tryz.underlying3 t1
  obtain ⟨n_t2, y_t2, t2⟩ := field Tryz.underlying32 (j := 1) rfl (show Tryz.prog.cellsOf 22 = 1 by kernel_rfl) h
  replace t2 : DataW.trod enc Tryz.prog w base (fun _ => true) held n_t2 22 [c1] = some y_t2 := t2
  have p_pw := intsOf t2
  obtain ⟨n_t3, y_t3, t3⟩ := field Tryz.underlying32 (j := 2) rfl (show Tryz.prog.cellsOf 24 = 2 by kernel_rfl) h
  replace t3 : DataW.trod enc Tryz.prog w base (fun _ => true) held n_t3 24 [c2, c3] = some y_t3 := t3
  obtain ⟨n_t4, y_t4, t4⟩ := field Tryz.underlying24 (j := 0) rfl (show Tryz.prog.cellsOf 3 = 1 by kernel_rfl) t3
  replace t4 : DataW.trod enc Tryz.prog w base (fun _ => true) held n_t4 3 [c2] = some y_t4 := t4
  obtain ⟨fc, rfl, p_fc⟩ := int64 Tryz.underlying3 t4
  obtain ⟨n_t5, y_t5, t5⟩ := field Tryz.underlying24 (j := 1) rfl (show Tryz.prog.cellsOf 3 = 1 by kernel_rfl) t3
  replace t5 : DataW.trod enc Tryz.prog w base (fun _ => true) held n_t5 3 [c3] = some y_t5 := t5
  obtain ⟨fw, rfl, p_fw⟩ := int64 Tryz.underlying3 t5
  obtain ⟨n_t6, y_t6, t6⟩ := field Tryz.underlying32 (j := 3) rfl (show Tryz.prog.cellsOf 4 = 1 by kernel_rfl) h
  replace t6 : DataW.trod enc Tryz.prog w base (fun _ => true) held n_t6 4 [c4] = some y_t6 := t6
  obtain ⟨ld, rfl⟩ := boolean Tryz.underlying4 t6
  have p_ld : True := trivial
  obtain ⟨n_t7, y_t7, t7⟩ := field Tryz.underlying32 (j := 4) rfl (show Tryz.prog.cellsOf 25 = 1 by kernel_rfl) h
  replace t7 : DataW.trod enc Tryz.prog w base (fun _ => true) held n_t7 25 [c5] = some y_t7 := t7
  have p_nd := nodesOf t7
  obtain ⟨n_t8, y_t8, t8⟩ := field Tryz.underlying32 (j := 5) rfl (show Tryz.prog.cellsOf 29 = 24 by kernel_rfl) h
  replace t8 : DataW.trod enc Tryz.prog w base (fun _ => true) held n_t8 29 [c6, c7, c8, c9, c10, c11, c12, c13, c14, c15, c16, c17, c18, c19, c20, c21, c22, c23, c24, c25, c26, c27, c28, c29] = some y_t8 := t8
  obtain ⟨n_t9, y_t9, t9⟩ := elem Tryz.underlying29 (i := 0) (by omega) (show Tryz.prog.cellsOf 28 = 12 by kernel_rfl) t8
  replace t9 : DataW.trod enc Tryz.prog w base (fun _ => true) held n_t9 28 [c6, c7, c8, c9, c10, c11, c12, c13, c14, c15, c16, c17] = some y_t9 := t9
  obtain ⟨n_t10, y_t10, t10⟩ := field Tryz.underlying28 (j := 0) rfl (show Tryz.prog.cellsOf 26 = 8 by kernel_rfl) t9
  replace t10 : DataW.trod enc Tryz.prog w base (fun _ => true) held n_t10 26 [c6, c7, c8, c9, c10, c11, c12, c13] = some y_t10 := t10
  obtain ⟨n_t11, y_t11, t11⟩ := elem Tryz.underlying26 (i := 0) (by omega) (show Tryz.prog.cellsOf 3 = 1 by kernel_rfl) t10
  replace t11 : DataW.trod enc Tryz.prog w base (fun _ => true) held n_t11 3 [c6] = some y_t11 := t11
  obtain ⟨xa0, rfl, p_xa0⟩ := int64 Tryz.underlying3 t11
  obtain ⟨n_t12, y_t12, t12⟩ := elem Tryz.underlying26 (i := 1) (by omega) (show Tryz.prog.cellsOf 3 = 1 by kernel_rfl) t10
  replace t12 : DataW.trod enc Tryz.prog w base (fun _ => true) held n_t12 3 [c7] = some y_t12 := t12
  obtain ⟨xa1, rfl, p_xa1⟩ := int64 Tryz.underlying3 t12
  obtain ⟨n_t13, y_t13, t13⟩ := elem Tryz.underlying26 (i := 2) (by omega) (show Tryz.prog.cellsOf 3 = 1 by kernel_rfl) t10
  replace t13 : DataW.trod enc Tryz.prog w base (fun _ => true) held n_t13 3 [c8] = some y_t13 := t13
  obtain ⟨xa2, rfl, p_xa2⟩ := int64 Tryz.underlying3 t13
  obtain ⟨n_t14, y_t14, t14⟩ := elem Tryz.underlying26 (i := 3) (by omega) (show Tryz.prog.cellsOf 3 = 1 by kernel_rfl) t10
  replace t14 : DataW.trod enc Tryz.prog w base (fun _ => true) held n_t14 3 [c9] = some y_t14 := t14
  obtain ⟨xa3, rfl, p_xa3⟩ := int64 Tryz.underlying3 t14
  obtain ⟨n_t15, y_t15, t15⟩ := elem Tryz.underlying26 (i := 4) (by omega) (show Tryz.prog.cellsOf 3 = 1 by kernel_rfl) t10
  replace t15 : DataW.trod enc Tryz.prog w base (fun _ => true) held n_t15 3 [c10] = some y_t15 := t15
  obtain ⟨xa4, rfl, p_xa4⟩ := int64 Tryz.underlying3 t15
  obtain ⟨n_t16, y_t16, t16⟩ := elem Tryz.underlying26 (i := 5) (by omega) (show Tryz.prog.cellsOf 3 = 1 by kernel_rfl) t10
  replace t16 : DataW.trod enc Tryz.prog w base (fun _ => true) held n_t16 3 [c11] = some y_t16 := t16
  obtain ⟨xa5, rfl, p_xa5⟩ := int64 Tryz.underlying3 t16
  obtain ⟨n_t17, y_t17, t17⟩ := elem Tryz.underlying26 (i := 6) (by omega) (show Tryz.prog.cellsOf 3 = 1 by kernel_rfl) t10
  replace t17 : DataW.trod enc Tryz.prog w base (fun _ => true) held n_t17 3 [c12] = some y_t17 := t17
  obtain ⟨xa6, rfl, p_xa6⟩ := int64 Tryz.underlying3 t17
  obtain ⟨n_t18, y_t18, t18⟩ := elem Tryz.underlying26 (i := 7) (by omega) (show Tryz.prog.cellsOf 3 = 1 by kernel_rfl) t10
  replace t18 : DataW.trod enc Tryz.prog w base (fun _ => true) held n_t18 3 [c13] = some y_t18 := t18
  obtain ⟨xa7, rfl, p_xa7⟩ := int64 Tryz.underlying3 t18
  obtain ⟨n_t19, y_t19, t19⟩ := field Tryz.underlying28 (j := 1) rfl (show Tryz.prog.cellsOf 3 = 1 by kernel_rfl) t9
  replace t19 : DataW.trod enc Tryz.prog w base (fun _ => true) held n_t19 3 [c14] = some y_t19 := t19
  obtain ⟨xp, rfl, p_xp⟩ := int64 Tryz.underlying3 t19
  obtain ⟨n_t20, y_t20, t20⟩ := field Tryz.underlying28 (j := 2) rfl (show Tryz.prog.cellsOf 3 = 1 by kernel_rfl) t9
  replace t20 : DataW.trod enc Tryz.prog w base (fun _ => true) held n_t20 3 [c15] = some y_t20 := t20
  obtain ⟨xg, rfl, p_xg⟩ := int64 Tryz.underlying3 t20
  obtain ⟨n_t21, y_t21, t21⟩ := field Tryz.underlying28 (j := 3) rfl (show Tryz.prog.cellsOf 3 = 1 by kernel_rfl) t9
  replace t21 : DataW.trod enc Tryz.prog w base (fun _ => true) held n_t21 3 [c16] = some y_t21 := t21
  obtain ⟨xh, rfl, p_xh⟩ := int64 Tryz.underlying3 t21
  obtain ⟨n_t22, y_t22, t22⟩ := field Tryz.underlying28 (j := 4) rfl (show Tryz.prog.cellsOf 3 = 1 by kernel_rfl) t9
  replace t22 : DataW.trod enc Tryz.prog w base (fun _ => true) held n_t22 3 [c17] = some y_t22 := t22
  obtain ⟨xs, rfl, p_xs⟩ := int64 Tryz.underlying3 t22
  obtain ⟨n_t23, y_t23, t23⟩ := elem Tryz.underlying29 (i := 1) (by omega) (show Tryz.prog.cellsOf 28 = 12 by kernel_rfl) t8
  replace t23 : DataW.trod enc Tryz.prog w base (fun _ => true) held n_t23 28 [c18, c19, c20, c21, c22, c23, c24, c25, c26, c27, c28, c29] = some y_t23 := t23
  obtain ⟨n_t24, y_t24, t24⟩ := field Tryz.underlying28 (j := 0) rfl (show Tryz.prog.cellsOf 26 = 8 by kernel_rfl) t23
  replace t24 : DataW.trod enc Tryz.prog w base (fun _ => true) held n_t24 26 [c18, c19, c20, c21, c22, c23, c24, c25] = some y_t24 := t24
  obtain ⟨n_t25, y_t25, t25⟩ := elem Tryz.underlying26 (i := 0) (by omega) (show Tryz.prog.cellsOf 3 = 1 by kernel_rfl) t24
  replace t25 : DataW.trod enc Tryz.prog w base (fun _ => true) held n_t25 3 [c18] = some y_t25 := t25
  obtain ⟨ya0, rfl, p_ya0⟩ := int64 Tryz.underlying3 t25
  obtain ⟨n_t26, y_t26, t26⟩ := elem Tryz.underlying26 (i := 1) (by omega) (show Tryz.prog.cellsOf 3 = 1 by kernel_rfl) t24
  replace t26 : DataW.trod enc Tryz.prog w base (fun _ => true) held n_t26 3 [c19] = some y_t26 := t26
  obtain ⟨ya1, rfl, p_ya1⟩ := int64 Tryz.underlying3 t26
  obtain ⟨n_t27, y_t27, t27⟩ := elem Tryz.underlying26 (i := 2) (by omega) (show Tryz.prog.cellsOf 3 = 1 by kernel_rfl) t24
  replace t27 : DataW.trod enc Tryz.prog w base (fun _ => true) held n_t27 3 [c20] = some y_t27 := t27
  obtain ⟨ya2, rfl, p_ya2⟩ := int64 Tryz.underlying3 t27
  obtain ⟨n_t28, y_t28, t28⟩ := elem Tryz.underlying26 (i := 3) (by omega) (show Tryz.prog.cellsOf 3 = 1 by kernel_rfl) t24
  replace t28 : DataW.trod enc Tryz.prog w base (fun _ => true) held n_t28 3 [c21] = some y_t28 := t28
  obtain ⟨ya3, rfl, p_ya3⟩ := int64 Tryz.underlying3 t28
  obtain ⟨n_t29, y_t29, t29⟩ := elem Tryz.underlying26 (i := 4) (by omega) (show Tryz.prog.cellsOf 3 = 1 by kernel_rfl) t24
  replace t29 : DataW.trod enc Tryz.prog w base (fun _ => true) held n_t29 3 [c22] = some y_t29 := t29
  obtain ⟨ya4, rfl, p_ya4⟩ := int64 Tryz.underlying3 t29
  obtain ⟨n_t30, y_t30, t30⟩ := elem Tryz.underlying26 (i := 5) (by omega) (show Tryz.prog.cellsOf 3 = 1 by kernel_rfl) t24
  replace t30 : DataW.trod enc Tryz.prog w base (fun _ => true) held n_t30 3 [c23] = some y_t30 := t30
  obtain ⟨ya5, rfl, p_ya5⟩ := int64 Tryz.underlying3 t30
  obtain ⟨n_t31, y_t31, t31⟩ := elem Tryz.underlying26 (i := 6) (by omega) (show Tryz.prog.cellsOf 3 = 1 by kernel_rfl) t24
  replace t31 : DataW.trod enc Tryz.prog w base (fun _ => true) held n_t31 3 [c24] = some y_t31 := t31
  obtain ⟨ya6, rfl, p_ya6⟩ := int64 Tryz.underlying3 t31
  obtain ⟨n_t32, y_t32, t32⟩ := elem Tryz.underlying26 (i := 7) (by omega) (show Tryz.prog.cellsOf 3 = 1 by kernel_rfl) t24
  replace t32 : DataW.trod enc Tryz.prog w base (fun _ => true) held n_t32 3 [c25] = some y_t32 := t32
  obtain ⟨ya7, rfl, p_ya7⟩ := int64 Tryz.underlying3 t32
  obtain ⟨n_t33, y_t33, t33⟩ := field Tryz.underlying28 (j := 1) rfl (show Tryz.prog.cellsOf 3 = 1 by kernel_rfl) t23
  replace t33 : DataW.trod enc Tryz.prog w base (fun _ => true) held n_t33 3 [c26] = some y_t33 := t33
  obtain ⟨yp, rfl, p_yp⟩ := int64 Tryz.underlying3 t33
  obtain ⟨n_t34, y_t34, t34⟩ := field Tryz.underlying28 (j := 2) rfl (show Tryz.prog.cellsOf 3 = 1 by kernel_rfl) t23
  replace t34 : DataW.trod enc Tryz.prog w base (fun _ => true) held n_t34 3 [c27] = some y_t34 := t34
  obtain ⟨yg, rfl, p_yg⟩ := int64 Tryz.underlying3 t34
  obtain ⟨n_t35, y_t35, t35⟩ := field Tryz.underlying28 (j := 3) rfl (show Tryz.prog.cellsOf 3 = 1 by kernel_rfl) t23
  replace t35 : DataW.trod enc Tryz.prog w base (fun _ => true) held n_t35 3 [c28] = some y_t35 := t35
  obtain ⟨yh, rfl, p_yh⟩ := int64 Tryz.underlying3 t35
  obtain ⟨n_t36, y_t36, t36⟩ := field Tryz.underlying28 (j := 4) rfl (show Tryz.prog.cellsOf 3 = 1 by kernel_rfl) t23
  replace t36 : DataW.trod enc Tryz.prog w base (fun _ => true) held n_t36 3 [c29] = some y_t36 := t36
  obtain ⟨ys, rfl, p_ys⟩ := int64 Tryz.underlying3 t36
  obtain ⟨n_t37, y_t37, t37⟩ := field Tryz.underlying32 (j := 6) rfl (show Tryz.prog.cellsOf 30 = 1 by kernel_rfl) h
  replace t37 : DataW.trod enc Tryz.prog w base (fun _ => true) held n_t37 30 [c30] = some y_t37 := t37
  have p_tk := chsOf t37
  exact ⟨n, _, fc, fw, ld, _, xa0, xa1, xa2, xa3, xa4, xa5, xa6, xa7, xp, xg, xh, xs, ya0, ya1, ya2, ya3, ya4, ya5, ya6, ya7, yp, yg, yh, ys, _, rfl, p_n, p_pw, p_fc, p_fw, p_ld, p_nd, p_xa0, p_xa1, p_xa2, p_xa3, p_xa4, p_xa5, p_xa6, p_xa7, p_xp, p_xg, p_xh, p_xs, p_ya0, p_ya1, p_ya2, p_ya3, p_ya4, p_ya5, p_ya6, p_ya7, p_yp, p_yg, p_yh, p_ys, p_tk⟩
structure ScThere (w : World) (s : Sc) : Prop where
 power : Whole w s.pa s.pn s.power
 nodes : Nodes w s.na s.nn s.nodes
 ticks : Chs w s.ta s.tn s.ticks
 pm : s.pn ≤ maxLen
 nm : s.nn ≤ maxLen
 tm : s.tn ≤ maxLen
 n0 : -9223372036854775808 ≤ s.n ∧ s.n ≤ 9223372036854775807
theorem ScThere.below {w W : World} {s : Sc} (h : ScThere w s) (hb : Below w.heap.size w W) : ScThere W s := ⟨h.power.below hb, h.nodes.below hb, h.ticks.below hb, h.pm, h.nm, h.tm, h.n0⟩
def IsScript (w : World) (v : Value) : Prop := ∃ s : Sc, v = .agg s.cells.toArray ∧ ScThere w s
theorem isScript {r : Reach} {b0 : Nat} {v : Value} {d : DataW H} {p : List MemPlace} (hv : Value.okWide Tryz.prog w r b0 32 v) (h : DataW.Trod enc Tryz.prog w base (fun _ => true) held 32 v d p) : IsScript w v := by
 obtain ⟨cs, rfl, _⟩ := okWide_struct Tryz.underlying32 hv
 obtain ⟨fuel, hf⟩ := h
 have hf' : DataW.trod enc Tryz.prog w base (fun _ => true) held fuel 32 cs.toList = some (d, p) := hf
 obtain ⟨n, pw, fc, fw, ld, nd, xa0, xa1, xa2, xa3, xa4, xa5, xa6, xa7, xp, xg, xh, xs, ya0, ya1, ya2, ya3, ya4, ya5, ya6, ya7, yp, yg, yh, ys, tk, hz, hq⟩ := scriptOf hf'
 obtain ⟨pn0, ppw, _, _, _, pnd, hq⟩ := hq
 have ptk := hq.2.2.2.2.2.2.2.2.2.2.2.2.2.2.2.2.2.2.2.2.2.2.2.2
 obtain ⟨pa, pn, pc, power, rfl, hpm, hpw⟩ := ppw
 obtain ⟨na, nn, nc, nodes, rfl, hnm, hnd, _⟩ := pnd
 obtain ⟨ta, tn, tc, ticks, rfl, htm, htk⟩ := ptk
 obtain ⟨l⟩ := cs
 have hz' : l = _ := hz
 subst hz'
 exact ⟨⟨n, pa, pn, pc, power, fc, fw, ld, na, nn, nc, nodes, ⟨[xa0, xa1, xa2, xa3, xa4, xa5, xa6, xa7], xp, xg, xh, xs⟩, ⟨[ya0, ya1, ya2, ya3, ya4, ya5, ya6, ya7], yp, yg, yh, ys⟩, ta, tn, tc, ticks⟩, rfl, ⟨hpw, hnd, htk, hpm, hnm, htm, pn0⟩⟩
end
end Op
end Go.Proofs.YtgiojagdmglinaaGreatDoor
namespace Go.Proofs.YtgiojagdmglinaaGreatDoor
open Go Go.RowKit
namespace Sw
theorem lk_at {W : World} {A : Option Addr} {n : Nat} {x : Wd} {l : List Ch} {ads : List (Nat × Nat)} (h : Looks W A n (lks x l ads)) (hl : ads.length = n) {k : Nat} (hk : k < n) :
  ∃ b off p, A = some ⟨b, off, none⟩ ∧ b < W.heap.size ∧ W.cell? ⟨b, off + k * 6, none⟩ = some (.int .i64 (wat x l k).tick) ∧
   W.cell? ⟨b, off + k * 6 + 1, none⟩ = some (.int .i64 (r0 (wat x l k) (l.getD k default)).2.k) ∧ W.cell? ⟨b, off + k * 6 + 2, none⟩ = some (.int .i64 (r0 (wat x l k) (l.getD k default)).2.i) ∧
   W.cell? ⟨b, off + k * 6 + 3, none⟩ = some (.int .i64 (r1 (wat x l k) (l.getD k default)).2.k) ∧ W.cell? ⟨b, off + k * 6 + 4, none⟩ = some (.int .i64 (r1 (wat x l k) (l.getD k default)).2.i) ∧
   W.cell? ⟨b, off + k * 6 + 5, none⟩ = some (.slice (some ⟨p, 0, none⟩) x.n (ads.getD k (0, 0)).2) ∧ Nodes W (some ⟨p, 0, none⟩) x.n (wat x l (k + 1)).nodes := by
 obtain ⟨b, off, e, hb, hrow⟩ := h.row (by omega)
 have hp : ads[k]? = some (ads.getD k (0, 0)) := by rw [List.getD_eq_getElem?_getD, List.getElem?_eq_getElem (by omega)]; rfl
 have hq : (lks x l ads)[k]? = some (lkAt x l k (ads.getD k (0, 0))) := by unfold lks; rw [List.getElem?_mapIdx, hp]; rfl
 obtain ⟨c0, c1, c2, c3, c4, c5⟩ := hrow k _ hq
 exact ⟨b, off, (ads.getD k (0, 0)).1, e, hb, c0, c1, c2, c3, c4, c5, (h.there _ (List.mem_of_getElem? hq)).nodes⟩
end Sw
end Go.Proofs.YtgiojagdmglinaaGreatDoor
namespace Go.Proofs.YtgiojagdmglinaaGreatDoor.Dor
def laid3 : List (String × DataW Unit) := [("math/bits.deBruijn32tab", Rows.laid_math_bits_deBruijn32tab), ("math/bits.deBruijn64tab", Rows.laid_math_bits_deBruijn64tab), ("internal/strconv.uint64pow10", Rows.laid_internal_strconv_uint64pow10)]
theorem shaped (os : Os) (args : Array Value) : ((World.doorLaid Tryz.prog 24 os).forCall (fun _ _ => 0) ⟨#[], args, []⟩).Shaped Tryz.checked.prog :=
 World.shaped_of_RefB (by kernel_rfl) (by kernel_rfl)
theorem met (os : Os) (args : Array Value) : laidMetH Tryz.prog laid3 ((World.doorLaid Tryz.prog 24 os).forCall (fun _ _ => 0) ⟨#[], args, []⟩).memory :=
 laidMetH_of_parts3 (fuel := 8) (laidMet_of_run' 8 (by kernel_rfl) (by kernel_rfl)) (by kernel_rfl) (by kernel_rfl)
end Go.Proofs.YtgiojagdmglinaaGreatDoor.Dor
namespace Go.Proofs.YtgiojagdmglinaaGreatDoor
open Go Go.RowKit
namespace Sw
theorem wat_c (x : Wd) (l : List Ch) : ∀ k, (wat x l k).c = x.c
 | 0 => rfl
 | k + 1 => wat_c x l k
theorem wat_v (x : Wd) (l : List Ch) : ∀ k, (wat x l k).v = x.v
 | 0 => rfl
 | k + 1 => wat_v x l k
theorem now_c (x : Wd) (l : List Ch) (ads : List (Nat × Nat)) : (now x l ads).c = x.c := by
 unfold now
 split <;> exact wat_c x l _
theorem now_v (x : Wd) (l : List Ch) (ads : List (Nat × Nat)) : (now x l ads).v = x.v := by
 unfold now
 split <;> exact wat_v x l _
theorem now_pa (x : Wd) (l : List Ch) (ads : List (Nat × Nat)) : (now x l ads).pa = x.pa := by
 unfold now
 split <;> exact wat_pa x l _
theorem now_power (x : Wd) (l : List Ch) (ads : List (Nat × Nat)) : (now x l ads).power = x.power := by
 unfold now
 split <;> exact wat_power x l _
end Sw
theorem Al.all_calls (n : Nat) (s : Sc) (w : World) (h3 : 3 ≤ n) (h8 : n ≤ 8) (hn : s.n = n) (hld : s.ld = false) (hp : Whole w s.pa s.pn s.power) (hl : Chs w s.ta s.tn s.ticks) (hm : s.tn ≤ 1000000) :
  Calls Tryz.prog 13 #[.agg #[.int .i64 s.n, .slice s.pa s.pn s.pc, .int .i64 s.c, .int .i64 s.v, .bool s.ld, .slice s.na s.nn s.nc, .int .i64 (s.h0.ag 0), .int .i64 (s.h0.ag 1), .int .i64 (s.h0.ag 2), .int .i64 (s.h0.ag 3), .int .i64 (s.h0.ag 4), .int .i64 (s.h0.ag 5), .int .i64 (s.h0.ag 6), .int .i64 (s.h0.ag 7), .int .i64 s.h0.port, .int .i64 s.h0.age, .int .i64 s.h0.hold, .int .i64 s.h0.pos, .int .i64 (s.h1.ag 0), .int .i64 (s.h1.ag 1), .int .i64 (s.h1.ag 2), .int .i64 (s.h1.ag 3), .int .i64 (s.h1.ag 4), .int .i64 (s.h1.ag 5), .int .i64 (s.h1.ag 6), .int .i64 (s.h1.ag 7), .int .i64 s.h1.port, .int .i64 s.h1.age, .int .i64 s.h1.hold, .int .i64 s.h1.pos, .slice s.ta s.tn s.tc]] w fun e w' => ∃ (y : Wd) (p G : Nat) (A : Option Addr) (cap : Nat) (ads : List (Nat × Nat)), e = .returned (.tuple #[.slice A s.tn cap, .agg y.cells.toArray, .int .i64 0]) ∧ ads.length = s.tn ∧
   (y.n = n ∧ y.c = (Sw.start n s p G).c ∧ y.v = (Sw.start n s p G).v ∧ y.power = (Sw.start n s p G).power ∧ y.pa = some ⟨p, 0, none⟩) ∧ Looks w' A s.tn (Sw.lks (Sw.start n s p G) s.ticks ads) ∧ y.There w' ∧ Below w.heap.size w w' := by
 refine (Sw.all0_calls n s w h3 h8 hn hld hp hl (show s.tn ≤ 1000000 by omega)).mono ?_
 rintro e w' ⟨p, G, A, cap, ads, rfl, hlen, hlk, _, hty, hb⟩
 exact ⟨_, p, G, A, cap, ads, rfl, hlen, ⟨Sw.now_n _ _ _, Sw.now_c _ _ _, Sw.now_v _ _ _, Sw.now_power _ _ _, Sw.now_pa _ _ _⟩, hlk, hty, hb⟩
end Go.Proofs.YtgiojagdmglinaaGreatDoor
