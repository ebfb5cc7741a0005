/-
  SyncTells: the walk of the statement's own function.
-/
import Derived.Test.YtpbkoooljelhjaaSync5
import Derived.Test.YtpbkoooljelhjaaOp4
namespace Go.Proofs.Ytpbkoooljelhjaa.SyncTells
set_option linter.unusedVariables false
set_option linter.unusedSimpArgs false
open Go.RowKit

set_option maxHeartbeats 4000000 in
set_option maxRecDepth 100000 in
theorem walk1 (n c v : Int) (A : Option Addr) (len cap : Nat) (l : List Lk) (w : World) (hl : Looks w A len l) (hlen : len ≤ 9223372036854775807) :
    Calls Try.prog 15 #[.int .i64 n, .agg #[.int .i64 c, .int .i64 v], .slice A len cap] w fun e w' => e = .returned (.bool true) ∧ Below w.heap.size w w' := by
  have HL := Lib.hid hl
  clear hl
  go_enter Try.func15, Try.ntmps15
  go_wp2_with fail
  refine (Sy.may_calls n A len cap l _ (HL.out.below (Kit.alloc1 ..)) hlen).mono ?_
  rintro e w1 ⟨bb, rfl, hbb, rfl⟩
  cases bb with
  | false =>
    clear hbb
    go_wp2_with fail
    refine (Sy.awake_calls _).mono ?_
    rintro e w2 ⟨rfl, b2⟩
    go_wp2_with fail
    go_ret
    exact ⟨rfl, Kit.chain (Kit.alloc1 ..) b2⟩
  | true =>
    obtain ⟨m, rfl, hm⟩ := hbb rfl
    have hxn : ∀ x ∈ l, x.n ≤ 1000000 := fun x hx => by
      have h1 := (HL.out.there x hx).nodes.len
      have h2 := (hm.len x hx).1
      have := hm.hi
      omega
    have HM := Lib.hid hm
    have HXN := Lib.hid hxn
    have HLL := Lib.hid HL.out.len
    have h60 : len ≤ 60 := by have h1 := hm.most; have h2 := HLL.out; omega
    clear hbb hm hxn
    have k1 := fun W (hW : Below w.heap.size w W) => Sy.split_calls c v A len cap l W (HL.out.below hW) (by omega) HXN.out
    have k2 := fun W (hW : Below w.heap.size w W) => Sy.rsplit_calls c v A len cap l W (HL.out.below hW) (by omega) HXN.out
    have k3 := fun W (hW : Below w.heap.size w W) => Sy.leaves_calls c v A len cap l W (HL.out.below hW) (by omega) HXN.out
    have k4 := fun W (hW : Below w.heap.size w W) => Sy.rleaves_calls c v A len cap l W (HL.out.below hW) (by omega) HXN.out
    have k5 := fun W (hW : Below w.heap.size w W) => Sy.there_calls m c v A len cap l W (HL.out.below hW) HM.out HXN.out
    have k6 := fun W (hW : Below w.heap.size w W) => Sy.rthere_calls m c v A len cap l W (HL.out.below hW) HM.out HXN.out
    simp only [Sy.firstV] at k1 k2 k3 k4
    generalize (((Sy.split c v l).getD 0 : Nat) : Int) = s1 at *
    generalize (Sy.split c v l).isSome = s2 at *
    generalize (((Sy.leaves c v l).getD 0 : Nat) : Int) = s3 at *
    generalize (Sy.leaves c v l).isSome = s4 at *
    have K1 := Lib.hid k1
    have K2 := Lib.hid k2
    have K3 := Lib.hid k3
    have K4 := Lib.hid k4
    have K5 := Lib.hid k5
    have K6 := Lib.hid k6
    clear k1 k2 k3 k4 k5 k6
    have c0 : (w.alloc (.cells #[.int .i64 c, .int .i64 v] 35)).cell? ⟨w.heap.size, 0, none⟩ = some (.int .i64 c) := World.cell?_alloc_new ..
    have c1 : (w.alloc (.cells #[.int .i64 c, .int .i64 v] 35)).cell? ⟨w.heap.size, 1, none⟩ = some (.int .i64 v) := World.cell?_alloc_new ..
    go_wp2_with fail
    refine (K1.out _ (Kit.alloc1 ..)).mono ?_
    rintro e v1 ⟨rfl, b1⟩
    replace c0 := Kit.cell_below b1 c0
    replace c1 := Kit.cell_below b1 c1
    have B1 := Lib.hid (Kit.chain (Kit.alloc1 ..) b1)
    clear b1
    go_wp2_with fail
    refine (K2.out _ B1.out).mono ?_
    rintro e v2 ⟨rfl, b2⟩
    replace c0 := Kit.cell_below b2 c0
    replace c1 := Kit.cell_below b2 c1
    have B2 := Lib.hid (Kit.chain B1.out b2)
    clear b2
    go_wp2_with fail
    refine (K3.out _ B2.out).mono ?_
    rintro e v3 ⟨rfl, b3⟩
    replace c0 := Kit.cell_below b3 c0
    replace c1 := Kit.cell_below b3 c1
    have B3 := Lib.hid (Kit.chain B2.out b3)
    clear b3
    go_wp2_with fail
    refine (K4.out _ B3.out).mono ?_
    rintro e v4 ⟨rfl, b4⟩
    replace c0 := Kit.cell_below b4 c0
    replace c1 := Kit.cell_below b4 c1
    have B4 := Lib.hid (Kit.chain B3.out b4)
    clear b4
    go_wp2_with fail
    refine (K5.out _ B4.out).mono ?_
    rintro e v5 ⟨a1, ha1, rfl, b5⟩
    replace c0 := Kit.cell_below b5 c0
    replace c1 := Kit.cell_below b5 c1
    have B5 := Lib.hid (Kit.chain B4.out b5)
    have HA1 := Lib.hid ha1
    clear ha1
    simp only [Sy.thereV]
    generalize hx1 : (if a1 = l.length then (0 : Int) else (a1 : Int)) = x1
    generalize hx2 : decide (a1 ≠ l.length) = x2
    have HX := Lib.hid (And.intro hx1 hx2)
    clear hx1 hx2
    clear b5
    go_wp2_with fail
    refine (K6.out _ B5.out).mono ?_
    rintro e v6 ⟨a2, ha2, rfl, b6⟩
    replace c0 := Kit.cell_below b6 c0
    replace c1 := Kit.cell_below b6 c1
    have B6 := Lib.hid (Kit.chain B5.out b6)
    have e12 := ha2.unique HA1.out
    subst e12
    simp only [Sy.thereV]
    rw [HX.out.1, HX.out.2]
    clear ha2
    clear b6
    go_wp2_with fail
    refine (Sy.awake_calls _).mono ?_
    rintro e w2 ⟨rfl, b2⟩
    go_wp2_with fail
    go_ret
    exact ⟨by simp, Kit.chain B6.out b2⟩

theorem walk (n : Int) (x v : Value) {w : World} (w0 : (Lit.int .i64 n).wf = true) (w1 : Op.IsFault x) (w2 : Op.IsLooks w v) (w' : World) (hw : w' = w := by rfl) :
    Calls Try.prog 15 #[.int .i64 n, x, v] w fun e w' => e = .returned (.bool true) ∧ Below w.heap.size w w' := by
  obtain ⟨c, u, rfl, _⟩ := w1
  obtain ⟨A, len, cap, l, rfl, hm, hl, _⟩ := w2
  unfold maxLen at hm
  exact walk1 n c u A len cap l w hl (by omega)
end Go.Proofs.Ytpbkoooljelhjaa.SyncTells
