/-
  Part 10 of a merged text.
-/
import Derived.Test.YtgiojagdmglinaaGreatDoorGb09
import Derived.Test.YtgiojagdmglinaaGreatDoorGb07
set_option linter.unusedVariables false
set_option linter.unusedSimpArgs false
set_option maxRecDepth 100000
namespace Go.Proofs.YtgiojagdmglinaaGreatDoor
open Go.RowKit
theorem Hear.one_cases (n : Int) (s : ByteArray) : ((Wire.get s).right = true ∧ (Wire.get s).i < n ∧ Hear.one n s = Wire.get s) ∨ ((Wire.get s).right = true ∧ n ≤ (Wire.get s).i ∧ Hear.one n s = Fr.none) ∨ ((Wire.get s).right = false ∧ Hear.one n s = Fr.none) := by
 unfold Hear.one
 cases h : (Wire.get s).right with
 | true =>
  by_cases c : (Wire.get s).i < n
  ·exact Or.inl ⟨rfl, c, if_pos ⟨rfl, c⟩⟩
  ·exact Or.inr (Or.inl ⟨rfl, by omega, if_neg (fun e => c e.2)⟩)
 | false => exact Or.inr (Or.inr ⟨rfl, if_neg (by simp)⟩)
theorem Hear.at0 (a b : ByteArray) (w : World) : (Instr.index 51 (.agg #[.string a, .string b]) (.int .i64 0)).run Tryz.prog w = .ok (.string a) w := by kernel_rfl
theorem Hear.at1 (a b : ByteArray) (w : World) : (Instr.index 51 (.agg #[.string a, .string b]) (.int .i64 1)).run Tryz.prog w = .ok (.string b) w := by kernel_rfl
set_option maxHeartbeats 4000000 in
theorem Hear.of_calls (n : Int) (a b : ByteArray) (w : World) (h3 : 3 ≤ n) (h8 : n ≤ 8) (ha : a.size ≤ 9223372036854775807) (hb : b.size ≤ 9223372036854775807) :
  Calls Tryz.prog 102 #[.int .i64 n, .string a, .string b] w fun e w' => e = .returned (.tuple #[.agg #[.int .i64 (Hear.one n a).k, .int .i64 (Hear.one n a).i, .int .i64 (Hear.one n b).k, .int .i64 (Hear.one n b).i], .int .i64 0]) ∧ Below w.heap.size w w' := by
 have c0 := fun W => Port.conf_calls n W
 rw [decide_eq_true h3, decide_eq_true h8] at c0
 have ca := fun W => Wire.get_calls a W ha
 have cb := fun W => Wire.get_calls b W hb
 have i0 := Hear.at0 a b
 have i1 := Hear.at1 a b
 have ra := Hear.one_cases n a
 have rb := Hear.one_cases n b
 generalize Hear.one n a = x at *
 generalize Hear.one n b = y at *
 generalize Wire.get a = p at *
 generalize Wire.get b = q at *
 have cp := fun W => Wire.right_calls p W
 have cq := fun W => Wire.right_calls q W
 obtain ⟨xk, xi⟩ := x
 obtain ⟨yk, yi⟩ := y
 obtain ⟨pk, pi⟩ := p
 obtain ⟨qk, qi⟩ := q
 simp only at ca cb cp cq
 generalize Fr.right ⟨pk, pi⟩ = pr at *
 generalize Fr.right ⟨qk, qi⟩ = qr at *
 have RA := Lib.hid ra
 have RB := Lib.hid rb
 clear h3 h8 ha hb ra rb
 go_enter Tryz.func102, Tryz.ntmps102
 go_wp2_with fail
 refine (c0 _).mono ?_
 rintro e w1 ⟨rfl, rfl⟩
 go_wp2_with fail
 go_loopw [9, 10, 11, 19] (fun _ _ _ vi wr => ∃ k : Nat, k ≤ 2 ∧ vi = .int .i64 k ∧ Hid (Below w.heap.size w wr) ∧ w.heap.size + 1 < wr.heap.size ∧
   (wr.cell? ⟨w.heap.size, 0, none⟩ = some (.int .i64 0) ∧ wr.cell? ⟨w.heap.size, 1, none⟩ = some (.int .i64 0) ∧ wr.cell? ⟨w.heap.size, 2, none⟩ = some (.int .i64 0) ∧ wr.cell? ⟨w.heap.size, 3, none⟩ = some (.int .i64 0)) ∧
   (wr.frozen? ⟨w.heap.size, 0, none⟩ = false ∧ wr.frozen? ⟨w.heap.size, 1, none⟩ = false ∧ wr.frozen? ⟨w.heap.size, 2, none⟩ = false ∧ wr.frozen? ⟨w.heap.size, 3, none⟩ = false) ∧
   (wr.cell? ⟨w.heap.size + 1, 0, none⟩ = some (.int .i64 (if 1 ≤ k then xk else 0)) ∧ wr.cell? ⟨w.heap.size + 1, 1, none⟩ = some (.int .i64 (if 1 ≤ k then xi else 0)) ∧ wr.cell? ⟨w.heap.size + 1, 2, none⟩ = some (.int .i64 (if 2 ≤ k then yk else 0)) ∧ wr.cell? ⟨w.heap.size + 1, 3, none⟩ = some (.int .i64 (if 2 ≤ k then yi else 0))) ∧
   (wr.frozen? ⟨w.heap.size + 1, 0, none⟩ = false ∧ wr.frozen? ⟨w.heap.size + 1, 1, none⟩ = false ∧ wr.frozen? ⟨w.heap.size + 1, 2, none⟩ = false ∧ wr.frozen? ⟨w.heap.size + 1, 3, none⟩ = false))
  (fun _ _ _ vi _ => 2 - (intOf vi).toNat)
 case atStart =>
  refine ⟨0, by omega, rfl, Lib.hid (Kit.alloc2 ..), by simp, ⟨?_, ?_, ?_, ?_⟩, ⟨?_, ?_, ?_, ?_⟩, ⟨?_, ?_, ?_, ?_⟩, ⟨?_, ?_, ?_, ?_⟩⟩
  all_goals (go_simp; try rfl)
 case round =>
  obtain ⟨k, hk, rfl, HB, hsz, ⟨z0, z1, z2, z3⟩, ⟨y0, y1, y2, y3⟩, ⟨c0, c1, c2, c3⟩, ⟨f0, f1, f2, f3⟩⟩ := hrel
  have hk' : k = 0 ∨ k = 1 ∨ k = 2 := by omega
  rcases hk' with rfl | rfl | rfl
  ·simp only [show ¬ (1 ≤ 0) by omega, show ¬ (2 ≤ 0) by omega, show ¬ (2 ≤ 1) by omega, show (1 ≤ 1) by omega, if_true, if_false] at c0 c1 c2 c3
   rcases RA.out with ⟨hr, hi, he⟩ | ⟨hr, hi, he⟩ | ⟨hr, he⟩
   ·have hk1 := congrArg Fr.k he
    have hk2 := congrArg Fr.i he
    simp only [Fr.none] at hk1 hk2
    subst hr hk1 hk2
    clear he
    have g1 : decide (xi < n) = true := decide_eq_true hi
    clear hi
    go_wp2_with fail
    refine (ca _).mono ?_
    rintro e w1 ⟨rfl, b1⟩
    replace y0 := Kit.free_below b1 z0 y0
    replace y1 := Kit.free_below b1 z1 y1
    replace y2 := Kit.free_below b1 z2 y2
    replace y3 := Kit.free_below b1 z3 y3
    replace f0 := Kit.free_below b1 c0 f0
    replace f1 := Kit.free_below b1 c1 f1
    replace f2 := Kit.free_below b1 c2 f2
    replace f3 := Kit.free_below b1 c3 f3
    replace z0 := Kit.cell_below b1 z0
    replace z1 := Kit.cell_below b1 z1
    replace z2 := Kit.cell_below b1 z2
    replace z3 := Kit.cell_below b1 z3
    replace c0 := Kit.cell_below b1 c0
    replace c1 := Kit.cell_below b1 c1
    replace c2 := Kit.cell_below b1 c2
    replace c3 := Kit.cell_below b1 c3
    have hs1 := Nat.lt_of_lt_of_le hsz b1.size
    have B1 := Lib.hid (Kit.chain HB.out b1)
    clear b1
    go_wp2_with fail
    refine (cp _).mono ?_
    rintro e w2 ⟨rfl, b2⟩
    have m0 := Kit.cell_new b2 0 rfl
    have m1 := Kit.cell_new b2 1 rfl
    replace b2 := Kit.chain (Kit.alloc1 ..) b2
    replace y0 := Kit.free_below b2 z0 y0
    replace y1 := Kit.free_below b2 z1 y1
    replace y2 := Kit.free_below b2 z2 y2
    replace y3 := Kit.free_below b2 z3 y3
    replace f0 := Kit.free_below b2 c0 f0
    replace f1 := Kit.free_below b2 c1 f1
    replace f2 := Kit.free_below b2 c2 f2
    replace f3 := Kit.free_below b2 c3 f3
    replace z0 := Kit.cell_below b2 z0
    replace z1 := Kit.cell_below b2 z1
    replace z2 := Kit.cell_below b2 z2
    replace z3 := Kit.cell_below b2 z3
    replace c0 := Kit.cell_below b2 c0
    replace c1 := Kit.cell_below b2 c1
    replace c2 := Kit.cell_below b2 c2
    replace c3 := Kit.cell_below b2 c3
    have hs2 := Nat.lt_of_lt_of_le hs1 b2.size
    have B2 := Lib.hid (Kit.chain B1.out b2)
    clear b2
    go_wp2_with fail
    have BF := Lib.hid (B2.out)
    go_roundw
    case rel => exact ⟨1, by omega, by go_num, Lib.hid ((B2.out.setCell (by first | omega | simp) _).setCell (by first | omega | simp) _), by first | omega | (simp; omega), ⟨by first | assumption | go_simp, by first | assumption | go_simp, by first | assumption | go_simp, by first | assumption | go_simp⟩, ⟨by first | assumption | go_simp, by first | assumption | go_simp, by first | assumption | go_simp, by first | assumption | go_simp⟩, ⟨by first | assumption | go_simp, by first | assumption | go_simp, by first | assumption | go_simp, by first | assumption | go_simp⟩, ⟨by first | assumption | go_simp, by first | assumption | go_simp, by first | assumption | go_simp, by first | assumption | go_simp⟩⟩
    case measure => simp [intOf]
   ·have hk1 := congrArg Fr.k he
    have hk2 := congrArg Fr.i he
    simp only [Fr.none] at hk1 hk2
    subst hr hk1 hk2
    clear he
    have g1 : decide (pi < n) = false := decide_eq_false (by omega)
    clear hi
    go_wp2_with fail
    refine (ca _).mono ?_
    rintro e w1 ⟨rfl, b1⟩
    replace y0 := Kit.free_below b1 z0 y0
    replace y1 := Kit.free_below b1 z1 y1
    replace y2 := Kit.free_below b1 z2 y2
    replace y3 := Kit.free_below b1 z3 y3
    replace f0 := Kit.free_below b1 c0 f0
    replace f1 := Kit.free_below b1 c1 f1
    replace f2 := Kit.free_below b1 c2 f2
    replace f3 := Kit.free_below b1 c3 f3
    replace z0 := Kit.cell_below b1 z0
    replace z1 := Kit.cell_below b1 z1
    replace z2 := Kit.cell_below b1 z2
    replace z3 := Kit.cell_below b1 z3
    replace c0 := Kit.cell_below b1 c0
    replace c1 := Kit.cell_below b1 c1
    replace c2 := Kit.cell_below b1 c2
    replace c3 := Kit.cell_below b1 c3
    have hs1 := Nat.lt_of_lt_of_le hsz b1.size
    have B1 := Lib.hid (Kit.chain HB.out b1)
    clear b1
    go_wp2_with fail
    refine (cp _).mono ?_
    rintro e w2 ⟨rfl, b2⟩
    have m0 := Kit.cell_new b2 0 rfl
    have m1 := Kit.cell_new b2 1 rfl
    replace b2 := Kit.chain (Kit.alloc1 ..) b2
    replace y0 := Kit.free_below b2 z0 y0
    replace y1 := Kit.free_below b2 z1 y1
    replace y2 := Kit.free_below b2 z2 y2
    replace y3 := Kit.free_below b2 z3 y3
    replace f0 := Kit.free_below b2 c0 f0
    replace f1 := Kit.free_below b2 c1 f1
    replace f2 := Kit.free_below b2 c2 f2
    replace f3 := Kit.free_below b2 c3 f3
    replace z0 := Kit.cell_below b2 z0
    replace z1 := Kit.cell_below b2 z1
    replace z2 := Kit.cell_below b2 z2
    replace z3 := Kit.cell_below b2 z3
    replace c0 := Kit.cell_below b2 c0
    replace c1 := Kit.cell_below b2 c1
    replace c2 := Kit.cell_below b2 c2
    replace c3 := Kit.cell_below b2 c3
    have hs2 := Nat.lt_of_lt_of_le hs1 b2.size
    have B2 := Lib.hid (Kit.chain B1.out b2)
    clear b2
    go_wp2_with fail
    have BF := Lib.hid (B2.out)
    go_roundw
    case rel => exact ⟨1, by omega, by go_num, BF, by first | omega | (simp; omega), ⟨by first | assumption | go_simp, by first | assumption | go_simp, by first | assumption | go_simp, by first | assumption | go_simp⟩, ⟨by first | assumption | go_simp, by first | assumption | go_simp, by first | assumption | go_simp, by first | assumption | go_simp⟩, ⟨by first | assumption | go_simp, by first | assumption | go_simp, by first | assumption | go_simp, by first | assumption | go_simp⟩, ⟨by first | assumption | go_simp, by first | assumption | go_simp, by first | assumption | go_simp, by first | assumption | go_simp⟩⟩
    case measure => simp [intOf]
   ·have hk1 := congrArg Fr.k he
    have hk2 := congrArg Fr.i he
    simp only [Fr.none] at hk1 hk2
    subst hr hk1 hk2
    clear he
    go_wp2_with fail
    refine (ca _).mono ?_
    rintro e w1 ⟨rfl, b1⟩
    replace y0 := Kit.free_below b1 z0 y0
    replace y1 := Kit.free_below b1 z1 y1
    replace y2 := Kit.free_below b1 z2 y2
    replace y3 := Kit.free_below b1 z3 y3
    replace f0 := Kit.free_below b1 c0 f0
    replace f1 := Kit.free_below b1 c1 f1
    replace f2 := Kit.free_below b1 c2 f2
    replace f3 := Kit.free_below b1 c3 f3
    replace z0 := Kit.cell_below b1 z0
    replace z1 := Kit.cell_below b1 z1
    replace z2 := Kit.cell_below b1 z2
    replace z3 := Kit.cell_below b1 z3
    replace c0 := Kit.cell_below b1 c0
    replace c1 := Kit.cell_below b1 c1
    replace c2 := Kit.cell_below b1 c2
    replace c3 := Kit.cell_below b1 c3
    have hs1 := Nat.lt_of_lt_of_le hsz b1.size
    have B1 := Lib.hid (Kit.chain HB.out b1)
    clear b1
    go_wp2_with fail
    refine (cp _).mono ?_
    rintro e w2 ⟨rfl, b2⟩
    have m0 := Kit.cell_new b2 0 rfl
    have m1 := Kit.cell_new b2 1 rfl
    replace b2 := Kit.chain (Kit.alloc1 ..) b2
    replace y0 := Kit.free_below b2 z0 y0
    replace y1 := Kit.free_below b2 z1 y1
    replace y2 := Kit.free_below b2 z2 y2
    replace y3 := Kit.free_below b2 z3 y3
    replace f0 := Kit.free_below b2 c0 f0
    replace f1 := Kit.free_below b2 c1 f1
    replace f2 := Kit.free_below b2 c2 f2
    replace f3 := Kit.free_below b2 c3 f3
    replace z0 := Kit.cell_below b2 z0
    replace z1 := Kit.cell_below b2 z1
    replace z2 := Kit.cell_below b2 z2
    replace z3 := Kit.cell_below b2 z3
    replace c0 := Kit.cell_below b2 c0
    replace c1 := Kit.cell_below b2 c1
    replace c2 := Kit.cell_below b2 c2
    replace c3 := Kit.cell_below b2 c3
    have hs2 := Nat.lt_of_lt_of_le hs1 b2.size
    have B2 := Lib.hid (Kit.chain B1.out b2)
    clear b2
    go_wp2_with fail
    have BF := Lib.hid (B2.out)
    go_roundw
    case rel => exact ⟨1, by omega, by go_num, BF, by first | omega | (simp; omega), ⟨by first | assumption | go_simp, by first | assumption | go_simp, by first | assumption | go_simp, by first | assumption | go_simp⟩, ⟨by first | assumption | go_simp, by first | assumption | go_simp, by first | assumption | go_simp, by first | assumption | go_simp⟩, ⟨by first | assumption | go_simp, by first | assumption | go_simp, by first | assumption | go_simp, by first | assumption | go_simp⟩, ⟨by first | assumption | go_simp, by first | assumption | go_simp, by first | assumption | go_simp, by first | assumption | go_simp⟩⟩
    case measure => simp [intOf]
  ·simp only [show ¬ (1 ≤ 0) by omega, show ¬ (2 ≤ 0) by omega, show ¬ (2 ≤ 1) by omega, show (1 ≤ 1) by omega, if_true, if_false] at c0 c1 c2 c3
   rcases RB.out with ⟨hr, hi, he⟩ | ⟨hr, hi, he⟩ | ⟨hr, he⟩
   ·have hk1 := congrArg Fr.k he
    have hk2 := congrArg Fr.i he
    simp only [Fr.none] at hk1 hk2
    subst hr hk1 hk2
    clear he
    have g1 : decide (yi < n) = true := decide_eq_true hi
    clear hi
    go_wp2_with fail
    refine (cb _).mono ?_
    rintro e w1 ⟨rfl, b1⟩
    replace y0 := Kit.free_below b1 z0 y0
    replace y1 := Kit.free_below b1 z1 y1
    replace y2 := Kit.free_below b1 z2 y2
    replace y3 := Kit.free_below b1 z3 y3
    replace f0 := Kit.free_below b1 c0 f0
    replace f1 := Kit.free_below b1 c1 f1
    replace f2 := Kit.free_below b1 c2 f2
    replace f3 := Kit.free_below b1 c3 f3
    replace z0 := Kit.cell_below b1 z0
    replace z1 := Kit.cell_below b1 z1
    replace z2 := Kit.cell_below b1 z2
    replace z3 := Kit.cell_below b1 z3
    replace c0 := Kit.cell_below b1 c0
    replace c1 := Kit.cell_below b1 c1
    replace c2 := Kit.cell_below b1 c2
    replace c3 := Kit.cell_below b1 c3
    have hs1 := Nat.lt_of_lt_of_le hsz b1.size
    have B1 := Lib.hid (Kit.chain HB.out b1)
    clear b1
    go_wp2_with fail
    refine (cq _).mono ?_
    rintro e w2 ⟨rfl, b2⟩
    have m0 := Kit.cell_new b2 0 rfl
    have m1 := Kit.cell_new b2 1 rfl
    replace b2 := Kit.chain (Kit.alloc1 ..) b2
    replace y0 := Kit.free_below b2 z0 y0
    replace y1 := Kit.free_below b2 z1 y1
    replace y2 := Kit.free_below b2 z2 y2
    replace y3 := Kit.free_below b2 z3 y3
    replace f0 := Kit.free_below b2 c0 f0
    replace f1 := Kit.free_below b2 c1 f1
    replace f2 := Kit.free_below b2 c2 f2
    replace f3 := Kit.free_below b2 c3 f3
    replace z0 := Kit.cell_below b2 z0
    replace z1 := Kit.cell_below b2 z1
    replace z2 := Kit.cell_below b2 z2
    replace z3 := Kit.cell_below b2 z3
    replace c0 := Kit.cell_below b2 c0
    replace c1 := Kit.cell_below b2 c1
    replace c2 := Kit.cell_below b2 c2
    replace c3 := Kit.cell_below b2 c3
    have hs2 := Nat.lt_of_lt_of_le hs1 b2.size
    have B2 := Lib.hid (Kit.chain B1.out b2)
    clear b2
    go_wp2_with fail
    have BF := Lib.hid (B2.out)
    go_roundw
    case rel => exact ⟨2, by omega, by go_num, Lib.hid ((B2.out.setCell (by first | omega | simp) _).setCell (by first | omega | simp) _), by first | omega | (simp; omega), ⟨by first | assumption | go_simp, by first | assumption | go_simp, by first | assumption | go_simp, by first | assumption | go_simp⟩, ⟨by first | assumption | go_simp, by first | assumption | go_simp, by first | assumption | go_simp, by first | assumption | go_simp⟩, ⟨by first | assumption | go_simp, by first | assumption | go_simp, by first | assumption | go_simp, by first | assumption | go_simp⟩, ⟨by first | assumption | go_simp, by first | assumption | go_simp, by first | assumption | go_simp, by first | assumption | go_simp⟩⟩
    case measure => simp [intOf]
   ·have hk1 := congrArg Fr.k he
    have hk2 := congrArg Fr.i he
    simp only [Fr.none] at hk1 hk2
    subst hr hk1 hk2
    clear he
    have g1 : decide (qi < n) = false := decide_eq_false (by omega)
    clear hi
    go_wp2_with fail
    refine (cb _).mono ?_
    rintro e w1 ⟨rfl, b1⟩
    replace y0 := Kit.free_below b1 z0 y0
    replace y1 := Kit.free_below b1 z1 y1
    replace y2 := Kit.free_below b1 z2 y2
    replace y3 := Kit.free_below b1 z3 y3
    replace f0 := Kit.free_below b1 c0 f0
    replace f1 := Kit.free_below b1 c1 f1
    replace f2 := Kit.free_below b1 c2 f2
    replace f3 := Kit.free_below b1 c3 f3
    replace z0 := Kit.cell_below b1 z0
    replace z1 := Kit.cell_below b1 z1
    replace z2 := Kit.cell_below b1 z2
    replace z3 := Kit.cell_below b1 z3
    replace c0 := Kit.cell_below b1 c0
    replace c1 := Kit.cell_below b1 c1
    replace c2 := Kit.cell_below b1 c2
    replace c3 := Kit.cell_below b1 c3
    have hs1 := Nat.lt_of_lt_of_le hsz b1.size
    have B1 := Lib.hid (Kit.chain HB.out b1)
    clear b1
    go_wp2_with fail
    refine (cq _).mono ?_
    rintro e w2 ⟨rfl, b2⟩
    have m0 := Kit.cell_new b2 0 rfl
    have m1 := Kit.cell_new b2 1 rfl
    replace b2 := Kit.chain (Kit.alloc1 ..) b2
    replace y0 := Kit.free_below b2 z0 y0
    replace y1 := Kit.free_below b2 z1 y1
    replace y2 := Kit.free_below b2 z2 y2
    replace y3 := Kit.free_below b2 z3 y3
    replace f0 := Kit.free_below b2 c0 f0
    replace f1 := Kit.free_below b2 c1 f1
    replace f2 := Kit.free_below b2 c2 f2
    replace f3 := Kit.free_below b2 c3 f3
    replace z0 := Kit.cell_below b2 z0
    replace z1 := Kit.cell_below b2 z1
    replace z2 := Kit.cell_below b2 z2
    replace z3 := Kit.cell_below b2 z3
    replace c0 := Kit.cell_below b2 c0
    replace c1 := Kit.cell_below b2 c1
    replace c2 := Kit.cell_below b2 c2
    replace c3 := Kit.cell_below b2 c3
    have hs2 := Nat.lt_of_lt_of_le hs1 b2.size
    have B2 := Lib.hid (Kit.chain B1.out b2)
    clear b2
    go_wp2_with fail
    have BF := Lib.hid (B2.out)
    go_roundw
    case rel => exact ⟨2, by omega, by go_num, BF, by first | omega | (simp; omega), ⟨by first | assumption | go_simp, by first | assumption | go_simp, by first | assumption | go_simp, by first | assumption | go_simp⟩, ⟨by first | assumption | go_simp, by first | assumption | go_simp, by first | assumption | go_simp, by first | assumption | go_simp⟩, ⟨by first | assumption | go_simp, by first | assumption | go_simp, by first | assumption | go_simp, by first | assumption | go_simp⟩, ⟨by first | assumption | go_simp, by first | assumption | go_simp, by first | assumption | go_simp, by first | assumption | go_simp⟩⟩
    case measure => simp [intOf]
   ·have hk1 := congrArg Fr.k he
    have hk2 := congrArg Fr.i he
    simp only [Fr.none] at hk1 hk2
    subst hr hk1 hk2
    clear he
    go_wp2_with fail
    refine (cb _).mono ?_
    rintro e w1 ⟨rfl, b1⟩
    replace y0 := Kit.free_below b1 z0 y0
    replace y1 := Kit.free_below b1 z1 y1
    replace y2 := Kit.free_below b1 z2 y2
    replace y3 := Kit.free_below b1 z3 y3
    replace f0 := Kit.free_below b1 c0 f0
    replace f1 := Kit.free_below b1 c1 f1
    replace f2 := Kit.free_below b1 c2 f2
    replace f3 := Kit.free_below b1 c3 f3
    replace z0 := Kit.cell_below b1 z0
    replace z1 := Kit.cell_below b1 z1
    replace z2 := Kit.cell_below b1 z2
    replace z3 := Kit.cell_below b1 z3
    replace c0 := Kit.cell_below b1 c0
    replace c1 := Kit.cell_below b1 c1
    replace c2 := Kit.cell_below b1 c2
    replace c3 := Kit.cell_below b1 c3
    have hs1 := Nat.lt_of_lt_of_le hsz b1.size
    have B1 := Lib.hid (Kit.chain HB.out b1)
    clear b1
    go_wp2_with fail
    refine (cq _).mono ?_
    rintro e w2 ⟨rfl, b2⟩
    have m0 := Kit.cell_new b2 0 rfl
    have m1 := Kit.cell_new b2 1 rfl
    replace b2 := Kit.chain (Kit.alloc1 ..) b2
    replace y0 := Kit.free_below b2 z0 y0
    replace y1 := Kit.free_below b2 z1 y1
    replace y2 := Kit.free_below b2 z2 y2
    replace y3 := Kit.free_below b2 z3 y3
    replace f0 := Kit.free_below b2 c0 f0
    replace f1 := Kit.free_below b2 c1 f1
    replace f2 := Kit.free_below b2 c2 f2
    replace f3 := Kit.free_below b2 c3 f3
    replace z0 := Kit.cell_below b2 z0
    replace z1 := Kit.cell_below b2 z1
    replace z2 := Kit.cell_below b2 z2
    replace z3 := Kit.cell_below b2 z3
    replace c0 := Kit.cell_below b2 c0
    replace c1 := Kit.cell_below b2 c1
    replace c2 := Kit.cell_below b2 c2
    replace c3 := Kit.cell_below b2 c3
    have hs2 := Nat.lt_of_lt_of_le hs1 b2.size
    have B2 := Lib.hid (Kit.chain B1.out b2)
    clear b2
    go_wp2_with fail
    have BF := Lib.hid (B2.out)
    go_roundw
    case rel => exact ⟨2, by omega, by go_num, BF, by first | omega | (simp; omega), ⟨by first | assumption | go_simp, by first | assumption | go_simp, by first | assumption | go_simp, by first | assumption | go_simp⟩, ⟨by first | assumption | go_simp, by first | assumption | go_simp, by first | assumption | go_simp, by first | assumption | go_simp⟩, ⟨by first | assumption | go_simp, by first | assumption | go_simp, by first | assumption | go_simp, by first | assumption | go_simp⟩, ⟨by first | assumption | go_simp, by first | assumption | go_simp, by first | assumption | go_simp, by first | assumption | go_simp⟩⟩
    case measure => simp [intOf]
  ·simp only [show (1 ≤ 2) by omega, show (2 ≤ 2) by omega, if_true] at c0 c1 c2 c3
   go_wp2_with fail
   refine bodyPost_ret (v := .tuple #[.agg #[.int .i64 xk, .int .i64 xi, .int .i64 yk, .int .i64 yi], .int .i64 0]) (by simp [results, Tryz.results102, go_sem, z0, z1, z2, z3]) rfl ⟨rfl, ?_⟩
   repeat' (first | (with_reducible exact HB.out) | (with_reducible refine Below.setCell ?_ ?_ _) | (with_reducible refine Below.alloc ?_ ?_ _) | (with_reducible refine Below.drew ?_))
   all_goals (first | omega | (simp; done) | (simp; omega))
set_option maxHeartbeats 1000000 in
theorem Hear.of_no (n : Int) (a b : ByteArray) (w : World) (h : ¬ (3 ≤ n ∧ n ≤ 8)) :
  Calls Tryz.prog 102 #[.int .i64 n, .string a, .string b] w fun e w' => e = .returned (.tuple #[.agg #[.int .i64 0, .int .i64 0, .int .i64 0, .int .i64 0], .int .i64 1]) ∧ Below w.heap.size w w' := by
 have c0 := fun W => Port.conf_calls n W
 have hd : (decide (3 ≤ n) && decide (n ≤ 8)) = false := by simp; omega
 rw [hd] at c0
 clear h hd
 go_enter Tryz.func102, Tryz.ntmps102
 go_wp2_with fail
 refine (c0 _).mono ?_
 rintro e w1 ⟨rfl, rfl⟩
 go_wp2_with fail
 refine bodyPost_ret (v := .tuple #[.agg #[.int .i64 0, .int .i64 0, .int .i64 0, .int .i64 0], .int .i64 1]) (by simp [results, Tryz.results102, go_sem]) rfl ⟨rfl, ?_⟩
 exact Kit.alloc2 ..
end Go.Proofs.YtgiojagdmglinaaGreatDoor
namespace Go.Proofs.YtgiojagdmglinaaGreatDoor
open Go.RowKit
namespace Tk
def cells (x : Wd) (ch : Ch) (i0 i1 : Value) (f0 f1 : Fr) : List Value := [.int .i64 x.n, .int .i64 x.tick, .int .i64 x.c, .int .i64 x.v, .slice x.pa x.n x.pc, .slice x.na x.n x.nc, .int .i64 (x.h0.ag 0), .int .i64 (x.h0.ag 1), .int .i64 (x.h0.ag 2), .int .i64 (x.h0.ag 3), .int .i64 (x.h0.ag 4), .int .i64 (x.h0.ag 5), .int .i64 (x.h0.ag 6), .int .i64 (x.h0.ag 7), .int .i64 x.h0.port, .int .i64 x.h0.age, .int .i64 x.h0.hold, .int .i64 x.h0.pos, .int .i64 (x.h1.ag 0), .int .i64 (x.h1.ag 1), .int .i64 (x.h1.ag 2), .int .i64 (x.h1.ag 3), .int .i64 (x.h1.ag 4), .int .i64 (x.h1.ag 5), .int .i64 (x.h1.ag 6), .int .i64 (x.h1.ag 7), .int .i64 x.h1.port, .int .i64 x.h1.age, .int .i64 x.h1.hold, .int .i64 x.h1.pos, .string ch.b0, .string ch.b1, .slice ch.at_ ch.np ch.cap, .int .i64 ch.link, i0, i1, .int .i64 f0.k, .int .i64 f0.i, .int .i64 f1.k, .int .i64 f1.i]
def heard (n : Nat) (c v : Int) (ch : Ch) (h i : Nat) (f : Fr) : Fr := Hear.one n (Flt.out c v ch h i f)
theorem one_empty (n : Nat) : Hear.one n ⟨#[]⟩ = Fr.none := by
 have : Wire.get ⟨#[]⟩ = Fr.none := rfl
 unfold Hear.one
 rw [this]
 rfl
theorem one_put {n : Nat} (h8 : n ≤ 8) {f : Fr} (h : Wm.Sent n f) : Hear.one n (Wire.put f) = f := by
 rcases h with rfl | ⟨p, hp, e⟩
 ·rw [show Wire.put Fr.none = ⟨#[]⟩ by decide +kernel]; exact one_empty n
 ·have hr : f.right = true := by
   rw [Fr.right_iff]
   rcases e with rfl | rfl <;> (simp; omega)
  unfold Hear.one
  rw [Wire.get_put hr, if_pos ⟨hr, by rcases e with rfl | rfl <;> (simp; omega)⟩]
theorem one_noise (n : Nat) : Hear.one n (Wire.put Fr.noise) = Fr.none := by
 have : Wire.get (Wire.put Fr.noise) = Fr.noise := by decide +kernel
 unfold Hear.one
 rw [this]
 rfl
theorem heard_cases {n : Nat} (h8 : n ≤ 8) (c v : Int) (ch : Ch) (h i : Nat) {f : Fr} (hs : Wm.Sent n f) : heard n c v ch h i f = f ∨ (Flt.fhub c v h = true ∧ heard n c v ch h i f = Fr.none) := by
 unfold heard Flt.out
 split
 ·rename_i hh
  split
  ·exact Or.inr ⟨hh.1, one_empty n⟩
  ·split
   ·exact Or.inr ⟨hh.1, one_noise n⟩
   ·exact Or.inl (one_put h8 hs)
 ·exact Or.inl (one_put h8 hs)
theorem heard_sent {n : Nat} (h8 : n ≤ 8) (c v : Int) (ch : Ch) (h i : Nat) {f : Fr} (hs : Wm.Sent n f) : Wm.Sent n (heard n c v ch h i f) := by
 rcases heard_cases h8 c v ch h i hs with e | ⟨_, e⟩ <;> rw [e]
 ·exact hs
 ·exact Wm.sent_none n
theorem out_size {n : Nat} (h8 : n ≤ 8) (c v : Int) (ch : Ch) (h i : Nat) {f : Fr} (hs : Wm.Sent n f) : (Flt.out c v ch h i f).size ≤ 7 := by
 have hp : (Wire.put f).size ≤ 7 := by
  rcases hs with rfl | ⟨p, hp, e⟩
  ·decide
  ·have hr : f.right = true := by
    rw [Fr.right_iff]
    rcases e with rfl | rfl <;> (simp; omega)
   rw [Wire.put_size hr]
   exact Nat.le_refl _
 have hz : (Wire.put Fr.noise).size ≤ 7 := by decide
 unfold Flt.out
 split
 ·split
  ·decide
  ·split
   ·exact hz
   ·exact hp
 ·exact hp
set_option maxHeartbeats 1000000 in
theorem sent0_calls (B i : Nat) (x : Wd) (ch : Ch) (i0 i1 : Value) (f0 f1 : Fr) (w : World) (R : Kit.Row w B (cells x ch i0 i1 f0 f1)) (hc : ch.There w) :
  Calls Tryz.prog 103 #[.pointer (some ⟨B, 0, none⟩), .int .i64 0, .int .i64 i] w fun e w' => e = .returned (.string (Flt.out x.c x.v ch 0 i f0)) ∧ Below w.heap.size w w' := by
 have ko := fun W (hW : Below w.heap.size w W) => Flt.out_calls x.c x.v ch 0 i f0 W (hc.below hW)
 have KO := Lib.hid ko
 have hb0 := Lib.hid (Below.refl w.heap.size w).drew
 have c2 := R.at_ 2 (.int .i64 x.c) rfl
 have c3 := R.at_ 3 (.int .i64 x.v) rfl
 have c30 := R.at_ 30 (.string ch.b0) rfl
 have c31 := R.at_ 31 (.string ch.b1) rfl
 have c32 := R.at_ 32 (.slice ch.at_ ch.np ch.cap) rfl
 have c33 := R.at_ 33 (.int .i64 ch.link) rfl
 have c36 := R.at_ 36 (.int .i64 f0.k) rfl
 have c37 := R.at_ 37 (.int .i64 f0.i) rfl
 clear R hc ko
 go_enter Tryz.func103, Tryz.ntmps103
 go_wp2_with fail
 go_region_held3 (fun w' => w'.cell? ⟨B, 2, none⟩ = some (.int .i64 x.c) ∧ w'.cell? ⟨B, 3, none⟩ = some (.int .i64 x.v) ∧ w'.cell? ⟨B, 30, none⟩ = some (.string ch.b0) ∧ w'.cell? ⟨B, 31, none⟩ = some (.string ch.b1) ∧ w'.cell? ⟨B, 32, none⟩ = some (.slice ch.at_ ch.np ch.cap) ∧ w'.cell? ⟨B, 33, none⟩ = some (.int .i64 ch.link) ∧ w'.cell? ⟨B, 36, none⟩ = some (.int .i64 f0.k) ∧ w'.cell? ⟨B, 37, none⟩ = some (.int .i64 f0.i)) (go_keep) ((go_at_call 119; refine (KO.out _ hb0.out).mono ?_; rintro e w8 ⟨rfl, b8⟩; replace c2 := Kit.cell_below b8 c2; replace c3 := Kit.cell_below b8 c3; replace c30 := Kit.cell_below b8 c30; replace c31 := Kit.cell_below b8 c31; replace c32 := Kit.cell_below b8 c32; replace c33 := Kit.cell_below b8 c33; replace c36 := Kit.cell_below b8 c36; replace c37 := Kit.cell_below b8 c37; have HB := Lib.hid (hb0.out.trans (b8.mono hb0.out.size)); clear b8))
 go_wp2_with fail
 go_ret
 exact ⟨rfl, HB.out⟩
set_option maxHeartbeats 1000000 in
theorem sent1_calls (B i : Nat) (x : Wd) (ch : Ch) (i0 i1 : Value) (f0 f1 : Fr) (w : World) (R : Kit.Row w B (cells x ch i0 i1 f0 f1)) (hc : ch.There w) :
  Calls Tryz.prog 103 #[.pointer (some ⟨B, 0, none⟩), .int .i64 1, .int .i64 i] w fun e w' => e = .returned (.string (Flt.out x.c x.v ch 1 i f1)) ∧ Below w.heap.size w w' := by
 have ko := fun W (hW : Below w.heap.size w W) => Flt.out_calls x.c x.v ch 1 i f1 W (hc.below hW)
 have KO := Lib.hid ko
 have hb0 := Lib.hid (Below.refl w.heap.size w).drew
 have c2 := R.at_ 2 (.int .i64 x.c) rfl
 have c3 := R.at_ 3 (.int .i64 x.v) rfl
 have c30 := R.at_ 30 (.string ch.b0) rfl
 have c31 := R.at_ 31 (.string ch.b1) rfl
 have c32 := R.at_ 32 (.slice ch.at_ ch.np ch.cap) rfl
 have c33 := R.at_ 33 (.int .i64 ch.link) rfl
 have c38 := R.at_ 38 (.int .i64 f1.k) rfl
 have c39 := R.at_ 39 (.int .i64 f1.i) rfl
 clear R hc ko
 go_enter Tryz.func103, Tryz.ntmps103
 go_wp2_with fail
 go_region_held3 (fun w' => w'.cell? ⟨B, 2, none⟩ = some (.int .i64 x.c) ∧ w'.cell? ⟨B, 3, none⟩ = some (.int .i64 x.v) ∧ w'.cell? ⟨B, 30, none⟩ = some (.string ch.b0) ∧ w'.cell? ⟨B, 31, none⟩ = some (.string ch.b1) ∧ w'.cell? ⟨B, 32, none⟩ = some (.slice ch.at_ ch.np ch.cap) ∧ w'.cell? ⟨B, 33, none⟩ = some (.int .i64 ch.link) ∧ w'.cell? ⟨B, 38, none⟩ = some (.int .i64 f1.k) ∧ w'.cell? ⟨B, 39, none⟩ = some (.int .i64 f1.i)) (go_keep) ((go_at_call 119; refine (KO.out _ hb0.out).mono ?_; rintro e w8 ⟨rfl, b8⟩; replace c2 := Kit.cell_below b8 c2; replace c3 := Kit.cell_below b8 c3; replace c30 := Kit.cell_below b8 c30; replace c31 := Kit.cell_below b8 c31; replace c32 := Kit.cell_below b8 c32; replace c33 := Kit.cell_below b8 c33; replace c38 := Kit.cell_below b8 c38; replace c39 := Kit.cell_below b8 c39; have HB := Lib.hid (hb0.out.trans (b8.mono hb0.out.size)); clear b8))
 go_wp2_with fail
 go_ret
 exact ⟨rfl, HB.out⟩
end Tk
end Go.Proofs.YtgiojagdmglinaaGreatDoor
namespace Go.Proofs.YtgiojagdmglinaaGreatDoor
namespace Vote
def to (n : Nat) (h : Hb) (p v : Nat) : Nat := ((List.range p).filter fun q => Wm.says n h v q || Wm.asks n h v q).length
def row (n : Nat) (h : Hb) (p : Nat) : List Int := (List.range n).map fun v => (to n h p v : Int)
theorem row_len (n : Nat) (h : Hb) (p : Nat) : (row n h p).length = n := by simp [row]
theorem to_le (n : Nat) (h : Hb) (p v : Nat) : to n h p v ≤ p := by
 have := List.length_filter_le (fun q => Wm.says n h v q || Wm.asks n h v q) (List.range p)
 simpa [to] using this
theorem row_at (n : Nat) (h : Hb) (p v : Nat) (hv : v < n) : (row n h p).getD v 0 = (to n h p v : Int) := by
 unfold row
 rw [List.getD_eq_getElem?_getD, List.getElem?_map, List.getElem?_range hv]
 rfl
theorem row_zero (n : Nat) (h : Hb) : row n h 0 = List.replicate n 0 := by
 unfold row to
 rw [List.eq_replicate_iff]
 simp
theorem to_succ (n : Nat) (h : Hb) (p v : Nat) : to n h (p + 1) v = to n h p v + if (Wm.says n h v p || Wm.asks n h v p) = true then 1 else 0 := by
 unfold to
 rw [List.range_succ, List.filter_append, List.length_append]
 congr 1
 by_cases c : (Wm.says n h v p || Wm.asks n h v p) = true
 ·rw [if_pos c, List.filter_cons_of_pos (p := fun q => Wm.says n h v q || Wm.asks n h v q) c]; rfl
 ·rw [if_neg c, List.filter_cons_of_neg (p := fun q => Wm.says n h v q || Wm.asks n h v q) c]; rfl
theorem row_ext {n : Nat} {L : List Int} {h : Hb} {p : Nat} (hL : L.length = n) (h1 : ∀ v, v < n → L.getD v 0 = (to n h p v : Int)) : L = row n h p := by
 apply List.ext_getElem?
 intro v
 by_cases hv : v < n
 ·have a := h1 v hv
  rw [← row_at n h p v hv] at a
  rw [List.getD_eq_getElem?_getD, List.getD_eq_getElem?_getD] at a
  rw [List.getElem?_eq_getElem (by omega), List.getElem?_eq_getElem (by rw [row_len]; omega)] at a ⊢
  simpa using a
 ·rw [List.getElem?_eq_none (by omega), List.getElem?_eq_none (by rw [row_len]; omega)]
def bump (L : List Int) (s : Nat) : List Int := L.set s (L.getD s 0 + 1)
theorem bump_len (L : List Int) (s : Nat) : (bump L s).length = L.length := by simp [bump]
theorem bump_at (L : List Int) (s v : Nat) (hs : s < L.length) : (bump L s).getD v 0 = if v = s then L.getD v 0 + 1 else L.getD v 0 := by
 unfold bump
 by_cases e : v = s
 ·subst e
  rw [if_pos rfl, List.getD_eq_getElem?_getD, List.getElem?_set_self hs]; rfl
 ·rw [if_neg e, List.getD_eq_getElem?_getD, List.getElem?_set_ne (fun h => e h.symm), List.getD_eq_getElem?_getD]
section
variable {n : Nat} {h : Hb} {p s u : Nat}
theorem says_iff (hA : h.ag p < n) (hs : ((p : Int) + h.ag p) % n = s) (v : Nat) : Wm.says n h v p = decide (v = s) := by
 unfold Wm.says
 rw [decide_eq_true hA, hs, Bool.true_and]
 by_cases e : v = s
 ·subst e; simp
 ·simp [e]; omega
theorem says_no (hA : ¬ h.ag p < n) (v : Nat) : Wm.says n h v p = false := by unfold Wm.says; rw [decide_eq_false hA]; rfl
theorem asks_iff (hp : h.port = p) (hB : h.age < 2 * n) (hu : ((p : Int) + h.age) % n = u) (v : Nat) : Wm.asks n h v p = decide (v = u) := by
 unfold Wm.asks
 rw [decide_eq_true hB, hu, hp]
 by_cases e : v = u
 ·subst e; simp
 ·simp [e]; omega
theorem asks_no (hB : ¬ (h.port = p ∧ h.age < 2 * n)) (v : Nat) : Wm.asks n h v p = false := by
 unfold Wm.asks
 by_cases e : h.port = p
 ·rw [decide_eq_false (fun c => hB ⟨e, c⟩)]; simp
 ·simp [e]
theorem row_none (hA : ¬ h.ag p < n) (hB : ¬ (h.port = p ∧ h.age < 2 * n)) : row n h p = row n h (p + 1) :=
 row_ext (row_len n h p) fun v hv => by rw [row_at n h p v hv, to_succ, says_no hA, asks_no hB]; simp
theorem row_says (hA : h.ag p < n) (hs : ((p : Int) + h.ag p) % n = s) (hsn : s < n) (hB : ¬ (h.port = p ∧ h.age < 2 * n)) : bump (row n h p) s = row n h (p + 1) :=
 row_ext (by rw [bump_len, row_len]) fun v hv => by
  rw [bump_at _ _ _ (by rw [row_len]; exact hsn), row_at n h p v hv, to_succ, says_iff hA hs, asks_no hB]
  by_cases e : v = s <;> simp [e]
theorem row_asks (hA : ¬ h.ag p < n) (hp : h.port = p) (hB : h.age < 2 * n) (hu : ((p : Int) + h.age) % n = u) (hun : u < n) : bump (row n h p) u = row n h (p + 1) :=
 row_ext (by rw [bump_len, row_len]) fun v hv => by
  rw [bump_at _ _ _ (by rw [row_len]; exact hun), row_at n h p v hv, to_succ, says_no hA, asks_iff hp hB hu]
  by_cases e : v = u <;> simp [e]
theorem row_same (hA : h.ag p < n) (hs : ((p : Int) + h.ag p) % n = s) (hsn : s < n) (hp : h.port = p) (hB : h.age < 2 * n) (hu : ((p : Int) + h.age) % n = s) : bump (row n h p) s = row n h (p + 1) :=
 row_ext (by rw [bump_len, row_len]) fun v hv => by
  rw [bump_at _ _ _ (by rw [row_len]; exact hsn), row_at n h p v hv, to_succ, says_iff hA hs, asks_iff hp hB hu]
  by_cases e : v = s <;> simp [e]
theorem row_two (hA : h.ag p < n) (hs : ((p : Int) + h.ag p) % n = s) (hsn : s < n) (hp : h.port = p) (hB : h.age < 2 * n) (hu : ((p : Int) + h.age) % n = u) (hun : u < n) (hne : u ≠ s) : bump (bump (row n h p) s) u = row n h (p + 1) :=
 row_ext (by rw [bump_len, bump_len, row_len]) fun v hv => by
  rw [bump_at _ _ _ (by rw [bump_len, row_len]; exact hun), bump_at _ _ _ (by rw [row_len]; exact hsn), row_at n h p v hv, to_succ, says_iff hA hs, asks_iff hp hB hu]
  by_cases e : v = u
  ·subst e; simp [hne]
  ·by_cases e2 : v = s <;> simp [e, e2]
   intro e3; exact absurd e3.symm hne
end
theorem nums_at (h : Hb) (p : Nat) (hp : p < 8) : (ints (Wm.nums h))[p]? = some (.int .i64 (h.ag p)) := by
 match p, hp with
 | 0, _ => rfl
 | 1, _ => rfl
 | 2, _ => rfl
 | 3, _ => rfl
 | 4, _ => rfl
 | 5, _ => rfl
 | 6, _ => rfl
 | 7, _ => rfl
end Vote
end Go.Proofs.YtgiojagdmglinaaGreatDoor
