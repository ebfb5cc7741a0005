/-
  The walk of hear.Of.
-/
import Derived.Test.YtpbkoooljelhjaaHear2
namespace Go.Proofs.Ytpbkoooljelhjaa
set_option linter.unusedVariables false
set_option linter.unusedSimpArgs false
open Go.RowKit

theorem Hear.one_cases (n : Int) (s : ByteArray) : ((Wire.get s).right = true ∧ (Wire.get s).i < n ∧ Hear.one n s = Wire.get s) ∨ ((Wire.get s).right = true ∧ n ≤ (Wire.get s).i ∧ Hear.one n s = Fr.none) ∨ ((Wire.get s).right = false ∧ Hear.one n s = Fr.none) := by
  unfold Hear.one
  cases h : (Wire.get s).right with
  | true =>
    by_cases c : (Wire.get s).i < n
    · exact Or.inl ⟨rfl, c, if_pos ⟨rfl, c⟩⟩
    · exact Or.inr (Or.inl ⟨rfl, by omega, if_neg (fun e => c e.2)⟩)
  | false => exact Or.inr (Or.inr ⟨rfl, if_neg (by simp)⟩)
theorem Hear.at0 (a b : ByteArray) (w : World) : (Instr.index 115 (.agg #[.string a, .string b]) (.int .i64 0)).run Try.prog w = .ok (.string a) w := by kernel_rfl
theorem Hear.at1 (a b : ByteArray) (w : World) : (Instr.index 115 (.agg #[.string a, .string b]) (.int .i64 1)).run Try.prog w = .ok (.string b) w := by kernel_rfl

set_option maxHeartbeats 4000000 in
set_option maxRecDepth 100000 in
/-- hear.Of, of a number of nodes. -/
theorem Hear.of_calls (n : Int) (a b : ByteArray) (w : World) (h3 : 3 ≤ n) (h8 : n ≤ 8) (ha : a.size ≤ 9223372036854775807) (hb : b.size ≤ 9223372036854775807) :
    Calls Try.prog 66 #[.int .i64 n, .string a, .string b] w fun e w' => e = .returned (.tuple #[.agg #[.int .i64 (Hear.one n a).k, .int .i64 (Hear.one n a).i, .int .i64 (Hear.one n b).k, .int .i64 (Hear.one n b).i], .int .i64 0]) ∧ Below w.heap.size w w' := by
  have c0 := fun W => Port.conf_calls n W
  rw [decide_eq_true h3, decide_eq_true h8] at c0
  have ca := fun W => Wire.get_calls a W ha
  have cb := fun W => Wire.get_calls b W hb
  have i0 := Hear.at0 a b
  have i1 := Hear.at1 a b
  have ra := Hear.one_cases n a
  have rb := Hear.one_cases n b
  generalize Hear.one n a = x at *
  generalize Hear.one n b = y at *
  generalize Wire.get a = p at *
  generalize Wire.get b = q at *
  have cp := fun W => Wire.right_calls p W
  have cq := fun W => Wire.right_calls q W
  obtain ⟨xk, xi⟩ := x
  obtain ⟨yk, yi⟩ := y
  obtain ⟨pk, pi⟩ := p
  obtain ⟨qk, qi⟩ := q
  simp only at ca cb cp cq
  generalize Fr.right ⟨pk, pi⟩ = pr at *
  generalize Fr.right ⟨qk, qi⟩ = qr at *
  have RA := Lib.hid ra
  have RB := Lib.hid rb
  clear h3 h8 ha hb ra rb
  go_enter Try.func66, Try.ntmps66
  go_wp2_with fail
  refine (c0 _).mono ?_
  rintro e w1 ⟨rfl, rfl⟩
  go_wp2_with fail
  go_loopw [9, 10, 11, 19] (fun _ _ _ vi wr => ∃ k : Nat, k ≤ 2 ∧ vi = .int .i64 k ∧ Hid (Below w.heap.size w wr) ∧ w.heap.size + 1 < wr.heap.size ∧
      (wr.cell? ⟨w.heap.size, 0, none⟩ = some (.int .i64 0) ∧ wr.cell? ⟨w.heap.size, 1, none⟩ = some (.int .i64 0) ∧ wr.cell? ⟨w.heap.size, 2, none⟩ = some (.int .i64 0) ∧ wr.cell? ⟨w.heap.size, 3, none⟩ = some (.int .i64 0)) ∧
      (wr.frozen? ⟨w.heap.size, 0, none⟩ = false ∧ wr.frozen? ⟨w.heap.size, 1, none⟩ = false ∧ wr.frozen? ⟨w.heap.size, 2, none⟩ = false ∧ wr.frozen? ⟨w.heap.size, 3, none⟩ = false) ∧
      (wr.cell? ⟨w.heap.size + 1, 0, none⟩ = some (.int .i64 (if 1 ≤ k then xk else 0)) ∧ wr.cell? ⟨w.heap.size + 1, 1, none⟩ = some (.int .i64 (if 1 ≤ k then xi else 0)) ∧ wr.cell? ⟨w.heap.size + 1, 2, none⟩ = some (.int .i64 (if 2 ≤ k then yk else 0)) ∧ wr.cell? ⟨w.heap.size + 1, 3, none⟩ = some (.int .i64 (if 2 ≤ k then yi else 0))) ∧
      (wr.frozen? ⟨w.heap.size + 1, 0, none⟩ = false ∧ wr.frozen? ⟨w.heap.size + 1, 1, none⟩ = false ∧ wr.frozen? ⟨w.heap.size + 1, 2, none⟩ = false ∧ wr.frozen? ⟨w.heap.size + 1, 3, none⟩ = false))
    (fun _ _ _ vi _ => 2 - (intOf vi).toNat)
  case atStart =>
    refine ⟨0, by omega, rfl, Lib.hid (Kit.alloc2 ..), by simp, ⟨?_, ?_, ?_, ?_⟩, ⟨?_, ?_, ?_, ?_⟩, ⟨?_, ?_, ?_, ?_⟩, ⟨?_, ?_, ?_, ?_⟩⟩
    all_goals (go_simp; try rfl)
  case round =>
    obtain ⟨k, hk, rfl, HB, hsz, ⟨z0, z1, z2, z3⟩, ⟨y0, y1, y2, y3⟩, ⟨c0, c1, c2, c3⟩, ⟨f0, f1, f2, f3⟩⟩ := hrel
    have hk' : k = 0 ∨ k = 1 ∨ k = 2 := by omega
    rcases hk' with rfl | rfl | rfl
    · simp only [show ¬ (1 ≤ 0) by omega, show ¬ (2 ≤ 0) by omega, show ¬ (2 ≤ 1) by omega, show (1 ≤ 1) by omega, if_true, if_false] at c0 c1 c2 c3
      rcases RA.out with ⟨hr, hi, he⟩ | ⟨hr, hi, he⟩ | ⟨hr, he⟩
      · have hk1 := congrArg Fr.k he
        have hk2 := congrArg Fr.i he
        simp only [Fr.none] at hk1 hk2
        subst hr hk1 hk2
        clear he
        have g1 : decide (xi < n) = true := decide_eq_true hi
        clear hi
        go_wp2_with fail
        refine (ca _).mono ?_
        rintro e w1 ⟨rfl, b1⟩
        replace y0 := Kit.free_below b1 z0 y0
        replace y1 := Kit.free_below b1 z1 y1
        replace y2 := Kit.free_below b1 z2 y2
        replace y3 := Kit.free_below b1 z3 y3
        replace f0 := Kit.free_below b1 c0 f0
        replace f1 := Kit.free_below b1 c1 f1
        replace f2 := Kit.free_below b1 c2 f2
        replace f3 := Kit.free_below b1 c3 f3
        replace z0 := Kit.cell_below b1 z0
        replace z1 := Kit.cell_below b1 z1
        replace z2 := Kit.cell_below b1 z2
        replace z3 := Kit.cell_below b1 z3
        replace c0 := Kit.cell_below b1 c0
        replace c1 := Kit.cell_below b1 c1
        replace c2 := Kit.cell_below b1 c2
        replace c3 := Kit.cell_below b1 c3
        have hs1 := Nat.lt_of_lt_of_le hsz b1.size
        have B1 := Lib.hid (Kit.chain HB.out b1)
        clear b1
        go_wp2_with fail
        refine (cp _).mono ?_
        rintro e w2 ⟨rfl, b2⟩
        have m0 := Kit.cell_new b2 0 rfl
        have m1 := Kit.cell_new b2 1 rfl
        replace b2 := Kit.chain (Kit.alloc1 ..) b2
        replace y0 := Kit.free_below b2 z0 y0
        replace y1 := Kit.free_below b2 z1 y1
        replace y2 := Kit.free_below b2 z2 y2
        replace y3 := Kit.free_below b2 z3 y3
        replace f0 := Kit.free_below b2 c0 f0
        replace f1 := Kit.free_below b2 c1 f1
        replace f2 := Kit.free_below b2 c2 f2
        replace f3 := Kit.free_below b2 c3 f3
        replace z0 := Kit.cell_below b2 z0
        replace z1 := Kit.cell_below b2 z1
        replace z2 := Kit.cell_below b2 z2
        replace z3 := Kit.cell_below b2 z3
        replace c0 := Kit.cell_below b2 c0
        replace c1 := Kit.cell_below b2 c1
        replace c2 := Kit.cell_below b2 c2
        replace c3 := Kit.cell_below b2 c3
        have hs2 := Nat.lt_of_lt_of_le hs1 b2.size
        have B2 := Lib.hid (Kit.chain B1.out b2)
        clear b2
        go_wp2_with fail
        have BF := Lib.hid (B2.out)
        go_roundw
        case rel => exact ⟨1, by omega, by go_num, Lib.hid ((B2.out.setCell (by first | omega | simp) _).setCell (by first | omega | simp) _), by first | omega | (simp; omega), ⟨by first | assumption | go_simp, by first | assumption | go_simp, by first | assumption | go_simp, by first | assumption | go_simp⟩, ⟨by first | assumption | go_simp, by first | assumption | go_simp, by first | assumption | go_simp, by first | assumption | go_simp⟩, ⟨by first | assumption | go_simp, by first | assumption | go_simp, by first | assumption | go_simp, by first | assumption | go_simp⟩, ⟨by first | assumption | go_simp, by first | assumption | go_simp, by first | assumption | go_simp, by first | assumption | go_simp⟩⟩
        case measure => simp [intOf]
      · have hk1 := congrArg Fr.k he
        have hk2 := congrArg Fr.i he
        simp only [Fr.none] at hk1 hk2
        subst hr hk1 hk2
        clear he
        have g1 : decide (pi < n) = false := decide_eq_false (by omega)
        clear hi
        go_wp2_with fail
        refine (ca _).mono ?_
        rintro e w1 ⟨rfl, b1⟩
        replace y0 := Kit.free_below b1 z0 y0
        replace y1 := Kit.free_below b1 z1 y1
        replace y2 := Kit.free_below b1 z2 y2
        replace y3 := Kit.free_below b1 z3 y3
        replace f0 := Kit.free_below b1 c0 f0
        replace f1 := Kit.free_below b1 c1 f1
        replace f2 := Kit.free_below b1 c2 f2
        replace f3 := Kit.free_below b1 c3 f3
        replace z0 := Kit.cell_below b1 z0
        replace z1 := Kit.cell_below b1 z1
        replace z2 := Kit.cell_below b1 z2
        replace z3 := Kit.cell_below b1 z3
        replace c0 := Kit.cell_below b1 c0
        replace c1 := Kit.cell_below b1 c1
        replace c2 := Kit.cell_below b1 c2
        replace c3 := Kit.cell_below b1 c3
        have hs1 := Nat.lt_of_lt_of_le hsz b1.size
        have B1 := Lib.hid (Kit.chain HB.out b1)
        clear b1
        go_wp2_with fail
        refine (cp _).mono ?_
        rintro e w2 ⟨rfl, b2⟩
        have m0 := Kit.cell_new b2 0 rfl
        have m1 := Kit.cell_new b2 1 rfl
        replace b2 := Kit.chain (Kit.alloc1 ..) b2
        replace y0 := Kit.free_below b2 z0 y0
        replace y1 := Kit.free_below b2 z1 y1
        replace y2 := Kit.free_below b2 z2 y2
        replace y3 := Kit.free_below b2 z3 y3
        replace f0 := Kit.free_below b2 c0 f0
        replace f1 := Kit.free_below b2 c1 f1
        replace f2 := Kit.free_below b2 c2 f2
        replace f3 := Kit.free_below b2 c3 f3
        replace z0 := Kit.cell_below b2 z0
        replace z1 := Kit.cell_below b2 z1
        replace z2 := Kit.cell_below b2 z2
        replace z3 := Kit.cell_below b2 z3
        replace c0 := Kit.cell_below b2 c0
        replace c1 := Kit.cell_below b2 c1
        replace c2 := Kit.cell_below b2 c2
        replace c3 := Kit.cell_below b2 c3
        have hs2 := Nat.lt_of_lt_of_le hs1 b2.size
        have B2 := Lib.hid (Kit.chain B1.out b2)
        clear b2
        go_wp2_with fail
        have BF := Lib.hid (B2.out)
        go_roundw
        case rel => exact ⟨1, by omega, by go_num, BF, by first | omega | (simp; omega), ⟨by first | assumption | go_simp, by first | assumption | go_simp, by first | assumption | go_simp, by first | assumption | go_simp⟩, ⟨by first | assumption | go_simp, by first | assumption | go_simp, by first | assumption | go_simp, by first | assumption | go_simp⟩, ⟨by first | assumption | go_simp, by first | assumption | go_simp, by first | assumption | go_simp, by first | assumption | go_simp⟩, ⟨by first | assumption | go_simp, by first | assumption | go_simp, by first | assumption | go_simp, by first | assumption | go_simp⟩⟩
        case measure => simp [intOf]
      · have hk1 := congrArg Fr.k he
        have hk2 := congrArg Fr.i he
        simp only [Fr.none] at hk1 hk2
        subst hr hk1 hk2
        clear he
        go_wp2_with fail
        refine (ca _).mono ?_
        rintro e w1 ⟨rfl, b1⟩
        replace y0 := Kit.free_below b1 z0 y0
        replace y1 := Kit.free_below b1 z1 y1
        replace y2 := Kit.free_below b1 z2 y2
        replace y3 := Kit.free_below b1 z3 y3
        replace f0 := Kit.free_below b1 c0 f0
        replace f1 := Kit.free_below b1 c1 f1
        replace f2 := Kit.free_below b1 c2 f2
        replace f3 := Kit.free_below b1 c3 f3
        replace z0 := Kit.cell_below b1 z0
        replace z1 := Kit.cell_below b1 z1
        replace z2 := Kit.cell_below b1 z2
        replace z3 := Kit.cell_below b1 z3
        replace c0 := Kit.cell_below b1 c0
        replace c1 := Kit.cell_below b1 c1
        replace c2 := Kit.cell_below b1 c2
        replace c3 := Kit.cell_below b1 c3
        have hs1 := Nat.lt_of_lt_of_le hsz b1.size
        have B1 := Lib.hid (Kit.chain HB.out b1)
        clear b1
        go_wp2_with fail
        refine (cp _).mono ?_
        rintro e w2 ⟨rfl, b2⟩
        have m0 := Kit.cell_new b2 0 rfl
        have m1 := Kit.cell_new b2 1 rfl
        replace b2 := Kit.chain (Kit.alloc1 ..) b2
        replace y0 := Kit.free_below b2 z0 y0
        replace y1 := Kit.free_below b2 z1 y1
        replace y2 := Kit.free_below b2 z2 y2
        replace y3 := Kit.free_below b2 z3 y3
        replace f0 := Kit.free_below b2 c0 f0
        replace f1 := Kit.free_below b2 c1 f1
        replace f2 := Kit.free_below b2 c2 f2
        replace f3 := Kit.free_below b2 c3 f3
        replace z0 := Kit.cell_below b2 z0
        replace z1 := Kit.cell_below b2 z1
        replace z2 := Kit.cell_below b2 z2
        replace z3 := Kit.cell_below b2 z3
        replace c0 := Kit.cell_below b2 c0
        replace c1 := Kit.cell_below b2 c1
        replace c2 := Kit.cell_below b2 c2
        replace c3 := Kit.cell_below b2 c3
        have hs2 := Nat.lt_of_lt_of_le hs1 b2.size
        have B2 := Lib.hid (Kit.chain B1.out b2)
        clear b2
        go_wp2_with fail
        have BF := Lib.hid (B2.out)
        go_roundw
        case rel => exact ⟨1, by omega, by go_num, BF, by first | omega | (simp; omega), ⟨by first | assumption | go_simp, by first | assumption | go_simp, by first | assumption | go_simp, by first | assumption | go_simp⟩, ⟨by first | assumption | go_simp, by first | assumption | go_simp, by first | assumption | go_simp, by first | assumption | go_simp⟩, ⟨by first | assumption | go_simp, by first | assumption | go_simp, by first | assumption | go_simp, by first | assumption | go_simp⟩, ⟨by first | assumption | go_simp, by first | assumption | go_simp, by first | assumption | go_simp, by first | assumption | go_simp⟩⟩
        case measure => simp [intOf]
    · simp only [show ¬ (1 ≤ 0) by omega, show ¬ (2 ≤ 0) by omega, show ¬ (2 ≤ 1) by omega, show (1 ≤ 1) by omega, if_true, if_false] at c0 c1 c2 c3
      rcases RB.out with ⟨hr, hi, he⟩ | ⟨hr, hi, he⟩ | ⟨hr, he⟩
      · have hk1 := congrArg Fr.k he
        have hk2 := congrArg Fr.i he
        simp only [Fr.none] at hk1 hk2
        subst hr hk1 hk2
        clear he
        have g1 : decide (yi < n) = true := decide_eq_true hi
        clear hi
        go_wp2_with fail
        refine (cb _).mono ?_
        rintro e w1 ⟨rfl, b1⟩
        replace y0 := Kit.free_below b1 z0 y0
        replace y1 := Kit.free_below b1 z1 y1
        replace y2 := Kit.free_below b1 z2 y2
        replace y3 := Kit.free_below b1 z3 y3
        replace f0 := Kit.free_below b1 c0 f0
        replace f1 := Kit.free_below b1 c1 f1
        replace f2 := Kit.free_below b1 c2 f2
        replace f3 := Kit.free_below b1 c3 f3
        replace z0 := Kit.cell_below b1 z0
        replace z1 := Kit.cell_below b1 z1
        replace z2 := Kit.cell_below b1 z2
        replace z3 := Kit.cell_below b1 z3
        replace c0 := Kit.cell_below b1 c0
        replace c1 := Kit.cell_below b1 c1
        replace c2 := Kit.cell_below b1 c2
        replace c3 := Kit.cell_below b1 c3
        have hs1 := Nat.lt_of_lt_of_le hsz b1.size
        have B1 := Lib.hid (Kit.chain HB.out b1)
        clear b1
        go_wp2_with fail
        refine (cq _).mono ?_
        rintro e w2 ⟨rfl, b2⟩
        have m0 := Kit.cell_new b2 0 rfl
        have m1 := Kit.cell_new b2 1 rfl
        replace b2 := Kit.chain (Kit.alloc1 ..) b2
        replace y0 := Kit.free_below b2 z0 y0
        replace y1 := Kit.free_below b2 z1 y1
        replace y2 := Kit.free_below b2 z2 y2
        replace y3 := Kit.free_below b2 z3 y3
        replace f0 := Kit.free_below b2 c0 f0
        replace f1 := Kit.free_below b2 c1 f1
        replace f2 := Kit.free_below b2 c2 f2
        replace f3 := Kit.free_below b2 c3 f3
        replace z0 := Kit.cell_below b2 z0
        replace z1 := Kit.cell_below b2 z1
        replace z2 := Kit.cell_below b2 z2
        replace z3 := Kit.cell_below b2 z3
        replace c0 := Kit.cell_below b2 c0
        replace c1 := Kit.cell_below b2 c1
        replace c2 := Kit.cell_below b2 c2
        replace c3 := Kit.cell_below b2 c3
        have hs2 := Nat.lt_of_lt_of_le hs1 b2.size
        have B2 := Lib.hid (Kit.chain B1.out b2)
        clear b2
        go_wp2_with fail
        have BF := Lib.hid (B2.out)
        go_roundw
        case rel => exact ⟨2, by omega, by go_num, Lib.hid ((B2.out.setCell (by first | omega | simp) _).setCell (by first | omega | simp) _), by first | omega | (simp; omega), ⟨by first | assumption | go_simp, by first | assumption | go_simp, by first | assumption | go_simp, by first | assumption | go_simp⟩, ⟨by first | assumption | go_simp, by first | assumption | go_simp, by first | assumption | go_simp, by first | assumption | go_simp⟩, ⟨by first | assumption | go_simp, by first | assumption | go_simp, by first | assumption | go_simp, by first | assumption | go_simp⟩, ⟨by first | assumption | go_simp, by first | assumption | go_simp, by first | assumption | go_simp, by first | assumption | go_simp⟩⟩
        case measure => simp [intOf]
      · have hk1 := congrArg Fr.k he
        have hk2 := congrArg Fr.i he
        simp only [Fr.none] at hk1 hk2
        subst hr hk1 hk2
        clear he
        have g1 : decide (qi < n) = false := decide_eq_false (by omega)
        clear hi
        go_wp2_with fail
        refine (cb _).mono ?_
        rintro e w1 ⟨rfl, b1⟩
        replace y0 := Kit.free_below b1 z0 y0
        replace y1 := Kit.free_below b1 z1 y1
        replace y2 := Kit.free_below b1 z2 y2
        replace y3 := Kit.free_below b1 z3 y3
        replace f0 := Kit.free_below b1 c0 f0
        replace f1 := Kit.free_below b1 c1 f1
        replace f2 := Kit.free_below b1 c2 f2
        replace f3 := Kit.free_below b1 c3 f3
        replace z0 := Kit.cell_below b1 z0
        replace z1 := Kit.cell_below b1 z1
        replace z2 := Kit.cell_below b1 z2
        replace z3 := Kit.cell_below b1 z3
        replace c0 := Kit.cell_below b1 c0
        replace c1 := Kit.cell_below b1 c1
        replace c2 := Kit.cell_below b1 c2
        replace c3 := Kit.cell_below b1 c3
        have hs1 := Nat.lt_of_lt_of_le hsz b1.size
        have B1 := Lib.hid (Kit.chain HB.out b1)
        clear b1
        go_wp2_with fail
        refine (cq _).mono ?_
        rintro e w2 ⟨rfl, b2⟩
        have m0 := Kit.cell_new b2 0 rfl
        have m1 := Kit.cell_new b2 1 rfl
        replace b2 := Kit.chain (Kit.alloc1 ..) b2
        replace y0 := Kit.free_below b2 z0 y0
        replace y1 := Kit.free_below b2 z1 y1
        replace y2 := Kit.free_below b2 z2 y2
        replace y3 := Kit.free_below b2 z3 y3
        replace f0 := Kit.free_below b2 c0 f0
        replace f1 := Kit.free_below b2 c1 f1
        replace f2 := Kit.free_below b2 c2 f2
        replace f3 := Kit.free_below b2 c3 f3
        replace z0 := Kit.cell_below b2 z0
        replace z1 := Kit.cell_below b2 z1
        replace z2 := Kit.cell_below b2 z2
        replace z3 := Kit.cell_below b2 z3
        replace c0 := Kit.cell_below b2 c0
        replace c1 := Kit.cell_below b2 c1
        replace c2 := Kit.cell_below b2 c2
        replace c3 := Kit.cell_below b2 c3
        have hs2 := Nat.lt_of_lt_of_le hs1 b2.size
        have B2 := Lib.hid (Kit.chain B1.out b2)
        clear b2
        go_wp2_with fail
        have BF := Lib.hid (B2.out)
        go_roundw
        case rel => exact ⟨2, by omega, by go_num, BF, by first | omega | (simp; omega), ⟨by first | assumption | go_simp, by first | assumption | go_simp, by first | assumption | go_simp, by first | assumption | go_simp⟩, ⟨by first | assumption | go_simp, by first | assumption | go_simp, by first | assumption | go_simp, by first | assumption | go_simp⟩, ⟨by first | assumption | go_simp, by first | assumption | go_simp, by first | assumption | go_simp, by first | assumption | go_simp⟩, ⟨by first | assumption | go_simp, by first | assumption | go_simp, by first | assumption | go_simp, by first | assumption | go_simp⟩⟩
        case measure => simp [intOf]
      · have hk1 := congrArg Fr.k he
        have hk2 := congrArg Fr.i he
        simp only [Fr.none] at hk1 hk2
        subst hr hk1 hk2
        clear he
        go_wp2_with fail
        refine (cb _).mono ?_
        rintro e w1 ⟨rfl, b1⟩
        replace y0 := Kit.free_below b1 z0 y0
        replace y1 := Kit.free_below b1 z1 y1
        replace y2 := Kit.free_below b1 z2 y2
        replace y3 := Kit.free_below b1 z3 y3
        replace f0 := Kit.free_below b1 c0 f0
        replace f1 := Kit.free_below b1 c1 f1
        replace f2 := Kit.free_below b1 c2 f2
        replace f3 := Kit.free_below b1 c3 f3
        replace z0 := Kit.cell_below b1 z0
        replace z1 := Kit.cell_below b1 z1
        replace z2 := Kit.cell_below b1 z2
        replace z3 := Kit.cell_below b1 z3
        replace c0 := Kit.cell_below b1 c0
        replace c1 := Kit.cell_below b1 c1
        replace c2 := Kit.cell_below b1 c2
        replace c3 := Kit.cell_below b1 c3
        have hs1 := Nat.lt_of_lt_of_le hsz b1.size
        have B1 := Lib.hid (Kit.chain HB.out b1)
        clear b1
        go_wp2_with fail
        refine (cq _).mono ?_
        rintro e w2 ⟨rfl, b2⟩
        have m0 := Kit.cell_new b2 0 rfl
        have m1 := Kit.cell_new b2 1 rfl
        replace b2 := Kit.chain (Kit.alloc1 ..) b2
        replace y0 := Kit.free_below b2 z0 y0
        replace y1 := Kit.free_below b2 z1 y1
        replace y2 := Kit.free_below b2 z2 y2
        replace y3 := Kit.free_below b2 z3 y3
        replace f0 := Kit.free_below b2 c0 f0
        replace f1 := Kit.free_below b2 c1 f1
        replace f2 := Kit.free_below b2 c2 f2
        replace f3 := Kit.free_below b2 c3 f3
        replace z0 := Kit.cell_below b2 z0
        replace z1 := Kit.cell_below b2 z1
        replace z2 := Kit.cell_below b2 z2
        replace z3 := Kit.cell_below b2 z3
        replace c0 := Kit.cell_below b2 c0
        replace c1 := Kit.cell_below b2 c1
        replace c2 := Kit.cell_below b2 c2
        replace c3 := Kit.cell_below b2 c3
        have hs2 := Nat.lt_of_lt_of_le hs1 b2.size
        have B2 := Lib.hid (Kit.chain B1.out b2)
        clear b2
        go_wp2_with fail
        have BF := Lib.hid (B2.out)
        go_roundw
        case rel => exact ⟨2, by omega, by go_num, BF, by first | omega | (simp; omega), ⟨by first | assumption | go_simp, by first | assumption | go_simp, by first | assumption | go_simp, by first | assumption | go_simp⟩, ⟨by first | assumption | go_simp, by first | assumption | go_simp, by first | assumption | go_simp, by first | assumption | go_simp⟩, ⟨by first | assumption | go_simp, by first | assumption | go_simp, by first | assumption | go_simp, by first | assumption | go_simp⟩, ⟨by first | assumption | go_simp, by first | assumption | go_simp, by first | assumption | go_simp, by first | assumption | go_simp⟩⟩
        case measure => simp [intOf]
    · simp only [show (1 ≤ 2) by omega, show (2 ≤ 2) by omega, if_true] at c0 c1 c2 c3
      go_wp2_with fail
      refine bodyPost_ret (v := .tuple #[.agg #[.int .i64 xk, .int .i64 xi, .int .i64 yk, .int .i64 yi], .int .i64 0]) (by simp [results, Try.results66, go_sem, z0, z1, z2, z3]) rfl ⟨rfl, ?_⟩
      repeat' (first | (with_reducible exact HB.out) | (refine Below.setCell ?_ ?_ _) | (refine Below.alloc ?_ ?_ _))
      all_goals (first | omega | (simp; done) | (simp; omega))

set_option maxHeartbeats 1000000 in
set_option maxRecDepth 100000 in
/-- hear.Of, of another number. -/
theorem Hear.of_no (n : Int) (a b : ByteArray) (w : World) (h : ¬ (3 ≤ n ∧ n ≤ 8)) :
    Calls Try.prog 66 #[.int .i64 n, .string a, .string b] w fun e w' => e = .returned (.tuple #[.agg #[.int .i64 0, .int .i64 0, .int .i64 0, .int .i64 0], .int .i64 1]) ∧ Below w.heap.size w w' := by
  have c0 := fun W => Port.conf_calls n W
  have hd : (decide (3 ≤ n) && decide (n ≤ 8)) = false := by simp; omega
  rw [hd] at c0
  clear h hd
  go_enter Try.func66, Try.ntmps66
  go_wp2_with fail
  refine (c0 _).mono ?_
  rintro e w1 ⟨rfl, rfl⟩
  go_wp2_with fail
  refine bodyPost_ret (v := .tuple #[.agg #[.int .i64 0, .int .i64 0, .int .i64 0, .int .i64 0], .int .i64 1]) (by simp [results, Try.results66, go_sem]) rfl ⟨rfl, ?_⟩
  exact Kit.alloc2 ..
end Go.Proofs.Ytpbkoooljelhjaa
