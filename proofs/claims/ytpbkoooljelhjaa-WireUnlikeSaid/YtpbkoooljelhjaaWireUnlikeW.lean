/-
  WireUnlike: the walk of the statement's own function.
-/
import Derived.Test.YtpbkoooljelhjaaWire3
import Derived.Test.YtpbkoooljelhjaaOp2
import Derived.Deep.RegionHeld3
import Derived.BigRegion
namespace Go.Proofs.Ytpbkoooljelhjaa.WireUnlike
set_option linter.unusedVariables false
set_option linter.unusedSimpArgs false
open Go.RowKit


set_option maxHeartbeats 1000000 in
set_option maxRecDepth 100000 in
theorem kinds (k i m j : Int) (s : ByteArray) (hf : Fr.right ⟨k, i⟩ = true) (hg : Fr.right ⟨m, j⟩ = true) (h0 : s.size ≠ 0) (h100 : s.size ≤ 100) (hk : ¬ k = m) (w : World) :
    Calls Try.prog 11 #[.agg #[.int .i64 k, .int .i64 i], .agg #[.int .i64 m, .int .i64 j], .string s] w fun e w' => e = .returned (.bool true) ∧ Below w.heap.size w w' := by
  have h1 : decide ((100 : Int) < (s.size : Int)) = false := by simp; omega
  have h2 : ((s.size : Int) == 0) = false := by rw [beq_eq_false_iff_ne]; omega
  have hne : (⟨k, i⟩ : Fr) ≠ ⟨m, j⟩ := fun h => hk (congrArg Fr.k h)
  have hpe := Kit.str_ne (fun h => hne (Wire.put_inj hf hg h))
  have e1 : (k == m) = false := by rw [beq_eq_false_iff_ne]; exact hk
  clear hne hk
  have c1 := fun w => Wire.right_calls ⟨k, i⟩ w
  have c2 := fun w => Wire.right_calls ⟨m, j⟩ w
  have c3 := fun w => Wire.put_calls ⟨k, i⟩ w
  have c4 := fun w => Wire.put_calls ⟨m, j⟩ w
  have s7 := Wire.put_size hf
  have n5 : (Wire.put ⟨k, i⟩ ++ s).size = 7 + s.size := by rw [ByteArray.size_append, s7]
  have n6 : (s ++ Wire.put ⟨k, i⟩).size = s.size + 7 := by rw [ByteArray.size_append, s7]
  have c5 := fun w => Wire.get_calls (Wire.put ⟨k, i⟩ ++ s) w (by rw [n5]; omega)
  have c6 := fun w => Wire.get_calls (s ++ Wire.put ⟨k, i⟩) w (by rw [n6]; omega)
  rw [Wire.get_long _ (by rw [n5]; omega)] at c5
  rw [Wire.get_long _ (by rw [n6]; omega)] at c6
  rw [hf] at c1
  rw [hg] at c2
  clear n5 n6 hf hg
  generalize Wire.put ⟨k, i⟩ = q at *
  generalize Wire.put ⟨m, j⟩ = p at *
  simp only [Fr.noise] at c1 c2 c3 c4 c5 c6
  go_enter Try.func11, Try.ntmps11
  go_wp2_with fail
  refine (c1 _).mono ?_
  rintro e w1 ⟨rfl, b1⟩
  have W0 : Below w.heap.size w ((w.alloc (.cells #[.int .i64 k, .int .i64 i] 51)).alloc (.cells #[.int .i64 m, .int .i64 j] 51)) := ((Below.refl _ _).alloc (Nat.le_refl _) _).alloc (by simp) _
  have y0 := Kit.cell_below b1 (a := ⟨w.heap.size, 0, none⟩) (v := .int .i64 k) (by go_simp)
  have y1 := Kit.cell_below b1 (a := ⟨w.heap.size, 1, none⟩) (v := .int .i64 i) (by go_simp)
  have y2 := Kit.cell_below b1 (a := ⟨w.heap.size + 1, 0, none⟩) (v := .int .i64 m) (by go_simp)
  have y3 := Kit.cell_below b1 (a := ⟨w.heap.size + 1, 1, none⟩) (v := .int .i64 j) (by go_simp)
  have B1 := Lib.hid (Kit.chain W0 b1)
  clear b1 W0
  go_wp2_with fail
  refine (c2 _).mono ?_
  rintro e w2 ⟨rfl, b2⟩
  have x0 := Kit.cell_below b2 y0
  have x1 := Kit.cell_below b2 y1
  have x2 := Kit.cell_below b2 y2
  have x3 := Kit.cell_below b2 y3
  have B0 := Lib.hid (Kit.chain B1.out b2)
  clear b2 y0 y1 y2 y3
  go_wp2_with fail
  go_region_held3 (fun w' => w'.cell? ⟨w.heap.size, 0, none⟩ = some (.int .i64 k) ∧ w'.cell? ⟨w.heap.size, 1, none⟩ = some (.int .i64 i) ∧ w'.cell? ⟨w.heap.size + 1, 0, none⟩ = some (.int .i64 m) ∧ w'.cell? ⟨w.heap.size + 1, 1, none⟩ = some (.int .i64 j)) (go_keep)
    (first | (go_at_call 47; refine (c3 _).mono ?_; rintro e mw0 ⟨rfl, mb0⟩; have mc0_0 := Kit.cell_below mb0 x0; have mc0_1 := Kit.cell_below mb0 x1; have mc0_2 := Kit.cell_below mb0 x2; have mc0_3 := Kit.cell_below mb0 x3; have mB0 := Lib.hid (B0.out.drew.trans (mb0.mono B0.out.drew.size)); clear c3; clear mb0) | (go_at_call 47; refine (c4 _).mono ?_; rintro e mw1 ⟨rfl, mb1⟩; have mc1_0 := Kit.cell_below mb1 mc0_0; have mc1_1 := Kit.cell_below mb1 mc0_1; have mc1_2 := Kit.cell_below mb1 mc0_2; have mc1_3 := Kit.cell_below mb1 mc0_3; have mB1 := Lib.hid (Kit.chain mB0.out mb1); clear mb1))
  go_wp2_with fail
  refine (Wire.awake_calls _).mono ?_
  rintro e w3 ⟨rfl, b3⟩
  have z0 := Kit.cell_below b3 mc1_0
  have z1 := Kit.cell_below b3 mc1_1
  have z2 := Kit.cell_below b3 mc1_2
  have z3 := Kit.cell_below b3 mc1_3
  have B3 := Lib.hid (Kit.chain mB1.out b3)
  clear b3
  go_wp2_with fail
  have hfd := fun w => Wire.field_k 3 0 w
  refine (c5 _).mono ?_
  rintro e w4 ⟨rfl, b4⟩
  go_wp2_with fail
  refine (c6 _).mono ?_
  rintro e w5 ⟨rfl, b5⟩
  go_wp2_with fail
  go_ret
  exact ⟨rfl, Kit.chain B3.out (Kit.chain b4 b5)⟩

set_option maxHeartbeats 1000000 in
set_option maxRecDepth 100000 in
theorem nums (k i m j : Int) (s : ByteArray) (hf : Fr.right ⟨k, i⟩ = true) (hg : Fr.right ⟨m, j⟩ = true) (h0 : s.size ≠ 0) (h100 : s.size ≤ 100) (hk : k = m) (hi : ¬ i = j) (w : World) :
    Calls Try.prog 11 #[.agg #[.int .i64 k, .int .i64 i], .agg #[.int .i64 m, .int .i64 j], .string s] w fun e w' => e = .returned (.bool true) ∧ Below w.heap.size w w' := by
  have h1 : decide ((100 : Int) < (s.size : Int)) = false := by simp; omega
  have h2 : ((s.size : Int) == 0) = false := by rw [beq_eq_false_iff_ne]; omega
  subst hk
  have hne : (⟨k, i⟩ : Fr) ≠ ⟨k, j⟩ := fun h => hi (congrArg Fr.i h)
  have hpe := Kit.str_ne (fun h => hne (Wire.put_inj hf hg h))
  have e1 : (i == j) = false := by rw [beq_eq_false_iff_ne]; exact hi
  clear hne hi
  have c1 := fun w => Wire.right_calls ⟨k, i⟩ w
  have c2 := fun w => Wire.right_calls ⟨k, j⟩ w
  have c3 := fun w => Wire.put_calls ⟨k, i⟩ w
  have c4 := fun w => Wire.put_calls ⟨k, j⟩ w
  have s7 := Wire.put_size hf
  have n5 : (Wire.put ⟨k, i⟩ ++ s).size = 7 + s.size := by rw [ByteArray.size_append, s7]
  have n6 : (s ++ Wire.put ⟨k, i⟩).size = s.size + 7 := by rw [ByteArray.size_append, s7]
  have c5 := fun w => Wire.get_calls (Wire.put ⟨k, i⟩ ++ s) w (by rw [n5]; omega)
  have c6 := fun w => Wire.get_calls (s ++ Wire.put ⟨k, i⟩) w (by rw [n6]; omega)
  rw [Wire.get_long _ (by rw [n5]; omega)] at c5
  rw [Wire.get_long _ (by rw [n6]; omega)] at c6
  rw [hf] at c1
  rw [hg] at c2
  clear n5 n6 hf hg
  generalize Wire.put ⟨k, i⟩ = q at *
  generalize Wire.put ⟨k, j⟩ = p at *
  simp only [Fr.noise] at c1 c2 c3 c4 c5 c6
  go_enter Try.func11, Try.ntmps11
  go_wp2_with fail
  refine (c1 _).mono ?_
  rintro e w1 ⟨rfl, b1⟩
  have W0 : Below w.heap.size w ((w.alloc (.cells #[.int .i64 k, .int .i64 i] 51)).alloc (.cells #[.int .i64 k, .int .i64 j] 51)) := ((Below.refl _ _).alloc (Nat.le_refl _) _).alloc (by simp) _
  have y0 := Kit.cell_below b1 (a := ⟨w.heap.size, 0, none⟩) (v := .int .i64 k) (by go_simp)
  have y1 := Kit.cell_below b1 (a := ⟨w.heap.size, 1, none⟩) (v := .int .i64 i) (by go_simp)
  have y2 := Kit.cell_below b1 (a := ⟨w.heap.size + 1, 0, none⟩) (v := .int .i64 k) (by go_simp)
  have y3 := Kit.cell_below b1 (a := ⟨w.heap.size + 1, 1, none⟩) (v := .int .i64 j) (by go_simp)
  have B1 := Lib.hid (Kit.chain W0 b1)
  clear b1 W0
  go_wp2_with fail
  refine (c2 _).mono ?_
  rintro e w2 ⟨rfl, b2⟩
  have x0 := Kit.cell_below b2 y0
  have x1 := Kit.cell_below b2 y1
  have x2 := Kit.cell_below b2 y2
  have x3 := Kit.cell_below b2 y3
  have B0 := Lib.hid (Kit.chain B1.out b2)
  clear b2 y0 y1 y2 y3
  go_wp2_with fail
  go_region_held3 (fun w' => w'.cell? ⟨w.heap.size, 0, none⟩ = some (.int .i64 k) ∧ w'.cell? ⟨w.heap.size, 1, none⟩ = some (.int .i64 i) ∧ w'.cell? ⟨w.heap.size + 1, 0, none⟩ = some (.int .i64 k) ∧ w'.cell? ⟨w.heap.size + 1, 1, none⟩ = some (.int .i64 j)) (go_keep)
    (first | (go_at_call 47; refine (c3 _).mono ?_; rintro e mw0 ⟨rfl, mb0⟩; have mc0_0 := Kit.cell_below mb0 x0; have mc0_1 := Kit.cell_below mb0 x1; have mc0_2 := Kit.cell_below mb0 x2; have mc0_3 := Kit.cell_below mb0 x3; have mB0 := Lib.hid (B0.out.drew.trans (mb0.mono B0.out.drew.size)); clear c3; clear mb0) | (go_at_call 47; refine (c4 _).mono ?_; rintro e mw1 ⟨rfl, mb1⟩; have mc1_0 := Kit.cell_below mb1 mc0_0; have mc1_1 := Kit.cell_below mb1 mc0_1; have mc1_2 := Kit.cell_below mb1 mc0_2; have mc1_3 := Kit.cell_below mb1 mc0_3; have mB1 := Lib.hid (Kit.chain mB0.out mb1); clear mb1))
  go_wp2_with fail
  refine (Wire.awake_calls _).mono ?_
  rintro e w3 ⟨rfl, b3⟩
  have z0 := Kit.cell_below b3 mc1_0
  have z1 := Kit.cell_below b3 mc1_1
  have z2 := Kit.cell_below b3 mc1_2
  have z3 := Kit.cell_below b3 mc1_3
  have B3 := Lib.hid (Kit.chain mB1.out b3)
  clear b3
  go_wp2_with fail
  have hfd := fun w => Wire.field_k 3 0 w
  refine (c5 _).mono ?_
  rintro e w4 ⟨rfl, b4⟩
  go_wp2_with fail
  refine (c6 _).mono ?_
  rintro e w5 ⟨rfl, b5⟩
  go_wp2_with fail
  go_ret
  exact ⟨rfl, Kit.chain B3.out (Kit.chain b4 b5)⟩

set_option maxHeartbeats 1000000 in
set_option maxRecDepth 100000 in
theorem same (k i m j : Int) (s : ByteArray) (hf : Fr.right ⟨k, i⟩ = true) (hg : Fr.right ⟨m, j⟩ = true) (h0 : s.size ≠ 0) (h100 : s.size ≤ 100) (hk : k = m) (hi : i = j) (w : World) :
    Calls Try.prog 11 #[.agg #[.int .i64 k, .int .i64 i], .agg #[.int .i64 m, .int .i64 j], .string s] w fun e w' => e = .returned (.bool true) ∧ Below w.heap.size w w' := by
  have h1 : decide ((100 : Int) < (s.size : Int)) = false := by simp; omega
  have h2 : ((s.size : Int) == 0) = false := by rw [beq_eq_false_iff_ne]; omega
  subst hk hi
  have c1 := fun w => Wire.right_calls ⟨k, i⟩ w
  have c2 := fun w => Wire.right_calls ⟨k, i⟩ w
  have c3 := fun w => Wire.put_calls ⟨k, i⟩ w
  have c4 := fun w => Wire.put_calls ⟨k, i⟩ w
  have s7 := Wire.put_size hf
  have n5 : (Wire.put ⟨k, i⟩ ++ s).size = 7 + s.size := by rw [ByteArray.size_append, s7]
  have n6 : (s ++ Wire.put ⟨k, i⟩).size = s.size + 7 := by rw [ByteArray.size_append, s7]
  have c5 := fun w => Wire.get_calls (Wire.put ⟨k, i⟩ ++ s) w (by rw [n5]; omega)
  have c6 := fun w => Wire.get_calls (s ++ Wire.put ⟨k, i⟩) w (by rw [n6]; omega)
  rw [Wire.get_long _ (by rw [n5]; omega)] at c5
  rw [Wire.get_long _ (by rw [n6]; omega)] at c6
  rw [hf] at c1
  rw [hg] at c2
  clear n5 n6 hf hg
  generalize Wire.put ⟨k, i⟩ = q at *
  simp only [Fr.noise] at c1 c2 c3 c4 c5 c6
  go_enter Try.func11, Try.ntmps11
  go_wp2_with fail
  refine (c1 _).mono ?_
  rintro e w1 ⟨rfl, b1⟩
  have W0 : Below w.heap.size w ((w.alloc (.cells #[.int .i64 k, .int .i64 i] 51)).alloc (.cells #[.int .i64 k, .int .i64 i] 51)) := ((Below.refl _ _).alloc (Nat.le_refl _) _).alloc (by simp) _
  have y0 := Kit.cell_below b1 (a := ⟨w.heap.size, 0, none⟩) (v := .int .i64 k) (by go_simp)
  have y1 := Kit.cell_below b1 (a := ⟨w.heap.size, 1, none⟩) (v := .int .i64 i) (by go_simp)
  have y2 := Kit.cell_below b1 (a := ⟨w.heap.size + 1, 0, none⟩) (v := .int .i64 k) (by go_simp)
  have y3 := Kit.cell_below b1 (a := ⟨w.heap.size + 1, 1, none⟩) (v := .int .i64 i) (by go_simp)
  have B1 := Lib.hid (Kit.chain W0 b1)
  clear b1 W0
  go_wp2_with fail
  refine (c2 _).mono ?_
  rintro e w2 ⟨rfl, b2⟩
  have x0 := Kit.cell_below b2 y0
  have x1 := Kit.cell_below b2 y1
  have x2 := Kit.cell_below b2 y2
  have x3 := Kit.cell_below b2 y3
  have B0 := Lib.hid (Kit.chain B1.out b2)
  clear b2 y0 y1 y2 y3
  go_wp2_with fail
  go_region_held3 (fun w' => w'.cell? ⟨w.heap.size, 0, none⟩ = some (.int .i64 k) ∧ w'.cell? ⟨w.heap.size, 1, none⟩ = some (.int .i64 i) ∧ w'.cell? ⟨w.heap.size + 1, 0, none⟩ = some (.int .i64 k) ∧ w'.cell? ⟨w.heap.size + 1, 1, none⟩ = some (.int .i64 i)) (go_keep)
    (first | (go_at_call 47; refine (c3 _).mono ?_; rintro e mw0 ⟨rfl, mb0⟩; have mc0_0 := Kit.cell_below mb0 x0; have mc0_1 := Kit.cell_below mb0 x1; have mc0_2 := Kit.cell_below mb0 x2; have mc0_3 := Kit.cell_below mb0 x3; have mB0 := Lib.hid (B0.out.drew.trans (mb0.mono B0.out.drew.size)); clear c3; clear mb0) | (go_at_call 47; refine (c4 _).mono ?_; rintro e mw1 ⟨rfl, mb1⟩; have mc1_0 := Kit.cell_below mb1 mc0_0; have mc1_1 := Kit.cell_below mb1 mc0_1; have mc1_2 := Kit.cell_below mb1 mc0_2; have mc1_3 := Kit.cell_below mb1 mc0_3; have mB1 := Lib.hid (Kit.chain mB0.out mb1); clear mb1))
  go_wp2_with fail
  refine (Wire.awake_calls _).mono ?_
  rintro e w3 ⟨rfl, b3⟩
  have z0 := Kit.cell_below b3 mc1_0
  have z1 := Kit.cell_below b3 mc1_1
  have z2 := Kit.cell_below b3 mc1_2
  have z3 := Kit.cell_below b3 mc1_3
  have B3 := Lib.hid (Kit.chain mB1.out b3)
  clear b3
  go_wp2_with fail
  have hfd := fun w => Wire.field_k 3 0 w
  refine (c5 _).mono ?_
  rintro e w4 ⟨rfl, b4⟩
  go_wp2_with fail
  refine (c6 _).mono ?_
  rintro e w5 ⟨rfl, b5⟩
  go_wp2_with fail
  go_ret
  exact ⟨rfl, Kit.chain B3.out (Kit.chain b4 b5)⟩

set_option maxHeartbeats 1000000 in
set_option maxRecDepth 100000 in
theorem notf (k i m j : Int) (s : ByteArray) (hf : Fr.right ⟨k, i⟩ = false) (w : World) :
    Calls Try.prog 11 #[.agg #[.int .i64 k, .int .i64 i], .agg #[.int .i64 m, .int .i64 j], .string s] w fun e w' => e = .returned (.bool true) ∧ Below w.heap.size w w' := by
  have c1 := fun w => Wire.right_calls ⟨k, i⟩ w
  have c2 := fun w => Wire.right_calls ⟨m, j⟩ w
  rw [hf] at c1
  simp only at c1 c2
  go_enter Try.func11, Try.ntmps11
  go_wp2_with fail
  refine (c1 _).mono ?_
  rintro e w1 ⟨rfl, b1⟩
  have W0 : Below w.heap.size w ((w.alloc (.cells #[.int .i64 k, .int .i64 i] 51)).alloc (.cells #[.int .i64 m, .int .i64 j] 51)) := ((Below.refl _ _).alloc (Nat.le_refl _) _).alloc (by simp) _
  have y2 := Kit.cell_below b1 (a := ⟨w.heap.size + 1, 0, none⟩) (v := .int .i64 m) (by go_simp)
  have y3 := Kit.cell_below b1 (a := ⟨w.heap.size + 1, 1, none⟩) (v := .int .i64 j) (by go_simp)
  have B1 := Lib.hid (Kit.chain W0 b1)
  clear b1 W0
  go_wp2_with fail
  refine (Wire.awake_calls _).mono ?_
  rintro e w3 ⟨rfl, b3⟩
  go_wp2_with fail
  go_ret
  exact ⟨rfl, Kit.chain B1.out b3⟩

set_option maxHeartbeats 1000000 in
set_option maxRecDepth 100000 in
theorem notg (k i m j : Int) (s : ByteArray) (hf : Fr.right ⟨k, i⟩ = true) (hg : Fr.right ⟨m, j⟩ = false) (w : World) :
    Calls Try.prog 11 #[.agg #[.int .i64 k, .int .i64 i], .agg #[.int .i64 m, .int .i64 j], .string s] w fun e w' => e = .returned (.bool true) ∧ Below w.heap.size w w' := by
  have c1 := fun w => Wire.right_calls ⟨k, i⟩ w
  have c2 := fun w => Wire.right_calls ⟨m, j⟩ w
  rw [hf] at c1
  rw [hg] at c2
  simp only at c1 c2
  go_enter Try.func11, Try.ntmps11
  go_wp2_with fail
  refine (c1 _).mono ?_
  rintro e w1 ⟨rfl, b1⟩
  have W0 : Below w.heap.size w ((w.alloc (.cells #[.int .i64 k, .int .i64 i] 51)).alloc (.cells #[.int .i64 m, .int .i64 j] 51)) := ((Below.refl _ _).alloc (Nat.le_refl _) _).alloc (by simp) _
  have y2 := Kit.cell_below b1 (a := ⟨w.heap.size + 1, 0, none⟩) (v := .int .i64 m) (by go_simp)
  have y3 := Kit.cell_below b1 (a := ⟨w.heap.size + 1, 1, none⟩) (v := .int .i64 j) (by go_simp)
  have B1 := Lib.hid (Kit.chain W0 b1)
  clear b1 W0
  go_wp2_with fail
  refine (c2 _).mono ?_
  rintro e w2 ⟨rfl, b2⟩
  go_wp2_with fail
  refine (Wire.awake_calls _).mono ?_
  rintro e w3 ⟨rfl, b3⟩
  go_wp2_with fail
  go_ret
  exact ⟨rfl, Kit.chain B1.out (Kit.chain b2 b3)⟩

set_option maxHeartbeats 1000000 in
set_option maxRecDepth 100000 in
theorem long (k i m j : Int) (s : ByteArray) (hf : Fr.right ⟨k, i⟩ = true) (hg : Fr.right ⟨m, j⟩ = true) (hs : 100 < s.size) (hm : s.size ≤ 9223372036854775807) (w : World) :
    Calls Try.prog 11 #[.agg #[.int .i64 k, .int .i64 i], .agg #[.int .i64 m, .int .i64 j], .string s] w fun e w' => e = .returned (.bool true) ∧ Below w.heap.size w w' := by
  have h1 : decide ((100 : Int) < (s.size : Int)) = true := by simp; omega
  have c1 := fun w => Wire.right_calls ⟨k, i⟩ w
  have c2 := fun w => Wire.right_calls ⟨m, j⟩ w
  rw [hf] at c1
  rw [hg] at c2
  simp only at c1 c2
  go_enter Try.func11, Try.ntmps11
  go_wp2_with fail
  refine (c1 _).mono ?_
  rintro e w1 ⟨rfl, b1⟩
  have W0 : Below w.heap.size w ((w.alloc (.cells #[.int .i64 k, .int .i64 i] 51)).alloc (.cells #[.int .i64 m, .int .i64 j] 51)) := ((Below.refl _ _).alloc (Nat.le_refl _) _).alloc (by simp) _
  have y2 := Kit.cell_below b1 (a := ⟨w.heap.size + 1, 0, none⟩) (v := .int .i64 m) (by go_simp)
  have y3 := Kit.cell_below b1 (a := ⟨w.heap.size + 1, 1, none⟩) (v := .int .i64 j) (by go_simp)
  have B1 := Lib.hid (Kit.chain W0 b1)
  clear b1 W0
  go_wp2_with fail
  refine (c2 _).mono ?_
  rintro e w2 ⟨rfl, b2⟩
  go_wp2_with fail
  refine (Wire.awake_calls _).mono ?_
  rintro e w3 ⟨rfl, b3⟩
  go_wp2_with fail
  go_ret
  exact ⟨rfl, Kit.chain B1.out (Kit.chain b2 b3)⟩

set_option maxHeartbeats 1000000 in
set_option maxRecDepth 100000 in
theorem nil (k i m j : Int) (s : ByteArray) (hf : Fr.right ⟨k, i⟩ = true) (hg : Fr.right ⟨m, j⟩ = true) (hs : s.size = 0) (w : World) :
    Calls Try.prog 11 #[.agg #[.int .i64 k, .int .i64 i], .agg #[.int .i64 m, .int .i64 j], .string s] w fun e w' => e = .returned (.bool true) ∧ Below w.heap.size w w' := by
  have h1 : decide ((100 : Int) < (s.size : Int)) = false := by simp; omega
  have h2 : ((s.size : Int) == 0) = true := by rw [beq_iff_eq]; omega
  have c1 := fun w => Wire.right_calls ⟨k, i⟩ w
  have c2 := fun w => Wire.right_calls ⟨m, j⟩ w
  rw [hf] at c1
  rw [hg] at c2
  simp only at c1 c2
  go_enter Try.func11, Try.ntmps11
  go_wp2_with fail
  refine (c1 _).mono ?_
  rintro e w1 ⟨rfl, b1⟩
  have W0 : Below w.heap.size w ((w.alloc (.cells #[.int .i64 k, .int .i64 i] 51)).alloc (.cells #[.int .i64 m, .int .i64 j] 51)) := ((Below.refl _ _).alloc (Nat.le_refl _) _).alloc (by simp) _
  have y2 := Kit.cell_below b1 (a := ⟨w.heap.size + 1, 0, none⟩) (v := .int .i64 m) (by go_simp)
  have y3 := Kit.cell_below b1 (a := ⟨w.heap.size + 1, 1, none⟩) (v := .int .i64 j) (by go_simp)
  have B1 := Lib.hid (Kit.chain W0 b1)
  clear b1 W0
  go_wp2_with fail
  refine (c2 _).mono ?_
  rintro e w2 ⟨rfl, b2⟩
  go_wp2_with fail
  refine (Wire.awake_calls _).mono ?_
  rintro e w3 ⟨rfl, b3⟩
  go_wp2_with fail
  go_ret
  exact ⟨rfl, Kit.chain B1.out (Kit.chain b2 b3)⟩

theorem walk (v u : Value) (a2 : ByteArray) (w0 : Op.IsFrame v) (w1 : Op.IsFrame u) (w2 : a2.size ≤ maxLen) (w : World) :
    Calls Try.prog 11 #[v, u, .string a2] w fun e w' => e = .returned (.bool true) ∧ Below w.heap.size w w' := by
  obtain ⟨⟨k, i⟩, rfl, _⟩ := w0
  obtain ⟨⟨m, j⟩, rfl, _⟩ := w1
  unfold maxLen at w2
  cases hf : Fr.right ⟨k, i⟩ with
  | false => exact notf k i m j a2 hf w
  | true =>
    cases hg : Fr.right ⟨m, j⟩ with
    | false => exact notg k i m j a2 hf hg w
    | true =>
      by_cases h0 : a2.size = 0
      · exact nil k i m j a2 hf hg h0 w
      by_cases h1 : a2.size ≤ 100
      · by_cases hk : k = m
        · by_cases hi : i = j
          · exact same k i m j a2 hf hg h0 h1 hk hi w
          · exact nums k i m j a2 hf hg h0 h1 hk hi w
        · exact kinds k i m j a2 hf hg h0 h1 hk w
      · exact long k i m j a2 hf hg (by omega) (by omega) w
end Go.Proofs.Ytpbkoooljelhjaa.WireUnlike
