/-
  The walks of hear.Of and of the document's answer on what is heard.
-/
import Derived.Test.YtpbkoooljelhjaaHear1
import Derived.Test.YtpbkoooljelhjaaKit3
import Derived.Test.YtpbkoooljelhjaaWire1
import Derived.Test.YtpbkoooljelhjaaWire2
import Derived.Test.YtpbkoooljelhjaaPort1
import Derived.BigRegion
namespace Go.Proofs.Ytpbkoooljelhjaa
set_option linter.unusedVariables false
set_option linter.unusedSimpArgs false
open Go.RowKit

/-- What is heard of a channel. -/
def Hear.one (n : Int) (s : ByteArray) : Fr := if (Wire.get s).right = true ∧ (Wire.get s).i < n then Wire.get s else Fr.none

set_option maxHeartbeats 1000000 in
set_option maxRecDepth 100000 in
theorem Hear.rone_calls (n : Int) (s : ByteArray) (w : World) (hn : 3 ≤ n) :
    Calls Try.prog 102 #[.int .i64 n, .string s] w fun e w' => e = .returned (.agg #[.int .i64 (Hear.one n s).k, .int .i64 (Hear.one n s).i]) ∧ Below w.heap.size w w' := by
  have c1 := fun W => Wire.rget_calls s W
  have hr : ((Wire.get s).k ≠ 3 ∧ (Wire.get s).i < n ∧ Hear.one n s = Wire.get s) ∨ ((Wire.get s).k ≠ 3 ∧ n ≤ (Wire.get s).i ∧ Hear.one n s = Fr.none) ∨ ((Wire.get s).k = 3 ∧ Hear.one n s = Fr.none) := by
    unfold Hear.one
    rcases Wire.get_cases s with ⟨_, h⟩ | ⟨_, h⟩ | ⟨_, h⟩
    · rw [h, if_neg (fun h => by have := h.1; simp [Fr.right, Fr.none] at this)]
      exact Or.inl ⟨by decide, by show (0 : Int) < n; omega, rfl⟩
    · have h3 : (Wire.get s).k ≠ 3 := by obtain ⟨h1, _⟩ := (Fr.right_iff _).1 h; omega
      by_cases c : (Wire.get s).i < n
      · exact Or.inl ⟨h3, c, if_pos ⟨h, c⟩⟩
      · exact Or.inr (Or.inl ⟨h3, by omega, if_neg (fun e => c e.2)⟩)
    · rw [h]
      exact Or.inr (Or.inr ⟨rfl, if_neg (fun h => by have := h.1; simp [Fr.right, Fr.noise] at this)⟩)
  generalize Wire.get s = z at *
  generalize Hear.one n s = r at *
  obtain ⟨zk, zi⟩ := z
  rcases hr with ⟨h3, hi, rfl⟩ | ⟨h3, hi, rfl⟩ | ⟨h3, rfl⟩
  · have g1 : (zk == 3) = false := beq_eq_false_iff_ne.2 h3
    have g2 : decide (n ≤ zi) = false := decide_eq_false (by simpa using hi)
    clear h3 hi hn
    simp only at c1
    go_enter Try.func102, Try.ntmps102
    go_wp2_with fail
    refine (c1 _).mono ?_
    rintro e w1 ⟨rfl, b1⟩
    have p0 := Kit.cell_new b1 0 rfl
    have p1 := Kit.cell_new b1 1 rfl
    have q0 := Kit.free_new b1 0
    have q1 := Kit.free_new b1 1
    have hlt := Kit.lt_new b1
    have B1 := Lib.hid b1
    clear b1
    go_wp2_with fail
    refine bodyPost_ret (v := .agg #[.int .i64 zk, .int .i64 zi]) (by simp [results, Try.results102, go_sem, p0, p1, hlt]) rfl ⟨rfl, ?_⟩
    repeat' (first | (with_reducible exact Kit.chain (Kit.alloc1 ..) B1.out) | (refine Below.setCell ?_ ?_ _) | (refine Below.alloc ?_ ?_ _))
    all_goals (first | omega | (simp; done) | (simp; omega))
  · have g1 : (zk == 3) = false := beq_eq_false_iff_ne.2 h3
    have g2 : decide (n ≤ zi) = true := decide_eq_true (by simpa using hi)
    clear h3 hi hn
    simp only at c1
    go_enter Try.func102, Try.ntmps102
    go_wp2_with fail
    refine (c1 _).mono ?_
    rintro e w1 ⟨rfl, b1⟩
    have p0 := Kit.cell_new b1 0 rfl
    have p1 := Kit.cell_new b1 1 rfl
    have q0 := Kit.free_new b1 0
    have q1 := Kit.free_new b1 1
    have hlt := Kit.lt_new b1
    have B1 := Lib.hid b1
    clear b1
    go_wp2_with fail
    refine bodyPost_ret (v := .agg #[.int .i64 0, .int .i64 0]) (by simp [results, Try.results102, go_sem, p0, p1, hlt]) rfl ⟨rfl, ?_⟩
    repeat' (first | (with_reducible exact Kit.chain (Kit.alloc1 ..) B1.out) | (refine Below.setCell ?_ ?_ _) | (refine Below.alloc ?_ ?_ _))
    all_goals (first | omega | (simp; done) | (simp; omega))
  · have g1 : (zk == 3) = true := beq_iff_eq.2 h3
    clear h3 hn
    simp only at c1
    go_enter Try.func102, Try.ntmps102
    go_wp2_with fail
    refine (c1 _).mono ?_
    rintro e w1 ⟨rfl, b1⟩
    have p0 := Kit.cell_new b1 0 rfl
    have p1 := Kit.cell_new b1 1 rfl
    have q0 := Kit.free_new b1 0
    have q1 := Kit.free_new b1 1
    have hlt := Kit.lt_new b1
    have B1 := Lib.hid b1
    clear b1
    go_wp2_with fail
    refine bodyPost_ret (v := .agg #[.int .i64 0, .int .i64 0]) (by simp [results, Try.results102, go_sem, p0, p1, hlt]) rfl ⟨rfl, ?_⟩
    repeat' (first | (with_reducible exact Kit.chain (Kit.alloc1 ..) B1.out) | (refine Below.setCell ?_ ?_ _) | (refine Below.alloc ?_ ?_ _))
    all_goals (first | omega | (simp; done) | (simp; omega))

set_option maxHeartbeats 1000000 in
set_option maxRecDepth 100000 in
/-- daybreakref07.Of, of a number of nodes. -/
theorem Hear.rof_calls (n : Int) (a b : ByteArray) (w : World) (h3 : 3 ≤ n) (h8 : n ≤ 8) :
    Calls Try.prog 70 #[.int .i64 n, .string a, .string b] w fun e w' => e = .returned (.tuple #[.agg #[.int .i64 (Hear.one n a).k, .int .i64 (Hear.one n a).i, .int .i64 (Hear.one n b).k, .int .i64 (Hear.one n b).i], .int .i64 0]) ∧ Below w.heap.size w w' := by
  have c1 := fun W => Hear.rone_calls n a W h3
  have c2 := fun W => Hear.rone_calls n b W h3
  have c0 := fun W => Port.rconf_calls n W
  rw [decide_eq_true h3, decide_eq_true h8] at c0
  generalize Hear.one n a = x at *
  generalize Hear.one n b = y at *
  obtain ⟨xk, xi⟩ := x
  obtain ⟨yk, yi⟩ := y
  simp only at c1 c2
  clear h3 h8
  go_enter Try.func70, Try.ntmps70
  go_wp2_with fail
  refine (c0 _).mono ?_
  rintro e w1 ⟨rfl, rfl⟩
  go_wp2_with fail
  refine (c1 _).mono ?_
  rintro e w1 ⟨rfl, b1⟩
  have p0 := Kit.cell_new b1 0 rfl
  have p1 := Kit.cell_new b1 1 rfl
  have p2 := Kit.cell_new b1 2 rfl
  have p3 := Kit.cell_new b1 3 rfl
  have q0 := Kit.free_new b1 0
  have q1 := Kit.free_new b1 1
  have q2 := Kit.free_new b1 2
  have q3 := Kit.free_new b1 3
  have B1 := Lib.hid (Kit.chain (Kit.alloc1 ..) b1)
  have hlt := Kit.lt_new b1
  clear b1
  go_wp2_with fail
  refine (c2 _).mono ?_
  rintro e w2 ⟨rfl, b2⟩
  replace q0 := Kit.free_below b2 p0 q0
  replace q1 := Kit.free_below b2 p1 q1
  replace q2 := Kit.free_below b2 p2 q2
  replace q3 := Kit.free_below b2 p3 q3
  replace p0 := Kit.cell_below b2 p0
  replace p1 := Kit.cell_below b2 p1
  replace p2 := Kit.cell_below b2 p2
  replace p3 := Kit.cell_below b2 p3
  have B2 := Lib.hid (Kit.chain B1.out b2)
  have hlt2 := Nat.lt_of_lt_of_le hlt b2.size
  clear b2
  go_wp2_with fail
  refine bodyPost_ret (v := .tuple #[.agg #[.int .i64 xk, .int .i64 xi, .int .i64 yk, .int .i64 yi], .int .i64 0]) (by simp [results, Try.results70, go_sem, p0, p1, p2, p3, hlt2]) rfl ⟨rfl, ?_⟩
  repeat' (first | (with_reducible exact B2.out) | (refine Below.setCell ?_ ?_ _) | (refine Below.alloc ?_ ?_ _))
  all_goals (first | omega | (simp; done) | (simp; omega))

set_option maxHeartbeats 1000000 in
set_option maxRecDepth 100000 in
/-- daybreakref07.Of, of another number. -/
theorem Hear.rof_no (n : Int) (a b : ByteArray) (w : World) (h : ¬ (3 ≤ n ∧ n ≤ 8)) :
    Calls Try.prog 70 #[.int .i64 n, .string a, .string b] w fun e w' => e = .returned (.tuple #[.agg #[.int .i64 0, .int .i64 0, .int .i64 0, .int .i64 0], .int .i64 1]) ∧ Below w.heap.size w w' := by
  have c0 := fun W => Port.rconf_calls n W
  have hd : (decide (3 ≤ n) && decide (n ≤ 8)) = false := by simp; omega
  rw [hd] at c0
  clear h hd
  go_enter Try.func70, Try.ntmps70
  go_wp2_with fail
  refine (c0 _).mono ?_
  rintro e w1 ⟨rfl, rfl⟩
  go_wp2_with fail
  refine bodyPost_ret (v := .tuple #[.agg #[.int .i64 0, .int .i64 0, .int .i64 0, .int .i64 0], .int .i64 1]) (by simp [results, Try.results70, go_sem]) rfl ⟨rfl, ?_⟩
  exact Kit.alloc1 ..
end Go.Proofs.Ytpbkoooljelhjaa
