/-
  The walks of the document's answer: what two frames say; the statements' own fixed fact.
-/
import Derived.Test.YtpbkoooljelhjaaHear3
import Derived.Test.YtpbkoooljelhjaaKit1
namespace Go.Proofs.Ytpbkoooljelhjaa
set_option linter.unusedVariables false
set_option linter.unusedSimpArgs false
open Go.RowKit

set_option maxHeartbeats 1000000 in
set_option maxRecDepth 100000 in
/-- daybreakref07.Info. -/
theorem Hear.rinfo_calls (a b : Fr) (w : World) :
    Calls Try.prog 72 #[.agg #[.int .i64 a.k, .int .i64 a.i, .int .i64 b.k, .int .i64 b.i]] w
      fun e w' => e = .returned (.tuple #[.int .i64 (Hear.oi (Wm.info a b)), .bool (Wm.info a b).isSome]) ∧ Below w.heap.size w w' := by
  have hr : ((a.k == 2) = true ∧ Wm.info a b = some a.i) ∨ ((a.k == 2) = false ∧ (b.k == 2) = true ∧ Wm.info a b = some b.i) ∨ ((a.k == 2) = false ∧ (b.k == 2) = false ∧ Wm.info a b = none) := by
    unfold Wm.info Wm.hears
    cases h1 : a.k == 2 <;> cases h2 : b.k == 2 <;> simp_all
  generalize Wm.info a b = o at *
  obtain ⟨ak, ai⟩ := a
  obtain ⟨bk, bi⟩ := b
  simp only at hr
  rcases hr with ⟨h1, rfl⟩ | ⟨h1, h2, rfl⟩ | ⟨h1, h2, rfl⟩
  · go_enter Try.func72, Try.ntmps72
    go_wp2_with fail
    refine wp_loop_rounds 1 ?_
    rw [rounds_succ]
    go_wp2_with fail
    go_ret2
    exact ⟨rfl, Kit.alloc1 ..⟩
  · go_enter Try.func72, Try.ntmps72
    go_wp2_with fail
    refine wp_loop_rounds 2 ?_
    rw [rounds_succ]
    go_wp2_with fail
    rw [rounds_succ]
    go_wp2_with fail
    go_ret2
    exact ⟨rfl, Kit.alloc1 ..⟩
  · go_enter Try.func72, Try.ntmps72
    go_wp2_with fail
    refine wp_loop_rounds 3 ?_
    rw [rounds_succ]
    go_wp2_with fail
    rw [rounds_succ]
    go_wp2_with fail
    rw [rounds_succ]
    go_wp2_with fail
    go_ret2
    exact ⟨rfl, Kit.alloc1 ..⟩
set_option maxHeartbeats 1000000 in
set_option maxRecDepth 100000 in
/-- daybreakref07.Other. -/
theorem Hear.rother_calls (a b : Fr) (i : Int) (w : World) :
    Calls Try.prog 74 #[.agg #[.int .i64 a.k, .int .i64 a.i, .int .i64 b.k, .int .i64 b.i], .int .i64 i] w
      fun e w' => e = .returned (.tuple #[.int .i64 (Hear.oi (Wm.other i a b)), .bool (Wm.other i a b).isSome]) ∧ Below w.heap.size w w' := by
  have ka : (a.k == 1 && a.i != i) = false → (a.k == 1) = false ∨ ((a.k == 1) = true ∧ (a.i != i) = false) := by cases a.k == 1 <;> simp
  have kb : (b.k == 1 && b.i != i) = false → (b.k == 1) = false ∨ ((b.k == 1) = true ∧ (b.i != i) = false) := by cases b.k == 1 <;> simp
  have sa : (a.k == 1 && a.i != i) = true → (a.k == 1) = true ∧ (a.i != i) = true := by simp
  have sb : (b.k == 1 && b.i != i) = true → (b.k == 1) = true ∧ (b.i != i) = true := by simp
  have hr : ((a.k == 1 && a.i != i) = true ∧ Wm.other i a b = some a.i) ∨ ((a.k == 1 && a.i != i) = false ∧ (b.k == 1 && b.i != i) = true ∧ Wm.other i a b = some b.i) ∨ ((a.k == 1 && a.i != i) = false ∧ (b.k == 1 && b.i != i) = false ∧ Wm.other i a b = none) := by
    unfold Wm.other Wm.hears
    cases h1 : (a.k == 1 && a.i != i)
    · right
      cases h2 : (b.k == 1 && b.i != i)
      · right; exact ⟨rfl, rfl, by show (if (a.k == 1 && a.i != i) = true then some a.i else if (b.k == 1 && b.i != i) = true then some b.i else none) = _; rw [h1, h2]; rfl⟩
      · left; exact ⟨rfl, rfl, by show (if (a.k == 1 && a.i != i) = true then some a.i else if (b.k == 1 && b.i != i) = true then some b.i else none) = _; rw [h1, h2]; rfl⟩
    · left; exact ⟨rfl, by show (if (a.k == 1 && a.i != i) = true then some a.i else if (b.k == 1 && b.i != i) = true then some b.i else none) = _; rw [h1]; rfl⟩
  generalize Wm.other i a b = o at *
  obtain ⟨ak, ai⟩ := a
  obtain ⟨bk, bi⟩ := b
  simp only at hr ka kb sa sb
  rcases hr with ⟨h1, rfl⟩ | ⟨h1, h2, rfl⟩ | ⟨h1, h2, rfl⟩
  · obtain ⟨g1, g2⟩ := sa h1
    clear ka kb sa sb h1
    go_enter Try.func74, Try.ntmps74
    go_wp2_with fail
    refine wp_loop_rounds 1 ?_
    rw [rounds_succ]
    go_wp2_with fail
    go_ret2
    exact ⟨rfl, Kit.alloc1 ..⟩
  · obtain ⟨g1, g2⟩ := sb h2
    rcases ka h1 with k1 | ⟨k1, k2⟩
    all_goals
      clear ka kb sa sb h1 h2
      go_enter Try.func74, Try.ntmps74
      go_wp2_with fail
      refine wp_loop_rounds 2 ?_
      rw [rounds_succ]
      go_wp2_with fail
      rw [rounds_succ]
      go_wp2_with fail
      go_ret2
      exact ⟨rfl, Kit.alloc1 ..⟩
  · rcases ka h1 with k1 | ⟨k1, k2⟩
    all_goals
      rcases kb h2 with k3 | ⟨k3, k4⟩
    all_goals
      clear ka kb sa sb h1 h2
      go_enter Try.func74, Try.ntmps74
      go_wp2_with fail
      refine wp_loop_rounds 3 ?_
      rw [rounds_succ]
      go_wp2_with fail
      rw [rounds_succ]
      go_wp2_with fail
      rw [rounds_succ]
      go_wp2_with fail
      go_ret2
      exact ⟨rfl, Kit.alloc1 ..⟩

set_option maxHeartbeats 1000000 in
set_option maxRecDepth 100000 in
/-- daybreakref07.Wrong. -/
theorem Hear.rwrong_calls (a b : Fr) (i : Int) (w : World) :
    Calls Try.prog 76 #[.agg #[.int .i64 a.k, .int .i64 a.i, .int .i64 b.k, .int .i64 b.i], .int .i64 i] w
      fun e w' => e = .returned (.bool (Wm.wrong i a b)) ∧ Below w.heap.size w w' := by
  unfold Wm.wrong
  obtain ⟨ak, ai⟩ := a
  obtain ⟨bk, bi⟩ := b
  simp only
  cases h1 : ak == 2 <;> cases h2 : bk == 2 <;> cases h3 : ai != i
  all_goals
    go_enter Try.func76, Try.ntmps76
    go_wp2_with fail
    go_ret
    exact ⟨by first | rfl | simp, Kit.alloc1 ..⟩

set_option maxHeartbeats 1000000 in
set_option maxRecDepth 100000 in
/-- daybreakref07.Match. -/
theorem Hear.rmatch_calls (a b : Fr) (i : Int) (w : World) :
    Calls Try.prog 78 #[.agg #[.int .i64 a.k, .int .i64 a.i, .int .i64 b.k, .int .i64 b.i], .int .i64 i] w
      fun e w' => e = .returned (.bool (Wm.match_ i a b)) ∧ Below w.heap.size w w' := by
  unfold Wm.match_
  obtain ⟨ak, ai⟩ := a
  obtain ⟨bk, bi⟩ := b
  simp only
  cases h1 : ak == 2 <;> cases h2 : bk == 2 <;> cases h3 : ai == i
  all_goals
    go_enter Try.func78, Try.ntmps78
    go_wp2_with fail
    go_ret
    exact ⟨by first | rfl | simp, Kit.alloc1 ..⟩

theorem Hear.ex1 : Hear.one 3 ⟨#[120]⟩ = Fr.none ∧ Hear.one 3 (Wire.put ⟨2, 2⟩) = ⟨2, 2⟩ ∧ Wm.wrong 1 Fr.none ⟨2, 2⟩ = true ∧ Wm.match_ 2 Fr.none ⟨2, 2⟩ = true ∧ (Wire.put ⟨2, 2⟩).size = 7 := by decide +kernel
theorem Hear.eq4 (a b c d a2 b2 c2 d2 : Int) (w : World) : (binOp .eql 75 (.agg #[.int .i64 a, .int .i64 b, .int .i64 c, .int .i64 d]) (.agg #[.int .i64 a2, .int .i64 b2, .int .i64 c2, .int .i64 d2])).run Try.prog w = .ok (.bool ((a == a2 && b == b2) && (c == c2 && d == d2))) w := by
  rw [run_eql_struct, Kit.run_equalIn_array w 9999 75 51 2 2 _ _ Try.underlying75 Try.sizeOf51]
  cases h1 : a == a2 <;> cases h2 : b == b2 <;> cases h3 : c == c2 <;> cases h4 : d == d2 <;> simp [Kit.eqElems, List.range', go_sem, h1, h2, h3, h4]

set_option maxHeartbeats 1000000 in
set_option maxRecDepth 100000 in
/-- The statements' own fixed fact. -/
theorem Hear.awake_calls (w : World) :
    Calls Try.prog 65 #[] w fun e w' => e = .returned (.bool true) ∧ Below w.heap.size w w' := by
  obtain ⟨e1, e2, e3, e4, e5⟩ := Hear.ex1
  have c1 := fun w => Wire.rput_calls ⟨2, 2⟩ w
  have c2 := fun w => Hear.of_calls 3 ⟨#[120]⟩ (Wire.put ⟨2, 2⟩) w (by omega) (by omega) (by decide) (by rw [e5]; decide)
  have c3 := fun w => Hear.of_no 2 ⟨#[]⟩ ⟨#[]⟩ w (by omega)
  have c4 := fun w => Hear.wrong_calls Fr.none ⟨2, 2⟩ 1 w
  have c5 := fun w => Hear.match_calls Fr.none ⟨2, 2⟩ 2 w
  have q1 := fun w => Hear.eq4 0 0 2 2 0 0 2 2 w
  rw [e1, e2] at c2
  rw [e3] at c4
  rw [e4] at c5
  clear e1 e2 e3 e4 e5
  generalize Wire.put ⟨2, 2⟩ = s at *
  simp only [Fr.none] at c2 c4 c5
  simp only [beq_self_eq_true, Bool.and_self] at q1
  go_enter Try.func65, Try.ntmps65
  go_wp2_with fail
  refine (c1 _).mono ?_
  rintro e w1 ⟨rfl, b1⟩
  have B1 := Lib.hid b1
  clear b1
  go_wp2_with fail
  refine (c2 _).mono ?_
  rintro e w2 ⟨rfl, b2⟩
  have B2 := Lib.hid (Kit.chain B1.out b2)
  clear b2
  go_wp2_with fail
  refine (c3 _).mono ?_
  rintro e w3 ⟨rfl, b3⟩
  have p0 := Kit.cell_new b3 0 rfl
  have p1 := Kit.cell_new b3 1 rfl
  have p2 := Kit.cell_new b3 2 rfl
  have p3 := Kit.cell_new b3 3 rfl
  have B3 := Lib.hid (Kit.chain B2.out (Kit.chain (Kit.alloc1 ..) b3))
  have hlt := Kit.lt_new b3
  clear b3
  go_wp2_with fail
  refine (c4 _).mono ?_
  rintro e w4 ⟨rfl, b4⟩
  replace b4 := Kit.chain (Kit.alloc1 ..) b4
  replace p0 := Kit.cell_below b4 p0
  replace p1 := Kit.cell_below b4 p1
  replace p2 := Kit.cell_below b4 p2
  replace p3 := Kit.cell_below b4 p3
  have B4 := Lib.hid (Kit.chain B3.out b4)
  clear b4
  go_wp2_with fail
  refine (c5 _).mono ?_
  rintro e w5 ⟨rfl, b5⟩
  have B5 := Lib.hid (Kit.chain B4.out b5)
  clear b5
  go_wp2_with fail
  go_ret
  exact ⟨rfl, B5.out⟩
end Go.Proofs.Ytpbkoooljelhjaa
