/-
  HearTells: the walk of the statement's own function.
-/
import Derived.Test.YtpbkoooljelhjaaHear5
import Derived.Test.YtpbkoooljelhjaaOp4
import Derived.Deep.RegionHeld3
namespace Go.Proofs.Ytpbkoooljelhjaa.HearTells
set_option linter.unusedVariables false
set_option linter.unusedSimpArgs false
open Go.RowKit

set_option maxHeartbeats 4000000 in
set_option maxRecDepth 100000 in
theorem walk1 (n q i h0k h0i h1k h1i : Int) (a b : ByteArray) (w : World) (ha : a.size ≤ 9223372036854775807) (hb : b.size ≤ 9223372036854775807) :
    Calls Try.prog 19 #[.agg #[.int .i64 n, .string a, .string b, .int .i64 h0k, .int .i64 h0i, .int .i64 h1k, .int .i64 h1i, .int .i64 q, .int .i64 i]] w fun e w' => e = .returned (.bool true) ∧ Below w.heap.size w w' := by
  by_cases h1 : 100 < a.size
  · have g1 : decide ((100 : Int) < (a.size : Int)) = true := by simp; omega
    clear h1 ha hb
    go_enter Try.func19, Try.ntmps19
    go_wp2_with fail
    refine (Hear.awake_calls _).mono ?_
    rintro e w1 ⟨rfl, b1⟩
    go_wp2_with fail
    go_ret
    exact ⟨rfl, Kit.chain (Kit.alloc1 ..) b1⟩
  · have g1 : decide ((100 : Int) < (a.size : Int)) = false := by simp; omega
    by_cases h2 : 100 < b.size
    · have g2 : decide ((100 : Int) < (b.size : Int)) = true := by simp; omega
      clear h1 h2 ha hb
      go_enter Try.func19, Try.ntmps19
      go_wp2_with fail
      refine (Hear.awake_calls _).mono ?_
      rintro e w1 ⟨rfl, b1⟩
      go_wp2_with fail
      go_ret
      exact ⟨rfl, Kit.chain (Kit.alloc1 ..) b1⟩
    · have g2 : decide ((100 : Int) < (b.size : Int)) = false := by simp; omega
      have k1 := fun W => Hear.of_any n a b W ha hb
      have k2 := fun W => Hear.rof_any n a b W
      have k3 := fun W => Hear.info_calls ⟨h0k, h0i⟩ ⟨h1k, h1i⟩ W
      have k4 := fun W => Hear.rinfo_calls ⟨h0k, h0i⟩ ⟨h1k, h1i⟩ W
      have k3' := fun W => Hear.other_calls ⟨h0k, h0i⟩ ⟨h1k, h1i⟩ i W
      have k4' := fun W => Hear.rother_calls ⟨h0k, h0i⟩ ⟨h1k, h1i⟩ i W
      have k5 := fun W => Hear.wrong_calls ⟨h0k, h0i⟩ ⟨h1k, h1i⟩ q W
      have k6 := fun W => Hear.rwrong_calls ⟨h0k, h0i⟩ ⟨h1k, h1i⟩ q W
      have k7 := fun W => Hear.match_calls ⟨h0k, h0i⟩ ⟨h1k, h1i⟩ q W
      have k8 := fun W => Hear.rmatch_calls ⟨h0k, h0i⟩ ⟨h1k, h1i⟩ q W
      generalize Hear.ofV n a b = o at *
      obtain ⟨⟨xk, xi⟩, ⟨yk, yi⟩, er⟩ := o
      simp only at k1 k2 k3 k4 k3' k4' k5 k6 k7 k8
      generalize Hear.oi (Wm.info ⟨h0k, h0i⟩ ⟨h1k, h1i⟩) = o1 at *
      generalize (Wm.info ⟨h0k, h0i⟩ ⟨h1k, h1i⟩).isSome = o2 at *
      generalize Hear.oi (Wm.other i ⟨h0k, h0i⟩ ⟨h1k, h1i⟩) = o3 at *
      generalize (Wm.other i ⟨h0k, h0i⟩ ⟨h1k, h1i⟩).isSome = o4 at *
      generalize Wm.wrong q ⟨h0k, h0i⟩ ⟨h1k, h1i⟩ = o5 at *
      generalize Wm.match_ q ⟨h0k, h0i⟩ ⟨h1k, h1i⟩ = o6 at *
      have hq4 := fun W => Hear.eq4 xk xi yk yi xk xi yk yi W
      simp only [beq_self_eq_true, Bool.and_self] at hq4
      clear h1 h2 ha hb
      go_enter Try.func19, Try.ntmps19
      go_wp2_with fail
      refine (k1 _).mono ?_
      rintro e w1 ⟨rfl, b1⟩
      have z0 := Kit.cell_new b1 0 rfl
      have z1 := Kit.cell_new b1 1 rfl
      have z2 := Kit.cell_new b1 2 rfl
      have z3 := Kit.cell_new b1 3 rfl
      have z4 := Kit.cell_new b1 4 rfl
      have z5 := Kit.cell_new b1 5 rfl
      have z6 := Kit.cell_new b1 6 rfl
      have z7 := Kit.cell_new b1 7 rfl
      have z8 := Kit.cell_new b1 8 rfl
      have B1 := Lib.hid (Kit.chain (Kit.alloc1 ..) b1)
      have s1 := Kit.lt_new b1
      clear b1
      go_wp2_with fail
      refine (k2 _).mono ?_
      rintro e w2 ⟨rfl, b2⟩
      have p0 := Kit.cell_new b2 0 rfl
      have p1 := Kit.cell_new b2 1 rfl
      have p2 := Kit.cell_new b2 2 rfl
      have p3 := Kit.cell_new b2 3 rfl
      have s2 := Kit.lt_new b2
      have s12 := Nat.lt_trans s1 s2
      replace b2 := Kit.chain (Kit.alloc1 ..) b2
      replace z0 := Kit.cell_below b2 z0
      replace z1 := Kit.cell_below b2 z1
      replace z2 := Kit.cell_below b2 z2
      replace z3 := Kit.cell_below b2 z3
      replace z4 := Kit.cell_below b2 z4
      replace z5 := Kit.cell_below b2 z5
      replace z6 := Kit.cell_below b2 z6
      replace z7 := Kit.cell_below b2 z7
      replace z8 := Kit.cell_below b2 z8
      have B2 := Lib.hid (Kit.chain B1.out b2)
      clear b2
      go_wp2_with fail
      refine (k3 _).mono ?_
      rintro e w3 ⟨rfl, b3⟩
      have q0 := Kit.cell_new b3 0 rfl
      have q1 := Kit.cell_new b3 1 rfl
      have q2 := Kit.cell_new b3 2 rfl
      have q3 := Kit.cell_new b3 3 rfl
      have s3 := Kit.lt_new b3
      have s23 := Nat.lt_trans s2 s3
      have s123 := Nat.lt_trans s12 s3
      replace b3 := Kit.chain (Kit.alloc1 ..) b3
      replace z0 := Kit.cell_below b3 z0
      replace z1 := Kit.cell_below b3 z1
      replace z2 := Kit.cell_below b3 z2
      replace z3 := Kit.cell_below b3 z3
      replace z4 := Kit.cell_below b3 z4
      replace z5 := Kit.cell_below b3 z5
      replace z6 := Kit.cell_below b3 z6
      replace z7 := Kit.cell_below b3 z7
      replace z8 := Kit.cell_below b3 z8
      replace p0 := Kit.cell_below b3 p0
      replace p1 := Kit.cell_below b3 p1
      replace p2 := Kit.cell_below b3 p2
      replace p3 := Kit.cell_below b3 p3
      have B3 := Lib.hid (Kit.chain B2.out b3)
      clear b3
      go_wp2_with fail
      refine (k4 _).mono ?_
      rintro e w4 ⟨rfl, b4⟩
      replace z0 := Kit.cell_below b4 z0
      replace z1 := Kit.cell_below b4 z1
      replace z2 := Kit.cell_below b4 z2
      replace z3 := Kit.cell_below b4 z3
      replace z4 := Kit.cell_below b4 z4
      replace z5 := Kit.cell_below b4 z5
      replace z6 := Kit.cell_below b4 z6
      replace z7 := Kit.cell_below b4 z7
      replace z8 := Kit.cell_below b4 z8
      replace p0 := Kit.cell_below b4 p0
      replace p1 := Kit.cell_below b4 p1
      replace p2 := Kit.cell_below b4 p2
      replace p3 := Kit.cell_below b4 p3
      replace q0 := Kit.cell_below b4 q0
      replace q1 := Kit.cell_below b4 q1
      replace q2 := Kit.cell_below b4 q2
      replace q3 := Kit.cell_below b4 q3
      have B4 := Lib.hid (Kit.chain B3.out b4)
      clear b4
      go_wp2_with fail
      refine (k3' _).mono ?_
      rintro e w5 ⟨rfl, b5⟩
      replace z0 := Kit.cell_below b5 z0
      replace z1 := Kit.cell_below b5 z1
      replace z2 := Kit.cell_below b5 z2
      replace z3 := Kit.cell_below b5 z3
      replace z4 := Kit.cell_below b5 z4
      replace z5 := Kit.cell_below b5 z5
      replace z6 := Kit.cell_below b5 z6
      replace z7 := Kit.cell_below b5 z7
      replace z8 := Kit.cell_below b5 z8
      replace p0 := Kit.cell_below b5 p0
      replace p1 := Kit.cell_below b5 p1
      replace p2 := Kit.cell_below b5 p2
      replace p3 := Kit.cell_below b5 p3
      replace q0 := Kit.cell_below b5 q0
      replace q1 := Kit.cell_below b5 q1
      replace q2 := Kit.cell_below b5 q2
      replace q3 := Kit.cell_below b5 q3
      have B5 := Lib.hid (Kit.chain B4.out b5)
      clear b5
      go_wp2_with fail
      refine (k4' _).mono ?_
      rintro e w6 ⟨rfl, b6⟩
      replace z0 := Kit.cell_below b6 z0
      replace z1 := Kit.cell_below b6 z1
      replace z2 := Kit.cell_below b6 z2
      replace z3 := Kit.cell_below b6 z3
      replace z4 := Kit.cell_below b6 z4
      replace z5 := Kit.cell_below b6 z5
      replace z6 := Kit.cell_below b6 z6
      replace z7 := Kit.cell_below b6 z7
      replace z8 := Kit.cell_below b6 z8
      replace p0 := Kit.cell_below b6 p0
      replace p1 := Kit.cell_below b6 p1
      replace p2 := Kit.cell_below b6 p2
      replace p3 := Kit.cell_below b6 p3
      replace q0 := Kit.cell_below b6 q0
      replace q1 := Kit.cell_below b6 q1
      replace q2 := Kit.cell_below b6 q2
      replace q3 := Kit.cell_below b6 q3
      have B6 := Lib.hid (Kit.chain B5.out b6)
      clear b6 k1 k2 k3 k4 k3' k4'
      go_wp2_with fail
      go_region_held3 (fun w' => w'.cell? ⟨w.heap.size, 3, none⟩ = some (.int .i64 h0k) ∧ w'.cell? ⟨w.heap.size, 4, none⟩ = some (.int .i64 h0i) ∧ w'.cell? ⟨w.heap.size, 5, none⟩ = some (.int .i64 h1k) ∧ w'.cell? ⟨w.heap.size, 6, none⟩ = some (.int .i64 h1i) ∧ w'.cell? ⟨w.heap.size, 7, none⟩ = some (.int .i64 q) ∧ w'.cell? ⟨w1.heap.size, 0, none⟩ = some (.int .i64 xk) ∧ w'.cell? ⟨w1.heap.size, 1, none⟩ = some (.int .i64 xi) ∧ w'.cell? ⟨w1.heap.size, 2, none⟩ = some (.int .i64 yk) ∧ w'.cell? ⟨w1.heap.size, 3, none⟩ = some (.int .i64 yi) ∧ w'.cell? ⟨w2.heap.size, 0, none⟩ = some (.int .i64 xk) ∧ w'.cell? ⟨w2.heap.size, 1, none⟩ = some (.int .i64 xi) ∧ w'.cell? ⟨w2.heap.size, 2, none⟩ = some (.int .i64 yk) ∧ w'.cell? ⟨w2.heap.size, 3, none⟩ = some (.int .i64 yi)) (go_keep)
        (first | (go_at_call 65; refine (Hear.awake_calls _).mono ?_; rintro e mw0 ⟨rfl, mb0⟩; have mc0_0 := Kit.cell_below mb0 z3; have mc0_1 := Kit.cell_below mb0 z4; have mc0_2 := Kit.cell_below mb0 z5; have mc0_3 := Kit.cell_below mb0 z6; have mc0_4 := Kit.cell_below mb0 z7; have mc0_5 := Kit.cell_below mb0 p0; have mc0_6 := Kit.cell_below mb0 p1; have mc0_7 := Kit.cell_below mb0 p2; have mc0_8 := Kit.cell_below mb0 p3; have mc0_9 := Kit.cell_below mb0 q0; have mc0_10 := Kit.cell_below mb0 q1; have mc0_11 := Kit.cell_below mb0 q2; have mc0_12 := Kit.cell_below mb0 q3; have mB0 := Lib.hid (B6.out.drew.trans (mb0.mono B6.out.drew.size)); clear mb0) | (go_at_call 75; refine (k5 _).mono ?_; rintro e mw1 ⟨rfl, mb1⟩; have mc1_0 := Kit.cell_below mb1 mc0_0; have mc1_1 := Kit.cell_below mb1 mc0_1; have mc1_2 := Kit.cell_below mb1 mc0_2; have mc1_3 := Kit.cell_below mb1 mc0_3; have mc1_4 := Kit.cell_below mb1 mc0_4; have mc1_5 := Kit.cell_below mb1 mc0_5; have mc1_6 := Kit.cell_below mb1 mc0_6; have mc1_7 := Kit.cell_below mb1 mc0_7; have mc1_8 := Kit.cell_below mb1 mc0_8; have mc1_9 := Kit.cell_below mb1 mc0_9; have mc1_10 := Kit.cell_below mb1 mc0_10; have mc1_11 := Kit.cell_below mb1 mc0_11; have mc1_12 := Kit.cell_below mb1 mc0_12; have mB1 := Lib.hid (Kit.chain mB0.out mb1); clear mb1) | (go_at_call 76; refine (k6 _).mono ?_; rintro e mw2 ⟨rfl, mb2⟩; have mc2_0 := Kit.cell_below mb2 mc1_0; have mc2_1 := Kit.cell_below mb2 mc1_1; have mc2_2 := Kit.cell_below mb2 mc1_2; have mc2_3 := Kit.cell_below mb2 mc1_3; have mc2_4 := Kit.cell_below mb2 mc1_4; have mc2_5 := Kit.cell_below mb2 mc1_5; have mc2_6 := Kit.cell_below mb2 mc1_6; have mc2_7 := Kit.cell_below mb2 mc1_7; have mc2_8 := Kit.cell_below mb2 mc1_8; have mc2_9 := Kit.cell_below mb2 mc1_9; have mc2_10 := Kit.cell_below mb2 mc1_10; have mc2_11 := Kit.cell_below mb2 mc1_11; have mc2_12 := Kit.cell_below mb2 mc1_12; have mB2 := Lib.hid (Kit.chain mB1.out mb2); clear mb2) | (go_at_call 77; refine (k7 _).mono ?_; rintro e mw3 ⟨rfl, mb3⟩; have mc3_0 := Kit.cell_below mb3 mc2_0; have mc3_1 := Kit.cell_below mb3 mc2_1; have mc3_2 := Kit.cell_below mb3 mc2_2; have mc3_3 := Kit.cell_below mb3 mc2_3; have mc3_4 := Kit.cell_below mb3 mc2_4; have mc3_5 := Kit.cell_below mb3 mc2_5; have mc3_6 := Kit.cell_below mb3 mc2_6; have mc3_7 := Kit.cell_below mb3 mc2_7; have mc3_8 := Kit.cell_below mb3 mc2_8; have mc3_9 := Kit.cell_below mb3 mc2_9; have mc3_10 := Kit.cell_below mb3 mc2_10; have mc3_11 := Kit.cell_below mb3 mc2_11; have mc3_12 := Kit.cell_below mb3 mc2_12; have mB3 := Lib.hid (Kit.chain mB2.out mb3); clear mb3) | (go_at_call 78; refine (k8 _).mono ?_; rintro e mw4 ⟨rfl, mb4⟩; have mc4_0 := Kit.cell_below mb4 mc3_0; have mc4_1 := Kit.cell_below mb4 mc3_1; have mc4_2 := Kit.cell_below mb4 mc3_2; have mc4_3 := Kit.cell_below mb4 mc3_3; have mc4_4 := Kit.cell_below mb4 mc3_4; have mc4_5 := Kit.cell_below mb4 mc3_5; have mc4_6 := Kit.cell_below mb4 mc3_6; have mc4_7 := Kit.cell_below mb4 mc3_7; have mc4_8 := Kit.cell_below mb4 mc3_8; have mc4_9 := Kit.cell_below mb4 mc3_9; have mc4_10 := Kit.cell_below mb4 mc3_10; have mc4_11 := Kit.cell_below mb4 mc3_11; have mc4_12 := Kit.cell_below mb4 mc3_12; have mB4 := Lib.hid (Kit.chain mB3.out mb4); clear mb4))
      go_wp2_with fail
      go_ret
      exact ⟨by simp, mB4.out⟩

theorem walk (v : Value) {w : World} (w0 : Op.IsHAsk w v) (w' : World) (hw : w' = w := by rfl) :
    Calls Try.prog 19 #[v] w fun e w' => e = .returned (.bool true) ∧ Below w.heap.size w w' := by
  obtain ⟨n, a, b, h0k, h0i, h1k, h1i, q, i, rfl, _, ha, hb, _⟩ := w0
  unfold maxLen at ha hb
  exact walk1 n q i h0k h0i h1k h1i a b w (by omega) (by omega)
end Go.Proofs.Ytpbkoooljelhjaa.HearTells
