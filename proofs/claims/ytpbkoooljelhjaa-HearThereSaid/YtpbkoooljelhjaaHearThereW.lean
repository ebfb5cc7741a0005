/-
  HearThere: the walk of the statement's own function.
-/
import Derived.Test.YtpbkoooljelhjaaHear5
import Derived.Test.YtpbkoooljelhjaaOp4
namespace Go.Proofs.Ytpbkoooljelhjaa.HearThere
set_option linter.unusedVariables false
set_option linter.unusedSimpArgs false
open Go.RowKit

theorem one_ok (n : Int) (s : ByteArray) : Hear.one n s = Fr.none ∨ (((Hear.one n s).k = 1 ∨ (Hear.one n s).k = 2) ∧ 0 ≤ (Hear.one n s).i ∧ (Hear.one n s).i < n) := by
  unfold Hear.one
  split
  · rename_i h
    obtain ⟨h1, h2, h3⟩ := (Fr.right_iff _).1 h.1
    exact Or.inr ⟨h1, h2, h.2⟩
  · exact Or.inl rfl

set_option maxHeartbeats 4000000 in
set_option maxRecDepth 100000 in
theorem walk1 (n : Int) (a b d : ByteArray) (w : World) (hn : 0 ≤ n ∧ n ≤ 255) (ha : a.size ≤ 9223372036854775807) (hb : b.size ≤ 9223372036854775807) (hd : d.size ≤ 9223372036854775807) :
    Calls Try.prog 17 #[.agg #[.int .u8 n, .string a, .string b, .string d]] w fun e w' => e = .returned (.bool true) ∧ Below w.heap.size w w' := by
  obtain ⟨m, hm, hm3, hm8⟩ : ∃ m : Int, (3 : Int) + n % 6 = m ∧ 3 ≤ m ∧ m ≤ 8 := ⟨3 + n % 6, rfl, by omega, by omega⟩
  obtain ⟨hn0, hn1⟩ := hn
  have B0 : ∀ k, Below w.heap.size w ((w.alloc (.cells #[.int .u8 n, .string a, .string b, .string d] 80)).drewN k) := fun k => (Kit.alloc1 ..).trans ((Kit.below_drewN _ _).mono (by simp))
  by_cases h1 : 100 < a.size
  · have g1 : decide ((100 : Int) < (a.size : Int)) = true := by simp; omega
    have HM := Lib.hid hm
    clear h1 ha hb hd hm
    go_enter Try.func17, Try.ntmps17
    go_wp2_with fail
    go_quiet (fail)
    go_wp2_with fail
    refine (Hear.awake_calls _).mono ?_
    rintro e w1 ⟨rfl, b1⟩
    go_wp2_with fail
    go_ret
    exact ⟨rfl, Kit.chain (B0 _) b1⟩
  · have g1 : decide ((100 : Int) < (a.size : Int)) = false := by simp; omega
    by_cases h2 : 100 < b.size
    · have g2 : decide ((100 : Int) < (b.size : Int)) = true := by simp; omega
      have HM := Lib.hid hm
      clear h1 h2 ha hb hd hm
      go_enter Try.func17, Try.ntmps17
      go_wp2_with fail
      go_quiet (fail)
      go_wp2_with fail
      refine (Hear.awake_calls _).mono ?_
      rintro e w1 ⟨rfl, b1⟩
      go_wp2_with fail
      go_ret
      exact ⟨rfl, Kit.chain (B0 _) b1⟩
    · have g2 : decide ((100 : Int) < (b.size : Int)) = false := by simp; omega
      by_cases h3 : 100 < d.size
      · have g3 : decide ((100 : Int) < (d.size : Int)) = true := by simp; omega
        have HM := Lib.hid hm
        clear h1 h2 h3 ha hb hd hm
        go_enter Try.func17, Try.ntmps17
        go_wp2_with fail
        go_quiet (fail)
        go_wp2_with fail
        refine (Hear.awake_calls _).mono ?_
        rintro e w1 ⟨rfl, b1⟩
        go_wp2_with fail
        go_ret
        exact ⟨rfl, Kit.chain (B0 _) b1⟩
      · have g3 : decide ((100 : Int) < (d.size : Int)) = false := by simp; omega
        have k1 := fun W => Hear.of_calls m a b W hm3 hm8 ha hb
        have k2 := fun W => Hear.of_calls m a d W hm3 hm8 ha hd
        have oa := one_ok m a
        have ob := one_ok m b
        generalize Hear.one m a = x at *
        generalize Hear.one m b = y at *
        generalize Hear.one m d = z at *
        obtain ⟨xk, xi⟩ := x
        obtain ⟨yk, yi⟩ := y
        obtain ⟨zk, zi⟩ := z
        simp only at k1 k2
        have HX := Lib.hid oa
        have HY := Lib.hid ob
        clear h1 h2 h3 ha hb hd oa ob
        go_enter Try.func17, Try.ntmps17
        go_wp2_with fail
        go_quiet (fail)
        go_wp2_with fail
        first | rw [hm] | skip
        refine (k1 _).mono ?_
        rintro e w1 ⟨rfl, b1⟩
        have B1 := Lib.hid (Kit.chain (B0 _) b1)
        have HM := Lib.hid hm
        clear b1 B0
        go_wp2_with fail
        refine (k2 _).mono ?_
        rintro e w2 ⟨rfl, b2⟩
        have p0 := Kit.cell_new b2 0 rfl
        have p1 := Kit.cell_new b2 1 rfl
        have p2 := Kit.cell_new b2 2 rfl
        have p3 := Kit.cell_new b2 3 rfl
        have s2 := Kit.lt_new b2
        have B2 := Lib.hid (Kit.chain B1.out (Kit.chain (Kit.alloc1 ..) b2))
        clear b2 k1 k2
        go_wp2_with fail
        go_loopw [12] (fun vi wr => ∃ k : Nat, k ≤ 2 ∧ vi = .int .i64 k ∧ Hid (Below w2.heap.size w2 wr) ∧ Hid (wr.heap.size ≥ w2.heap.size + 1) ∧ wr.cell? ⟨w2.heap.size, 0, none⟩ = some (.int .i64 xk) ∧ wr.cell? ⟨w2.heap.size, 1, none⟩ = some (.int .i64 xi)) (fun vi _ => 2 - (intOf vi).toNat)
        case atStart => exact ⟨0, by omega, rfl, Lib.hid (Kit.alloc1 ..), Lib.hid (by simp), by go_simp, by go_simp⟩
        case round =>
          obtain ⟨k, hk, rfl, HW, HS, c0, c1⟩ := hrel
          have hwl := World.block_lt_of_cell? wr ⟨w2.heap.size, 0, none⟩ c0
          have p0' := Kit.cell_below HW.out p0
          have p1' := Kit.cell_below HW.out p1
          have p2' := Kit.cell_below HW.out p2
          have p3' := Kit.cell_below HW.out p3
          have hk' : k = 0 ∨ k = 1 ∨ k = 2 := by omega
          rcases hk' with rfl | rfl | rfl
          · rcases HX.out with e0 | ⟨ek, e1, e2⟩
            · have u1 := congrArg Fr.k e0
              have u2 := congrArg Fr.i e0
              simp only [Fr.none] at u1 u2
              subst u1 u2
              clear e0
              go_wp2_with fail
              go_roundw
              case rel => exact ⟨1, by omega, by go_num, Lib.hid (HW.out.alloc HW.out.size _), Lib.hid (by have := HS.out; simp; omega), by go_simp, by go_simp⟩
              case measure => first | decide | omega | (simp [intOf]; done) | (simp [intOf]; omega)
            · try simp only at ek e1 e2
              have v1 : decide (xi < 0) = false := decide_eq_false (by omega)
              have v2 : decide (m ≤ xi) = false := decide_eq_false (by omega)
              rcases ek with rfl | rfl
              all_goals
                go_wp2_with fail
                go_roundw
                case rel => exact ⟨1, by omega, by go_num, Lib.hid (HW.out.alloc HW.out.size _), Lib.hid (by have := HS.out; simp; omega), by go_simp, by go_simp⟩
                case measure => first | decide | omega | (simp [intOf]; done) | (simp [intOf]; omega)
          · rcases HY.out with e0 | ⟨ek, e1, e2⟩
            · have u1 := congrArg Fr.k e0
              have u2 := congrArg Fr.i e0
              simp only [Fr.none] at u1 u2
              subst u1 u2
              clear e0
              go_wp2_with fail
              go_roundw
              case rel => exact ⟨2, by omega, by go_num, Lib.hid (HW.out.alloc HW.out.size _), Lib.hid (by have := HS.out; simp; omega), by go_simp, by go_simp⟩
              case measure => first | decide | omega | (simp [intOf]; done) | (simp [intOf]; omega)
            · try simp only at ek e1 e2
              have v1 : decide (yi < 0) = false := decide_eq_false (by omega)
              have v2 : decide (m ≤ yi) = false := decide_eq_false (by omega)
              rcases ek with rfl | rfl
              all_goals
                go_wp2_with fail
                go_roundw
                case rel => exact ⟨2, by omega, by go_num, Lib.hid (HW.out.alloc HW.out.size _), Lib.hid (by have := HS.out; simp; omega), by go_simp, by go_simp⟩
                case measure => first | decide | omega | (simp [intOf]; done) | (simp [intOf]; omega)
          · go_wp2_with fail
            refine (Hear.awake_calls _).mono ?_
            rintro e w3 ⟨rfl, b3⟩
            replace c0 := Kit.cell_below b3 c0
            replace c1 := Kit.cell_below b3 c1
            replace p0' := Kit.cell_below b3 p0'
            replace p1' := Kit.cell_below b3 p1'
            have B3 := Lib.hid (Kit.chain (Kit.chain B2.out HW.out) b3)
            clear b3
            go_wp2_with fail
            go_ret
            exact ⟨by simp, B3.out⟩

theorem walk (v : Value) {w : World} (w0 : Op.IsHThree w v) (w' : World) (hw : w' = w := by rfl) :
    Calls Try.prog 17 #[v] w fun e w' => e = .returned (.bool true) ∧ Below w.heap.size w w' := by
  obtain ⟨n, a, b, d, rfl, hn, ha, hb, hd⟩ := w0
  unfold maxLen at ha hb hd
  exact walk1 n a b d w hn (by omega) (by omega) (by omega)
end Go.Proofs.Ytpbkoooljelhjaa.HearThere
