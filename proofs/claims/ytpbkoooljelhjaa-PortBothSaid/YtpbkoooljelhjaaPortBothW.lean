/-
  PortBoth: the walk of the statement's own function.
-/
import Derived.Test.YtpbkoooljelhjaaPort7
import Derived.Test.YtpbkoooljelhjaaOp3
namespace Go.Proofs.Ytpbkoooljelhjaa.PortBoth
set_option linter.unusedVariables false
set_option linter.unusedSimpArgs false
open Go.RowKit

theorem both_self : ∀ a : List Fr, Port.both a a = a
  | [] => rfl
  | x :: a => by
    have := both_self a
    unfold Port.both at this ⊢
    rw [List.zipWith_cons_cons, this]
    unfold Port.pick
    split <;> rfl
theorem both_none : ∀ a : List Fr, Port.both (List.replicate a.length Fr.none) a = a
  | [] => rfl
  | x :: a => by
    have := both_none a
    unfold Port.both at this ⊢
    rw [List.length_cons, List.replicate_succ, List.zipWith_cons_cons, this]
    rfl

set_option maxHeartbeats 2000000 in
set_option maxRecDepth 100000 in
theorem walk1 (A1 A2 : Option Addr) (n c1 c2 : Nat) (a b : List Fr) (w : World) (ha : Frames w A1 n a) (hb : Frames w A2 n b) (h : n ≤ 20) :
    Calls Try.prog 14 #[.slice A1 n c1, .slice A2 n c2] w fun e w' => e = .returned (.bool true) ∧ Below w.heap.size w w' := by
  obtain ⟨i0, hi, hz0, hz1, hz2⟩ := info_parts Port.info
  have g1 : decide ((20 : Int) < (n : Int)) = false := by simp; omega
  obtain ⟨W0, hrun, hown0, hg0⟩ := run_make_full (P := Try.prog) w w.heap.size 60 51 i0 (.agg #[.int .i64 0, .int .i64 0]) 2 Try.underlying60 hi hz0 hz1 .i64 .i64 n (by rw [hz2]; omega) (by unfold maxLen; omega) (Nat.le_refl _)
  rw [Port.made] at hown0
  have B0 := Lib.hid ((Below.refl w.heap.size w).grown hg0 (Nat.le_refl _) (fun q hq => by cases hq))
  have hal := ha.len
  have hbl := hb.len
  have hself := both_self a
  have hnone := both_none a
  rw [hal] at hnone
  have HA := Lib.hid ha
  have HB := Lib.hid hb
  have HAL := Lib.hid hal
  have HBL := Lib.hid hbl
  have hown0' : W0.ownsRow w.heap.size 51 2 (.slice (some ⟨w.heap.size, 0, none⟩) n n) (List.replicate n Fr.none).length (Port.cells (List.replicate n Fr.none)) := by rw [List.length_replicate]; exact hown0
  obtain ⟨An, cn, hvn, hfn⟩ := Port.of_own hown0'
  rw [List.length_replicate] at hvn hfn
  have HN := Lib.hid hfn
  rw [hvn] at hrun
  clear ha hb hg0 hown0 hown0' hfn hvn
  have k1 := Port.both_calls A1 A1 n c1 n c1 a a W0 (HA.out.below B0.out) (HA.out.below B0.out) (by omega) (by omega)
  rw [if_pos rfl, if_pos rfl, hself] at k1
  go_enter Try.func14, Try.ntmps14
  go_wp2_with fail
  refine k1.mono ?_
  clear k1 hrun
  rintro e w2 ⟨v2, rfl, hown2, b2⟩
  obtain ⟨Ax, cx, rfl, hfx⟩ := Port.of_own hown2
  rw [HAL.out] at hfx ⊢
  have B2 := Lib.hid (Kit.chain B0.out b2)
  have k2 := Port.both_calls An A1 n cn n c1 (List.replicate n Fr.none) a w2 (HN.out.below b2) (HA.out.below B2.out) (by omega) (by omega)
  rw [if_pos rfl, if_pos rfl, hnone] at k2
  have HX2 := Lib.hid hfx
  clear b2 hown2 hfx HN
  go_wp2_with fail
  refine k2.mono ?_
  clear k2
  rintro e w3 ⟨v3, rfl, hown3, b3⟩
  obtain ⟨Ay, cy, rfl, hfy⟩ := Port.of_own hown3
  rw [HAL.out] at hfy ⊢
  have B3 := Lib.hid (Kit.chain B2.out b3)
  have HX3 := Lib.hid (HX2.out.below b3)
  have HY3 := Lib.hid hfy
  have k3 := Port.both_calls A1 A2 n c1 n c2 a b w3 (HA.out.below B3.out) (HB.out.below B3.out) (by omega) (by omega)
  rw [if_pos rfl, if_pos rfl] at k3
  clear b3 hown3 hfy HX2
  go_wp2_with fail
  refine k3.mono ?_
  clear k3
  rintro e w4 ⟨v4, rfl, hown4, b4⟩
  have hzl : (Port.both a b).length = n := by rw [Port.both_len a b (by rw [HAL.out, HBL.out]), HBL.out]
  obtain ⟨Az, cz, rfl, hfz⟩ := Port.of_own hown4
  rw [hzl] at hfz ⊢
  have B4 := Lib.hid (Kit.chain B3.out b4)
  have HY4 := Lib.hid (HY3.out.below b4)
  have HZ4 := Lib.hid hfz
  have k4 := Port.rsame_calls Ax A1 n cx n c1 a a w4 (HX3.out.below b4) (HA.out.below B4.out) (by omega) (by omega)
  rw [decide_eq_true rfl] at k4
  clear b4 hown4 hfz HX3 HY3
  go_wp2_with fail
  refine k4.mono ?_
  clear k4
  rintro e w5 ⟨rfl, b5⟩
  have B5 := Lib.hid (Kit.chain B4.out b5)
  have HZ5 := Lib.hid (HZ4.out.below b5)
  have k5 := Port.rsame_calls Ay A1 n cy n c1 a a w5 (HY4.out.below b5) (HA.out.below B5.out) (by omega) (by omega)
  rw [decide_eq_true rfl] at k5
  clear b5 HZ4 HY4
  go_wp2_with fail
  refine k5.mono ?_
  clear k5
  rintro e w6 ⟨rfl, b6⟩
  have B6 := Lib.hid (Kit.chain B5.out b6)
  have HZ6 := Lib.hid (HZ5.out.below b6)
  clear b6 HZ5
  have HZL := Lib.hid hzl
  clear hzl hself hnone hal hbl
  go_wp2_with fail
  go_loopw [12] (fun vi wr => ∃ k : Nat, k ≤ n ∧ vi = .int .i64 k ∧ Hid (Below w6.heap.size w6 wr)) (fun vi _ => n - (intOf vi).toNat)
  case atStart => exact ⟨0, by omega, rfl, Lib.hid (Below.refl _ _)⟩
  case round =>
    obtain ⟨k, hk, rfl, HW⟩ := hrel
    have HB7 := Lib.hid (Kit.chain B6.out HW.out)
    by_cases hlt : k < n
    · obtain ⟨a1, o1, rfl, hb1, hrow1⟩ := HA.out.row (by omega)
      obtain ⟨a2, o2, rfl, hb2, hrow2⟩ := HB.out.row (by omega)
      obtain ⟨a3, o3, rfl, hb3, hrow3⟩ := HZ6.out.row (by omega)
      have hka : k < a.length := by rw [HAL.out]; exact hlt
      have hkb : k < b.length := by rw [HBL.out]; exact hlt
      obtain ⟨x, hx⟩ : ∃ x, a[k]? = some x := ⟨_, List.getElem?_eq_getElem hka⟩
      obtain ⟨y, hy⟩ : ∃ y, b[k]? = some y := ⟨_, List.getElem?_eq_getElem hkb⟩
      have hpk := Port.both_get a b k x y hx hy
      obtain ⟨r0, r1⟩ := hrow1 k x hx
      obtain ⟨q0, q1⟩ := hrow2 k y hy
      obtain ⟨p0, p1⟩ := hrow3 k _ hpk
      have m0 := (HB7.out.cell (p := ⟨a1, o1 + k * 2, none⟩) hb1).trans r0
      have m1 := (HB7.out.cell (p := ⟨a1, o1 + k * 2 + 1, none⟩) hb1).trans r1
      have m2 := (HB7.out.cell (p := ⟨a2, o2 + k * 2, none⟩) hb2).trans q0
      have m3 := (HB7.out.cell (p := ⟨a2, o2 + k * 2 + 1, none⟩) hb2).trans q1
      have m4 := (HW.out.cell (p := ⟨a3, o3 + k * 2, none⟩) hb3).trans p0
      have m5 := (HW.out.cell (p := ⟨a3, o3 + k * 2 + 1, none⟩) hb3).trans p1
      clear hrow1 hrow2 hrow3 hx hy hpk r0 r1 q0 q1 p0 p1 hka hkb
      by_cases hxz : x = Fr.none
      · subst hxz
        rw [show Port.pick Fr.none y = y from rfl] at m4 m5
        simp only [Fr.none] at m0 m1
        by_cases e1 : y.k = 0
        · by_cases e2 : y.i = 0
          · rw [e1] at m2 m4
            rw [e2] at m3 m5
            clear e1 e2
            go_wp2_with fail
            go_quiet (fail)
            go_wp2_with fail
            go_roundw
            case rel => exact ⟨k + 1, by omega, by go_num, Lib.hid (HW.out.trans ((Kit.below_drewN _ _).mono HW.out.size))⟩
            case measure => simp [intOf]; omega
          · have e3 : (y.i == 0) = false := by rw [beq_eq_false_iff_ne]; exact e2
            rw [e1] at m2 m4
            clear e1 e2
            go_wp2_with fail
            go_quiet (fail)
            go_wp2_with fail
            go_roundw
            case rel => exact ⟨k + 1, by omega, by go_num, Lib.hid (HW.out.trans ((Kit.below_drewN _ _).mono HW.out.size))⟩
            case measure => simp [intOf]; omega
        · have e3 : (y.k == 0) = false := by rw [beq_eq_false_iff_ne]; exact e1
          clear e1
          go_wp2_with fail
          go_quiet (fail)
          go_wp2_with fail
          go_roundw
          case rel => exact ⟨k + 1, by omega, by go_num, Lib.hid (HW.out.trans ((Kit.below_drewN _ _).mono HW.out.size))⟩
          case measure => simp [intOf]; omega
      · rw [show Port.pick x y = x from if_neg hxz] at m4 m5
        clear hxz
        go_wp2_with fail
        go_quiet (fail)
        go_wp2_with fail
        go_roundw
        case rel => exact ⟨k + 1, by omega, by go_num, Lib.hid (HW.out.trans ((Kit.below_drewN _ _).mono HW.out.size))⟩
        case measure => simp [intOf]; omega
    · obtain rfl : k = n := by omega
      go_wp2_with fail
      refine (Port.awake_calls _).mono ?_
      rintro e w7 ⟨rfl, b7⟩
      go_wp2_with fail
      go_ret
      exact ⟨rfl, Kit.chain HB7.out b7⟩

set_option maxHeartbeats 400000 in
set_option maxRecDepth 100000 in
theorem walk0 (A1 A2 : Option Addr) (n c1 n2 c2 : Nat) (w : World) (h : 20 < n) :
    Calls Try.prog 14 #[.slice A1 n c1, .slice A2 n2 c2] w fun e w' => e = .returned (.bool true) ∧ Below w.heap.size w w' := by
  have g1 : decide ((20 : Int) < (n : Int)) = true := by simp; omega
  go_enter Try.func14, Try.ntmps14
  go_wp2_with fail
  refine (Port.awake_calls _).mono ?_
  rintro e w2 ⟨rfl, b2⟩
  go_wp2_with fail
  go_ret
  exact ⟨rfl, b2⟩

set_option maxHeartbeats 400000 in
set_option maxRecDepth 100000 in
theorem walk2 (A1 A2 : Option Addr) (n c1 n2 c2 : Nat) (w : World) (h : n ≤ 20) (hne : ¬ n = n2) :
    Calls Try.prog 14 #[.slice A1 n c1, .slice A2 n2 c2] w fun e w' => e = .returned (.bool true) ∧ Below w.heap.size w w' := by
  have g1 : decide ((20 : Int) < (n : Int)) = false := by simp; omega
  have g2 : ((n : Int) != (n2 : Int)) = true := by rw [bne_iff_ne]; omega
  go_enter Try.func14, Try.ntmps14
  go_wp2_with fail
  refine (Port.awake_calls _).mono ?_
  rintro e w2 ⟨rfl, b2⟩
  go_wp2_with fail
  go_ret
  exact ⟨rfl, b2⟩

theorem walk (v u : Value) {w : World} (w0 : Op.IsFrames w v) (w1 : Op.IsFrames w u) (w' : World) (hw : w' = w := by rfl) :
    Calls Try.prog 14 #[v, u] w fun e w' => e = .returned (.bool true) ∧ Below w.heap.size w w' := by
  obtain ⟨A1, n, c1, a, rfl, h1, ha, _, _⟩ := w0
  obtain ⟨A2, n2, c2, b, rfl, h2, hb, _, _⟩ := w1
  by_cases h : n ≤ 20
  · by_cases hn : n = n2
    · subst hn
      exact walk1 A1 A2 n c1 c2 a b w ha hb h
    · exact walk2 A1 A2 n c1 n2 c2 w h hn
  · exact walk0 A1 A2 n c1 n2 c2 w (by omega)
end Go.Proofs.Ytpbkoooljelhjaa.PortBoth
