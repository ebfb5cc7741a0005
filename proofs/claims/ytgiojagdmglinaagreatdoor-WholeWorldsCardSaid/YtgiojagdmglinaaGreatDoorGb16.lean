/-
  Part 16 of a merged text.
-/
import Derived.Test.YtgiojagdmglinaaGreatDoorGb15
set_option linter.unusedVariables false
set_option linter.unusedSimpArgs false
set_option maxRecDepth 100000
namespace Go.Proofs.YtgiojagdmglinaaGreatDoor
open Go.RowKit Vote
namespace Gate
theorem relay_eq (n : Nat) (h : Hb) (l : List Fr) : Wm.relay n h l = if 0 < h.hold then ownF n h l else firF n h l := rfl
set_option maxHeartbeats 2000000 in
theorem relay_calls (n cap : Nat) (A : Option Addr) (h : Hb) (l : List Fr) (w : World) (h3 : 3 ≤ n) (h8 : n ≤ 8) (r : Wm.Right n h) (hl : Frames w A n l) (hf : Wm.Fit n l) :
  Calls Tryz.prog 118 #[.int .i64 n, h.val, .slice A n cap] w fun e w' => e = .returned (.tuple #[(Wm.relay n h l).1.val, (Wm.relay n h l).2.val, .int .i64 0]) ∧ Below w.heap.size w w' := by
 have kc := fun W (hW : Below w.heap.size w W) => check_calls n cap A h l W h3 h8 r (hl.below hW) hf
 have ko := fun W (hW : Below w.heap.size w W) => owner_calls n cap A h l W h3 h8 r (hl.below hW)
 have kf := fun W (hW : Below w.heap.size w W) => first_calls n cap A h l W h3 h8 r (hl.below hW)
 have he := relay_eq n h l
 have e1 : ∀ args w, (callFunc 130 args).run Tryz.prog w = .ok (.enter 130 args) w := Kit.enters Tryz.func130 (by kernel_rfl) rfl
 have e2 : ∀ args w, (callFunc 129 args).run Tryz.prog w = .ok (.enter 129 args) w := Kit.enters Tryz.func129 (by kernel_rfl) rfl
 generalize Wm.relay n h l = yy at *
 by_cases hh : 0 < h.hold
 ·rw [if_pos hh] at he
  rw [← he] at ko
  obtain ⟨y, f⟩ := yy
  have gh : decide (h.hold > 0) = true := decide_eq_true hh
  unfold Hb.val Fr.val at *
  simp only at ko ⊢
  have KC := Lib.hid kc
  have KG := Lib.hid ko
  clear kc ko kf he hl hf r hh
  go_enter Tryz.func118, Tryz.ntmps118
  go_wp2_with fail
  have q0 : Kit.Row (((w.alloc (.cells #[.int .i64 (h.ag 0), .int .i64 (h.ag 1), .int .i64 (h.ag 2), .int .i64 (h.ag 3), .int .i64 (h.ag 4), .int .i64 (h.ag 5), .int .i64 (h.ag 6), .int .i64 (h.ag 7), .int .i64 h.port, .int .i64 h.age, .int .i64 h.hold, .int .i64 h.pos] 28)).alloc (.cells #[.int .i64 0, .int .i64 0, .int .i64 0, .int .i64 0, .int .i64 0, .int .i64 0, .int .i64 0, .int .i64 0, .int .i64 0, .int .i64 0, .int .i64 0, .int .i64 0] 28)).alloc (.cells #[.int .i64 0, .int .i64 0] 45)) w.heap.size (ints (Wm.nums h)) := ((Kit.Row.new w _ _).alloc _).alloc _
  have q1 : Kit.Row (((w.alloc (.cells #[.int .i64 (h.ag 0), .int .i64 (h.ag 1), .int .i64 (h.ag 2), .int .i64 (h.ag 3), .int .i64 (h.ag 4), .int .i64 (h.ag 5), .int .i64 (h.ag 6), .int .i64 (h.ag 7), .int .i64 h.port, .int .i64 h.age, .int .i64 h.hold, .int .i64 h.pos] 28)).alloc (.cells #[.int .i64 0, .int .i64 0, .int .i64 0, .int .i64 0, .int .i64 0, .int .i64 0, .int .i64 0, .int .i64 0, .int .i64 0, .int .i64 0, .int .i64 0, .int .i64 0] 28)).alloc (.cells #[.int .i64 0, .int .i64 0] 45)) (w.heap.size + 1) (ints [0, 0, 0, 0, 0, 0, 0, 0, 0, 0, 0, 0]) := (Kit.Row.newAt _ _ _ _ (by simp)).alloc _
  have q2 : Kit.Row (((w.alloc (.cells #[.int .i64 (h.ag 0), .int .i64 (h.ag 1), .int .i64 (h.ag 2), .int .i64 (h.ag 3), .int .i64 (h.ag 4), .int .i64 (h.ag 5), .int .i64 (h.ag 6), .int .i64 (h.ag 7), .int .i64 h.port, .int .i64 h.age, .int .i64 h.hold, .int .i64 h.pos] 28)).alloc (.cells #[.int .i64 0, .int .i64 0, .int .i64 0, .int .i64 0, .int .i64 0, .int .i64 0, .int .i64 0, .int .i64 0, .int .i64 0, .int .i64 0, .int .i64 0, .int .i64 0] 28)).alloc (.cells #[.int .i64 0, .int .i64 0] 45)) (w.heap.size + 1 + 1) (ints [0, 0]) := Kit.Row.newAt _ _ _ _ (by simp)
  have qb : Below w.heap.size w (((w.alloc (.cells #[.int .i64 (h.ag 0), .int .i64 (h.ag 1), .int .i64 (h.ag 2), .int .i64 (h.ag 3), .int .i64 (h.ag 4), .int .i64 (h.ag 5), .int .i64 (h.ag 6), .int .i64 (h.ag 7), .int .i64 h.port, .int .i64 h.age, .int .i64 h.hold, .int .i64 h.pos] 28)).alloc (.cells #[.int .i64 0, .int .i64 0, .int .i64 0, .int .i64 0, .int .i64 0, .int .i64 0, .int .i64 0, .int .i64 0, .int .i64 0, .int .i64 0, .int .i64 0, .int .i64 0] 28)).alloc (.cells #[.int .i64 0, .int .i64 0] 45)) := Kit.alloc3 ..
  generalize ((w.alloc (.cells #[.int .i64 (h.ag 0), .int .i64 (h.ag 1), .int .i64 (h.ag 2), .int .i64 (h.ag 3), .int .i64 (h.ag 4), .int .i64 (h.ag 5), .int .i64 (h.ag 6), .int .i64 (h.ag 7), .int .i64 h.port, .int .i64 h.age, .int .i64 h.hold, .int .i64 h.pos] 28)).alloc (.cells #[.int .i64 0, .int .i64 0, .int .i64 0, .int .i64 0, .int .i64 0, .int .i64 0, .int .i64 0, .int .i64 0, .int .i64 0, .int .i64 0, .int .i64 0, .int .i64 0] 28)).alloc (.cells #[.int .i64 0, .int .i64 0] 45) = w2 at *
  refine (KC.out _ qb).mono ?_
  rintro e w3 ⟨rfl, b3⟩
  have R3 := Lib.hid (q0.below b3)
  have R3b := Lib.hid (q1.below b3)
  have R3c := Lib.hid (q2.below b3)
  have HB3 := Lib.hid (qb.trans (b3.mono qb.size))
  clear q0 q1 q2 qb b3
  have c0 := R3.out.at_ 0 (.int .i64 (h.ag 0)) rfl
  have c1 := R3.out.at_ 1 (.int .i64 (h.ag 1)) rfl
  have c2 := R3.out.at_ 2 (.int .i64 (h.ag 2)) rfl
  have c3 := R3.out.at_ 3 (.int .i64 (h.ag 3)) rfl
  have c4 := R3.out.at_ 4 (.int .i64 (h.ag 4)) rfl
  have c5 := R3.out.at_ 5 (.int .i64 (h.ag 5)) rfl
  have c6 := R3.out.at_ 6 (.int .i64 (h.ag 6)) rfl
  have c7 := R3.out.at_ 7 (.int .i64 (h.ag 7)) rfl
  have c8 := R3.out.at_ 8 (.int .i64 h.port) rfl
  have c9 := R3.out.at_ 9 (.int .i64 h.age) rfl
  have c10 := R3.out.at_ 10 (.int .i64 h.hold) rfl
  have c11 := R3.out.at_ 11 (.int .i64 h.pos) rfl
  go_wp2_with fail
  refine (KG.out _ HB3.out).mono ?_
  rintro e w4 ⟨rfl, b4⟩
  have R4 := Lib.hid (R3.out.below b4)
  have R4b := Lib.hid (R3b.out.below b4)
  have R4c := Lib.hid (R3c.out.below b4)
  have HB4 := Lib.hid (HB3.out.trans (b4.mono HB3.out.size))
  clear b4 c0 c1 c2 c3 c4 c5 c6 c7 c8 c9 c10 c11
  have c0 := R4.out.at_ 0 (.int .i64 (h.ag 0)) rfl
  have c1 := R4.out.at_ 1 (.int .i64 (h.ag 1)) rfl
  have c2 := R4.out.at_ 2 (.int .i64 (h.ag 2)) rfl
  have c3 := R4.out.at_ 3 (.int .i64 (h.ag 3)) rfl
  have c4 := R4.out.at_ 4 (.int .i64 (h.ag 4)) rfl
  have c5 := R4.out.at_ 5 (.int .i64 (h.ag 5)) rfl
  have c6 := R4.out.at_ 6 (.int .i64 (h.ag 6)) rfl
  have c7 := R4.out.at_ 7 (.int .i64 (h.ag 7)) rfl
  have c8 := R4.out.at_ 8 (.int .i64 h.port) rfl
  have c9 := R4.out.at_ 9 (.int .i64 h.age) rfl
  have c10 := R4.out.at_ 10 (.int .i64 h.hold) rfl
  have c11 := R4.out.at_ 11 (.int .i64 h.pos) rfl
  have fz0 := R4.out.free 0 (by simp [ints, Wm.nums])
  have fz1 := R4.out.free 1 (by simp [ints, Wm.nums])
  have fz2 := R4.out.free 2 (by simp [ints, Wm.nums])
  have fz3 := R4.out.free 3 (by simp [ints, Wm.nums])
  have fz4 := R4.out.free 4 (by simp [ints, Wm.nums])
  have fz5 := R4.out.free 5 (by simp [ints, Wm.nums])
  have fz6 := R4.out.free 6 (by simp [ints, Wm.nums])
  have fz7 := R4.out.free 7 (by simp [ints, Wm.nums])
  have fz8 := R4.out.free 8 (by simp [ints, Wm.nums])
  have fz9 := R4.out.free 9 (by simp [ints, Wm.nums])
  have fz10 := R4.out.free 10 (by simp [ints, Wm.nums])
  have fz11 := R4.out.free 11 (by simp [ints, Wm.nums])
  have lb := R4.out.lt
  go_wp2_with fail
  have X0 := Lib.hid ((((((((((((R4.out.set 0 (.int .i64 (y.ag 0)) (by simp [ints, Wm.nums])).set 1 (.int .i64 (y.ag 1)) (by simp [ints, Wm.nums])).set 2 (.int .i64 (y.ag 2)) (by simp [ints, Wm.nums])).set 3 (.int .i64 (y.ag 3)) (by simp [ints, Wm.nums])).set 4 (.int .i64 (y.ag 4)) (by simp [ints, Wm.nums])).set 5 (.int .i64 (y.ag 5)) (by simp [ints, Wm.nums])).set 6 (.int .i64 (y.ag 6)) (by simp [ints, Wm.nums])).set 7 (.int .i64 (y.ag 7)) (by simp [ints, Wm.nums])).set 8 (.int .i64 y.port) (by simp [ints, Wm.nums])).set 9 (.int .i64 y.age) (by simp [ints, Wm.nums])).set 10 (.int .i64 y.hold) (by simp [ints, Wm.nums])).set 11 (.int .i64 y.pos) (by simp [ints, Wm.nums]))
  have X1 := Lib.hid ((((((((((((R4b.out.far w.heap.size 0 (.int .i64 (y.ag 0)) (by omega)).far w.heap.size 1 (.int .i64 (y.ag 1)) (by omega)).far w.heap.size 2 (.int .i64 (y.ag 2)) (by omega)).far w.heap.size 3 (.int .i64 (y.ag 3)) (by omega)).far w.heap.size 4 (.int .i64 (y.ag 4)) (by omega)).far w.heap.size 5 (.int .i64 (y.ag 5)) (by omega)).far w.heap.size 6 (.int .i64 (y.ag 6)) (by omega)).far w.heap.size 7 (.int .i64 (y.ag 7)) (by omega)).far w.heap.size 8 (.int .i64 y.port) (by omega)).far w.heap.size 9 (.int .i64 y.age) (by omega)).far w.heap.size 10 (.int .i64 y.hold) (by omega)).far w.heap.size 11 (.int .i64 y.pos) (by omega))
  have X2 := Lib.hid ((((((((((((R4c.out.far w.heap.size 0 (.int .i64 (y.ag 0)) (by omega)).far w.heap.size 1 (.int .i64 (y.ag 1)) (by omega)).far w.heap.size 2 (.int .i64 (y.ag 2)) (by omega)).far w.heap.size 3 (.int .i64 (y.ag 3)) (by omega)).far w.heap.size 4 (.int .i64 (y.ag 4)) (by omega)).far w.heap.size 5 (.int .i64 (y.ag 5)) (by omega)).far w.heap.size 6 (.int .i64 (y.ag 6)) (by omega)).far w.heap.size 7 (.int .i64 (y.ag 7)) (by omega)).far w.heap.size 8 (.int .i64 y.port) (by omega)).far w.heap.size 9 (.int .i64 y.age) (by omega)).far w.heap.size 10 (.int .i64 y.hold) (by omega)).far w.heap.size 11 (.int .i64 y.pos) (by omega))
  have HBX := Lib.hid ((((((((((((HB4.out.setCell (p := ⟨w.heap.size, 0, none⟩) (Nat.le_refl _) (.int .i64 (y.ag 0))).setCell (p := ⟨w.heap.size, 1, none⟩) (Nat.le_refl _) (.int .i64 (y.ag 1))).setCell (p := ⟨w.heap.size, 2, none⟩) (Nat.le_refl _) (.int .i64 (y.ag 2))).setCell (p := ⟨w.heap.size, 3, none⟩) (Nat.le_refl _) (.int .i64 (y.ag 3))).setCell (p := ⟨w.heap.size, 4, none⟩) (Nat.le_refl _) (.int .i64 (y.ag 4))).setCell (p := ⟨w.heap.size, 5, none⟩) (Nat.le_refl _) (.int .i64 (y.ag 5))).setCell (p := ⟨w.heap.size, 6, none⟩) (Nat.le_refl _) (.int .i64 (y.ag 6))).setCell (p := ⟨w.heap.size, 7, none⟩) (Nat.le_refl _) (.int .i64 (y.ag 7))).setCell (p := ⟨w.heap.size, 8, none⟩) (Nat.le_refl _) (.int .i64 y.port)).setCell (p := ⟨w.heap.size, 9, none⟩) (Nat.le_refl _) (.int .i64 y.age)).setCell (p := ⟨w.heap.size, 10, none⟩) (Nat.le_refl _) (.int .i64 y.hold)).setCell (p := ⟨w.heap.size, 11, none⟩) (Nat.le_refl _) (.int .i64 y.pos))
  have hz : (((((((((((((w4.setCell ⟨w.heap.size, 0, none⟩ (.int .i64 (y.ag 0))).setCell ⟨w.heap.size, 1, none⟩ (.int .i64 (y.ag 1))).setCell ⟨w.heap.size, 2, none⟩ (.int .i64 (y.ag 2))).setCell ⟨w.heap.size, 3, none⟩ (.int .i64 (y.ag 3))).setCell ⟨w.heap.size, 4, none⟩ (.int .i64 (y.ag 4))).setCell ⟨w.heap.size, 5, none⟩ (.int .i64 (y.ag 5))).setCell ⟨w.heap.size, 6, none⟩ (.int .i64 (y.ag 6))).setCell ⟨w.heap.size, 7, none⟩ (.int .i64 (y.ag 7))).setCell ⟨w.heap.size, 8, none⟩ (.int .i64 y.port)).setCell ⟨w.heap.size, 9, none⟩ (.int .i64 y.age)).setCell ⟨w.heap.size, 10, none⟩ (.int .i64 y.hold)).setCell ⟨w.heap.size, 11, none⟩ (.int .i64 y.pos))).heap.size = w4.heap.size := by simp
  generalize ((((((((((((w4.setCell ⟨w.heap.size, 0, none⟩ (.int .i64 (y.ag 0))).setCell ⟨w.heap.size, 1, none⟩ (.int .i64 (y.ag 1))).setCell ⟨w.heap.size, 2, none⟩ (.int .i64 (y.ag 2))).setCell ⟨w.heap.size, 3, none⟩ (.int .i64 (y.ag 3))).setCell ⟨w.heap.size, 4, none⟩ (.int .i64 (y.ag 4))).setCell ⟨w.heap.size, 5, none⟩ (.int .i64 (y.ag 5))).setCell ⟨w.heap.size, 6, none⟩ (.int .i64 (y.ag 6))).setCell ⟨w.heap.size, 7, none⟩ (.int .i64 (y.ag 7))).setCell ⟨w.heap.size, 8, none⟩ (.int .i64 y.port)).setCell ⟨w.heap.size, 9, none⟩ (.int .i64 y.age)).setCell ⟨w.heap.size, 10, none⟩ (.int .i64 y.hold)).setCell ⟨w.heap.size, 11, none⟩ (.int .i64 y.pos)) = w5 at *
  have Z0 : Hid (Kit.Row (w5.alloc (.cells #[.int .i64 f.k, .int .i64 f.i] 45)) w.heap.size (ints (Wm.nums y))) := Lib.hid ((X0.out.alloc _).cast rfl)
  have Z1 := Lib.hid (X1.out.alloc (.cells #[.int .i64 f.k, .int .i64 f.i] 45))
  have Z2 := Lib.hid (X2.out.alloc (.cells #[.int .i64 f.k, .int .i64 f.i] 45))
  have ZN := Lib.hid (Kit.Row.newAt w5 #[.int .i64 f.k, .int .i64 f.i] 45 _ hz)
  have HBZ := Lib.hid (HBX.out.alloc HBX.out.size (.cells #[.int .i64 f.k, .int .i64 f.i] 45))
  have l2 := R4c.out.lt
  generalize w5.alloc (.cells #[.int .i64 f.k, .int .i64 f.i] 45) = w6 at *
  generalize w4.heap.size = N at *
  clear c0 c1 c2 c3 c4 c5 c6 c7 c8 c9 c10 c11 fz0 fz1 fz2 fz3 fz4 fz5 fz6 fz7 fz8 fz9 fz10 fz11 hz
  have hlt := Z1.out.lt
  have hlt2 := Z2.out.lt
  have lb := Z0.out.lt
  have d0 := Z0.out.at_ 0 (.int .i64 (y.ag 0)) rfl
  have d1 := Z0.out.at_ 1 (.int .i64 (y.ag 1)) rfl
  have d2 := Z0.out.at_ 2 (.int .i64 (y.ag 2)) rfl
  have d3 := Z0.out.at_ 3 (.int .i64 (y.ag 3)) rfl
  have d4 := Z0.out.at_ 4 (.int .i64 (y.ag 4)) rfl
  have d5 := Z0.out.at_ 5 (.int .i64 (y.ag 5)) rfl
  have d6 := Z0.out.at_ 6 (.int .i64 (y.ag 6)) rfl
  have d7 := Z0.out.at_ 7 (.int .i64 (y.ag 7)) rfl
  have d8 := Z0.out.at_ 8 (.int .i64 y.port) rfl
  have d9 := Z0.out.at_ 9 (.int .i64 y.age) rfl
  have d10 := Z0.out.at_ 10 (.int .i64 y.hold) rfl
  have d11 := Z0.out.at_ 11 (.int .i64 y.pos) rfl
  have g0 := Z1.out.at_ 0 (.int .i64 0) rfl
  have g1 := Z1.out.at_ 1 (.int .i64 0) rfl
  have g2 := Z1.out.at_ 2 (.int .i64 0) rfl
  have g3 := Z1.out.at_ 3 (.int .i64 0) rfl
  have g4 := Z1.out.at_ 4 (.int .i64 0) rfl
  have g5 := Z1.out.at_ 5 (.int .i64 0) rfl
  have g6 := Z1.out.at_ 6 (.int .i64 0) rfl
  have g7 := Z1.out.at_ 7 (.int .i64 0) rfl
  have g8 := Z1.out.at_ 8 (.int .i64 0) rfl
  have g9 := Z1.out.at_ 9 (.int .i64 0) rfl
  have g10 := Z1.out.at_ 10 (.int .i64 0) rfl
  have g11 := Z1.out.at_ 11 (.int .i64 0) rfl
  have ff0 := Z1.out.free 0 (by simp [ints, Wm.nums])
  have ff1 := Z1.out.free 1 (by simp [ints, Wm.nums])
  have ff2 := Z1.out.free 2 (by simp [ints, Wm.nums])
  have ff3 := Z1.out.free 3 (by simp [ints, Wm.nums])
  have ff4 := Z1.out.free 4 (by simp [ints, Wm.nums])
  have ff5 := Z1.out.free 5 (by simp [ints, Wm.nums])
  have ff6 := Z1.out.free 6 (by simp [ints, Wm.nums])
  have ff7 := Z1.out.free 7 (by simp [ints, Wm.nums])
  have ff8 := Z1.out.free 8 (by simp [ints, Wm.nums])
  have ff9 := Z1.out.free 9 (by simp [ints, Wm.nums])
  have ff10 := Z1.out.free 10 (by simp [ints, Wm.nums])
  have ff11 := Z1.out.free 11 (by simp [ints, Wm.nums])
  have y0 := Z2.out.at_ 0 (.int .i64 0) rfl
  have y1 := Z2.out.at_ 1 (.int .i64 0) rfl
  have z0 := Z2.out.free 0 (by simp [ints])
  have z1 := Z2.out.free 1 (by simp [ints])
  have x0 := ZN.out.at_ 0 (.int .i64 f.k) rfl
  have x1 := ZN.out.at_ 1 (.int .i64 f.i) rfl
  have lx := ZN.out.lt
  have n5 : ¬ w.heap.size + 1 + 1 = w.heap.size := by omega
  have n6 : ¬ w.heap.size + 1 = w.heap.size := by omega
  have n1 : ¬ N = w.heap.size + 1 := by omega
  have n2 : ¬ N = w.heap.size + 1 + 1 := by omega
  have n3 : ¬ w.heap.size + 1 = N := by omega
  have n4 : ¬ w.heap.size + 1 + 1 = N := by omega
  go_region_held3 (fun w' => (w'.cell? ⟨w.heap.size, 0, none⟩ = some (.int .i64 (y.ag 0)) ∧ w'.cell? ⟨w.heap.size, 1, none⟩ = some (.int .i64 (y.ag 1)) ∧ w'.cell? ⟨w.heap.size, 2, none⟩ = some (.int .i64 (y.ag 2)) ∧ w'.cell? ⟨w.heap.size, 3, none⟩ = some (.int .i64 (y.ag 3)) ∧ w'.cell? ⟨w.heap.size, 4, none⟩ = some (.int .i64 (y.ag 4)) ∧ w'.cell? ⟨w.heap.size, 5, none⟩ = some (.int .i64 (y.ag 5)) ∧ w'.cell? ⟨w.heap.size, 6, none⟩ = some (.int .i64 (y.ag 6)) ∧ w'.cell? ⟨w.heap.size, 7, none⟩ = some (.int .i64 (y.ag 7)) ∧ w'.cell? ⟨w.heap.size, 8, none⟩ = some (.int .i64 y.port) ∧ w'.cell? ⟨w.heap.size, 9, none⟩ = some (.int .i64 y.age) ∧ w'.cell? ⟨w.heap.size, 10, none⟩ = some (.int .i64 y.hold) ∧ w'.cell? ⟨w.heap.size, 11, none⟩ = some (.int .i64 y.pos)) ∧ w'.cell? ⟨N, 0, none⟩ = some (.int .i64 f.k) ∧ w'.cell? ⟨N, 1, none⟩ = some (.int .i64 f.i)) (go_keep) (fail)
  all_goals
   go_wp2_with fail
   have r8 := ((((((((((((((Z1.out.set 0 (.int .i64 (y.ag 0)) (by simp [ints, Wm.nums])).set 1 (.int .i64 (y.ag 1)) (by simp [ints, Wm.nums])).set 2 (.int .i64 (y.ag 2)) (by simp [ints, Wm.nums])).set 3 (.int .i64 (y.ag 3)) (by simp [ints, Wm.nums])).set 4 (.int .i64 (y.ag 4)) (by simp [ints, Wm.nums])).set 5 (.int .i64 (y.ag 5)) (by simp [ints, Wm.nums])).set 6 (.int .i64 (y.ag 6)) (by simp [ints, Wm.nums])).set 7 (.int .i64 (y.ag 7)) (by simp [ints, Wm.nums])).set 8 (.int .i64 y.port) (by simp [ints, Wm.nums])).set 9 (.int .i64 y.age) (by simp [ints, Wm.nums])).set 10 (.int .i64 y.hold) (by simp [ints, Wm.nums])).set 11 (.int .i64 y.pos) (by simp [ints, Wm.nums]))).far (w.heap.size + 1 + 1) 0 (.int .i64 (f.k)) (by omega)).far (w.heap.size + 1 + 1) 1 (.int .i64 (f.i)) (by omega)
   have r9 := (((((((((((((Z2.out.far (w.heap.size + 1) 0 (.int .i64 (y.ag 0)) (by omega)).far (w.heap.size + 1) 1 (.int .i64 (y.ag 1)) (by omega)).far (w.heap.size + 1) 2 (.int .i64 (y.ag 2)) (by omega)).far (w.heap.size + 1) 3 (.int .i64 (y.ag 3)) (by omega)).far (w.heap.size + 1) 4 (.int .i64 (y.ag 4)) (by omega)).far (w.heap.size + 1) 5 (.int .i64 (y.ag 5)) (by omega)).far (w.heap.size + 1) 6 (.int .i64 (y.ag 6)) (by omega)).far (w.heap.size + 1) 7 (.int .i64 (y.ag 7)) (by omega)).far (w.heap.size + 1) 8 (.int .i64 y.port) (by omega)).far (w.heap.size + 1) 9 (.int .i64 y.age) (by omega)).far (w.heap.size + 1) 10 (.int .i64 y.hold) (by omega)).far (w.heap.size + 1) 11 (.int .i64 y.pos) (by omega)).set 0 (.int .i64 (f.k)) (by simp [ints])).set 1 (.int .i64 (f.i)) (by simp [ints])
   have k0 := r8.at_ 0 (.int .i64 (y.ag 0)) rfl
   have k1 := r8.at_ 1 (.int .i64 (y.ag 1)) rfl
   have k2 := r8.at_ 2 (.int .i64 (y.ag 2)) rfl
   have k3 := r8.at_ 3 (.int .i64 (y.ag 3)) rfl
   have k4 := r8.at_ 4 (.int .i64 (y.ag 4)) rfl
   have k5 := r8.at_ 5 (.int .i64 (y.ag 5)) rfl
   have k6 := r8.at_ 6 (.int .i64 (y.ag 6)) rfl
   have k7 := r8.at_ 7 (.int .i64 (y.ag 7)) rfl
   have k8 := r8.at_ 8 (.int .i64 y.port) rfl
   have k9 := r8.at_ 9 (.int .i64 y.age) rfl
   have k10 := r8.at_ 10 (.int .i64 y.hold) rfl
   have k11 := r8.at_ 11 (.int .i64 y.pos) rfl
   have j0 := r9.at_ 0 (.int .i64 (f.k)) rfl
   have j1 := r9.at_ 1 (.int .i64 (f.i)) rfl
   clear r8 r9
   refine bodyPost_ret (v := .tuple #[.agg #[.int .i64 (y.ag 0), .int .i64 (y.ag 1), .int .i64 (y.ag 2), .int .i64 (y.ag 3), .int .i64 (y.ag 4), .int .i64 (y.ag 5), .int .i64 (y.ag 6), .int .i64 (y.ag 7), .int .i64 y.port, .int .i64 y.age, .int .i64 y.hold, .int .i64 y.pos], .agg #[.int .i64 f.k, .int .i64 f.i], .int .i64 0]) (by simp [results, Tryz.results118, go_sem, k0, k1, k2, k3, k4, k5, k6, k7, k8, k9, k10, k11, j0, j1, hlt, hlt2]) rfl ⟨rfl, ?_⟩
   repeat' (first | (with_reducible exact HBZ.out) | (with_reducible refine Below.setCell ?_ ?_ _) | (with_reducible refine Below.alloc ?_ ?_ _) | (with_reducible refine Below.drew ?_))
   all_goals (first | omega | (simp; done) | (simp; omega))
 ·rw [if_neg hh] at he
  rw [← he] at kf
  obtain ⟨y, f⟩ := yy
  have gh : decide (h.hold > 0) = false := decide_eq_false hh
  unfold Hb.val Fr.val at *
  simp only at kf ⊢
  have KC := Lib.hid kc
  have KG := Lib.hid kf
  clear kc ko kf he hl hf r hh
  go_enter Tryz.func118, Tryz.ntmps118
  go_wp2_with fail
  have q0 : Kit.Row (((w.alloc (.cells #[.int .i64 (h.ag 0), .int .i64 (h.ag 1), .int .i64 (h.ag 2), .int .i64 (h.ag 3), .int .i64 (h.ag 4), .int .i64 (h.ag 5), .int .i64 (h.ag 6), .int .i64 (h.ag 7), .int .i64 h.port, .int .i64 h.age, .int .i64 h.hold, .int .i64 h.pos] 28)).alloc (.cells #[.int .i64 0, .int .i64 0, .int .i64 0, .int .i64 0, .int .i64 0, .int .i64 0, .int .i64 0, .int .i64 0, .int .i64 0, .int .i64 0, .int .i64 0, .int .i64 0] 28)).alloc (.cells #[.int .i64 0, .int .i64 0] 45)) w.heap.size (ints (Wm.nums h)) := ((Kit.Row.new w _ _).alloc _).alloc _
  have q1 : Kit.Row (((w.alloc (.cells #[.int .i64 (h.ag 0), .int .i64 (h.ag 1), .int .i64 (h.ag 2), .int .i64 (h.ag 3), .int .i64 (h.ag 4), .int .i64 (h.ag 5), .int .i64 (h.ag 6), .int .i64 (h.ag 7), .int .i64 h.port, .int .i64 h.age, .int .i64 h.hold, .int .i64 h.pos] 28)).alloc (.cells #[.int .i64 0, .int .i64 0, .int .i64 0, .int .i64 0, .int .i64 0, .int .i64 0, .int .i64 0, .int .i64 0, .int .i64 0, .int .i64 0, .int .i64 0, .int .i64 0] 28)).alloc (.cells #[.int .i64 0, .int .i64 0] 45)) (w.heap.size + 1) (ints [0, 0, 0, 0, 0, 0, 0, 0, 0, 0, 0, 0]) := (Kit.Row.newAt _ _ _ _ (by simp)).alloc _
  have q2 : Kit.Row (((w.alloc (.cells #[.int .i64 (h.ag 0), .int .i64 (h.ag 1), .int .i64 (h.ag 2), .int .i64 (h.ag 3), .int .i64 (h.ag 4), .int .i64 (h.ag 5), .int .i64 (h.ag 6), .int .i64 (h.ag 7), .int .i64 h.port, .int .i64 h.age, .int .i64 h.hold, .int .i64 h.pos] 28)).alloc (.cells #[.int .i64 0, .int .i64 0, .int .i64 0, .int .i64 0, .int .i64 0, .int .i64 0, .int .i64 0, .int .i64 0, .int .i64 0, .int .i64 0, .int .i64 0, .int .i64 0] 28)).alloc (.cells #[.int .i64 0, .int .i64 0] 45)) (w.heap.size + 1 + 1) (ints [0, 0]) := Kit.Row.newAt _ _ _ _ (by simp)
  have qb : Below w.heap.size w (((w.alloc (.cells #[.int .i64 (h.ag 0), .int .i64 (h.ag 1), .int .i64 (h.ag 2), .int .i64 (h.ag 3), .int .i64 (h.ag 4), .int .i64 (h.ag 5), .int .i64 (h.ag 6), .int .i64 (h.ag 7), .int .i64 h.port, .int .i64 h.age, .int .i64 h.hold, .int .i64 h.pos] 28)).alloc (.cells #[.int .i64 0, .int .i64 0, .int .i64 0, .int .i64 0, .int .i64 0, .int .i64 0, .int .i64 0, .int .i64 0, .int .i64 0, .int .i64 0, .int .i64 0, .int .i64 0] 28)).alloc (.cells #[.int .i64 0, .int .i64 0] 45)) := Kit.alloc3 ..
  generalize ((w.alloc (.cells #[.int .i64 (h.ag 0), .int .i64 (h.ag 1), .int .i64 (h.ag 2), .int .i64 (h.ag 3), .int .i64 (h.ag 4), .int .i64 (h.ag 5), .int .i64 (h.ag 6), .int .i64 (h.ag 7), .int .i64 h.port, .int .i64 h.age, .int .i64 h.hold, .int .i64 h.pos] 28)).alloc (.cells #[.int .i64 0, .int .i64 0, .int .i64 0, .int .i64 0, .int .i64 0, .int .i64 0, .int .i64 0, .int .i64 0, .int .i64 0, .int .i64 0, .int .i64 0, .int .i64 0] 28)).alloc (.cells #[.int .i64 0, .int .i64 0] 45) = w2 at *
  refine (KC.out _ qb).mono ?_
  rintro e w3 ⟨rfl, b3⟩
  have R3 := Lib.hid (q0.below b3)
  have R3b := Lib.hid (q1.below b3)
  have R3c := Lib.hid (q2.below b3)
  have HB3 := Lib.hid (qb.trans (b3.mono qb.size))
  clear q0 q1 q2 qb b3
  have c0 := R3.out.at_ 0 (.int .i64 (h.ag 0)) rfl
  have c1 := R3.out.at_ 1 (.int .i64 (h.ag 1)) rfl
  have c2 := R3.out.at_ 2 (.int .i64 (h.ag 2)) rfl
  have c3 := R3.out.at_ 3 (.int .i64 (h.ag 3)) rfl
  have c4 := R3.out.at_ 4 (.int .i64 (h.ag 4)) rfl
  have c5 := R3.out.at_ 5 (.int .i64 (h.ag 5)) rfl
  have c6 := R3.out.at_ 6 (.int .i64 (h.ag 6)) rfl
  have c7 := R3.out.at_ 7 (.int .i64 (h.ag 7)) rfl
  have c8 := R3.out.at_ 8 (.int .i64 h.port) rfl
  have c9 := R3.out.at_ 9 (.int .i64 h.age) rfl
  have c10 := R3.out.at_ 10 (.int .i64 h.hold) rfl
  have c11 := R3.out.at_ 11 (.int .i64 h.pos) rfl
  go_wp2_with fail
  refine (KG.out _ HB3.out).mono ?_
  rintro e w4 ⟨rfl, b4⟩
  have R4 := Lib.hid (R3.out.below b4)
  have R4b := Lib.hid (R3b.out.below b4)
  have R4c := Lib.hid (R3c.out.below b4)
  have HB4 := Lib.hid (HB3.out.trans (b4.mono HB3.out.size))
  clear b4 c0 c1 c2 c3 c4 c5 c6 c7 c8 c9 c10 c11
  have c0 := R4.out.at_ 0 (.int .i64 (h.ag 0)) rfl
  have c1 := R4.out.at_ 1 (.int .i64 (h.ag 1)) rfl
  have c2 := R4.out.at_ 2 (.int .i64 (h.ag 2)) rfl
  have c3 := R4.out.at_ 3 (.int .i64 (h.ag 3)) rfl
  have c4 := R4.out.at_ 4 (.int .i64 (h.ag 4)) rfl
  have c5 := R4.out.at_ 5 (.int .i64 (h.ag 5)) rfl
  have c6 := R4.out.at_ 6 (.int .i64 (h.ag 6)) rfl
  have c7 := R4.out.at_ 7 (.int .i64 (h.ag 7)) rfl
  have c8 := R4.out.at_ 8 (.int .i64 h.port) rfl
  have c9 := R4.out.at_ 9 (.int .i64 h.age) rfl
  have c10 := R4.out.at_ 10 (.int .i64 h.hold) rfl
  have c11 := R4.out.at_ 11 (.int .i64 h.pos) rfl
  have fz0 := R4.out.free 0 (by simp [ints, Wm.nums])
  have fz1 := R4.out.free 1 (by simp [ints, Wm.nums])
  have fz2 := R4.out.free 2 (by simp [ints, Wm.nums])
  have fz3 := R4.out.free 3 (by simp [ints, Wm.nums])
  have fz4 := R4.out.free 4 (by simp [ints, Wm.nums])
  have fz5 := R4.out.free 5 (by simp [ints, Wm.nums])
  have fz6 := R4.out.free 6 (by simp [ints, Wm.nums])
  have fz7 := R4.out.free 7 (by simp [ints, Wm.nums])
  have fz8 := R4.out.free 8 (by simp [ints, Wm.nums])
  have fz9 := R4.out.free 9 (by simp [ints, Wm.nums])
  have fz10 := R4.out.free 10 (by simp [ints, Wm.nums])
  have fz11 := R4.out.free 11 (by simp [ints, Wm.nums])
  have lb := R4.out.lt
  go_wp2_with fail
  have X0 := Lib.hid ((((((((((((R4.out.set 0 (.int .i64 (y.ag 0)) (by simp [ints, Wm.nums])).set 1 (.int .i64 (y.ag 1)) (by simp [ints, Wm.nums])).set 2 (.int .i64 (y.ag 2)) (by simp [ints, Wm.nums])).set 3 (.int .i64 (y.ag 3)) (by simp [ints, Wm.nums])).set 4 (.int .i64 (y.ag 4)) (by simp [ints, Wm.nums])).set 5 (.int .i64 (y.ag 5)) (by simp [ints, Wm.nums])).set 6 (.int .i64 (y.ag 6)) (by simp [ints, Wm.nums])).set 7 (.int .i64 (y.ag 7)) (by simp [ints, Wm.nums])).set 8 (.int .i64 y.port) (by simp [ints, Wm.nums])).set 9 (.int .i64 y.age) (by simp [ints, Wm.nums])).set 10 (.int .i64 y.hold) (by simp [ints, Wm.nums])).set 11 (.int .i64 y.pos) (by simp [ints, Wm.nums]))
  have X1 := Lib.hid ((((((((((((R4b.out.far w.heap.size 0 (.int .i64 (y.ag 0)) (by omega)).far w.heap.size 1 (.int .i64 (y.ag 1)) (by omega)).far w.heap.size 2 (.int .i64 (y.ag 2)) (by omega)).far w.heap.size 3 (.int .i64 (y.ag 3)) (by omega)).far w.heap.size 4 (.int .i64 (y.ag 4)) (by omega)).far w.heap.size 5 (.int .i64 (y.ag 5)) (by omega)).far w.heap.size 6 (.int .i64 (y.ag 6)) (by omega)).far w.heap.size 7 (.int .i64 (y.ag 7)) (by omega)).far w.heap.size 8 (.int .i64 y.port) (by omega)).far w.heap.size 9 (.int .i64 y.age) (by omega)).far w.heap.size 10 (.int .i64 y.hold) (by omega)).far w.heap.size 11 (.int .i64 y.pos) (by omega))
  have X2 := Lib.hid ((((((((((((R4c.out.far w.heap.size 0 (.int .i64 (y.ag 0)) (by omega)).far w.heap.size 1 (.int .i64 (y.ag 1)) (by omega)).far w.heap.size 2 (.int .i64 (y.ag 2)) (by omega)).far w.heap.size 3 (.int .i64 (y.ag 3)) (by omega)).far w.heap.size 4 (.int .i64 (y.ag 4)) (by omega)).far w.heap.size 5 (.int .i64 (y.ag 5)) (by omega)).far w.heap.size 6 (.int .i64 (y.ag 6)) (by omega)).far w.heap.size 7 (.int .i64 (y.ag 7)) (by omega)).far w.heap.size 8 (.int .i64 y.port) (by omega)).far w.heap.size 9 (.int .i64 y.age) (by omega)).far w.heap.size 10 (.int .i64 y.hold) (by omega)).far w.heap.size 11 (.int .i64 y.pos) (by omega))
  have HBX := Lib.hid ((((((((((((HB4.out.setCell (p := ⟨w.heap.size, 0, none⟩) (Nat.le_refl _) (.int .i64 (y.ag 0))).setCell (p := ⟨w.heap.size, 1, none⟩) (Nat.le_refl _) (.int .i64 (y.ag 1))).setCell (p := ⟨w.heap.size, 2, none⟩) (Nat.le_refl _) (.int .i64 (y.ag 2))).setCell (p := ⟨w.heap.size, 3, none⟩) (Nat.le_refl _) (.int .i64 (y.ag 3))).setCell (p := ⟨w.heap.size, 4, none⟩) (Nat.le_refl _) (.int .i64 (y.ag 4))).setCell (p := ⟨w.heap.size, 5, none⟩) (Nat.le_refl _) (.int .i64 (y.ag 5))).setCell (p := ⟨w.heap.size, 6, none⟩) (Nat.le_refl _) (.int .i64 (y.ag 6))).setCell (p := ⟨w.heap.size, 7, none⟩) (Nat.le_refl _) (.int .i64 (y.ag 7))).setCell (p := ⟨w.heap.size, 8, none⟩) (Nat.le_refl _) (.int .i64 y.port)).setCell (p := ⟨w.heap.size, 9, none⟩) (Nat.le_refl _) (.int .i64 y.age)).setCell (p := ⟨w.heap.size, 10, none⟩) (Nat.le_refl _) (.int .i64 y.hold)).setCell (p := ⟨w.heap.size, 11, none⟩) (Nat.le_refl _) (.int .i64 y.pos))
  have hz : (((((((((((((w4.setCell ⟨w.heap.size, 0, none⟩ (.int .i64 (y.ag 0))).setCell ⟨w.heap.size, 1, none⟩ (.int .i64 (y.ag 1))).setCell ⟨w.heap.size, 2, none⟩ (.int .i64 (y.ag 2))).setCell ⟨w.heap.size, 3, none⟩ (.int .i64 (y.ag 3))).setCell ⟨w.heap.size, 4, none⟩ (.int .i64 (y.ag 4))).setCell ⟨w.heap.size, 5, none⟩ (.int .i64 (y.ag 5))).setCell ⟨w.heap.size, 6, none⟩ (.int .i64 (y.ag 6))).setCell ⟨w.heap.size, 7, none⟩ (.int .i64 (y.ag 7))).setCell ⟨w.heap.size, 8, none⟩ (.int .i64 y.port)).setCell ⟨w.heap.size, 9, none⟩ (.int .i64 y.age)).setCell ⟨w.heap.size, 10, none⟩ (.int .i64 y.hold)).setCell ⟨w.heap.size, 11, none⟩ (.int .i64 y.pos))).heap.size = w4.heap.size := by simp
  generalize ((((((((((((w4.setCell ⟨w.heap.size, 0, none⟩ (.int .i64 (y.ag 0))).setCell ⟨w.heap.size, 1, none⟩ (.int .i64 (y.ag 1))).setCell ⟨w.heap.size, 2, none⟩ (.int .i64 (y.ag 2))).setCell ⟨w.heap.size, 3, none⟩ (.int .i64 (y.ag 3))).setCell ⟨w.heap.size, 4, none⟩ (.int .i64 (y.ag 4))).setCell ⟨w.heap.size, 5, none⟩ (.int .i64 (y.ag 5))).setCell ⟨w.heap.size, 6, none⟩ (.int .i64 (y.ag 6))).setCell ⟨w.heap.size, 7, none⟩ (.int .i64 (y.ag 7))).setCell ⟨w.heap.size, 8, none⟩ (.int .i64 y.port)).setCell ⟨w.heap.size, 9, none⟩ (.int .i64 y.age)).setCell ⟨w.heap.size, 10, none⟩ (.int .i64 y.hold)).setCell ⟨w.heap.size, 11, none⟩ (.int .i64 y.pos)) = w5 at *
  have Z0 : Hid (Kit.Row (w5.alloc (.cells #[.int .i64 f.k, .int .i64 f.i] 45)) w.heap.size (ints (Wm.nums y))) := Lib.hid ((X0.out.alloc _).cast rfl)
  have Z1 := Lib.hid (X1.out.alloc (.cells #[.int .i64 f.k, .int .i64 f.i] 45))
  have Z2 := Lib.hid (X2.out.alloc (.cells #[.int .i64 f.k, .int .i64 f.i] 45))
  have ZN := Lib.hid (Kit.Row.newAt w5 #[.int .i64 f.k, .int .i64 f.i] 45 _ hz)
  have HBZ := Lib.hid (HBX.out.alloc HBX.out.size (.cells #[.int .i64 f.k, .int .i64 f.i] 45))
  have l2 := R4c.out.lt
  generalize w5.alloc (.cells #[.int .i64 f.k, .int .i64 f.i] 45) = w6 at *
  generalize w4.heap.size = N at *
  clear c0 c1 c2 c3 c4 c5 c6 c7 c8 c9 c10 c11 fz0 fz1 fz2 fz3 fz4 fz5 fz6 fz7 fz8 fz9 fz10 fz11 hz
  have hlt := Z1.out.lt
  have hlt2 := Z2.out.lt
  have lb := Z0.out.lt
  have d0 := Z0.out.at_ 0 (.int .i64 (y.ag 0)) rfl
  have d1 := Z0.out.at_ 1 (.int .i64 (y.ag 1)) rfl
  have d2 := Z0.out.at_ 2 (.int .i64 (y.ag 2)) rfl
  have d3 := Z0.out.at_ 3 (.int .i64 (y.ag 3)) rfl
  have d4 := Z0.out.at_ 4 (.int .i64 (y.ag 4)) rfl
  have d5 := Z0.out.at_ 5 (.int .i64 (y.ag 5)) rfl
  have d6 := Z0.out.at_ 6 (.int .i64 (y.ag 6)) rfl
  have d7 := Z0.out.at_ 7 (.int .i64 (y.ag 7)) rfl
  have d8 := Z0.out.at_ 8 (.int .i64 y.port) rfl
  have d9 := Z0.out.at_ 9 (.int .i64 y.age) rfl
  have d10 := Z0.out.at_ 10 (.int .i64 y.hold) rfl
  have d11 := Z0.out.at_ 11 (.int .i64 y.pos) rfl
  have g0 := Z1.out.at_ 0 (.int .i64 0) rfl
  have g1 := Z1.out.at_ 1 (.int .i64 0) rfl
  have g2 := Z1.out.at_ 2 (.int .i64 0) rfl
  have g3 := Z1.out.at_ 3 (.int .i64 0) rfl
  have g4 := Z1.out.at_ 4 (.int .i64 0) rfl
  have g5 := Z1.out.at_ 5 (.int .i64 0) rfl
  have g6 := Z1.out.at_ 6 (.int .i64 0) rfl
  have g7 := Z1.out.at_ 7 (.int .i64 0) rfl
  have g8 := Z1.out.at_ 8 (.int .i64 0) rfl
  have g9 := Z1.out.at_ 9 (.int .i64 0) rfl
  have g10 := Z1.out.at_ 10 (.int .i64 0) rfl
  have g11 := Z1.out.at_ 11 (.int .i64 0) rfl
  have ff0 := Z1.out.free 0 (by simp [ints, Wm.nums])
  have ff1 := Z1.out.free 1 (by simp [ints, Wm.nums])
  have ff2 := Z1.out.free 2 (by simp [ints, Wm.nums])
  have ff3 := Z1.out.free 3 (by simp [ints, Wm.nums])
  have ff4 := Z1.out.free 4 (by simp [ints, Wm.nums])
  have ff5 := Z1.out.free 5 (by simp [ints, Wm.nums])
  have ff6 := Z1.out.free 6 (by simp [ints, Wm.nums])
  have ff7 := Z1.out.free 7 (by simp [ints, Wm.nums])
  have ff8 := Z1.out.free 8 (by simp [ints, Wm.nums])
  have ff9 := Z1.out.free 9 (by simp [ints, Wm.nums])
  have ff10 := Z1.out.free 10 (by simp [ints, Wm.nums])
  have ff11 := Z1.out.free 11 (by simp [ints, Wm.nums])
  have y0 := Z2.out.at_ 0 (.int .i64 0) rfl
  have y1 := Z2.out.at_ 1 (.int .i64 0) rfl
  have z0 := Z2.out.free 0 (by simp [ints])
  have z1 := Z2.out.free 1 (by simp [ints])
  have x0 := ZN.out.at_ 0 (.int .i64 f.k) rfl
  have x1 := ZN.out.at_ 1 (.int .i64 f.i) rfl
  have lx := ZN.out.lt
  have n5 : ¬ w.heap.size + 1 + 1 = w.heap.size := by omega
  have n6 : ¬ w.heap.size + 1 = w.heap.size := by omega
  have n1 : ¬ N = w.heap.size + 1 := by omega
  have n2 : ¬ N = w.heap.size + 1 + 1 := by omega
  have n3 : ¬ w.heap.size + 1 = N := by omega
  have n4 : ¬ w.heap.size + 1 + 1 = N := by omega
  go_region_held3 (fun w' => (w'.cell? ⟨w.heap.size, 0, none⟩ = some (.int .i64 (y.ag 0)) ∧ w'.cell? ⟨w.heap.size, 1, none⟩ = some (.int .i64 (y.ag 1)) ∧ w'.cell? ⟨w.heap.size, 2, none⟩ = some (.int .i64 (y.ag 2)) ∧ w'.cell? ⟨w.heap.size, 3, none⟩ = some (.int .i64 (y.ag 3)) ∧ w'.cell? ⟨w.heap.size, 4, none⟩ = some (.int .i64 (y.ag 4)) ∧ w'.cell? ⟨w.heap.size, 5, none⟩ = some (.int .i64 (y.ag 5)) ∧ w'.cell? ⟨w.heap.size, 6, none⟩ = some (.int .i64 (y.ag 6)) ∧ w'.cell? ⟨w.heap.size, 7, none⟩ = some (.int .i64 (y.ag 7)) ∧ w'.cell? ⟨w.heap.size, 8, none⟩ = some (.int .i64 y.port) ∧ w'.cell? ⟨w.heap.size, 9, none⟩ = some (.int .i64 y.age) ∧ w'.cell? ⟨w.heap.size, 10, none⟩ = some (.int .i64 y.hold) ∧ w'.cell? ⟨w.heap.size, 11, none⟩ = some (.int .i64 y.pos)) ∧ w'.cell? ⟨N, 0, none⟩ = some (.int .i64 f.k) ∧ w'.cell? ⟨N, 1, none⟩ = some (.int .i64 f.i)) (go_keep) (fail)
  all_goals
   go_wp2_with fail
   have r8 := ((((((((((((((Z1.out.set 0 (.int .i64 (y.ag 0)) (by simp [ints, Wm.nums])).set 1 (.int .i64 (y.ag 1)) (by simp [ints, Wm.nums])).set 2 (.int .i64 (y.ag 2)) (by simp [ints, Wm.nums])).set 3 (.int .i64 (y.ag 3)) (by simp [ints, Wm.nums])).set 4 (.int .i64 (y.ag 4)) (by simp [ints, Wm.nums])).set 5 (.int .i64 (y.ag 5)) (by simp [ints, Wm.nums])).set 6 (.int .i64 (y.ag 6)) (by simp [ints, Wm.nums])).set 7 (.int .i64 (y.ag 7)) (by simp [ints, Wm.nums])).set 8 (.int .i64 y.port) (by simp [ints, Wm.nums])).set 9 (.int .i64 y.age) (by simp [ints, Wm.nums])).set 10 (.int .i64 y.hold) (by simp [ints, Wm.nums])).set 11 (.int .i64 y.pos) (by simp [ints, Wm.nums]))).far (w.heap.size + 1 + 1) 0 (.int .i64 (f.k)) (by omega)).far (w.heap.size + 1 + 1) 1 (.int .i64 (f.i)) (by omega)
   have r9 := (((((((((((((Z2.out.far (w.heap.size + 1) 0 (.int .i64 (y.ag 0)) (by omega)).far (w.heap.size + 1) 1 (.int .i64 (y.ag 1)) (by omega)).far (w.heap.size + 1) 2 (.int .i64 (y.ag 2)) (by omega)).far (w.heap.size + 1) 3 (.int .i64 (y.ag 3)) (by omega)).far (w.heap.size + 1) 4 (.int .i64 (y.ag 4)) (by omega)).far (w.heap.size + 1) 5 (.int .i64 (y.ag 5)) (by omega)).far (w.heap.size + 1) 6 (.int .i64 (y.ag 6)) (by omega)).far (w.heap.size + 1) 7 (.int .i64 (y.ag 7)) (by omega)).far (w.heap.size + 1) 8 (.int .i64 y.port) (by omega)).far (w.heap.size + 1) 9 (.int .i64 y.age) (by omega)).far (w.heap.size + 1) 10 (.int .i64 y.hold) (by omega)).far (w.heap.size + 1) 11 (.int .i64 y.pos) (by omega)).set 0 (.int .i64 (f.k)) (by simp [ints])).set 1 (.int .i64 (f.i)) (by simp [ints])
   have k0 := r8.at_ 0 (.int .i64 (y.ag 0)) rfl
   have k1 := r8.at_ 1 (.int .i64 (y.ag 1)) rfl
   have k2 := r8.at_ 2 (.int .i64 (y.ag 2)) rfl
   have k3 := r8.at_ 3 (.int .i64 (y.ag 3)) rfl
   have k4 := r8.at_ 4 (.int .i64 (y.ag 4)) rfl
   have k5 := r8.at_ 5 (.int .i64 (y.ag 5)) rfl
   have k6 := r8.at_ 6 (.int .i64 (y.ag 6)) rfl
   have k7 := r8.at_ 7 (.int .i64 (y.ag 7)) rfl
   have k8 := r8.at_ 8 (.int .i64 y.port) rfl
   have k9 := r8.at_ 9 (.int .i64 y.age) rfl
   have k10 := r8.at_ 10 (.int .i64 y.hold) rfl
   have k11 := r8.at_ 11 (.int .i64 y.pos) rfl
   have j0 := r9.at_ 0 (.int .i64 (f.k)) rfl
   have j1 := r9.at_ 1 (.int .i64 (f.i)) rfl
   clear r8 r9
   refine bodyPost_ret (v := .tuple #[.agg #[.int .i64 (y.ag 0), .int .i64 (y.ag 1), .int .i64 (y.ag 2), .int .i64 (y.ag 3), .int .i64 (y.ag 4), .int .i64 (y.ag 5), .int .i64 (y.ag 6), .int .i64 (y.ag 7), .int .i64 y.port, .int .i64 y.age, .int .i64 y.hold, .int .i64 y.pos], .agg #[.int .i64 f.k, .int .i64 f.i], .int .i64 0]) (by simp [results, Tryz.results118, go_sem, k0, k1, k2, k3, k4, k5, k6, k7, k8, k9, k10, k11, j0, j1, hlt, hlt2]) rfl ⟨rfl, ?_⟩
   repeat' (first | (with_reducible exact HBZ.out) | (with_reducible refine Below.setCell ?_ ?_ _) | (with_reducible refine Below.alloc ?_ ?_ _) | (with_reducible refine Below.drew ?_))
   all_goals (first | omega | (simp; done) | (simp; omega))
end Gate
end Go.Proofs.YtgiojagdmglinaaGreatDoor
