/-
  Part 18 of a merged text.
-/
import Derived.Test.YtgiojagdmglinaaGreatDoorGb16
import Derived.Test.YtgiojagdmglinaaGreatDoorGb17
import Derived.Test.YtgiojagdmglinaaGreatDoorGb09
import Derived.Laws.AppendOwnNone
import Derived.Lib.BufferMore
set_option linter.unusedVariables false
set_option linter.unusedSimpArgs false
set_option maxRecDepth 100000
namespace Go.Proofs.YtgiojagdmglinaaGreatDoor
open Go.RowKit Vote
namespace Hub
set_option maxHeartbeats 4000000 in
theorem step_calls (n cap : Nat) (A : Option Addr) (h : Hb) (l : List Fr) (w : World) (h3 : 3 ≤ n) (h8 : n ≤ 8) (r : Wm.Right n h) (hl : Frames w A n l) (hf : Wm.Fit n l) :
  Calls Tryz.prog 98 #[.int .i64 n, h.val, .slice A n cap] w fun e w' => e = .returned (.tuple #[(Wm.hub n h l).1.val, (Wm.hub n h l).2.val, .int .i64 0]) ∧ Below w.heap.size w w' := by
 have r1 := Wm.tick_right (by omega) h8 r
 have r2 := Wm.note_right l h8 r1
 have r3 := Wm.settle_right (by omega) r2
 have k1 := fun W => Vote.tick_calls n h W h3 h8 r
 have k2 := fun W (hW : Below w.heap.size w W) => Gate.note_calls n cap A (Wm.tick n h) l W h3 h8 r1 (hl.below hW) hf
 have k3 := fun W => Gate.settle_calls n (Wm.note n (Wm.tick n h) l) W h3 h8 r2
 have k4 := fun W (hW : Below w.heap.size w W) => Gate.relay_calls n cap A (Wm.settle n (Wm.note n (Wm.tick n h) l)) l W h3 h8 r3 (hl.below hW) hf
 have he : Wm.hub n h l = Wm.relay n (Wm.settle n (Wm.note n (Wm.tick n h) l)) l := rfl
 rw [he]
 generalize Wm.relay n (Wm.settle n (Wm.note n (Wm.tick n h) l)) l = yy at *
 generalize Wm.settle n (Wm.note n (Wm.tick n h) l) = g3 at *
 generalize Wm.note n (Wm.tick n h) l = g2 at *
 generalize Wm.tick n h = g1 at *
 obtain ⟨y, f⟩ := yy
 unfold Hb.val Fr.val at *
 simp only at k4 ⊢
 have K1 := Lib.hid k1
 have K2 := Lib.hid k2
 have K3 := Lib.hid k3
 have K4 := Lib.hid k4
 clear k1 k2 k3 k4 he hl hf r r1 r2 r3
 go_enter Tryz.func98, Tryz.ntmps98
 go_wp2_with fail
 have q0 : Kit.Row (((w.alloc (.cells #[.int .i64 (h.ag 0), .int .i64 (h.ag 1), .int .i64 (h.ag 2), .int .i64 (h.ag 3), .int .i64 (h.ag 4), .int .i64 (h.ag 5), .int .i64 (h.ag 6), .int .i64 (h.ag 7), .int .i64 h.port, .int .i64 h.age, .int .i64 h.hold, .int .i64 h.pos] 28)).alloc (.cells #[.int .i64 0, .int .i64 0, .int .i64 0, .int .i64 0, .int .i64 0, .int .i64 0, .int .i64 0, .int .i64 0, .int .i64 0, .int .i64 0, .int .i64 0, .int .i64 0] 28)).alloc (.cells #[.int .i64 0, .int .i64 0] 45)) w.heap.size (ints (Wm.nums h)) := ((Kit.Row.new w _ _).alloc _).alloc _
 have q1 : Kit.Row (((w.alloc (.cells #[.int .i64 (h.ag 0), .int .i64 (h.ag 1), .int .i64 (h.ag 2), .int .i64 (h.ag 3), .int .i64 (h.ag 4), .int .i64 (h.ag 5), .int .i64 (h.ag 6), .int .i64 (h.ag 7), .int .i64 h.port, .int .i64 h.age, .int .i64 h.hold, .int .i64 h.pos] 28)).alloc (.cells #[.int .i64 0, .int .i64 0, .int .i64 0, .int .i64 0, .int .i64 0, .int .i64 0, .int .i64 0, .int .i64 0, .int .i64 0, .int .i64 0, .int .i64 0, .int .i64 0] 28)).alloc (.cells #[.int .i64 0, .int .i64 0] 45)) (w.heap.size + 1) (ints [0, 0, 0, 0, 0, 0, 0, 0, 0, 0, 0, 0]) := (Kit.Row.newAt _ _ _ _ (by simp)).alloc _
 have q2 : Kit.Row (((w.alloc (.cells #[.int .i64 (h.ag 0), .int .i64 (h.ag 1), .int .i64 (h.ag 2), .int .i64 (h.ag 3), .int .i64 (h.ag 4), .int .i64 (h.ag 5), .int .i64 (h.ag 6), .int .i64 (h.ag 7), .int .i64 h.port, .int .i64 h.age, .int .i64 h.hold, .int .i64 h.pos] 28)).alloc (.cells #[.int .i64 0, .int .i64 0, .int .i64 0, .int .i64 0, .int .i64 0, .int .i64 0, .int .i64 0, .int .i64 0, .int .i64 0, .int .i64 0, .int .i64 0, .int .i64 0] 28)).alloc (.cells #[.int .i64 0, .int .i64 0] 45)) (w.heap.size + 1 + 1) (ints [0, 0]) := Kit.Row.newAt _ _ _ _ (by simp)
 have qb : Below w.heap.size w (((w.alloc (.cells #[.int .i64 (h.ag 0), .int .i64 (h.ag 1), .int .i64 (h.ag 2), .int .i64 (h.ag 3), .int .i64 (h.ag 4), .int .i64 (h.ag 5), .int .i64 (h.ag 6), .int .i64 (h.ag 7), .int .i64 h.port, .int .i64 h.age, .int .i64 h.hold, .int .i64 h.pos] 28)).alloc (.cells #[.int .i64 0, .int .i64 0, .int .i64 0, .int .i64 0, .int .i64 0, .int .i64 0, .int .i64 0, .int .i64 0, .int .i64 0, .int .i64 0, .int .i64 0, .int .i64 0] 28)).alloc (.cells #[.int .i64 0, .int .i64 0] 45)) := Kit.alloc3 ..
 generalize ((w.alloc (.cells #[.int .i64 (h.ag 0), .int .i64 (h.ag 1), .int .i64 (h.ag 2), .int .i64 (h.ag 3), .int .i64 (h.ag 4), .int .i64 (h.ag 5), .int .i64 (h.ag 6), .int .i64 (h.ag 7), .int .i64 h.port, .int .i64 h.age, .int .i64 h.hold, .int .i64 h.pos] 28)).alloc (.cells #[.int .i64 0, .int .i64 0, .int .i64 0, .int .i64 0, .int .i64 0, .int .i64 0, .int .i64 0, .int .i64 0, .int .i64 0, .int .i64 0, .int .i64 0, .int .i64 0] 28)).alloc (.cells #[.int .i64 0, .int .i64 0] 45) = w2 at *
 have R0 := Lib.hid q0
 have R0b := Lib.hid q1
 have R0c := Lib.hid q2
 have HB0 := Lib.hid qb
 have c0 := q0.at_ 0 (.int .i64 (h.ag 0)) rfl
 have c1 := q0.at_ 1 (.int .i64 (h.ag 1)) rfl
 have c2 := q0.at_ 2 (.int .i64 (h.ag 2)) rfl
 have c3 := q0.at_ 3 (.int .i64 (h.ag 3)) rfl
 have c4 := q0.at_ 4 (.int .i64 (h.ag 4)) rfl
 have c5 := q0.at_ 5 (.int .i64 (h.ag 5)) rfl
 have c6 := q0.at_ 6 (.int .i64 (h.ag 6)) rfl
 have c7 := q0.at_ 7 (.int .i64 (h.ag 7)) rfl
 have c8 := q0.at_ 8 (.int .i64 h.port) rfl
 have c9 := q0.at_ 9 (.int .i64 h.age) rfl
 have c10 := q0.at_ 10 (.int .i64 h.hold) rfl
 have c11 := q0.at_ 11 (.int .i64 h.pos) rfl
 have fz0 := q0.free 0 (by simp [ints, Wm.nums])
 have fz1 := q0.free 1 (by simp [ints, Wm.nums])
 have fz2 := q0.free 2 (by simp [ints, Wm.nums])
 have fz3 := q0.free 3 (by simp [ints, Wm.nums])
 have fz4 := q0.free 4 (by simp [ints, Wm.nums])
 have fz5 := q0.free 5 (by simp [ints, Wm.nums])
 have fz6 := q0.free 6 (by simp [ints, Wm.nums])
 have fz7 := q0.free 7 (by simp [ints, Wm.nums])
 have fz8 := q0.free 8 (by simp [ints, Wm.nums])
 have fz9 := q0.free 9 (by simp [ints, Wm.nums])
 have fz10 := q0.free 10 (by simp [ints, Wm.nums])
 have fz11 := q0.free 11 (by simp [ints, Wm.nums])
 clear q0 q1 q2 qb
 refine (K1.out _).mono ?_
 rintro e v1 ⟨rfl, b⟩
 have R1 := Lib.hid (R0.out.below b)
 have R1b := Lib.hid (R0b.out.below b)
 have R1c := Lib.hid (R0c.out.below b)
 have HB1 := Lib.hid (HB0.out.trans (b.mono HB0.out.size))
 clear b c0 c1 c2 c3 c4 c5 c6 c7 c8 c9 c10 c11 fz0 fz1 fz2 fz3 fz4 fz5 fz6 fz7 fz8 fz9 fz10 fz11
 have c0 := R1.out.at_ 0 (.int .i64 (h.ag 0)) rfl
 have c1 := R1.out.at_ 1 (.int .i64 (h.ag 1)) rfl
 have c2 := R1.out.at_ 2 (.int .i64 (h.ag 2)) rfl
 have c3 := R1.out.at_ 3 (.int .i64 (h.ag 3)) rfl
 have c4 := R1.out.at_ 4 (.int .i64 (h.ag 4)) rfl
 have c5 := R1.out.at_ 5 (.int .i64 (h.ag 5)) rfl
 have c6 := R1.out.at_ 6 (.int .i64 (h.ag 6)) rfl
 have c7 := R1.out.at_ 7 (.int .i64 (h.ag 7)) rfl
 have c8 := R1.out.at_ 8 (.int .i64 h.port) rfl
 have c9 := R1.out.at_ 9 (.int .i64 h.age) rfl
 have c10 := R1.out.at_ 10 (.int .i64 h.hold) rfl
 have c11 := R1.out.at_ 11 (.int .i64 h.pos) rfl
 have fz0 := R1.out.free 0 (by simp [ints, Wm.nums])
 have fz1 := R1.out.free 1 (by simp [ints, Wm.nums])
 have fz2 := R1.out.free 2 (by simp [ints, Wm.nums])
 have fz3 := R1.out.free 3 (by simp [ints, Wm.nums])
 have fz4 := R1.out.free 4 (by simp [ints, Wm.nums])
 have fz5 := R1.out.free 5 (by simp [ints, Wm.nums])
 have fz6 := R1.out.free 6 (by simp [ints, Wm.nums])
 have fz7 := R1.out.free 7 (by simp [ints, Wm.nums])
 have fz8 := R1.out.free 8 (by simp [ints, Wm.nums])
 have fz9 := R1.out.free 9 (by simp [ints, Wm.nums])
 have fz10 := R1.out.free 10 (by simp [ints, Wm.nums])
 have fz11 := R1.out.free 11 (by simp [ints, Wm.nums])
 go_wp2_with fail
 have X0 := Lib.hid (((((((((((((R1.out.set 0 (.int .i64 (g1.ag 0)) (by simp [ints, Wm.nums])).set 1 (.int .i64 (g1.ag 1)) (by simp [ints, Wm.nums])).set 2 (.int .i64 (g1.ag 2)) (by simp [ints, Wm.nums])).set 3 (.int .i64 (g1.ag 3)) (by simp [ints, Wm.nums])).set 4 (.int .i64 (g1.ag 4)) (by simp [ints, Wm.nums])).set 5 (.int .i64 (g1.ag 5)) (by simp [ints, Wm.nums])).set 6 (.int .i64 (g1.ag 6)) (by simp [ints, Wm.nums])).set 7 (.int .i64 (g1.ag 7)) (by simp [ints, Wm.nums])).set 8 (.int .i64 g1.port) (by simp [ints, Wm.nums])).set 9 (.int .i64 g1.age) (by simp [ints, Wm.nums])).set 10 (.int .i64 g1.hold) (by simp [ints, Wm.nums])).set 11 (.int .i64 g1.pos) (by simp [ints, Wm.nums])).cast (show _ = ints (Wm.nums g1) from rfl))
 have X1 := Lib.hid ((((((((((((R1b.out.far w.heap.size 0 (.int .i64 (g1.ag 0)) (by omega)).far w.heap.size 1 (.int .i64 (g1.ag 1)) (by omega)).far w.heap.size 2 (.int .i64 (g1.ag 2)) (by omega)).far w.heap.size 3 (.int .i64 (g1.ag 3)) (by omega)).far w.heap.size 4 (.int .i64 (g1.ag 4)) (by omega)).far w.heap.size 5 (.int .i64 (g1.ag 5)) (by omega)).far w.heap.size 6 (.int .i64 (g1.ag 6)) (by omega)).far w.heap.size 7 (.int .i64 (g1.ag 7)) (by omega)).far w.heap.size 8 (.int .i64 g1.port) (by omega)).far w.heap.size 9 (.int .i64 g1.age) (by omega)).far w.heap.size 10 (.int .i64 g1.hold) (by omega)).far w.heap.size 11 (.int .i64 g1.pos) (by omega))
 have X2 := Lib.hid ((((((((((((R1c.out.far w.heap.size 0 (.int .i64 (g1.ag 0)) (by omega)).far w.heap.size 1 (.int .i64 (g1.ag 1)) (by omega)).far w.heap.size 2 (.int .i64 (g1.ag 2)) (by omega)).far w.heap.size 3 (.int .i64 (g1.ag 3)) (by omega)).far w.heap.size 4 (.int .i64 (g1.ag 4)) (by omega)).far w.heap.size 5 (.int .i64 (g1.ag 5)) (by omega)).far w.heap.size 6 (.int .i64 (g1.ag 6)) (by omega)).far w.heap.size 7 (.int .i64 (g1.ag 7)) (by omega)).far w.heap.size 8 (.int .i64 g1.port) (by omega)).far w.heap.size 9 (.int .i64 g1.age) (by omega)).far w.heap.size 10 (.int .i64 g1.hold) (by omega)).far w.heap.size 11 (.int .i64 g1.pos) (by omega))
 have HBX := Lib.hid ((((((((((((HB1.out.setCell (p := ⟨w.heap.size, 0, none⟩) (Nat.le_refl _) (.int .i64 (g1.ag 0))).setCell (p := ⟨w.heap.size, 1, none⟩) (Nat.le_refl _) (.int .i64 (g1.ag 1))).setCell (p := ⟨w.heap.size, 2, none⟩) (Nat.le_refl _) (.int .i64 (g1.ag 2))).setCell (p := ⟨w.heap.size, 3, none⟩) (Nat.le_refl _) (.int .i64 (g1.ag 3))).setCell (p := ⟨w.heap.size, 4, none⟩) (Nat.le_refl _) (.int .i64 (g1.ag 4))).setCell (p := ⟨w.heap.size, 5, none⟩) (Nat.le_refl _) (.int .i64 (g1.ag 5))).setCell (p := ⟨w.heap.size, 6, none⟩) (Nat.le_refl _) (.int .i64 (g1.ag 6))).setCell (p := ⟨w.heap.size, 7, none⟩) (Nat.le_refl _) (.int .i64 (g1.ag 7))).setCell (p := ⟨w.heap.size, 8, none⟩) (Nat.le_refl _) (.int .i64 g1.port)).setCell (p := ⟨w.heap.size, 9, none⟩) (Nat.le_refl _) (.int .i64 g1.age)).setCell (p := ⟨w.heap.size, 10, none⟩) (Nat.le_refl _) (.int .i64 g1.hold)).setCell (p := ⟨w.heap.size, 11, none⟩) (Nat.le_refl _) (.int .i64 g1.pos))
 generalize ((((((((((((v1.setCell ⟨w.heap.size, 0, none⟩ (.int .i64 (g1.ag 0))).setCell ⟨w.heap.size, 1, none⟩ (.int .i64 (g1.ag 1))).setCell ⟨w.heap.size, 2, none⟩ (.int .i64 (g1.ag 2))).setCell ⟨w.heap.size, 3, none⟩ (.int .i64 (g1.ag 3))).setCell ⟨w.heap.size, 4, none⟩ (.int .i64 (g1.ag 4))).setCell ⟨w.heap.size, 5, none⟩ (.int .i64 (g1.ag 5))).setCell ⟨w.heap.size, 6, none⟩ (.int .i64 (g1.ag 6))).setCell ⟨w.heap.size, 7, none⟩ (.int .i64 (g1.ag 7))).setCell ⟨w.heap.size, 8, none⟩ (.int .i64 g1.port)).setCell ⟨w.heap.size, 9, none⟩ (.int .i64 g1.age)).setCell ⟨w.heap.size, 10, none⟩ (.int .i64 g1.hold)).setCell ⟨w.heap.size, 11, none⟩ (.int .i64 g1.pos)) = u1 at *
 clear R1 R1b R1c HB1
 have R1 := X0
 have R1b := X1
 have R1c := X2
 have HB1 := HBX
 clear X0 X1 X2 HBX
 refine (K2.out _ HB1.out).mono ?_
 rintro e v2 ⟨rfl, b⟩
 have R2 := Lib.hid (R1.out.below b)
 have R2b := Lib.hid (R1b.out.below b)
 have R2c := Lib.hid (R1c.out.below b)
 have HB2 := Lib.hid (HB1.out.trans (b.mono HB1.out.size))
 clear b c0 c1 c2 c3 c4 c5 c6 c7 c8 c9 c10 c11 fz0 fz1 fz2 fz3 fz4 fz5 fz6 fz7 fz8 fz9 fz10 fz11
 have c0 := R2.out.at_ 0 (.int .i64 (g1.ag 0)) rfl
 have c1 := R2.out.at_ 1 (.int .i64 (g1.ag 1)) rfl
 have c2 := R2.out.at_ 2 (.int .i64 (g1.ag 2)) rfl
 have c3 := R2.out.at_ 3 (.int .i64 (g1.ag 3)) rfl
 have c4 := R2.out.at_ 4 (.int .i64 (g1.ag 4)) rfl
 have c5 := R2.out.at_ 5 (.int .i64 (g1.ag 5)) rfl
 have c6 := R2.out.at_ 6 (.int .i64 (g1.ag 6)) rfl
 have c7 := R2.out.at_ 7 (.int .i64 (g1.ag 7)) rfl
 have c8 := R2.out.at_ 8 (.int .i64 g1.port) rfl
 have c9 := R2.out.at_ 9 (.int .i64 g1.age) rfl
 have c10 := R2.out.at_ 10 (.int .i64 g1.hold) rfl
 have c11 := R2.out.at_ 11 (.int .i64 g1.pos) rfl
 have fz0 := R2.out.free 0 (by simp [ints, Wm.nums])
 have fz1 := R2.out.free 1 (by simp [ints, Wm.nums])
 have fz2 := R2.out.free 2 (by simp [ints, Wm.nums])
 have fz3 := R2.out.free 3 (by simp [ints, Wm.nums])
 have fz4 := R2.out.free 4 (by simp [ints, Wm.nums])
 have fz5 := R2.out.free 5 (by simp [ints, Wm.nums])
 have fz6 := R2.out.free 6 (by simp [ints, Wm.nums])
 have fz7 := R2.out.free 7 (by simp [ints, Wm.nums])
 have fz8 := R2.out.free 8 (by simp [ints, Wm.nums])
 have fz9 := R2.out.free 9 (by simp [ints, Wm.nums])
 have fz10 := R2.out.free 10 (by simp [ints, Wm.nums])
 have fz11 := R2.out.free 11 (by simp [ints, Wm.nums])
 go_wp2_with fail
 have X0 := Lib.hid (((((((((((((R2.out.set 0 (.int .i64 (g2.ag 0)) (by simp [ints, Wm.nums])).set 1 (.int .i64 (g2.ag 1)) (by simp [ints, Wm.nums])).set 2 (.int .i64 (g2.ag 2)) (by simp [ints, Wm.nums])).set 3 (.int .i64 (g2.ag 3)) (by simp [ints, Wm.nums])).set 4 (.int .i64 (g2.ag 4)) (by simp [ints, Wm.nums])).set 5 (.int .i64 (g2.ag 5)) (by simp [ints, Wm.nums])).set 6 (.int .i64 (g2.ag 6)) (by simp [ints, Wm.nums])).set 7 (.int .i64 (g2.ag 7)) (by simp [ints, Wm.nums])).set 8 (.int .i64 g2.port) (by simp [ints, Wm.nums])).set 9 (.int .i64 g2.age) (by simp [ints, Wm.nums])).set 10 (.int .i64 g2.hold) (by simp [ints, Wm.nums])).set 11 (.int .i64 g2.pos) (by simp [ints, Wm.nums])).cast (show _ = ints (Wm.nums g2) from rfl))
 have X1 := Lib.hid ((((((((((((R2b.out.far w.heap.size 0 (.int .i64 (g2.ag 0)) (by omega)).far w.heap.size 1 (.int .i64 (g2.ag 1)) (by omega)).far w.heap.size 2 (.int .i64 (g2.ag 2)) (by omega)).far w.heap.size 3 (.int .i64 (g2.ag 3)) (by omega)).far w.heap.size 4 (.int .i64 (g2.ag 4)) (by omega)).far w.heap.size 5 (.int .i64 (g2.ag 5)) (by omega)).far w.heap.size 6 (.int .i64 (g2.ag 6)) (by omega)).far w.heap.size 7 (.int .i64 (g2.ag 7)) (by omega)).far w.heap.size 8 (.int .i64 g2.port) (by omega)).far w.heap.size 9 (.int .i64 g2.age) (by omega)).far w.heap.size 10 (.int .i64 g2.hold) (by omega)).far w.heap.size 11 (.int .i64 g2.pos) (by omega))
 have X2 := Lib.hid ((((((((((((R2c.out.far w.heap.size 0 (.int .i64 (g2.ag 0)) (by omega)).far w.heap.size 1 (.int .i64 (g2.ag 1)) (by omega)).far w.heap.size 2 (.int .i64 (g2.ag 2)) (by omega)).far w.heap.size 3 (.int .i64 (g2.ag 3)) (by omega)).far w.heap.size 4 (.int .i64 (g2.ag 4)) (by omega)).far w.heap.size 5 (.int .i64 (g2.ag 5)) (by omega)).far w.heap.size 6 (.int .i64 (g2.ag 6)) (by omega)).far w.heap.size 7 (.int .i64 (g2.ag 7)) (by omega)).far w.heap.size 8 (.int .i64 g2.port) (by omega)).far w.heap.size 9 (.int .i64 g2.age) (by omega)).far w.heap.size 10 (.int .i64 g2.hold) (by omega)).far w.heap.size 11 (.int .i64 g2.pos) (by omega))
 have HBX := Lib.hid ((((((((((((HB2.out.setCell (p := ⟨w.heap.size, 0, none⟩) (Nat.le_refl _) (.int .i64 (g2.ag 0))).setCell (p := ⟨w.heap.size, 1, none⟩) (Nat.le_refl _) (.int .i64 (g2.ag 1))).setCell (p := ⟨w.heap.size, 2, none⟩) (Nat.le_refl _) (.int .i64 (g2.ag 2))).setCell (p := ⟨w.heap.size, 3, none⟩) (Nat.le_refl _) (.int .i64 (g2.ag 3))).setCell (p := ⟨w.heap.size, 4, none⟩) (Nat.le_refl _) (.int .i64 (g2.ag 4))).setCell (p := ⟨w.heap.size, 5, none⟩) (Nat.le_refl _) (.int .i64 (g2.ag 5))).setCell (p := ⟨w.heap.size, 6, none⟩) (Nat.le_refl _) (.int .i64 (g2.ag 6))).setCell (p := ⟨w.heap.size, 7, none⟩) (Nat.le_refl _) (.int .i64 (g2.ag 7))).setCell (p := ⟨w.heap.size, 8, none⟩) (Nat.le_refl _) (.int .i64 g2.port)).setCell (p := ⟨w.heap.size, 9, none⟩) (Nat.le_refl _) (.int .i64 g2.age)).setCell (p := ⟨w.heap.size, 10, none⟩) (Nat.le_refl _) (.int .i64 g2.hold)).setCell (p := ⟨w.heap.size, 11, none⟩) (Nat.le_refl _) (.int .i64 g2.pos))
 generalize ((((((((((((v2.setCell ⟨w.heap.size, 0, none⟩ (.int .i64 (g2.ag 0))).setCell ⟨w.heap.size, 1, none⟩ (.int .i64 (g2.ag 1))).setCell ⟨w.heap.size, 2, none⟩ (.int .i64 (g2.ag 2))).setCell ⟨w.heap.size, 3, none⟩ (.int .i64 (g2.ag 3))).setCell ⟨w.heap.size, 4, none⟩ (.int .i64 (g2.ag 4))).setCell ⟨w.heap.size, 5, none⟩ (.int .i64 (g2.ag 5))).setCell ⟨w.heap.size, 6, none⟩ (.int .i64 (g2.ag 6))).setCell ⟨w.heap.size, 7, none⟩ (.int .i64 (g2.ag 7))).setCell ⟨w.heap.size, 8, none⟩ (.int .i64 g2.port)).setCell ⟨w.heap.size, 9, none⟩ (.int .i64 g2.age)).setCell ⟨w.heap.size, 10, none⟩ (.int .i64 g2.hold)).setCell ⟨w.heap.size, 11, none⟩ (.int .i64 g2.pos)) = u2 at *
 clear R2 R2b R2c HB2
 have R2 := X0
 have R2b := X1
 have R2c := X2
 have HB2 := HBX
 clear X0 X1 X2 HBX
 refine (K3.out _).mono ?_
 rintro e v3 ⟨rfl, b⟩
 have R3 := Lib.hid (R2.out.below b)
 have R3b := Lib.hid (R2b.out.below b)
 have R3c := Lib.hid (R2c.out.below b)
 have HB3 := Lib.hid (HB2.out.trans (b.mono HB2.out.size))
 clear b c0 c1 c2 c3 c4 c5 c6 c7 c8 c9 c10 c11 fz0 fz1 fz2 fz3 fz4 fz5 fz6 fz7 fz8 fz9 fz10 fz11
 have c0 := R3.out.at_ 0 (.int .i64 (g2.ag 0)) rfl
 have c1 := R3.out.at_ 1 (.int .i64 (g2.ag 1)) rfl
 have c2 := R3.out.at_ 2 (.int .i64 (g2.ag 2)) rfl
 have c3 := R3.out.at_ 3 (.int .i64 (g2.ag 3)) rfl
 have c4 := R3.out.at_ 4 (.int .i64 (g2.ag 4)) rfl
 have c5 := R3.out.at_ 5 (.int .i64 (g2.ag 5)) rfl
 have c6 := R3.out.at_ 6 (.int .i64 (g2.ag 6)) rfl
 have c7 := R3.out.at_ 7 (.int .i64 (g2.ag 7)) rfl
 have c8 := R3.out.at_ 8 (.int .i64 g2.port) rfl
 have c9 := R3.out.at_ 9 (.int .i64 g2.age) rfl
 have c10 := R3.out.at_ 10 (.int .i64 g2.hold) rfl
 have c11 := R3.out.at_ 11 (.int .i64 g2.pos) rfl
 have fz0 := R3.out.free 0 (by simp [ints, Wm.nums])
 have fz1 := R3.out.free 1 (by simp [ints, Wm.nums])
 have fz2 := R3.out.free 2 (by simp [ints, Wm.nums])
 have fz3 := R3.out.free 3 (by simp [ints, Wm.nums])
 have fz4 := R3.out.free 4 (by simp [ints, Wm.nums])
 have fz5 := R3.out.free 5 (by simp [ints, Wm.nums])
 have fz6 := R3.out.free 6 (by simp [ints, Wm.nums])
 have fz7 := R3.out.free 7 (by simp [ints, Wm.nums])
 have fz8 := R3.out.free 8 (by simp [ints, Wm.nums])
 have fz9 := R3.out.free 9 (by simp [ints, Wm.nums])
 have fz10 := R3.out.free 10 (by simp [ints, Wm.nums])
 have fz11 := R3.out.free 11 (by simp [ints, Wm.nums])
 go_wp2_with fail
 have X0 := Lib.hid (((((((((((((R3.out.set 0 (.int .i64 (g3.ag 0)) (by simp [ints, Wm.nums])).set 1 (.int .i64 (g3.ag 1)) (by simp [ints, Wm.nums])).set 2 (.int .i64 (g3.ag 2)) (by simp [ints, Wm.nums])).set 3 (.int .i64 (g3.ag 3)) (by simp [ints, Wm.nums])).set 4 (.int .i64 (g3.ag 4)) (by simp [ints, Wm.nums])).set 5 (.int .i64 (g3.ag 5)) (by simp [ints, Wm.nums])).set 6 (.int .i64 (g3.ag 6)) (by simp [ints, Wm.nums])).set 7 (.int .i64 (g3.ag 7)) (by simp [ints, Wm.nums])).set 8 (.int .i64 g3.port) (by simp [ints, Wm.nums])).set 9 (.int .i64 g3.age) (by simp [ints, Wm.nums])).set 10 (.int .i64 g3.hold) (by simp [ints, Wm.nums])).set 11 (.int .i64 g3.pos) (by simp [ints, Wm.nums])).cast (show _ = ints (Wm.nums g3) from rfl))
 have X1 := Lib.hid ((((((((((((R3b.out.far w.heap.size 0 (.int .i64 (g3.ag 0)) (by omega)).far w.heap.size 1 (.int .i64 (g3.ag 1)) (by omega)).far w.heap.size 2 (.int .i64 (g3.ag 2)) (by omega)).far w.heap.size 3 (.int .i64 (g3.ag 3)) (by omega)).far w.heap.size 4 (.int .i64 (g3.ag 4)) (by omega)).far w.heap.size 5 (.int .i64 (g3.ag 5)) (by omega)).far w.heap.size 6 (.int .i64 (g3.ag 6)) (by omega)).far w.heap.size 7 (.int .i64 (g3.ag 7)) (by omega)).far w.heap.size 8 (.int .i64 g3.port) (by omega)).far w.heap.size 9 (.int .i64 g3.age) (by omega)).far w.heap.size 10 (.int .i64 g3.hold) (by omega)).far w.heap.size 11 (.int .i64 g3.pos) (by omega))
 have X2 := Lib.hid ((((((((((((R3c.out.far w.heap.size 0 (.int .i64 (g3.ag 0)) (by omega)).far w.heap.size 1 (.int .i64 (g3.ag 1)) (by omega)).far w.heap.size 2 (.int .i64 (g3.ag 2)) (by omega)).far w.heap.size 3 (.int .i64 (g3.ag 3)) (by omega)).far w.heap.size 4 (.int .i64 (g3.ag 4)) (by omega)).far w.heap.size 5 (.int .i64 (g3.ag 5)) (by omega)).far w.heap.size 6 (.int .i64 (g3.ag 6)) (by omega)).far w.heap.size 7 (.int .i64 (g3.ag 7)) (by omega)).far w.heap.size 8 (.int .i64 g3.port) (by omega)).far w.heap.size 9 (.int .i64 g3.age) (by omega)).far w.heap.size 10 (.int .i64 g3.hold) (by omega)).far w.heap.size 11 (.int .i64 g3.pos) (by omega))
 have HBX := Lib.hid ((((((((((((HB3.out.setCell (p := ⟨w.heap.size, 0, none⟩) (Nat.le_refl _) (.int .i64 (g3.ag 0))).setCell (p := ⟨w.heap.size, 1, none⟩) (Nat.le_refl _) (.int .i64 (g3.ag 1))).setCell (p := ⟨w.heap.size, 2, none⟩) (Nat.le_refl _) (.int .i64 (g3.ag 2))).setCell (p := ⟨w.heap.size, 3, none⟩) (Nat.le_refl _) (.int .i64 (g3.ag 3))).setCell (p := ⟨w.heap.size, 4, none⟩) (Nat.le_refl _) (.int .i64 (g3.ag 4))).setCell (p := ⟨w.heap.size, 5, none⟩) (Nat.le_refl _) (.int .i64 (g3.ag 5))).setCell (p := ⟨w.heap.size, 6, none⟩) (Nat.le_refl _) (.int .i64 (g3.ag 6))).setCell (p := ⟨w.heap.size, 7, none⟩) (Nat.le_refl _) (.int .i64 (g3.ag 7))).setCell (p := ⟨w.heap.size, 8, none⟩) (Nat.le_refl _) (.int .i64 g3.port)).setCell (p := ⟨w.heap.size, 9, none⟩) (Nat.le_refl _) (.int .i64 g3.age)).setCell (p := ⟨w.heap.size, 10, none⟩) (Nat.le_refl _) (.int .i64 g3.hold)).setCell (p := ⟨w.heap.size, 11, none⟩) (Nat.le_refl _) (.int .i64 g3.pos))
 generalize ((((((((((((v3.setCell ⟨w.heap.size, 0, none⟩ (.int .i64 (g3.ag 0))).setCell ⟨w.heap.size, 1, none⟩ (.int .i64 (g3.ag 1))).setCell ⟨w.heap.size, 2, none⟩ (.int .i64 (g3.ag 2))).setCell ⟨w.heap.size, 3, none⟩ (.int .i64 (g3.ag 3))).setCell ⟨w.heap.size, 4, none⟩ (.int .i64 (g3.ag 4))).setCell ⟨w.heap.size, 5, none⟩ (.int .i64 (g3.ag 5))).setCell ⟨w.heap.size, 6, none⟩ (.int .i64 (g3.ag 6))).setCell ⟨w.heap.size, 7, none⟩ (.int .i64 (g3.ag 7))).setCell ⟨w.heap.size, 8, none⟩ (.int .i64 g3.port)).setCell ⟨w.heap.size, 9, none⟩ (.int .i64 g3.age)).setCell ⟨w.heap.size, 10, none⟩ (.int .i64 g3.hold)).setCell ⟨w.heap.size, 11, none⟩ (.int .i64 g3.pos)) = u3 at *
 clear R3 R3b R3c HB3
 have R3 := X0
 have R3b := X1
 have R3c := X2
 have HB3 := HBX
 clear X0 X1 X2 HBX
 refine (K4.out _ HB3.out).mono ?_
 rintro e v4 ⟨rfl, b⟩
 have R4 := Lib.hid (R3.out.below b)
 have R4b := Lib.hid (R3b.out.below b)
 have R4c := Lib.hid (R3c.out.below b)
 have HB4 := Lib.hid (HB3.out.trans (b.mono HB3.out.size))
 clear b c0 c1 c2 c3 c4 c5 c6 c7 c8 c9 c10 c11 fz0 fz1 fz2 fz3 fz4 fz5 fz6 fz7 fz8 fz9 fz10 fz11
 have hlt := R4b.out.lt
 have hlt2 := R4c.out.lt
 have lb := R4.out.lt
 have d0 := R4.out.at_ 0 (.int .i64 (g3.ag 0)) rfl
 have d1 := R4.out.at_ 1 (.int .i64 (g3.ag 1)) rfl
 have d2 := R4.out.at_ 2 (.int .i64 (g3.ag 2)) rfl
 have d3 := R4.out.at_ 3 (.int .i64 (g3.ag 3)) rfl
 have d4 := R4.out.at_ 4 (.int .i64 (g3.ag 4)) rfl
 have d5 := R4.out.at_ 5 (.int .i64 (g3.ag 5)) rfl
 have d6 := R4.out.at_ 6 (.int .i64 (g3.ag 6)) rfl
 have d7 := R4.out.at_ 7 (.int .i64 (g3.ag 7)) rfl
 have d8 := R4.out.at_ 8 (.int .i64 g3.port) rfl
 have d9 := R4.out.at_ 9 (.int .i64 g3.age) rfl
 have d10 := R4.out.at_ 10 (.int .i64 g3.hold) rfl
 have d11 := R4.out.at_ 11 (.int .i64 g3.pos) rfl
 have g0 := R4b.out.at_ 0 (.int .i64 0) rfl
 have g1 := R4b.out.at_ 1 (.int .i64 0) rfl
 have g2 := R4b.out.at_ 2 (.int .i64 0) rfl
 have g3 := R4b.out.at_ 3 (.int .i64 0) rfl
 have g4 := R4b.out.at_ 4 (.int .i64 0) rfl
 have g5 := R4b.out.at_ 5 (.int .i64 0) rfl
 have g6 := R4b.out.at_ 6 (.int .i64 0) rfl
 have g7 := R4b.out.at_ 7 (.int .i64 0) rfl
 have g8 := R4b.out.at_ 8 (.int .i64 0) rfl
 have g9 := R4b.out.at_ 9 (.int .i64 0) rfl
 have g10 := R4b.out.at_ 10 (.int .i64 0) rfl
 have g11 := R4b.out.at_ 11 (.int .i64 0) rfl
 have ff0 := R4b.out.free 0 (by simp [ints, Wm.nums])
 have ff1 := R4b.out.free 1 (by simp [ints, Wm.nums])
 have ff2 := R4b.out.free 2 (by simp [ints, Wm.nums])
 have ff3 := R4b.out.free 3 (by simp [ints, Wm.nums])
 have ff4 := R4b.out.free 4 (by simp [ints, Wm.nums])
 have ff5 := R4b.out.free 5 (by simp [ints, Wm.nums])
 have ff6 := R4b.out.free 6 (by simp [ints, Wm.nums])
 have ff7 := R4b.out.free 7 (by simp [ints, Wm.nums])
 have ff8 := R4b.out.free 8 (by simp [ints, Wm.nums])
 have ff9 := R4b.out.free 9 (by simp [ints, Wm.nums])
 have ff10 := R4b.out.free 10 (by simp [ints, Wm.nums])
 have ff11 := R4b.out.free 11 (by simp [ints, Wm.nums])
 have y0 := R4c.out.at_ 0 (.int .i64 0) rfl
 have y1 := R4c.out.at_ 1 (.int .i64 0) rfl
 have z0 := R4c.out.free 0 (by simp [ints])
 have z1 := R4c.out.free 1 (by simp [ints])
 go_wp2_with fail
 have r8 := ((((((((((((((R4b.out.set 0 (.int .i64 (y.ag 0)) (by simp [ints, Wm.nums])).set 1 (.int .i64 (y.ag 1)) (by simp [ints, Wm.nums])).set 2 (.int .i64 (y.ag 2)) (by simp [ints, Wm.nums])).set 3 (.int .i64 (y.ag 3)) (by simp [ints, Wm.nums])).set 4 (.int .i64 (y.ag 4)) (by simp [ints, Wm.nums])).set 5 (.int .i64 (y.ag 5)) (by simp [ints, Wm.nums])).set 6 (.int .i64 (y.ag 6)) (by simp [ints, Wm.nums])).set 7 (.int .i64 (y.ag 7)) (by simp [ints, Wm.nums])).set 8 (.int .i64 y.port) (by simp [ints, Wm.nums])).set 9 (.int .i64 y.age) (by simp [ints, Wm.nums])).set 10 (.int .i64 y.hold) (by simp [ints, Wm.nums])).set 11 (.int .i64 y.pos) (by simp [ints, Wm.nums]))).far (w.heap.size + 1 + 1) 0 (.int .i64 (f.k)) (by omega)).far (w.heap.size + 1 + 1) 1 (.int .i64 (f.i)) (by omega)
 have r9 := (((((((((((((R4c.out.far (w.heap.size + 1) 0 (.int .i64 (y.ag 0)) (by omega)).far (w.heap.size + 1) 1 (.int .i64 (y.ag 1)) (by omega)).far (w.heap.size + 1) 2 (.int .i64 (y.ag 2)) (by omega)).far (w.heap.size + 1) 3 (.int .i64 (y.ag 3)) (by omega)).far (w.heap.size + 1) 4 (.int .i64 (y.ag 4)) (by omega)).far (w.heap.size + 1) 5 (.int .i64 (y.ag 5)) (by omega)).far (w.heap.size + 1) 6 (.int .i64 (y.ag 6)) (by omega)).far (w.heap.size + 1) 7 (.int .i64 (y.ag 7)) (by omega)).far (w.heap.size + 1) 8 (.int .i64 y.port) (by omega)).far (w.heap.size + 1) 9 (.int .i64 y.age) (by omega)).far (w.heap.size + 1) 10 (.int .i64 y.hold) (by omega)).far (w.heap.size + 1) 11 (.int .i64 y.pos) (by omega)).set 0 (.int .i64 (f.k)) (by simp [ints])).set 1 (.int .i64 (f.i)) (by simp [ints])
 have k0 := r8.at_ 0 (.int .i64 (y.ag 0)) rfl
 have k1 := r8.at_ 1 (.int .i64 (y.ag 1)) rfl
 have k2 := r8.at_ 2 (.int .i64 (y.ag 2)) rfl
 have k3 := r8.at_ 3 (.int .i64 (y.ag 3)) rfl
 have k4 := r8.at_ 4 (.int .i64 (y.ag 4)) rfl
 have k5 := r8.at_ 5 (.int .i64 (y.ag 5)) rfl
 have k6 := r8.at_ 6 (.int .i64 (y.ag 6)) rfl
 have k7 := r8.at_ 7 (.int .i64 (y.ag 7)) rfl
 have k8 := r8.at_ 8 (.int .i64 y.port) rfl
 have k9 := r8.at_ 9 (.int .i64 y.age) rfl
 have k10 := r8.at_ 10 (.int .i64 y.hold) rfl
 have k11 := r8.at_ 11 (.int .i64 y.pos) rfl
 have j0 := r9.at_ 0 (.int .i64 (f.k)) rfl
 have j1 := r9.at_ 1 (.int .i64 (f.i)) rfl
 clear r8 r9
 refine bodyPost_ret (v := .tuple #[.agg #[.int .i64 (y.ag 0), .int .i64 (y.ag 1), .int .i64 (y.ag 2), .int .i64 (y.ag 3), .int .i64 (y.ag 4), .int .i64 (y.ag 5), .int .i64 (y.ag 6), .int .i64 (y.ag 7), .int .i64 y.port, .int .i64 y.age, .int .i64 y.hold, .int .i64 y.pos], .agg #[.int .i64 f.k, .int .i64 f.i], .int .i64 0]) (by simp [results, Tryz.results98, go_sem, k0, k1, k2, k3, k4, k5, k6, k7, k8, k9, k10, k11, j0, j1, hlt, hlt2]) rfl ⟨rfl, ?_⟩
 repeat' (first | (with_reducible exact HB4.out) | (with_reducible refine Below.setCell ?_ ?_ _) | (with_reducible refine Below.alloc ?_ ?_ _) | (with_reducible refine Below.drew ?_))
 all_goals (first | omega | (simp; done) | (simp; omega))
end Hub
end Go.Proofs.YtgiojagdmglinaaGreatDoor
namespace Go.Proofs.YtgiojagdmglinaaGreatDoor
open Go.RowKit
end Go.Proofs.YtgiojagdmglinaaGreatDoor
namespace Go.Proofs.YtgiojagdmglinaaGreatDoor
open Go.RowKit
theorem Port.info : (Tryz.prog.info? 45).map (fun i => (i.zero, i.size, i.bytes)) = some (some (.agg #[.int .i64 0, .int .i64 0]), 2, 16) := by kernel_rfl
set_option maxHeartbeats 1000000 in
theorem Port.clone_calls (A : Option Addr) (n cap : Nat) (l : List Fr) (w : World) (hl : Frames w A n l) (hn : n ≤ 1000000) :
  Calls Tryz.prog 124 #[.slice A n cap] w fun e w' => ∃ v, e = .returned v ∧ w'.ownsRow w.heap.size 45 2 v n (Port.cells l) ∧ Below w.heap.size w w' := by
 obtain ⟨i0, hi, hz0, hz1, hz2⟩ := info_parts Port.info
 cases A with
 | none =>
  have h0 : n = 0 := by
   rcases Nat.eq_zero_or_pos n with h | h
   ·exact h
   ·obtain ⟨b, off, e, _⟩ := hl.row h
    cases e
  subst h0
  have hl0 : l = [] := List.eq_nil_of_length_eq_zero hl.len
  subst hl0
  have hnil := fun (w : World) => Go.Lib.run_eql_slice_nil_nil (P := Tryz.prog) w 0 cap Tryz.underlying79
  go_enter Tryz.func124, Tryz.ntmps124
  go_wp2_with fail
  go_ret
  exact ⟨_, rfl, World.ownsRow_nil _ _ _ _, Below.refl _ _⟩
 | some a =>
  have hnews := fun (W : World) (hW : Below w.heap.size w W) => (hl.below hW).news
  have HN := Lib.hid hnews
  have hone := Port.cells_one l
  clear hl hnews
  have hnil := fun (w : World) => Go.Lib.run_eql_slice_some_nil (P := Tryz.prog) w a n cap Tryz.underlying79
  go_enter Tryz.func124, Tryz.ntmps124
  go_wp2_with (at_builtin; go_loud (refine wpList_append_own _ rfl _ _ 79 rfl w.heap.size 45 i0 (.agg #[.int .i64 0, .int .i64 0]) 2 16 Tryz.underlying79 hi hz0 hz1 hz2 rfl (by decide) _ _ _ rfl (World.ownsRow_lit w #[] 0 (Nat.le_refl _) (by unfold maxLen; omega) rfl) a n cap (Port.cells l) rfl ?c1 ?c2 ?c3 ?c4 ?c5 ?c6 ?_))
  case c1 => exact (HN.out w (Below.refl _ _)).1
  case c2 => exact (HN.out _ ((Below.refl _ _).alloc (Nat.le_refl _) _)).2
  case c3 => exact hone
  case c4 => unfold maxLen; omega
  case c5 => omega
  case c6 => simp
  ·intro v' w3 hown' hgrow _
   have b3 : Below w.heap.size w w3 := ((Below.refl _ _).alloc (Nat.le_refl _) _).grown hgrow (by simp) (fun q hq => by simp [Value.ownBlock] at hq; omega)
   have B3 := Lib.hid b3
   clear b3 hgrow
   have hown2 : w3.ownsRow w.heap.size 45 2 v' n (Port.cells l) := by simpa using hown'
   clear hown'
   go_wp2
   go_ret
   exact ⟨_, rfl, hown2, B3.out⟩
def Port.Row (w : World) (l : List Fr) (err : Int) (e : Ending) (w' : World) : Prop := ∃ v, e = .returned (.tuple #[v, .int .i64 err]) ∧ w'.ownsRow w.heap.size 45 2 v l.length (Port.cells l) ∧ Below w.heap.size w w'
theorem Port.set_own {w wr : World} {g cap n : Nat} {q : List Fr} (hown : wr.ownsRow w.heap.size 45 2 (.slice (some ⟨g, 0, none⟩) n cap) n (Port.cells q)) (hq : q.length = n) (hB : Below w.heap.size w wr) (k : Nat) (hk : k < n) (x : Fr) :
  ((wr.setCell ⟨g, k * 2, none⟩ (.int .i64 x.k)).setCell ⟨g, k * 2 + 1, none⟩ (.int .i64 x.i)).ownsRow w.heap.size 45 2 (.slice (some ⟨g, 0, none⟩) n cap) n (Port.cells (q.set k x)) ∧
  Below w.heap.size w ((wr.setCell ⟨g, k * 2, none⟩ (.int .i64 x.k)).setCell ⟨g, k * 2 + 1, none⟩ (.int .i64 x.i)) := by
 have h1 := (hown.stored (k * 2) (.int .i64 x.k)).1
 have h2 := (h1.stored (k * 2 + 1) (.int .i64 x.i)).1
 rw [Port.cells_set q k x (by omega)] at h2
 have hg : w.heap.size ≤ g := Kit.own_base hown g rfl
 exact ⟨h2, (hB.setCell hg _).setCell hg _⟩
theorem Port.alloc_own {w wr : World} {base : Nat} {v : Value} {n : Nat} {q : List Value} (h : wr.ownsRow base 45 2 v n q) (hB : Below w.heap.size w wr) (cs : Array Value) (t : TypeId) :
  (wr.alloc (.cells cs t)).ownsRow base 45 2 v n q ∧ Below w.heap.size w (wr.alloc (.cells cs t)) :=
 ⟨Kit.own_below h ((Below.refl _ _).alloc (Nat.le_refl _) _), hB.alloc hB.size _⟩
set_option maxHeartbeats 1000000 in
theorem Port.both_calls (A A2 : Option Addr) (n cap n2 cap2 : Nat) (a b : List Fr) (w : World) (hl : Frames w A n a) (hm : Frames w A2 n2 b) (hn : n ≤ 1000000) (hn2 : n2 ≤ 1000000) :
  Calls Tryz.prog 114 #[.slice A n cap, .slice A2 n2 cap2] w (Port.Row w (if n = n2 then Port.both a b else []) (if n = n2 then 0 else 2)) := by
 by_cases hnn : n = n2
 ·subst hnn
  rw [if_pos rfl, if_pos rfl]
  have hab : a.length = b.length := by rw [hl.len, hm.len]
  have hbl : b.length = n := hm.len
  have hlen : (Port.both a b).length = b.length := Port.both_len a b hab
  have cc := Port.clone_calls A2 n cap2 b w hm hn
  have HL := Lib.hid hl
  have HM := Lib.hid hm
  have HAB := Lib.hid hab
  have HBL := Lib.hid hbl
  have HLen := Lib.hid hlen
  clear hl hm hab hbl hlen
  go_enter Tryz.func114, Tryz.ntmps114
  go_wp2_with fail
  refine cc.mono ?_
  rintro e w1 ⟨v, rfl, hown0, b1⟩
  have B1 := Lib.hid b1
  clear b1 cc
  go_wp2_with fail
  go_loopw [7, 8, 18] (fun _ _ vi wr => ∃ k : Nat, k ≤ n ∧ vi = .int .i64 k ∧ wr.ownsRow w.heap.size 45 2 v n (Port.cells (Port.mix (Port.both a b) b k)) ∧ Hid (Below w.heap.size w wr)) (fun _ _ vi _ => n - (intOf vi).toNat)
  case atStart => exact ⟨0, by omega, rfl, by rw [Port.mix_zero]; exact hown0, B1⟩
  case round =>
   clear hown0 B1
   obtain ⟨k, hk, rfl, hown, HB⟩ := hrel
   by_cases hlt : k < n
   ·obtain ⟨bb, off, rfl, hb, hrow⟩ := HL.out.row (by omega)
    have hka : k < a.length := by rw [HAB.out, HBL.out]; exact hlt
    have hkb : k < b.length := by rw [HBL.out]; exact hlt
    obtain ⟨x, hx⟩ : ∃ x, a[k]? = some x := ⟨_, List.getElem?_eq_getElem hka⟩
    obtain ⟨y, hy⟩ : ∃ y, b[k]? = some y := ⟨_, List.getElem?_eq_getElem hkb⟩
    have hpk := Port.both_get a b k x y hx hy
    obtain ⟨r0, r1⟩ := hrow k x hx
    have m0 := (HB.out.cell (p := ⟨bb, off + k * 2, none⟩) hb).trans r0
    have m1 := (HB.out.cell (p := ⟨bb, off + k * 2 + 1, none⟩) hb).trans r1
    clear hrow r0 r1 hka hkb
    by_cases hxz : x = Fr.none
    ·have hs : Port.mix (Port.both a b) b (k + 1) = Port.mix (Port.both a b) b k := Port.mix_same _ _ k y HLen.out (by rw [hpk]; unfold Port.pick; rw [if_pos hxz]) hy
     have HS := Lib.hid hs
     clear hs hpk hx hy
     subst hxz
     simp only [Fr.none] at m0 m1
     have ba : Below wr.heap.size wr (wr.alloc (.cells #[.int .i64 0, .int .i64 0] 45)) := (Below.refl _ _).alloc (Nat.le_refl _) _
     have BA := Lib.hid ba
     clear ba
     go_wp2_with fail
     go_roundw
     case rel => exact ⟨k + 1, by omega, by go_num, by rw [HS.out]; exact Kit.own_below hown BA.out, Lib.hid (HB.out.trans (BA.out.mono HB.out.size))⟩
     case measure => simp [intOf]; omega
    ·obtain ⟨g, cap', rfl, _, hglt⟩ := hown.form (by omega)
     obtain ⟨c0, c1⟩ := Port.cells_get _ k y (Port.mix_at (Port.both a b) b k y HLen.out hy)
     have t0 := (hown.cellAt (k * 2) (by omega)).trans c0
     have t1 := (hown.cellAt (k * 2 + 1) (by omega)).trans c1
     have f0 := hown.frozenAt (k * 2)
     have f1 := hown.frozenAt (k * 2 + 1)
     have hs : Port.mix (Port.both a b) b (k + 1) = (Port.mix (Port.both a b) b k).set k x := Port.mix_succ _ _ k x HLen.out (by rw [hpk]; unfold Port.pick; rw [if_neg hxz])
     have HS := Lib.hid hs
     rw [Port.fr_eq] at hxz
     simp only [Fr.none] at hxz
     clear hs hpk hx hy c0 c1
     by_cases e1 : x.k = 0
     ·have e2 : (x.i == 0) = false := by rw [beq_eq_false_iff_ne]; exact fun h => hxz ⟨e1, h⟩
      have e1' : (x.k == 0) = true := by rw [beq_iff_eq]; exact e1
      clear hxz e1
      have own0 := Port.set_own hown (Port.mix_len _ _ k HLen.out (by rw [HBL.out]; omega) |>.trans HBL.out) HB.out k hlt x
      have own2 := Port.alloc_own own0.1 own0.2 #[.int .i64 x.k, .int .i64 x.i] 45
      rw [← HS.out] at own2
      have OWN := Lib.hid own2
      clear own2 own0
      go_wp2_with fail
      go_roundw
      case rel => exact ⟨k + 1, by omega, by go_num, OWN.out.1, Lib.hid OWN.out.2⟩
      case measure => simp [intOf]; omega
     ·have e1' : (x.k == 0) = false := by rw [beq_eq_false_iff_ne]; exact e1
      clear hxz
      have own0 := Port.set_own hown (Port.mix_len _ _ k HLen.out (by rw [HBL.out]; omega) |>.trans HBL.out) HB.out k hlt x
      have own2 := Port.alloc_own own0.1 own0.2 #[.int .i64 x.k, .int .i64 x.i] 45
      rw [← HS.out] at own2
      have OWN := Lib.hid own2
      clear own2 own0
      go_wp2_with fail
      go_roundw
      case rel => exact ⟨k + 1, by omega, by go_num, OWN.out.1, Lib.hid OWN.out.2⟩
      case measure => simp [intOf]; omega
   ·obtain rfl : k = n := by omega
    have hall := Port.mix_all (Port.both a b) b k (by rw [HLen.out, HBL.out]) HBL.out
    rw [hall] at hown
    clear hall
    go_wp2_with fail
    go_ret2
    exact ⟨_, rfl, by rw [HLen.out, HBL.out]; exact hown, HB.out⟩
 ·rw [if_neg hnn, if_neg hnn]
  have h1 : ((n : Int) != (n2 : Int)) = true := by rw [bne_iff_ne]; omega
  go_enter Tryz.func114, Tryz.ntmps114
  go_wp2_with fail
  go_ret2
  exact ⟨_, rfl, World.ownsRow_nil _ _ _ _, Below.refl _ _⟩
end Go.Proofs.YtgiojagdmglinaaGreatDoor
