/-
  Part 14 of a merged text.
-/
import Derived.Test.YtgiojagdmglinaaGreatDoorGb13
import Derived.StillTailTactics
import Derived.Deep.Cut
set_option linter.unusedVariables false
set_option linter.unusedSimpArgs false
set_option maxRecDepth 100000
namespace Go.Proofs.YtgiojagdmglinaaGreatDoor
open Go.RowKit Vote
namespace Gate
def ownF (n : Nat) (h : Hb) (l : List Fr) : Hb × Fr := if (frAt l h.pos.toNat).k = 2 then ({ h with hold := 2 * n }, frAt l h.pos.toNat) else (h, Fr.none)
set_option maxHeartbeats 1500000 in
theorem owner_calls (n cap : Nat) (A : Option Addr) (h : Hb) (l : List Fr) (w : World) (h3 : 3 ≤ n) (h8 : n ≤ 8) (r : Wm.Right n h) (hl : Frames w A n l) :
  Calls Tryz.prog 130 #[.int .i64 n, h.val, .slice A n cap] w fun e w' => e = .returned (.tuple #[(ownF n h l).1.val, (ownF n h l).2.val]) ∧ Below w.heap.size w w' := by
 have hq : h.pos = ((h.pos.toNat : Nat) : Int) := (Int.toNat_of_nonneg r.pos.1).symm
 have hqn : h.pos.toNat < n := by have := r.pos; omega
 have kb := fun W => Cf.block_calls (n : Int) W (by omega) (by omega)
 have KB := Lib.hid kb
 obtain ⟨b, off, rfl, hb, m0, m1⟩ := hl.at_ hqn
 have hy : ownF n h l = if (frAt l h.pos.toNat).k = 2 then ({ h with hold := 2 * n }, frAt l h.pos.toNat) else (h, Fr.none) := rfl
 generalize ownF n h l = y at *
 generalize frAt l h.pos.toNat = f at *
 obtain ⟨fk, fi⟩ := f
 simp only at hy m0 m1
 clear kb r hl
 have M0 := Lib.hid m0
 have M1 := Lib.hid m1
 have HB := Lib.hid hb
 clear m0 m1 hb
 by_cases hk : fk = 2
 ·rw [if_pos hk] at hy
  subst hy
  have gk : (fk != 2) = false := by rw [hk]; rfl
  clear hk
  unfold Hb.val Fr.val
  simp only
  have hag : ∀ p, ({ h with hold := 2 * n } : Hb).ag p = h.ag p := fun _ => rfl
  simp only [hag]
  clear hag
  rw [hq]
  generalize h.pos.toNat = q at *
  clear hq
  go_enter Tryz.func130, Tryz.ntmps130
  go_upto_region 1 with fail
  have q0 : Kit.Row (((w.alloc (.cells #[.int .i64 (h.ag 0), .int .i64 (h.ag 1), .int .i64 (h.ag 2), .int .i64 (h.ag 3), .int .i64 (h.ag 4), .int .i64 (h.ag 5), .int .i64 (h.ag 6), .int .i64 (h.ag 7), .int .i64 h.port, .int .i64 h.age, .int .i64 h.hold, .int .i64 ((q : Int))] 28)).alloc (.cells #[.int .i64 0, .int .i64 0, .int .i64 0, .int .i64 0, .int .i64 0, .int .i64 0, .int .i64 0, .int .i64 0, .int .i64 0, .int .i64 0, .int .i64 0, .int .i64 0] 28)).alloc (.cells #[.int .i64 0, .int .i64 0] 45)) w.heap.size (ints [h.ag 0, h.ag 1, h.ag 2, h.ag 3, h.ag 4, h.ag 5, h.ag 6, h.ag 7, h.port, h.age, h.hold, (q : Int)]) := ((Kit.Row.new w _ _).alloc _).alloc _
  have q1 : Kit.Row (((w.alloc (.cells #[.int .i64 (h.ag 0), .int .i64 (h.ag 1), .int .i64 (h.ag 2), .int .i64 (h.ag 3), .int .i64 (h.ag 4), .int .i64 (h.ag 5), .int .i64 (h.ag 6), .int .i64 (h.ag 7), .int .i64 h.port, .int .i64 h.age, .int .i64 h.hold, .int .i64 ((q : Int))] 28)).alloc (.cells #[.int .i64 0, .int .i64 0, .int .i64 0, .int .i64 0, .int .i64 0, .int .i64 0, .int .i64 0, .int .i64 0, .int .i64 0, .int .i64 0, .int .i64 0, .int .i64 0] 28)).alloc (.cells #[.int .i64 0, .int .i64 0] 45)) (w.heap.size + 1) (ints [0, 0, 0, 0, 0, 0, 0, 0, 0, 0, 0, 0]) := (Kit.Row.newAt _ _ _ _ (by simp)).alloc _
  have q2 : Kit.Row (((w.alloc (.cells #[.int .i64 (h.ag 0), .int .i64 (h.ag 1), .int .i64 (h.ag 2), .int .i64 (h.ag 3), .int .i64 (h.ag 4), .int .i64 (h.ag 5), .int .i64 (h.ag 6), .int .i64 (h.ag 7), .int .i64 h.port, .int .i64 h.age, .int .i64 h.hold, .int .i64 ((q : Int))] 28)).alloc (.cells #[.int .i64 0, .int .i64 0, .int .i64 0, .int .i64 0, .int .i64 0, .int .i64 0, .int .i64 0, .int .i64 0, .int .i64 0, .int .i64 0, .int .i64 0, .int .i64 0] 28)).alloc (.cells #[.int .i64 0, .int .i64 0] 45)) (w.heap.size + 1 + 1) (ints [0, 0]) := Kit.Row.newAt _ _ _ _ (by simp)
  have qb : Below w.heap.size w (((w.alloc (.cells #[.int .i64 (h.ag 0), .int .i64 (h.ag 1), .int .i64 (h.ag 2), .int .i64 (h.ag 3), .int .i64 (h.ag 4), .int .i64 (h.ag 5), .int .i64 (h.ag 6), .int .i64 (h.ag 7), .int .i64 h.port, .int .i64 h.age, .int .i64 h.hold, .int .i64 ((q : Int))] 28)).alloc (.cells #[.int .i64 0, .int .i64 0, .int .i64 0, .int .i64 0, .int .i64 0, .int .i64 0, .int .i64 0, .int .i64 0, .int .i64 0, .int .i64 0, .int .i64 0, .int .i64 0] 28)).alloc (.cells #[.int .i64 0, .int .i64 0] 45)) := Kit.alloc3 ..
  generalize ((w.alloc (.cells #[.int .i64 (h.ag 0), .int .i64 (h.ag 1), .int .i64 (h.ag 2), .int .i64 (h.ag 3), .int .i64 (h.ag 4), .int .i64 (h.ag 5), .int .i64 (h.ag 6), .int .i64 (h.ag 7), .int .i64 h.port, .int .i64 h.age, .int .i64 h.hold, .int .i64 ((q : Int))] 28)).alloc (.cells #[.int .i64 0, .int .i64 0, .int .i64 0, .int .i64 0, .int .i64 0, .int .i64 0, .int .i64 0, .int .i64 0, .int .i64 0, .int .i64 0, .int .i64 0, .int .i64 0] 28)).alloc (.cells #[.int .i64 0, .int .i64 0] 45) = w2 at *
  have R0 := Lib.hid q0
  have R1 := Lib.hid q1
  have R2 := Lib.hid q2
  have HB2 := Lib.hid qb
  have m0 := (qb.cell (p := ⟨b, off + q * 2, none⟩) HB.out).trans M0.out
  have m1 := (qb.cell (p := ⟨b, off + q * 2 + 1, none⟩) HB.out).trans M1.out
  have lN := q2.lt
  have hbl := HB.out
  have hbl2 := Nat.lt_of_lt_of_le hbl qb.size
  have c0 := q0.at_ 0 (.int .i64 (h.ag 0)) rfl
  have c1 := q0.at_ 1 (.int .i64 (h.ag 1)) rfl
  have c2 := q0.at_ 2 (.int .i64 (h.ag 2)) rfl
  have c3 := q0.at_ 3 (.int .i64 (h.ag 3)) rfl
  have c4 := q0.at_ 4 (.int .i64 (h.ag 4)) rfl
  have c5 := q0.at_ 5 (.int .i64 (h.ag 5)) rfl
  have c6 := q0.at_ 6 (.int .i64 (h.ag 6)) rfl
  have c7 := q0.at_ 7 (.int .i64 (h.ag 7)) rfl
  have c8 := q0.at_ 8 (.int .i64 h.port) rfl
  have c9 := q0.at_ 9 (.int .i64 h.age) rfl
  have c10 := q0.at_ 10 (.int .i64 h.hold) rfl
  have c11 := q0.at_ 11 (.int .i64 ((q : Int))) rfl
  clear q0 q1 q2 qb
  go_wp2_with fail
  refine (KB.out _).mono ?_
  rintro e w6 ⟨rfl, b6⟩
  have R6 := Lib.hid ((R0.out.alloc _).below b6)
  have R6b := Lib.hid ((R1.out.alloc _).below b6)
  have R6c := Lib.hid ((R2.out.alloc _).below b6)
  have R6d := Lib.hid ((Kit.Row.new w2 #[.int .i64 fk, .int .i64 fi] 45).below b6)
  have HB6 := Lib.hid ((HB2.out.alloc HB2.out.size _).trans (b6.mono (by have := HB2.out.size; simp; omega)))
  generalize w2.heap.size = N at *
  clear b6 c0 c1 c2 c3 c4 c5 c6 c7 c8 c9 c10 c11
  have c10 := R6.out.at_ 10 (.int .i64 h.hold) rfl
  have f10 := R6.out.free 10 (by simp [ints])
  have r7 := R6.out.set 10 (.int .i64 (2 * n)) (by simp [ints])
  have R7b := Lib.hid (R6b.out.far w.heap.size 10 (.int .i64 (2 * n)) (by omega))
  have R7c := Lib.hid (R6c.out.far w.heap.size 10 (.int .i64 (2 * n)) (by omega))
  have R7d := Lib.hid (R6d.out.far w.heap.size 10 (.int .i64 (2 * n)) (by omega))
  have HB7 := Lib.hid (HB6.out.setCell (p := ⟨w.heap.size, 10, none⟩) (Nat.le_refl _) (.int .i64 (2 * n)))
  have R7 := Lib.hid r7
  clear r7
  have hlt := R7b.out.lt
  have hlt2 := R7c.out.lt
  have lb := R7.out.lt
  have d0 := R7.out.at_ 0 (.int .i64 (h.ag 0)) rfl
  have d1 := R7.out.at_ 1 (.int .i64 (h.ag 1)) rfl
  have d2 := R7.out.at_ 2 (.int .i64 (h.ag 2)) rfl
  have d3 := R7.out.at_ 3 (.int .i64 (h.ag 3)) rfl
  have d4 := R7.out.at_ 4 (.int .i64 (h.ag 4)) rfl
  have d5 := R7.out.at_ 5 (.int .i64 (h.ag 5)) rfl
  have d6 := R7.out.at_ 6 (.int .i64 (h.ag 6)) rfl
  have d7 := R7.out.at_ 7 (.int .i64 (h.ag 7)) rfl
  have d8 := R7.out.at_ 8 (.int .i64 h.port) rfl
  have d9 := R7.out.at_ 9 (.int .i64 h.age) rfl
  have d10 := R7.out.at_ 10 (.int .i64 (2 * n)) rfl
  have d11 := R7.out.at_ 11 (.int .i64 ((q : Int))) rfl
  have g0 := R7b.out.at_ 0 (.int .i64 0) rfl
  have g1 := R7b.out.at_ 1 (.int .i64 0) rfl
  have g2 := R7b.out.at_ 2 (.int .i64 0) rfl
  have g3 := R7b.out.at_ 3 (.int .i64 0) rfl
  have g4 := R7b.out.at_ 4 (.int .i64 0) rfl
  have g5 := R7b.out.at_ 5 (.int .i64 0) rfl
  have g6 := R7b.out.at_ 6 (.int .i64 0) rfl
  have g7 := R7b.out.at_ 7 (.int .i64 0) rfl
  have g8 := R7b.out.at_ 8 (.int .i64 0) rfl
  have g9 := R7b.out.at_ 9 (.int .i64 0) rfl
  have g10 := R7b.out.at_ 10 (.int .i64 0) rfl
  have g11 := R7b.out.at_ 11 (.int .i64 0) rfl
  have ff0 := R7b.out.free 0 (by simp [ints, Wm.nums])
  have ff1 := R7b.out.free 1 (by simp [ints, Wm.nums])
  have ff2 := R7b.out.free 2 (by simp [ints, Wm.nums])
  have ff3 := R7b.out.free 3 (by simp [ints, Wm.nums])
  have ff4 := R7b.out.free 4 (by simp [ints, Wm.nums])
  have ff5 := R7b.out.free 5 (by simp [ints, Wm.nums])
  have ff6 := R7b.out.free 6 (by simp [ints, Wm.nums])
  have ff7 := R7b.out.free 7 (by simp [ints, Wm.nums])
  have ff8 := R7b.out.free 8 (by simp [ints, Wm.nums])
  have ff9 := R7b.out.free 9 (by simp [ints, Wm.nums])
  have ff10 := R7b.out.free 10 (by simp [ints, Wm.nums])
  have ff11 := R7b.out.free 11 (by simp [ints, Wm.nums])
  have y0 := R7c.out.at_ 0 (.int .i64 0) rfl
  have y1 := R7c.out.at_ 1 (.int .i64 0) rfl
  have z0 := R7c.out.free 0 (by simp [ints])
  have z1 := R7c.out.free 1 (by simp [ints])
  have x0 := R7d.out.at_ 0 (.int .i64 fk) rfl
  have x1 := R7d.out.at_ 1 (.int .i64 fi) rfl
  have lx := R7d.out.lt
  go_wp2_with fail
  generalize w6.setCell ⟨w.heap.size, 10, none⟩ (.int .i64 (2 * n)) = w7 at *
  have n5 : ¬ w.heap.size + 1 + 1 = w.heap.size := by omega
  have n6 : ¬ w.heap.size + 1 = w.heap.size := by omega
  have n1 : ¬ N = w.heap.size + 1 := by omega
  have n2 : ¬ N = w.heap.size + 1 + 1 := by omega
  have n3 : ¬ w.heap.size + 1 = N := by omega
  have n4 : ¬ w.heap.size + 1 + 1 = N := by omega
  go_region_held3 (fun w' => (w'.cell? ⟨w.heap.size, 0, none⟩ = some (.int .i64 (h.ag 0)) ∧ w'.cell? ⟨w.heap.size, 1, none⟩ = some (.int .i64 (h.ag 1)) ∧ w'.cell? ⟨w.heap.size, 2, none⟩ = some (.int .i64 (h.ag 2)) ∧ w'.cell? ⟨w.heap.size, 3, none⟩ = some (.int .i64 (h.ag 3)) ∧ w'.cell? ⟨w.heap.size, 4, none⟩ = some (.int .i64 (h.ag 4)) ∧ w'.cell? ⟨w.heap.size, 5, none⟩ = some (.int .i64 (h.ag 5)) ∧ w'.cell? ⟨w.heap.size, 6, none⟩ = some (.int .i64 (h.ag 6)) ∧ w'.cell? ⟨w.heap.size, 7, none⟩ = some (.int .i64 (h.ag 7)) ∧ w'.cell? ⟨w.heap.size, 8, none⟩ = some (.int .i64 h.port) ∧ w'.cell? ⟨w.heap.size, 9, none⟩ = some (.int .i64 h.age) ∧ w'.cell? ⟨w.heap.size, 10, none⟩ = some (.int .i64 (2 * n)) ∧ w'.cell? ⟨w.heap.size, 11, none⟩ = some (.int .i64 ((q : Int)))) ∧ w'.cell? ⟨N, 0, none⟩ = some (.int .i64 fk) ∧ w'.cell? ⟨N, 1, none⟩ = some (.int .i64 fi)) (go_keep) (fail)
  all_goals
   go_wp2_with fail
   have r8 := ((((((((((((((R7b.out.set 0 (.int .i64 (h.ag 0)) (by simp [ints, Wm.nums])).set 1 (.int .i64 (h.ag 1)) (by simp [ints, Wm.nums])).set 2 (.int .i64 (h.ag 2)) (by simp [ints, Wm.nums])).set 3 (.int .i64 (h.ag 3)) (by simp [ints, Wm.nums])).set 4 (.int .i64 (h.ag 4)) (by simp [ints, Wm.nums])).set 5 (.int .i64 (h.ag 5)) (by simp [ints, Wm.nums])).set 6 (.int .i64 (h.ag 6)) (by simp [ints, Wm.nums])).set 7 (.int .i64 (h.ag 7)) (by simp [ints, Wm.nums])).set 8 (.int .i64 h.port) (by simp [ints, Wm.nums])).set 9 (.int .i64 h.age) (by simp [ints, Wm.nums])).set 10 (.int .i64 (2 * n)) (by simp [ints, Wm.nums])).set 11 (.int .i64 ((q : Int))) (by simp [ints, Wm.nums]))).far (w.heap.size + 1 + 1) 0 (.int .i64 (fk)) (by omega)).far (w.heap.size + 1 + 1) 1 (.int .i64 (fi)) (by omega)
   have r9 := (((((((((((((R7c.out.far (w.heap.size + 1) 0 (.int .i64 (h.ag 0)) (by omega)).far (w.heap.size + 1) 1 (.int .i64 (h.ag 1)) (by omega)).far (w.heap.size + 1) 2 (.int .i64 (h.ag 2)) (by omega)).far (w.heap.size + 1) 3 (.int .i64 (h.ag 3)) (by omega)).far (w.heap.size + 1) 4 (.int .i64 (h.ag 4)) (by omega)).far (w.heap.size + 1) 5 (.int .i64 (h.ag 5)) (by omega)).far (w.heap.size + 1) 6 (.int .i64 (h.ag 6)) (by omega)).far (w.heap.size + 1) 7 (.int .i64 (h.ag 7)) (by omega)).far (w.heap.size + 1) 8 (.int .i64 h.port) (by omega)).far (w.heap.size + 1) 9 (.int .i64 h.age) (by omega)).far (w.heap.size + 1) 10 (.int .i64 (2 * n)) (by omega)).far (w.heap.size + 1) 11 (.int .i64 ((q : Int))) (by omega)).set 0 (.int .i64 (fk)) (by simp [ints])).set 1 (.int .i64 (fi)) (by simp [ints])
   have k0 := r8.at_ 0 (.int .i64 (h.ag 0)) rfl
   have k1 := r8.at_ 1 (.int .i64 (h.ag 1)) rfl
   have k2 := r8.at_ 2 (.int .i64 (h.ag 2)) rfl
   have k3 := r8.at_ 3 (.int .i64 (h.ag 3)) rfl
   have k4 := r8.at_ 4 (.int .i64 (h.ag 4)) rfl
   have k5 := r8.at_ 5 (.int .i64 (h.ag 5)) rfl
   have k6 := r8.at_ 6 (.int .i64 (h.ag 6)) rfl
   have k7 := r8.at_ 7 (.int .i64 (h.ag 7)) rfl
   have k8 := r8.at_ 8 (.int .i64 h.port) rfl
   have k9 := r8.at_ 9 (.int .i64 h.age) rfl
   have k10 := r8.at_ 10 (.int .i64 (2 * n)) rfl
   have k11 := r8.at_ 11 (.int .i64 ((q : Int))) rfl
   have j0 := r9.at_ 0 (.int .i64 (fk)) rfl
   have j1 := r9.at_ 1 (.int .i64 (fi)) rfl
   clear r8 r9
   refine bodyPost_ret (v := .tuple #[.agg #[.int .i64 (h.ag 0), .int .i64 (h.ag 1), .int .i64 (h.ag 2), .int .i64 (h.ag 3), .int .i64 (h.ag 4), .int .i64 (h.ag 5), .int .i64 (h.ag 6), .int .i64 (h.ag 7), .int .i64 h.port, .int .i64 h.age, .int .i64 (2 * n), .int .i64 ((q : Int))], .agg #[.int .i64 fk, .int .i64 fi]]) (by simp [results, Tryz.results130, go_sem, k0, k1, k2, k3, k4, k5, k6, k7, k8, k9, k10, k11, j0, j1, hlt, hlt2]) rfl ⟨rfl, ?_⟩
   repeat' (first | (with_reducible exact HB7.out) | (with_reducible refine Below.setCell ?_ ?_ _) | (with_reducible refine Below.alloc ?_ ?_ _) | (with_reducible refine Below.drew ?_))
   all_goals (first | omega | (simp; done) | (simp; omega))
 ·rw [if_neg hk] at hy
  subst hy
  have gk : (fk != 2) = true := by simpa using hk
  clear hk
  unfold Hb.val Fr.val
  simp only [Fr.none]
  rw [hq]
  generalize h.pos.toNat = q at *
  clear hq
  go_enter Tryz.func130, Tryz.ntmps130
  go_upto_region 1 with fail
  have q0 : Kit.Row (((w.alloc (.cells #[.int .i64 (h.ag 0), .int .i64 (h.ag 1), .int .i64 (h.ag 2), .int .i64 (h.ag 3), .int .i64 (h.ag 4), .int .i64 (h.ag 5), .int .i64 (h.ag 6), .int .i64 (h.ag 7), .int .i64 h.port, .int .i64 h.age, .int .i64 h.hold, .int .i64 ((q : Int))] 28)).alloc (.cells #[.int .i64 0, .int .i64 0, .int .i64 0, .int .i64 0, .int .i64 0, .int .i64 0, .int .i64 0, .int .i64 0, .int .i64 0, .int .i64 0, .int .i64 0, .int .i64 0] 28)).alloc (.cells #[.int .i64 0, .int .i64 0] 45)) w.heap.size (ints [h.ag 0, h.ag 1, h.ag 2, h.ag 3, h.ag 4, h.ag 5, h.ag 6, h.ag 7, h.port, h.age, h.hold, (q : Int)]) := ((Kit.Row.new w _ _).alloc _).alloc _
  have q1 : Kit.Row (((w.alloc (.cells #[.int .i64 (h.ag 0), .int .i64 (h.ag 1), .int .i64 (h.ag 2), .int .i64 (h.ag 3), .int .i64 (h.ag 4), .int .i64 (h.ag 5), .int .i64 (h.ag 6), .int .i64 (h.ag 7), .int .i64 h.port, .int .i64 h.age, .int .i64 h.hold, .int .i64 ((q : Int))] 28)).alloc (.cells #[.int .i64 0, .int .i64 0, .int .i64 0, .int .i64 0, .int .i64 0, .int .i64 0, .int .i64 0, .int .i64 0, .int .i64 0, .int .i64 0, .int .i64 0, .int .i64 0] 28)).alloc (.cells #[.int .i64 0, .int .i64 0] 45)) (w.heap.size + 1) (ints [0, 0, 0, 0, 0, 0, 0, 0, 0, 0, 0, 0]) := (Kit.Row.newAt _ _ _ _ (by simp)).alloc _
  have q2 : Kit.Row (((w.alloc (.cells #[.int .i64 (h.ag 0), .int .i64 (h.ag 1), .int .i64 (h.ag 2), .int .i64 (h.ag 3), .int .i64 (h.ag 4), .int .i64 (h.ag 5), .int .i64 (h.ag 6), .int .i64 (h.ag 7), .int .i64 h.port, .int .i64 h.age, .int .i64 h.hold, .int .i64 ((q : Int))] 28)).alloc (.cells #[.int .i64 0, .int .i64 0, .int .i64 0, .int .i64 0, .int .i64 0, .int .i64 0, .int .i64 0, .int .i64 0, .int .i64 0, .int .i64 0, .int .i64 0, .int .i64 0] 28)).alloc (.cells #[.int .i64 0, .int .i64 0] 45)) (w.heap.size + 1 + 1) (ints [0, 0]) := Kit.Row.newAt _ _ _ _ (by simp)
  have qb : Below w.heap.size w (((w.alloc (.cells #[.int .i64 (h.ag 0), .int .i64 (h.ag 1), .int .i64 (h.ag 2), .int .i64 (h.ag 3), .int .i64 (h.ag 4), .int .i64 (h.ag 5), .int .i64 (h.ag 6), .int .i64 (h.ag 7), .int .i64 h.port, .int .i64 h.age, .int .i64 h.hold, .int .i64 ((q : Int))] 28)).alloc (.cells #[.int .i64 0, .int .i64 0, .int .i64 0, .int .i64 0, .int .i64 0, .int .i64 0, .int .i64 0, .int .i64 0, .int .i64 0, .int .i64 0, .int .i64 0, .int .i64 0] 28)).alloc (.cells #[.int .i64 0, .int .i64 0] 45)) := Kit.alloc3 ..
  generalize ((w.alloc (.cells #[.int .i64 (h.ag 0), .int .i64 (h.ag 1), .int .i64 (h.ag 2), .int .i64 (h.ag 3), .int .i64 (h.ag 4), .int .i64 (h.ag 5), .int .i64 (h.ag 6), .int .i64 (h.ag 7), .int .i64 h.port, .int .i64 h.age, .int .i64 h.hold, .int .i64 ((q : Int))] 28)).alloc (.cells #[.int .i64 0, .int .i64 0, .int .i64 0, .int .i64 0, .int .i64 0, .int .i64 0, .int .i64 0, .int .i64 0, .int .i64 0, .int .i64 0, .int .i64 0, .int .i64 0] 28)).alloc (.cells #[.int .i64 0, .int .i64 0] 45) = w2 at *
  have R0 := Lib.hid q0
  have R1 := Lib.hid q1
  have R2 := Lib.hid q2
  have HB2 := Lib.hid qb
  have m0 := (qb.cell (p := ⟨b, off + q * 2, none⟩) HB.out).trans M0.out
  have m1 := (qb.cell (p := ⟨b, off + q * 2 + 1, none⟩) HB.out).trans M1.out
  have lN := q2.lt
  have hbl := HB.out
  have hbl2 := Nat.lt_of_lt_of_le hbl qb.size
  have c0 := q0.at_ 0 (.int .i64 (h.ag 0)) rfl
  have c1 := q0.at_ 1 (.int .i64 (h.ag 1)) rfl
  have c2 := q0.at_ 2 (.int .i64 (h.ag 2)) rfl
  have c3 := q0.at_ 3 (.int .i64 (h.ag 3)) rfl
  have c4 := q0.at_ 4 (.int .i64 (h.ag 4)) rfl
  have c5 := q0.at_ 5 (.int .i64 (h.ag 5)) rfl
  have c6 := q0.at_ 6 (.int .i64 (h.ag 6)) rfl
  have c7 := q0.at_ 7 (.int .i64 (h.ag 7)) rfl
  have c8 := q0.at_ 8 (.int .i64 h.port) rfl
  have c9 := q0.at_ 9 (.int .i64 h.age) rfl
  have c10 := q0.at_ 10 (.int .i64 h.hold) rfl
  have c11 := q0.at_ 11 (.int .i64 ((q : Int))) rfl
  clear q0 q1 q2 qb
  clear c0 c1 c2 c3 c4 c5 c6 c7 c8 c9 c10 c11
  have hlt := R1.out.lt
  have hlt2 := R2.out.lt
  have lb := R0.out.lt
  have d0 := R0.out.at_ 0 (.int .i64 (h.ag 0)) rfl
  have d1 := R0.out.at_ 1 (.int .i64 (h.ag 1)) rfl
  have d2 := R0.out.at_ 2 (.int .i64 (h.ag 2)) rfl
  have d3 := R0.out.at_ 3 (.int .i64 (h.ag 3)) rfl
  have d4 := R0.out.at_ 4 (.int .i64 (h.ag 4)) rfl
  have d5 := R0.out.at_ 5 (.int .i64 (h.ag 5)) rfl
  have d6 := R0.out.at_ 6 (.int .i64 (h.ag 6)) rfl
  have d7 := R0.out.at_ 7 (.int .i64 (h.ag 7)) rfl
  have d8 := R0.out.at_ 8 (.int .i64 h.port) rfl
  have d9 := R0.out.at_ 9 (.int .i64 h.age) rfl
  have d10 := R0.out.at_ 10 (.int .i64 h.hold) rfl
  have d11 := R0.out.at_ 11 (.int .i64 ((q : Int))) rfl
  have g0 := R1.out.at_ 0 (.int .i64 0) rfl
  have g1 := R1.out.at_ 1 (.int .i64 0) rfl
  have g2 := R1.out.at_ 2 (.int .i64 0) rfl
  have g3 := R1.out.at_ 3 (.int .i64 0) rfl
  have g4 := R1.out.at_ 4 (.int .i64 0) rfl
  have g5 := R1.out.at_ 5 (.int .i64 0) rfl
  have g6 := R1.out.at_ 6 (.int .i64 0) rfl
  have g7 := R1.out.at_ 7 (.int .i64 0) rfl
  have g8 := R1.out.at_ 8 (.int .i64 0) rfl
  have g9 := R1.out.at_ 9 (.int .i64 0) rfl
  have g10 := R1.out.at_ 10 (.int .i64 0) rfl
  have g11 := R1.out.at_ 11 (.int .i64 0) rfl
  have ff0 := R1.out.free 0 (by simp [ints, Wm.nums])
  have ff1 := R1.out.free 1 (by simp [ints, Wm.nums])
  have ff2 := R1.out.free 2 (by simp [ints, Wm.nums])
  have ff3 := R1.out.free 3 (by simp [ints, Wm.nums])
  have ff4 := R1.out.free 4 (by simp [ints, Wm.nums])
  have ff5 := R1.out.free 5 (by simp [ints, Wm.nums])
  have ff6 := R1.out.free 6 (by simp [ints, Wm.nums])
  have ff7 := R1.out.free 7 (by simp [ints, Wm.nums])
  have ff8 := R1.out.free 8 (by simp [ints, Wm.nums])
  have ff9 := R1.out.free 9 (by simp [ints, Wm.nums])
  have ff10 := R1.out.free 10 (by simp [ints, Wm.nums])
  have ff11 := R1.out.free 11 (by simp [ints, Wm.nums])
  have y0 := R2.out.at_ 0 (.int .i64 0) rfl
  have y1 := R2.out.at_ 1 (.int .i64 0) rfl
  have z0 := R2.out.free 0 (by simp [ints])
  have z1 := R2.out.free 1 (by simp [ints])
  go_wp2_with fail
  have r8 := ((((((((((((((R1.out.set 0 (.int .i64 (h.ag 0)) (by simp [ints, Wm.nums])).set 1 (.int .i64 (h.ag 1)) (by simp [ints, Wm.nums])).set 2 (.int .i64 (h.ag 2)) (by simp [ints, Wm.nums])).set 3 (.int .i64 (h.ag 3)) (by simp [ints, Wm.nums])).set 4 (.int .i64 (h.ag 4)) (by simp [ints, Wm.nums])).set 5 (.int .i64 (h.ag 5)) (by simp [ints, Wm.nums])).set 6 (.int .i64 (h.ag 6)) (by simp [ints, Wm.nums])).set 7 (.int .i64 (h.ag 7)) (by simp [ints, Wm.nums])).set 8 (.int .i64 h.port) (by simp [ints, Wm.nums])).set 9 (.int .i64 h.age) (by simp [ints, Wm.nums])).set 10 (.int .i64 h.hold) (by simp [ints, Wm.nums])).set 11 (.int .i64 ((q : Int))) (by simp [ints, Wm.nums]))).far (w.heap.size + 1 + 1) 0 (.int .i64 (0)) (by omega)).far (w.heap.size + 1 + 1) 1 (.int .i64 (0)) (by omega)
  have r9 := (((((((((((((R2.out.far (w.heap.size + 1) 0 (.int .i64 (h.ag 0)) (by omega)).far (w.heap.size + 1) 1 (.int .i64 (h.ag 1)) (by omega)).far (w.heap.size + 1) 2 (.int .i64 (h.ag 2)) (by omega)).far (w.heap.size + 1) 3 (.int .i64 (h.ag 3)) (by omega)).far (w.heap.size + 1) 4 (.int .i64 (h.ag 4)) (by omega)).far (w.heap.size + 1) 5 (.int .i64 (h.ag 5)) (by omega)).far (w.heap.size + 1) 6 (.int .i64 (h.ag 6)) (by omega)).far (w.heap.size + 1) 7 (.int .i64 (h.ag 7)) (by omega)).far (w.heap.size + 1) 8 (.int .i64 h.port) (by omega)).far (w.heap.size + 1) 9 (.int .i64 h.age) (by omega)).far (w.heap.size + 1) 10 (.int .i64 h.hold) (by omega)).far (w.heap.size + 1) 11 (.int .i64 ((q : Int))) (by omega)).set 0 (.int .i64 (0)) (by simp [ints])).set 1 (.int .i64 (0)) (by simp [ints])
  have k0 := r8.at_ 0 (.int .i64 (h.ag 0)) rfl
  have k1 := r8.at_ 1 (.int .i64 (h.ag 1)) rfl
  have k2 := r8.at_ 2 (.int .i64 (h.ag 2)) rfl
  have k3 := r8.at_ 3 (.int .i64 (h.ag 3)) rfl
  have k4 := r8.at_ 4 (.int .i64 (h.ag 4)) rfl
  have k5 := r8.at_ 5 (.int .i64 (h.ag 5)) rfl
  have k6 := r8.at_ 6 (.int .i64 (h.ag 6)) rfl
  have k7 := r8.at_ 7 (.int .i64 (h.ag 7)) rfl
  have k8 := r8.at_ 8 (.int .i64 h.port) rfl
  have k9 := r8.at_ 9 (.int .i64 h.age) rfl
  have k10 := r8.at_ 10 (.int .i64 h.hold) rfl
  have k11 := r8.at_ 11 (.int .i64 ((q : Int))) rfl
  have j0 := r9.at_ 0 (.int .i64 (0)) rfl
  have j1 := r9.at_ 1 (.int .i64 (0)) rfl
  clear r8 r9
  refine bodyPost_ret (v := .tuple #[.agg #[.int .i64 (h.ag 0), .int .i64 (h.ag 1), .int .i64 (h.ag 2), .int .i64 (h.ag 3), .int .i64 (h.ag 4), .int .i64 (h.ag 5), .int .i64 (h.ag 6), .int .i64 (h.ag 7), .int .i64 h.port, .int .i64 h.age, .int .i64 h.hold, .int .i64 ((q : Int))], .agg #[.int .i64 0, .int .i64 0]]) (by simp [results, Tryz.results130, go_sem, k0, k1, k2, k3, k4, k5, k6, k7, k8, k9, k10, k11, j0, j1, hlt, hlt2]) rfl ⟨rfl, ?_⟩
  repeat' (first | (with_reducible exact HB2.out) | (with_reducible refine Below.setCell ?_ ?_ _) | (with_reducible refine Below.alloc ?_ ?_ _) | (with_reducible refine Below.drew ?_))
  all_goals (first | omega | (simp; done) | (simp; omega))
end Gate
end Go.Proofs.YtgiojagdmglinaaGreatDoor
