/-
  Part 13 of a merged text.
-/
import Derived.Test.YtgiojagdmglinaaGreatDoorGb12
import Derived.Deep.RegionHeld3
set_option linter.unusedVariables false
set_option linter.unusedSimpArgs false
set_option maxRecDepth 100000
namespace Go.Proofs.YtgiojagdmglinaaGreatDoor
open Go.RowKit Vote
namespace Gate
set_option maxHeartbeats 4000000 in
theorem settle_calls (n : Nat) (h : Hb) (w : World) (h3 : 3 ≤ n) (h8 : n ≤ 8) (r : Wm.Right n h) :
  Calls Tryz.prog 117 #[.int .i64 n, h.val] w fun e w' => e = .returned (.tuple #[(Wm.settle n h).val, .int .i64 0]) ∧ Below w.heap.size w w' := by
 have hp := r.pos
 have kr := fun W => right_calls n h W h3 h8 r
 have kv := fun W => votes_calls n h.pos.toNat h W h3 h8 (by omega) r
 rw [Int.toNat_of_nonneg hp.1] at kv
 have ke := fun W => best_calls n h W h3 h8 r
 have kb := fun W => Cf.block_calls (n : Int) W (by omega) (by omega)
 have hs : Wm.settle n h = if 2 ≤ (Wm.chosen n h).2 then { h with pos := (Wm.chosen n h).1, hold := 2 * n } else h := rfl
 have hc : Wm.chosen n h = if h.hold = 0 then Wm.best n h else (h.pos.toNat, Wm.votes n h h.pos.toNat) := rfl
 have hb1 := (Wm.best_spec n h (by omega)).1
 have htn : ((h.pos.toNat : Nat) : Int) = h.pos := Int.toNat_of_nonneg hp.1
 generalize Wm.settle n h = y at *
 generalize Wm.chosen n h = ch at *
 generalize Wm.votes n h h.pos.toNat = v1 at *
 obtain ⟨b1, hb1'⟩ : ∃ b1, b1 = (Wm.best n h).1 := ⟨_, rfl⟩
 obtain ⟨b2, hb2'⟩ : ∃ b2, b2 = (Wm.best n h).2 := ⟨_, rfl⟩
 rw [← hb1', ← hb2'] at ke
 rw [show Wm.best n h = (b1, b2) by rw [hb1', hb2']] at hc
 unfold Hb.val at kr kv ke
 have KR := Lib.hid kr
 have KV := Lib.hid kv
 have KE := Lib.hid ke
 have KB := Lib.hid kb
 have HS := Lib.hid hs
 have HC := Lib.hid hc
 have HTN := Lib.hid htn
 unfold Hb.val
 clear kr kv ke kb hs hc r hb1 hb1' hb2' htn
 have hz : h.hold = 0 ∨ ¬ h.hold = 0 := Classical.em _
 rcases hz with hz | hz
 ·have hch : ch = (b1, b2) := HC.out.trans (if_pos hz)
  have GHZ : Hid ((h.hold == 0) = true) := Lib.hid (by rw [hz]; rfl)
  clear hz
  by_cases hv : 2 ≤ b2
  ·obtain rfl : y = { h with pos := b1, hold := 2 * n } := HS.out.trans (by rw [hch, if_pos hv])
   clear hch HC HS HTN
   go_enter Tryz.func117, Tryz.ntmps117
   go_wp2_with fail
   have q0 : Kit.Row ((w.alloc (.cells #[.int .i64 (h.ag 0), .int .i64 (h.ag 1), .int .i64 (h.ag 2), .int .i64 (h.ag 3), .int .i64 (h.ag 4), .int .i64 (h.ag 5), .int .i64 (h.ag 6), .int .i64 (h.ag 7), .int .i64 h.port, .int .i64 h.age, .int .i64 h.hold, .int .i64 h.pos] 28)).alloc (.cells #[.int .i64 0, .int .i64 0, .int .i64 0, .int .i64 0, .int .i64 0, .int .i64 0, .int .i64 0, .int .i64 0, .int .i64 0, .int .i64 0, .int .i64 0, .int .i64 0] 28)) w.heap.size (ints (Wm.nums h)) := (Kit.Row.new w _ _).alloc _
   have q1 : Kit.Row ((w.alloc (.cells #[.int .i64 (h.ag 0), .int .i64 (h.ag 1), .int .i64 (h.ag 2), .int .i64 (h.ag 3), .int .i64 (h.ag 4), .int .i64 (h.ag 5), .int .i64 (h.ag 6), .int .i64 (h.ag 7), .int .i64 h.port, .int .i64 h.age, .int .i64 h.hold, .int .i64 h.pos] 28)).alloc (.cells #[.int .i64 0, .int .i64 0, .int .i64 0, .int .i64 0, .int .i64 0, .int .i64 0, .int .i64 0, .int .i64 0, .int .i64 0, .int .i64 0, .int .i64 0, .int .i64 0] 28)) (w.heap.size + 1) (ints [0, 0, 0, 0, 0, 0, 0, 0, 0, 0, 0, 0]) := Kit.Row.newAt _ _ _ _ (by simp)
   have qb := Kit.alloc2 w #[.int .i64 (h.ag 0), .int .i64 (h.ag 1), .int .i64 (h.ag 2), .int .i64 (h.ag 3), .int .i64 (h.ag 4), .int .i64 (h.ag 5), .int .i64 (h.ag 6), .int .i64 (h.ag 7), .int .i64 h.port, .int .i64 h.age, .int .i64 h.hold, .int .i64 h.pos] #[.int .i64 0, .int .i64 0, .int .i64 0, .int .i64 0, .int .i64 0, .int .i64 0, .int .i64 0, .int .i64 0, .int .i64 0, .int .i64 0, .int .i64 0, .int .i64 0] 28 28
   generalize (w.alloc (.cells #[.int .i64 (h.ag 0), .int .i64 (h.ag 1), .int .i64 (h.ag 2), .int .i64 (h.ag 3), .int .i64 (h.ag 4), .int .i64 (h.ag 5), .int .i64 (h.ag 6), .int .i64 (h.ag 7), .int .i64 h.port, .int .i64 h.age, .int .i64 h.hold, .int .i64 h.pos] 28)).alloc (.cells #[.int .i64 0, .int .i64 0, .int .i64 0, .int .i64 0, .int .i64 0, .int .i64 0, .int .i64 0, .int .i64 0, .int .i64 0, .int .i64 0, .int .i64 0, .int .i64 0] 28) = w2 at *
   refine (KR.out _).mono ?_
   rintro e w3 ⟨rfl, b3⟩
   have R0 := Lib.hid (q0.below b3)
   have R1 := Lib.hid (q1.below b3)
   have HB := Lib.hid (qb.trans (b3.mono qb.size))
   clear q0 q1 qb b3
   have c0 := R0.out.at_ 0 (.int .i64 (h.ag 0)) rfl
   have c1 := R0.out.at_ 1 (.int .i64 (h.ag 1)) rfl
   have c2 := R0.out.at_ 2 (.int .i64 (h.ag 2)) rfl
   have c3 := R0.out.at_ 3 (.int .i64 (h.ag 3)) rfl
   have c4 := R0.out.at_ 4 (.int .i64 (h.ag 4)) rfl
   have c5 := R0.out.at_ 5 (.int .i64 (h.ag 5)) rfl
   have c6 := R0.out.at_ 6 (.int .i64 (h.ag 6)) rfl
   have c7 := R0.out.at_ 7 (.int .i64 (h.ag 7)) rfl
   have c8 := R0.out.at_ 8 (.int .i64 h.port) rfl
   have c9 := R0.out.at_ 9 (.int .i64 h.age) rfl
   have c10 := R0.out.at_ 10 (.int .i64 h.hold) rfl
   have c11 := R0.out.at_ 11 (.int .i64 h.pos) rfl
   go_wp2_with fail
   go_region_held3 (fun w' => w'.cell? ⟨w.heap.size, 0, none⟩ = some (.int .i64 (h.ag 0)) ∧ w'.cell? ⟨w.heap.size, 1, none⟩ = some (.int .i64 (h.ag 1)) ∧ w'.cell? ⟨w.heap.size, 2, none⟩ = some (.int .i64 (h.ag 2)) ∧ w'.cell? ⟨w.heap.size, 3, none⟩ = some (.int .i64 (h.ag 3)) ∧ w'.cell? ⟨w.heap.size, 4, none⟩ = some (.int .i64 (h.ag 4)) ∧ w'.cell? ⟨w.heap.size, 5, none⟩ = some (.int .i64 (h.ag 5)) ∧ w'.cell? ⟨w.heap.size, 6, none⟩ = some (.int .i64 (h.ag 6)) ∧ w'.cell? ⟨w.heap.size, 7, none⟩ = some (.int .i64 (h.ag 7)) ∧ w'.cell? ⟨w.heap.size, 8, none⟩ = some (.int .i64 h.port) ∧ w'.cell? ⟨w.heap.size, 9, none⟩ = some (.int .i64 h.age) ∧ w'.cell? ⟨w.heap.size, 10, none⟩ = some (.int .i64 h.hold) ∧ w'.cell? ⟨w.heap.size, 11, none⟩ = some (.int .i64 h.pos)) (go_keep) ((go_at_call 127; refine (KV.out _).mono ?_; rintro e w4 ⟨rfl, bv⟩; replace c0 := Kit.cell_below bv c0; replace c1 := Kit.cell_below bv c1; replace c2 := Kit.cell_below bv c2; replace c3 := Kit.cell_below bv c3; replace c4 := Kit.cell_below bv c4; replace c5 := Kit.cell_below bv c5; replace c6 := Kit.cell_below bv c6; replace c7 := Kit.cell_below bv c7; replace c8 := Kit.cell_below bv c8; replace c9 := Kit.cell_below bv c9; replace c10 := Kit.cell_below bv c10; replace c11 := Kit.cell_below bv c11; have R2 := Lib.hid (R0.out.drew.below bv); have R2b := Lib.hid (R1.out.drew.below bv); have HB2 := Lib.hid (HB.out.drew.trans (bv.mono HB.out.drew.size)); clear bv))
   have e0 : 2 ≤ b2 := hv
   have ghz := GHZ.out
   clear hv
   go_wp2_with fail
   refine (KE.out _).mono ?_
   rintro e w5 ⟨rfl, b5⟩
   have R5 := Lib.hid (R2.out.below b5)
   have R5b := Lib.hid (R2b.out.below b5)
   have HB5 := Lib.hid (HB2.out.trans (b5.mono HB2.out.size))
   clear b5 c0 c1 c2 c3 c4 c5 c6 c7 c8 c9 c10 c11
   have c0 := R5.out.at_ 0 (.int .i64 (h.ag 0)) rfl
   have c1 := R5.out.at_ 1 (.int .i64 (h.ag 1)) rfl
   have c2 := R5.out.at_ 2 (.int .i64 (h.ag 2)) rfl
   have c3 := R5.out.at_ 3 (.int .i64 (h.ag 3)) rfl
   have c4 := R5.out.at_ 4 (.int .i64 (h.ag 4)) rfl
   have c5 := R5.out.at_ 5 (.int .i64 (h.ag 5)) rfl
   have c6 := R5.out.at_ 6 (.int .i64 (h.ag 6)) rfl
   have c7 := R5.out.at_ 7 (.int .i64 (h.ag 7)) rfl
   have c8 := R5.out.at_ 8 (.int .i64 h.port) rfl
   have c9 := R5.out.at_ 9 (.int .i64 h.age) rfl
   have c10 := R5.out.at_ 10 (.int .i64 h.hold) rfl
   have c11 := R5.out.at_ 11 (.int .i64 h.pos) rfl
   go_wp2_with fail
   refine (KB.out _).mono ?_
   rintro e w6 ⟨rfl, b6⟩
   have R6 := Lib.hid (R5.out.below b6)
   have R6b := Lib.hid (R5b.out.below b6)
   have HB6 := Lib.hid (HB5.out.trans (b6.mono HB5.out.size))
   clear b6 c0 c1 c2 c3 c4 c5 c6 c7 c8 c9 c10 c11
   have c10 := R6.out.at_ 10 (.int .i64 h.hold) rfl
   have c11 := R6.out.at_ 11 (.int .i64 h.pos) rfl
   have f10 := R6.out.free 10 (by simp [ints, Wm.nums])
   have f11 := R6.out.free 11 (by simp [ints, Wm.nums])
   have r7 := (R6.out.set 11 (.int .i64 b1) (by simp [ints, Wm.nums])).set 10 (.int .i64 (2 * n)) (by simp [ints, Wm.nums])
   have r7b := (R6b.out.far w.heap.size 11 (.int .i64 b1) (by omega)).far w.heap.size 10 (.int .i64 (2 * n)) (by omega)
   have HB7 := Lib.hid ((HB6.out.setCell (p := ⟨w.heap.size, 11, none⟩) (Nat.le_refl _) (.int .i64 b1)).setCell (p := ⟨w.heap.size, 10, none⟩) (Nat.le_refl _) (.int .i64 (2 * n)))
   have R7 := Lib.hid r7
   have R7b := Lib.hid r7b
   clear r7 r7b
   have hlt := R7b.out.lt
   have lb := R7.out.lt
   have d0 := R7.out.at_ 0 (.int .i64 (h.ag 0)) rfl
   have d1 := R7.out.at_ 1 (.int .i64 (h.ag 1)) rfl
   have d2 := R7.out.at_ 2 (.int .i64 (h.ag 2)) rfl
   have d3 := R7.out.at_ 3 (.int .i64 (h.ag 3)) rfl
   have d4 := R7.out.at_ 4 (.int .i64 (h.ag 4)) rfl
   have d5 := R7.out.at_ 5 (.int .i64 (h.ag 5)) rfl
   have d6 := R7.out.at_ 6 (.int .i64 (h.ag 6)) rfl
   have d7 := R7.out.at_ 7 (.int .i64 (h.ag 7)) rfl
   have d8 := R7.out.at_ 8 (.int .i64 h.port) rfl
   have d9 := R7.out.at_ 9 (.int .i64 h.age) rfl
   have d10 := R7.out.at_ 10 (.int .i64 (2 * n)) rfl
   have d11 := R7.out.at_ 11 (.int .i64 b1) rfl
   have g0 := R7b.out.at_ 0 (.int .i64 0) rfl
   have g1 := R7b.out.at_ 1 (.int .i64 0) rfl
   have g2 := R7b.out.at_ 2 (.int .i64 0) rfl
   have g3 := R7b.out.at_ 3 (.int .i64 0) rfl
   have g4 := R7b.out.at_ 4 (.int .i64 0) rfl
   have g5 := R7b.out.at_ 5 (.int .i64 0) rfl
   have g6 := R7b.out.at_ 6 (.int .i64 0) rfl
   have g7 := R7b.out.at_ 7 (.int .i64 0) rfl
   have g8 := R7b.out.at_ 8 (.int .i64 0) rfl
   have g9 := R7b.out.at_ 9 (.int .i64 0) rfl
   have g10 := R7b.out.at_ 10 (.int .i64 0) rfl
   have g11 := R7b.out.at_ 11 (.int .i64 0) rfl
   have ff0 := R7b.out.free 0 (by simp [ints])
   have ff1 := R7b.out.free 1 (by simp [ints])
   have ff2 := R7b.out.free 2 (by simp [ints])
   have ff3 := R7b.out.free 3 (by simp [ints])
   have ff4 := R7b.out.free 4 (by simp [ints])
   have ff5 := R7b.out.free 5 (by simp [ints])
   have ff6 := R7b.out.free 6 (by simp [ints])
   have ff7 := R7b.out.free 7 (by simp [ints])
   have ff8 := R7b.out.free 8 (by simp [ints])
   have ff9 := R7b.out.free 9 (by simp [ints])
   have ff10 := R7b.out.free 10 (by simp [ints])
   have ff11 := R7b.out.free 11 (by simp [ints])
   go_wp2_with fail
   have r8 := ((((((((((((R7b.out.set 0 (.int .i64 (h.ag 0)) (by simp [ints])).set 1 (.int .i64 (h.ag 1)) (by simp [ints])).set 2 (.int .i64 (h.ag 2)) (by simp [ints])).set 3 (.int .i64 (h.ag 3)) (by simp [ints])).set 4 (.int .i64 (h.ag 4)) (by simp [ints])).set 5 (.int .i64 (h.ag 5)) (by simp [ints])).set 6 (.int .i64 (h.ag 6)) (by simp [ints])).set 7 (.int .i64 (h.ag 7)) (by simp [ints])).set 8 (.int .i64 h.port) (by simp [ints])).set 9 (.int .i64 h.age) (by simp [ints])).set 10 (.int .i64 (2 * n)) (by simp [ints])).set 11 (.int .i64 b1) (by simp [ints]))
   have k0 := r8.at_ 0 (.int .i64 (h.ag 0)) rfl
   have k1 := r8.at_ 1 (.int .i64 (h.ag 1)) rfl
   have k2 := r8.at_ 2 (.int .i64 (h.ag 2)) rfl
   have k3 := r8.at_ 3 (.int .i64 (h.ag 3)) rfl
   have k4 := r8.at_ 4 (.int .i64 (h.ag 4)) rfl
   have k5 := r8.at_ 5 (.int .i64 (h.ag 5)) rfl
   have k6 := r8.at_ 6 (.int .i64 (h.ag 6)) rfl
   have k7 := r8.at_ 7 (.int .i64 (h.ag 7)) rfl
   have k8 := r8.at_ 8 (.int .i64 h.port) rfl
   have k9 := r8.at_ 9 (.int .i64 h.age) rfl
   have k10 := r8.at_ 10 (.int .i64 (2 * n)) rfl
   have k11 := r8.at_ 11 (.int .i64 b1) rfl
   clear r8
   refine bodyPost_ret (v := .tuple #[.agg #[.int .i64 (h.ag 0), .int .i64 (h.ag 1), .int .i64 (h.ag 2), .int .i64 (h.ag 3), .int .i64 (h.ag 4), .int .i64 (h.ag 5), .int .i64 (h.ag 6), .int .i64 (h.ag 7), .int .i64 h.port, .int .i64 h.age, .int .i64 (2 * n), .int .i64 b1], .int .i64 0]) (by simp [results, Tryz.results117, go_sem, k0, k1, k2, k3, k4, k5, k6, k7, k8, k9, k10, k11, hlt]) rfl ⟨rfl, ?_⟩
   repeat' (first | (with_reducible exact HB7.out) | (with_reducible refine Below.setCell ?_ ?_ _) | (with_reducible refine Below.alloc ?_ ?_ _) | (with_reducible refine Below.drew ?_))
   all_goals (first | omega | (simp; done) | (simp; omega))
  ·obtain rfl : h = y := (HS.out.trans (by rw [hch, if_neg hv])).symm
   clear hch HC HS HTN
   go_enter Tryz.func117, Tryz.ntmps117
   go_wp2_with fail
   have q0 : Kit.Row ((w.alloc (.cells #[.int .i64 (h.ag 0), .int .i64 (h.ag 1), .int .i64 (h.ag 2), .int .i64 (h.ag 3), .int .i64 (h.ag 4), .int .i64 (h.ag 5), .int .i64 (h.ag 6), .int .i64 (h.ag 7), .int .i64 h.port, .int .i64 h.age, .int .i64 h.hold, .int .i64 h.pos] 28)).alloc (.cells #[.int .i64 0, .int .i64 0, .int .i64 0, .int .i64 0, .int .i64 0, .int .i64 0, .int .i64 0, .int .i64 0, .int .i64 0, .int .i64 0, .int .i64 0, .int .i64 0] 28)) w.heap.size (ints (Wm.nums h)) := (Kit.Row.new w _ _).alloc _
   have q1 : Kit.Row ((w.alloc (.cells #[.int .i64 (h.ag 0), .int .i64 (h.ag 1), .int .i64 (h.ag 2), .int .i64 (h.ag 3), .int .i64 (h.ag 4), .int .i64 (h.ag 5), .int .i64 (h.ag 6), .int .i64 (h.ag 7), .int .i64 h.port, .int .i64 h.age, .int .i64 h.hold, .int .i64 h.pos] 28)).alloc (.cells #[.int .i64 0, .int .i64 0, .int .i64 0, .int .i64 0, .int .i64 0, .int .i64 0, .int .i64 0, .int .i64 0, .int .i64 0, .int .i64 0, .int .i64 0, .int .i64 0] 28)) (w.heap.size + 1) (ints [0, 0, 0, 0, 0, 0, 0, 0, 0, 0, 0, 0]) := Kit.Row.newAt _ _ _ _ (by simp)
   have qb := Kit.alloc2 w #[.int .i64 (h.ag 0), .int .i64 (h.ag 1), .int .i64 (h.ag 2), .int .i64 (h.ag 3), .int .i64 (h.ag 4), .int .i64 (h.ag 5), .int .i64 (h.ag 6), .int .i64 (h.ag 7), .int .i64 h.port, .int .i64 h.age, .int .i64 h.hold, .int .i64 h.pos] #[.int .i64 0, .int .i64 0, .int .i64 0, .int .i64 0, .int .i64 0, .int .i64 0, .int .i64 0, .int .i64 0, .int .i64 0, .int .i64 0, .int .i64 0, .int .i64 0] 28 28
   generalize (w.alloc (.cells #[.int .i64 (h.ag 0), .int .i64 (h.ag 1), .int .i64 (h.ag 2), .int .i64 (h.ag 3), .int .i64 (h.ag 4), .int .i64 (h.ag 5), .int .i64 (h.ag 6), .int .i64 (h.ag 7), .int .i64 h.port, .int .i64 h.age, .int .i64 h.hold, .int .i64 h.pos] 28)).alloc (.cells #[.int .i64 0, .int .i64 0, .int .i64 0, .int .i64 0, .int .i64 0, .int .i64 0, .int .i64 0, .int .i64 0, .int .i64 0, .int .i64 0, .int .i64 0, .int .i64 0] 28) = w2 at *
   refine (KR.out _).mono ?_
   rintro e w3 ⟨rfl, b3⟩
   have R0 := Lib.hid (q0.below b3)
   have R1 := Lib.hid (q1.below b3)
   have HB := Lib.hid (qb.trans (b3.mono qb.size))
   clear q0 q1 qb b3
   have c0 := R0.out.at_ 0 (.int .i64 (h.ag 0)) rfl
   have c1 := R0.out.at_ 1 (.int .i64 (h.ag 1)) rfl
   have c2 := R0.out.at_ 2 (.int .i64 (h.ag 2)) rfl
   have c3 := R0.out.at_ 3 (.int .i64 (h.ag 3)) rfl
   have c4 := R0.out.at_ 4 (.int .i64 (h.ag 4)) rfl
   have c5 := R0.out.at_ 5 (.int .i64 (h.ag 5)) rfl
   have c6 := R0.out.at_ 6 (.int .i64 (h.ag 6)) rfl
   have c7 := R0.out.at_ 7 (.int .i64 (h.ag 7)) rfl
   have c8 := R0.out.at_ 8 (.int .i64 h.port) rfl
   have c9 := R0.out.at_ 9 (.int .i64 h.age) rfl
   have c10 := R0.out.at_ 10 (.int .i64 h.hold) rfl
   have c11 := R0.out.at_ 11 (.int .i64 h.pos) rfl
   go_wp2_with fail
   go_region_held3 (fun w' => w'.cell? ⟨w.heap.size, 0, none⟩ = some (.int .i64 (h.ag 0)) ∧ w'.cell? ⟨w.heap.size, 1, none⟩ = some (.int .i64 (h.ag 1)) ∧ w'.cell? ⟨w.heap.size, 2, none⟩ = some (.int .i64 (h.ag 2)) ∧ w'.cell? ⟨w.heap.size, 3, none⟩ = some (.int .i64 (h.ag 3)) ∧ w'.cell? ⟨w.heap.size, 4, none⟩ = some (.int .i64 (h.ag 4)) ∧ w'.cell? ⟨w.heap.size, 5, none⟩ = some (.int .i64 (h.ag 5)) ∧ w'.cell? ⟨w.heap.size, 6, none⟩ = some (.int .i64 (h.ag 6)) ∧ w'.cell? ⟨w.heap.size, 7, none⟩ = some (.int .i64 (h.ag 7)) ∧ w'.cell? ⟨w.heap.size, 8, none⟩ = some (.int .i64 h.port) ∧ w'.cell? ⟨w.heap.size, 9, none⟩ = some (.int .i64 h.age) ∧ w'.cell? ⟨w.heap.size, 10, none⟩ = some (.int .i64 h.hold) ∧ w'.cell? ⟨w.heap.size, 11, none⟩ = some (.int .i64 h.pos)) (go_keep) ((go_at_call 127; refine (KV.out _).mono ?_; rintro e w4 ⟨rfl, bv⟩; replace c0 := Kit.cell_below bv c0; replace c1 := Kit.cell_below bv c1; replace c2 := Kit.cell_below bv c2; replace c3 := Kit.cell_below bv c3; replace c4 := Kit.cell_below bv c4; replace c5 := Kit.cell_below bv c5; replace c6 := Kit.cell_below bv c6; replace c7 := Kit.cell_below bv c7; replace c8 := Kit.cell_below bv c8; replace c9 := Kit.cell_below bv c9; replace c10 := Kit.cell_below bv c10; replace c11 := Kit.cell_below bv c11; have R2 := Lib.hid (R0.out.drew.below bv); have R2b := Lib.hid (R1.out.drew.below bv); have HB2 := Lib.hid (HB.out.drew.trans (bv.mono HB.out.drew.size)); clear bv))
   have e0 : ¬ 2 ≤ b2 := hv
   have ghz := GHZ.out
   clear hv
   go_wp2_with fail
   refine (KE.out _).mono ?_
   rintro e w5 ⟨rfl, b5⟩
   have R5 := Lib.hid (R2.out.below b5)
   have R5b := Lib.hid (R2b.out.below b5)
   have HB5 := Lib.hid (HB2.out.trans (b5.mono HB2.out.size))
   clear b5 c0 c1 c2 c3 c4 c5 c6 c7 c8 c9 c10 c11
   have hlt := R5b.out.lt
   have lb := R5.out.lt
   have d0 := R5.out.at_ 0 (.int .i64 (h.ag 0)) rfl
   have d1 := R5.out.at_ 1 (.int .i64 (h.ag 1)) rfl
   have d2 := R5.out.at_ 2 (.int .i64 (h.ag 2)) rfl
   have d3 := R5.out.at_ 3 (.int .i64 (h.ag 3)) rfl
   have d4 := R5.out.at_ 4 (.int .i64 (h.ag 4)) rfl
   have d5 := R5.out.at_ 5 (.int .i64 (h.ag 5)) rfl
   have d6 := R5.out.at_ 6 (.int .i64 (h.ag 6)) rfl
   have d7 := R5.out.at_ 7 (.int .i64 (h.ag 7)) rfl
   have d8 := R5.out.at_ 8 (.int .i64 h.port) rfl
   have d9 := R5.out.at_ 9 (.int .i64 h.age) rfl
   have d10 := R5.out.at_ 10 (.int .i64 h.hold) rfl
   have d11 := R5.out.at_ 11 (.int .i64 h.pos) rfl
   have g0 := R5b.out.at_ 0 (.int .i64 0) rfl
   have g1 := R5b.out.at_ 1 (.int .i64 0) rfl
   have g2 := R5b.out.at_ 2 (.int .i64 0) rfl
   have g3 := R5b.out.at_ 3 (.int .i64 0) rfl
   have g4 := R5b.out.at_ 4 (.int .i64 0) rfl
   have g5 := R5b.out.at_ 5 (.int .i64 0) rfl
   have g6 := R5b.out.at_ 6 (.int .i64 0) rfl
   have g7 := R5b.out.at_ 7 (.int .i64 0) rfl
   have g8 := R5b.out.at_ 8 (.int .i64 0) rfl
   have g9 := R5b.out.at_ 9 (.int .i64 0) rfl
   have g10 := R5b.out.at_ 10 (.int .i64 0) rfl
   have g11 := R5b.out.at_ 11 (.int .i64 0) rfl
   have ff0 := R5b.out.free 0 (by simp [ints])
   have ff1 := R5b.out.free 1 (by simp [ints])
   have ff2 := R5b.out.free 2 (by simp [ints])
   have ff3 := R5b.out.free 3 (by simp [ints])
   have ff4 := R5b.out.free 4 (by simp [ints])
   have ff5 := R5b.out.free 5 (by simp [ints])
   have ff6 := R5b.out.free 6 (by simp [ints])
   have ff7 := R5b.out.free 7 (by simp [ints])
   have ff8 := R5b.out.free 8 (by simp [ints])
   have ff9 := R5b.out.free 9 (by simp [ints])
   have ff10 := R5b.out.free 10 (by simp [ints])
   have ff11 := R5b.out.free 11 (by simp [ints])
   go_wp2_with fail
   have r8 := ((((((((((((R5b.out.set 0 (.int .i64 (h.ag 0)) (by simp [ints])).set 1 (.int .i64 (h.ag 1)) (by simp [ints])).set 2 (.int .i64 (h.ag 2)) (by simp [ints])).set 3 (.int .i64 (h.ag 3)) (by simp [ints])).set 4 (.int .i64 (h.ag 4)) (by simp [ints])).set 5 (.int .i64 (h.ag 5)) (by simp [ints])).set 6 (.int .i64 (h.ag 6)) (by simp [ints])).set 7 (.int .i64 (h.ag 7)) (by simp [ints])).set 8 (.int .i64 h.port) (by simp [ints])).set 9 (.int .i64 h.age) (by simp [ints])).set 10 (.int .i64 h.hold) (by simp [ints])).set 11 (.int .i64 h.pos) (by simp [ints]))
   have k0 := r8.at_ 0 (.int .i64 (h.ag 0)) rfl
   have k1 := r8.at_ 1 (.int .i64 (h.ag 1)) rfl
   have k2 := r8.at_ 2 (.int .i64 (h.ag 2)) rfl
   have k3 := r8.at_ 3 (.int .i64 (h.ag 3)) rfl
   have k4 := r8.at_ 4 (.int .i64 (h.ag 4)) rfl
   have k5 := r8.at_ 5 (.int .i64 (h.ag 5)) rfl
   have k6 := r8.at_ 6 (.int .i64 (h.ag 6)) rfl
   have k7 := r8.at_ 7 (.int .i64 (h.ag 7)) rfl
   have k8 := r8.at_ 8 (.int .i64 h.port) rfl
   have k9 := r8.at_ 9 (.int .i64 h.age) rfl
   have k10 := r8.at_ 10 (.int .i64 h.hold) rfl
   have k11 := r8.at_ 11 (.int .i64 h.pos) rfl
   clear r8
   refine bodyPost_ret (v := .tuple #[.agg #[.int .i64 (h.ag 0), .int .i64 (h.ag 1), .int .i64 (h.ag 2), .int .i64 (h.ag 3), .int .i64 (h.ag 4), .int .i64 (h.ag 5), .int .i64 (h.ag 6), .int .i64 (h.ag 7), .int .i64 h.port, .int .i64 h.age, .int .i64 h.hold, .int .i64 h.pos], .int .i64 0]) (by simp [results, Tryz.results117, go_sem, k0, k1, k2, k3, k4, k5, k6, k7, k8, k9, k10, k11, hlt]) rfl ⟨rfl, ?_⟩
   repeat' (first | (with_reducible exact HB5.out) | (with_reducible refine Below.setCell ?_ ?_ _) | (with_reducible refine Below.alloc ?_ ?_ _) | (with_reducible refine Below.drew ?_))
   all_goals (first | omega | (simp; done) | (simp; omega))
 ·have hch : ch = (h.pos.toNat, v1) := HC.out.trans (if_neg hz)
  have GHZ : Hid ((h.hold == 0) = false) := Lib.hid (beq_eq_false_iff_ne.2 hz)
  clear hz
  by_cases hv : 2 ≤ v1
  ·obtain rfl : y = { h with pos := h.pos, hold := 2 * n } := HS.out.trans (by rw [hch, if_pos hv]; simp only [HTN.out])
   clear hch HC HS HTN
   go_enter Tryz.func117, Tryz.ntmps117
   go_wp2_with fail
   have q0 : Kit.Row ((w.alloc (.cells #[.int .i64 (h.ag 0), .int .i64 (h.ag 1), .int .i64 (h.ag 2), .int .i64 (h.ag 3), .int .i64 (h.ag 4), .int .i64 (h.ag 5), .int .i64 (h.ag 6), .int .i64 (h.ag 7), .int .i64 h.port, .int .i64 h.age, .int .i64 h.hold, .int .i64 h.pos] 28)).alloc (.cells #[.int .i64 0, .int .i64 0, .int .i64 0, .int .i64 0, .int .i64 0, .int .i64 0, .int .i64 0, .int .i64 0, .int .i64 0, .int .i64 0, .int .i64 0, .int .i64 0] 28)) w.heap.size (ints (Wm.nums h)) := (Kit.Row.new w _ _).alloc _
   have q1 : Kit.Row ((w.alloc (.cells #[.int .i64 (h.ag 0), .int .i64 (h.ag 1), .int .i64 (h.ag 2), .int .i64 (h.ag 3), .int .i64 (h.ag 4), .int .i64 (h.ag 5), .int .i64 (h.ag 6), .int .i64 (h.ag 7), .int .i64 h.port, .int .i64 h.age, .int .i64 h.hold, .int .i64 h.pos] 28)).alloc (.cells #[.int .i64 0, .int .i64 0, .int .i64 0, .int .i64 0, .int .i64 0, .int .i64 0, .int .i64 0, .int .i64 0, .int .i64 0, .int .i64 0, .int .i64 0, .int .i64 0] 28)) (w.heap.size + 1) (ints [0, 0, 0, 0, 0, 0, 0, 0, 0, 0, 0, 0]) := Kit.Row.newAt _ _ _ _ (by simp)
   have qb := Kit.alloc2 w #[.int .i64 (h.ag 0), .int .i64 (h.ag 1), .int .i64 (h.ag 2), .int .i64 (h.ag 3), .int .i64 (h.ag 4), .int .i64 (h.ag 5), .int .i64 (h.ag 6), .int .i64 (h.ag 7), .int .i64 h.port, .int .i64 h.age, .int .i64 h.hold, .int .i64 h.pos] #[.int .i64 0, .int .i64 0, .int .i64 0, .int .i64 0, .int .i64 0, .int .i64 0, .int .i64 0, .int .i64 0, .int .i64 0, .int .i64 0, .int .i64 0, .int .i64 0] 28 28
   generalize (w.alloc (.cells #[.int .i64 (h.ag 0), .int .i64 (h.ag 1), .int .i64 (h.ag 2), .int .i64 (h.ag 3), .int .i64 (h.ag 4), .int .i64 (h.ag 5), .int .i64 (h.ag 6), .int .i64 (h.ag 7), .int .i64 h.port, .int .i64 h.age, .int .i64 h.hold, .int .i64 h.pos] 28)).alloc (.cells #[.int .i64 0, .int .i64 0, .int .i64 0, .int .i64 0, .int .i64 0, .int .i64 0, .int .i64 0, .int .i64 0, .int .i64 0, .int .i64 0, .int .i64 0, .int .i64 0] 28) = w2 at *
   refine (KR.out _).mono ?_
   rintro e w3 ⟨rfl, b3⟩
   have R0 := Lib.hid (q0.below b3)
   have R1 := Lib.hid (q1.below b3)
   have HB := Lib.hid (qb.trans (b3.mono qb.size))
   clear q0 q1 qb b3
   have c0 := R0.out.at_ 0 (.int .i64 (h.ag 0)) rfl
   have c1 := R0.out.at_ 1 (.int .i64 (h.ag 1)) rfl
   have c2 := R0.out.at_ 2 (.int .i64 (h.ag 2)) rfl
   have c3 := R0.out.at_ 3 (.int .i64 (h.ag 3)) rfl
   have c4 := R0.out.at_ 4 (.int .i64 (h.ag 4)) rfl
   have c5 := R0.out.at_ 5 (.int .i64 (h.ag 5)) rfl
   have c6 := R0.out.at_ 6 (.int .i64 (h.ag 6)) rfl
   have c7 := R0.out.at_ 7 (.int .i64 (h.ag 7)) rfl
   have c8 := R0.out.at_ 8 (.int .i64 h.port) rfl
   have c9 := R0.out.at_ 9 (.int .i64 h.age) rfl
   have c10 := R0.out.at_ 10 (.int .i64 h.hold) rfl
   have c11 := R0.out.at_ 11 (.int .i64 h.pos) rfl
   go_wp2_with fail
   go_region_held3 (fun w' => w'.cell? ⟨w.heap.size, 0, none⟩ = some (.int .i64 (h.ag 0)) ∧ w'.cell? ⟨w.heap.size, 1, none⟩ = some (.int .i64 (h.ag 1)) ∧ w'.cell? ⟨w.heap.size, 2, none⟩ = some (.int .i64 (h.ag 2)) ∧ w'.cell? ⟨w.heap.size, 3, none⟩ = some (.int .i64 (h.ag 3)) ∧ w'.cell? ⟨w.heap.size, 4, none⟩ = some (.int .i64 (h.ag 4)) ∧ w'.cell? ⟨w.heap.size, 5, none⟩ = some (.int .i64 (h.ag 5)) ∧ w'.cell? ⟨w.heap.size, 6, none⟩ = some (.int .i64 (h.ag 6)) ∧ w'.cell? ⟨w.heap.size, 7, none⟩ = some (.int .i64 (h.ag 7)) ∧ w'.cell? ⟨w.heap.size, 8, none⟩ = some (.int .i64 h.port) ∧ w'.cell? ⟨w.heap.size, 9, none⟩ = some (.int .i64 h.age) ∧ w'.cell? ⟨w.heap.size, 10, none⟩ = some (.int .i64 h.hold) ∧ w'.cell? ⟨w.heap.size, 11, none⟩ = some (.int .i64 h.pos)) (go_keep) ((go_at_call 127; refine (KV.out _).mono ?_; rintro e w4 ⟨rfl, bv⟩; replace c0 := Kit.cell_below bv c0; replace c1 := Kit.cell_below bv c1; replace c2 := Kit.cell_below bv c2; replace c3 := Kit.cell_below bv c3; replace c4 := Kit.cell_below bv c4; replace c5 := Kit.cell_below bv c5; replace c6 := Kit.cell_below bv c6; replace c7 := Kit.cell_below bv c7; replace c8 := Kit.cell_below bv c8; replace c9 := Kit.cell_below bv c9; replace c10 := Kit.cell_below bv c10; replace c11 := Kit.cell_below bv c11; have R2 := Lib.hid (R0.out.drew.below bv); have R2b := Lib.hid (R1.out.drew.below bv); have HB2 := Lib.hid (HB.out.drew.trans (bv.mono HB.out.drew.size)); clear bv))
   have e0 : 2 ≤ v1 := hv
   have ghz := GHZ.out
   clear hv
   go_wp2_with fail
   refine (KB.out _).mono ?_
   rintro e w6 ⟨rfl, b6⟩
   have R6 := Lib.hid (R2.out.below b6)
   have R6b := Lib.hid (R2b.out.below b6)
   have HB6 := Lib.hid (HB2.out.trans (b6.mono HB2.out.size))
   clear b6 c0 c1 c2 c3 c4 c5 c6 c7 c8 c9 c10 c11
   have c10 := R6.out.at_ 10 (.int .i64 h.hold) rfl
   have c11 := R6.out.at_ 11 (.int .i64 h.pos) rfl
   have f10 := R6.out.free 10 (by simp [ints, Wm.nums])
   have f11 := R6.out.free 11 (by simp [ints, Wm.nums])
   have r7 := (R6.out.set 11 (.int .i64 h.pos) (by simp [ints, Wm.nums])).set 10 (.int .i64 (2 * n)) (by simp [ints, Wm.nums])
   have r7b := (R6b.out.far w.heap.size 11 (.int .i64 h.pos) (by omega)).far w.heap.size 10 (.int .i64 (2 * n)) (by omega)
   have HB7 := Lib.hid ((HB6.out.setCell (p := ⟨w.heap.size, 11, none⟩) (Nat.le_refl _) (.int .i64 h.pos)).setCell (p := ⟨w.heap.size, 10, none⟩) (Nat.le_refl _) (.int .i64 (2 * n)))
   have R7 := Lib.hid r7
   have R7b := Lib.hid r7b
   clear r7 r7b
   have hlt := R7b.out.lt
   have lb := R7.out.lt
   have d0 := R7.out.at_ 0 (.int .i64 (h.ag 0)) rfl
   have d1 := R7.out.at_ 1 (.int .i64 (h.ag 1)) rfl
   have d2 := R7.out.at_ 2 (.int .i64 (h.ag 2)) rfl
   have d3 := R7.out.at_ 3 (.int .i64 (h.ag 3)) rfl
   have d4 := R7.out.at_ 4 (.int .i64 (h.ag 4)) rfl
   have d5 := R7.out.at_ 5 (.int .i64 (h.ag 5)) rfl
   have d6 := R7.out.at_ 6 (.int .i64 (h.ag 6)) rfl
   have d7 := R7.out.at_ 7 (.int .i64 (h.ag 7)) rfl
   have d8 := R7.out.at_ 8 (.int .i64 h.port) rfl
   have d9 := R7.out.at_ 9 (.int .i64 h.age) rfl
   have d10 := R7.out.at_ 10 (.int .i64 (2 * n)) rfl
   have d11 := R7.out.at_ 11 (.int .i64 h.pos) rfl
   have g0 := R7b.out.at_ 0 (.int .i64 0) rfl
   have g1 := R7b.out.at_ 1 (.int .i64 0) rfl
   have g2 := R7b.out.at_ 2 (.int .i64 0) rfl
   have g3 := R7b.out.at_ 3 (.int .i64 0) rfl
   have g4 := R7b.out.at_ 4 (.int .i64 0) rfl
   have g5 := R7b.out.at_ 5 (.int .i64 0) rfl
   have g6 := R7b.out.at_ 6 (.int .i64 0) rfl
   have g7 := R7b.out.at_ 7 (.int .i64 0) rfl
   have g8 := R7b.out.at_ 8 (.int .i64 0) rfl
   have g9 := R7b.out.at_ 9 (.int .i64 0) rfl
   have g10 := R7b.out.at_ 10 (.int .i64 0) rfl
   have g11 := R7b.out.at_ 11 (.int .i64 0) rfl
   have ff0 := R7b.out.free 0 (by simp [ints])
   have ff1 := R7b.out.free 1 (by simp [ints])
   have ff2 := R7b.out.free 2 (by simp [ints])
   have ff3 := R7b.out.free 3 (by simp [ints])
   have ff4 := R7b.out.free 4 (by simp [ints])
   have ff5 := R7b.out.free 5 (by simp [ints])
   have ff6 := R7b.out.free 6 (by simp [ints])
   have ff7 := R7b.out.free 7 (by simp [ints])
   have ff8 := R7b.out.free 8 (by simp [ints])
   have ff9 := R7b.out.free 9 (by simp [ints])
   have ff10 := R7b.out.free 10 (by simp [ints])
   have ff11 := R7b.out.free 11 (by simp [ints])
   go_wp2_with fail
   have r8 := ((((((((((((R7b.out.set 0 (.int .i64 (h.ag 0)) (by simp [ints])).set 1 (.int .i64 (h.ag 1)) (by simp [ints])).set 2 (.int .i64 (h.ag 2)) (by simp [ints])).set 3 (.int .i64 (h.ag 3)) (by simp [ints])).set 4 (.int .i64 (h.ag 4)) (by simp [ints])).set 5 (.int .i64 (h.ag 5)) (by simp [ints])).set 6 (.int .i64 (h.ag 6)) (by simp [ints])).set 7 (.int .i64 (h.ag 7)) (by simp [ints])).set 8 (.int .i64 h.port) (by simp [ints])).set 9 (.int .i64 h.age) (by simp [ints])).set 10 (.int .i64 (2 * n)) (by simp [ints])).set 11 (.int .i64 h.pos) (by simp [ints]))
   have k0 := r8.at_ 0 (.int .i64 (h.ag 0)) rfl
   have k1 := r8.at_ 1 (.int .i64 (h.ag 1)) rfl
   have k2 := r8.at_ 2 (.int .i64 (h.ag 2)) rfl
   have k3 := r8.at_ 3 (.int .i64 (h.ag 3)) rfl
   have k4 := r8.at_ 4 (.int .i64 (h.ag 4)) rfl
   have k5 := r8.at_ 5 (.int .i64 (h.ag 5)) rfl
   have k6 := r8.at_ 6 (.int .i64 (h.ag 6)) rfl
   have k7 := r8.at_ 7 (.int .i64 (h.ag 7)) rfl
   have k8 := r8.at_ 8 (.int .i64 h.port) rfl
   have k9 := r8.at_ 9 (.int .i64 h.age) rfl
   have k10 := r8.at_ 10 (.int .i64 (2 * n)) rfl
   have k11 := r8.at_ 11 (.int .i64 h.pos) rfl
   clear r8
   refine bodyPost_ret (v := .tuple #[.agg #[.int .i64 (h.ag 0), .int .i64 (h.ag 1), .int .i64 (h.ag 2), .int .i64 (h.ag 3), .int .i64 (h.ag 4), .int .i64 (h.ag 5), .int .i64 (h.ag 6), .int .i64 (h.ag 7), .int .i64 h.port, .int .i64 h.age, .int .i64 (2 * n), .int .i64 h.pos], .int .i64 0]) (by simp [results, Tryz.results117, go_sem, k0, k1, k2, k3, k4, k5, k6, k7, k8, k9, k10, k11, hlt]) rfl ⟨rfl, ?_⟩
   repeat' (first | (with_reducible exact HB7.out) | (with_reducible refine Below.setCell ?_ ?_ _) | (with_reducible refine Below.alloc ?_ ?_ _) | (with_reducible refine Below.drew ?_))
   all_goals (first | omega | (simp; done) | (simp; omega))
  ·obtain rfl : h = y := (HS.out.trans (by rw [hch, if_neg hv])).symm
   clear hch HC HS HTN
   go_enter Tryz.func117, Tryz.ntmps117
   go_wp2_with fail
   have q0 : Kit.Row ((w.alloc (.cells #[.int .i64 (h.ag 0), .int .i64 (h.ag 1), .int .i64 (h.ag 2), .int .i64 (h.ag 3), .int .i64 (h.ag 4), .int .i64 (h.ag 5), .int .i64 (h.ag 6), .int .i64 (h.ag 7), .int .i64 h.port, .int .i64 h.age, .int .i64 h.hold, .int .i64 h.pos] 28)).alloc (.cells #[.int .i64 0, .int .i64 0, .int .i64 0, .int .i64 0, .int .i64 0, .int .i64 0, .int .i64 0, .int .i64 0, .int .i64 0, .int .i64 0, .int .i64 0, .int .i64 0] 28)) w.heap.size (ints (Wm.nums h)) := (Kit.Row.new w _ _).alloc _
   have q1 : Kit.Row ((w.alloc (.cells #[.int .i64 (h.ag 0), .int .i64 (h.ag 1), .int .i64 (h.ag 2), .int .i64 (h.ag 3), .int .i64 (h.ag 4), .int .i64 (h.ag 5), .int .i64 (h.ag 6), .int .i64 (h.ag 7), .int .i64 h.port, .int .i64 h.age, .int .i64 h.hold, .int .i64 h.pos] 28)).alloc (.cells #[.int .i64 0, .int .i64 0, .int .i64 0, .int .i64 0, .int .i64 0, .int .i64 0, .int .i64 0, .int .i64 0, .int .i64 0, .int .i64 0, .int .i64 0, .int .i64 0] 28)) (w.heap.size + 1) (ints [0, 0, 0, 0, 0, 0, 0, 0, 0, 0, 0, 0]) := Kit.Row.newAt _ _ _ _ (by simp)
   have qb := Kit.alloc2 w #[.int .i64 (h.ag 0), .int .i64 (h.ag 1), .int .i64 (h.ag 2), .int .i64 (h.ag 3), .int .i64 (h.ag 4), .int .i64 (h.ag 5), .int .i64 (h.ag 6), .int .i64 (h.ag 7), .int .i64 h.port, .int .i64 h.age, .int .i64 h.hold, .int .i64 h.pos] #[.int .i64 0, .int .i64 0, .int .i64 0, .int .i64 0, .int .i64 0, .int .i64 0, .int .i64 0, .int .i64 0, .int .i64 0, .int .i64 0, .int .i64 0, .int .i64 0] 28 28
   generalize (w.alloc (.cells #[.int .i64 (h.ag 0), .int .i64 (h.ag 1), .int .i64 (h.ag 2), .int .i64 (h.ag 3), .int .i64 (h.ag 4), .int .i64 (h.ag 5), .int .i64 (h.ag 6), .int .i64 (h.ag 7), .int .i64 h.port, .int .i64 h.age, .int .i64 h.hold, .int .i64 h.pos] 28)).alloc (.cells #[.int .i64 0, .int .i64 0, .int .i64 0, .int .i64 0, .int .i64 0, .int .i64 0, .int .i64 0, .int .i64 0, .int .i64 0, .int .i64 0, .int .i64 0, .int .i64 0] 28) = w2 at *
   refine (KR.out _).mono ?_
   rintro e w3 ⟨rfl, b3⟩
   have R0 := Lib.hid (q0.below b3)
   have R1 := Lib.hid (q1.below b3)
   have HB := Lib.hid (qb.trans (b3.mono qb.size))
   clear q0 q1 qb b3
   have c0 := R0.out.at_ 0 (.int .i64 (h.ag 0)) rfl
   have c1 := R0.out.at_ 1 (.int .i64 (h.ag 1)) rfl
   have c2 := R0.out.at_ 2 (.int .i64 (h.ag 2)) rfl
   have c3 := R0.out.at_ 3 (.int .i64 (h.ag 3)) rfl
   have c4 := R0.out.at_ 4 (.int .i64 (h.ag 4)) rfl
   have c5 := R0.out.at_ 5 (.int .i64 (h.ag 5)) rfl
   have c6 := R0.out.at_ 6 (.int .i64 (h.ag 6)) rfl
   have c7 := R0.out.at_ 7 (.int .i64 (h.ag 7)) rfl
   have c8 := R0.out.at_ 8 (.int .i64 h.port) rfl
   have c9 := R0.out.at_ 9 (.int .i64 h.age) rfl
   have c10 := R0.out.at_ 10 (.int .i64 h.hold) rfl
   have c11 := R0.out.at_ 11 (.int .i64 h.pos) rfl
   go_wp2_with fail
   go_region_held3 (fun w' => w'.cell? ⟨w.heap.size, 0, none⟩ = some (.int .i64 (h.ag 0)) ∧ w'.cell? ⟨w.heap.size, 1, none⟩ = some (.int .i64 (h.ag 1)) ∧ w'.cell? ⟨w.heap.size, 2, none⟩ = some (.int .i64 (h.ag 2)) ∧ w'.cell? ⟨w.heap.size, 3, none⟩ = some (.int .i64 (h.ag 3)) ∧ w'.cell? ⟨w.heap.size, 4, none⟩ = some (.int .i64 (h.ag 4)) ∧ w'.cell? ⟨w.heap.size, 5, none⟩ = some (.int .i64 (h.ag 5)) ∧ w'.cell? ⟨w.heap.size, 6, none⟩ = some (.int .i64 (h.ag 6)) ∧ w'.cell? ⟨w.heap.size, 7, none⟩ = some (.int .i64 (h.ag 7)) ∧ w'.cell? ⟨w.heap.size, 8, none⟩ = some (.int .i64 h.port) ∧ w'.cell? ⟨w.heap.size, 9, none⟩ = some (.int .i64 h.age) ∧ w'.cell? ⟨w.heap.size, 10, none⟩ = some (.int .i64 h.hold) ∧ w'.cell? ⟨w.heap.size, 11, none⟩ = some (.int .i64 h.pos)) (go_keep) ((go_at_call 127; refine (KV.out _).mono ?_; rintro e w4 ⟨rfl, bv⟩; replace c0 := Kit.cell_below bv c0; replace c1 := Kit.cell_below bv c1; replace c2 := Kit.cell_below bv c2; replace c3 := Kit.cell_below bv c3; replace c4 := Kit.cell_below bv c4; replace c5 := Kit.cell_below bv c5; replace c6 := Kit.cell_below bv c6; replace c7 := Kit.cell_below bv c7; replace c8 := Kit.cell_below bv c8; replace c9 := Kit.cell_below bv c9; replace c10 := Kit.cell_below bv c10; replace c11 := Kit.cell_below bv c11; have R2 := Lib.hid (R0.out.drew.below bv); have R2b := Lib.hid (R1.out.drew.below bv); have HB2 := Lib.hid (HB.out.drew.trans (bv.mono HB.out.drew.size)); clear bv))
   have e0 : ¬ 2 ≤ v1 := hv
   have ghz := GHZ.out
   clear hv
   clear c0 c1 c2 c3 c4 c5 c6 c7 c8 c9 c10 c11
   have hlt := R2b.out.lt
   have lb := R2.out.lt
   have d0 := R2.out.at_ 0 (.int .i64 (h.ag 0)) rfl
   have d1 := R2.out.at_ 1 (.int .i64 (h.ag 1)) rfl
   have d2 := R2.out.at_ 2 (.int .i64 (h.ag 2)) rfl
   have d3 := R2.out.at_ 3 (.int .i64 (h.ag 3)) rfl
   have d4 := R2.out.at_ 4 (.int .i64 (h.ag 4)) rfl
   have d5 := R2.out.at_ 5 (.int .i64 (h.ag 5)) rfl
   have d6 := R2.out.at_ 6 (.int .i64 (h.ag 6)) rfl
   have d7 := R2.out.at_ 7 (.int .i64 (h.ag 7)) rfl
   have d8 := R2.out.at_ 8 (.int .i64 h.port) rfl
   have d9 := R2.out.at_ 9 (.int .i64 h.age) rfl
   have d10 := R2.out.at_ 10 (.int .i64 h.hold) rfl
   have d11 := R2.out.at_ 11 (.int .i64 h.pos) rfl
   have g0 := R2b.out.at_ 0 (.int .i64 0) rfl
   have g1 := R2b.out.at_ 1 (.int .i64 0) rfl
   have g2 := R2b.out.at_ 2 (.int .i64 0) rfl
   have g3 := R2b.out.at_ 3 (.int .i64 0) rfl
   have g4 := R2b.out.at_ 4 (.int .i64 0) rfl
   have g5 := R2b.out.at_ 5 (.int .i64 0) rfl
   have g6 := R2b.out.at_ 6 (.int .i64 0) rfl
   have g7 := R2b.out.at_ 7 (.int .i64 0) rfl
   have g8 := R2b.out.at_ 8 (.int .i64 0) rfl
   have g9 := R2b.out.at_ 9 (.int .i64 0) rfl
   have g10 := R2b.out.at_ 10 (.int .i64 0) rfl
   have g11 := R2b.out.at_ 11 (.int .i64 0) rfl
   have ff0 := R2b.out.free 0 (by simp [ints])
   have ff1 := R2b.out.free 1 (by simp [ints])
   have ff2 := R2b.out.free 2 (by simp [ints])
   have ff3 := R2b.out.free 3 (by simp [ints])
   have ff4 := R2b.out.free 4 (by simp [ints])
   have ff5 := R2b.out.free 5 (by simp [ints])
   have ff6 := R2b.out.free 6 (by simp [ints])
   have ff7 := R2b.out.free 7 (by simp [ints])
   have ff8 := R2b.out.free 8 (by simp [ints])
   have ff9 := R2b.out.free 9 (by simp [ints])
   have ff10 := R2b.out.free 10 (by simp [ints])
   have ff11 := R2b.out.free 11 (by simp [ints])
   go_wp2_with fail
   have r8 := ((((((((((((R2b.out.set 0 (.int .i64 (h.ag 0)) (by simp [ints])).set 1 (.int .i64 (h.ag 1)) (by simp [ints])).set 2 (.int .i64 (h.ag 2)) (by simp [ints])).set 3 (.int .i64 (h.ag 3)) (by simp [ints])).set 4 (.int .i64 (h.ag 4)) (by simp [ints])).set 5 (.int .i64 (h.ag 5)) (by simp [ints])).set 6 (.int .i64 (h.ag 6)) (by simp [ints])).set 7 (.int .i64 (h.ag 7)) (by simp [ints])).set 8 (.int .i64 h.port) (by simp [ints])).set 9 (.int .i64 h.age) (by simp [ints])).set 10 (.int .i64 h.hold) (by simp [ints])).set 11 (.int .i64 h.pos) (by simp [ints]))
   have k0 := r8.at_ 0 (.int .i64 (h.ag 0)) rfl
   have k1 := r8.at_ 1 (.int .i64 (h.ag 1)) rfl
   have k2 := r8.at_ 2 (.int .i64 (h.ag 2)) rfl
   have k3 := r8.at_ 3 (.int .i64 (h.ag 3)) rfl
   have k4 := r8.at_ 4 (.int .i64 (h.ag 4)) rfl
   have k5 := r8.at_ 5 (.int .i64 (h.ag 5)) rfl
   have k6 := r8.at_ 6 (.int .i64 (h.ag 6)) rfl
   have k7 := r8.at_ 7 (.int .i64 (h.ag 7)) rfl
   have k8 := r8.at_ 8 (.int .i64 h.port) rfl
   have k9 := r8.at_ 9 (.int .i64 h.age) rfl
   have k10 := r8.at_ 10 (.int .i64 h.hold) rfl
   have k11 := r8.at_ 11 (.int .i64 h.pos) rfl
   clear r8
   refine bodyPost_ret (v := .tuple #[.agg #[.int .i64 (h.ag 0), .int .i64 (h.ag 1), .int .i64 (h.ag 2), .int .i64 (h.ag 3), .int .i64 (h.ag 4), .int .i64 (h.ag 5), .int .i64 (h.ag 6), .int .i64 (h.ag 7), .int .i64 h.port, .int .i64 h.age, .int .i64 h.hold, .int .i64 h.pos], .int .i64 0]) (by simp [results, Tryz.results117, go_sem, k0, k1, k2, k3, k4, k5, k6, k7, k8, k9, k10, k11, hlt]) rfl ⟨rfl, ?_⟩
   repeat' (first | (with_reducible exact HB2.out) | (with_reducible refine Below.setCell ?_ ?_ _) | (with_reducible refine Below.alloc ?_ ?_ _) | (with_reducible refine Below.drew ?_))
   all_goals (first | omega | (simp; done) | (simp; omega))
end Gate
end Go.Proofs.YtgiojagdmglinaaGreatDoor
