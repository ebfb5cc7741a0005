/-
  Part 15 of a merged text.
-/
import Derived.Test.YtgiojagdmglinaaGreatDoorGb14
import Derived.Test.YtgiojagdmglinaaGreatDoorGb06
import Derived.Test.YtgiojagdmglinaaGreatDoorGb00
set_option linter.unusedVariables false
set_option linter.unusedSimpArgs false
set_option maxRecDepth 100000
namespace Go.Proofs.YtgiojagdmglinaaGreatDoor
open Go.RowKit Vote
namespace Gate
set_option maxHeartbeats 400000 in
theorem first1_calls (x y : Int) (w : World) :
  Calls Tryz.prog 142 #[.agg #[.int .i64 x, .int .i64 y]] w fun e w' => e = .returned (.bool (x == 1)) ∧ Below w.heap.size w w' := by
 go_enter Tryz.func142, Tryz.ntmps142
 go_wp2_with fail
 go_ret
 exact ⟨rfl, (Below.refl _ _).alloc (Nat.le_refl _) _⟩
def fl (n : Nat) (h : Hb) : Nat → List Int
 | 0 => Wm.nums h
 | k + 1 => (fl n h k).set k n
theorem fl_len (n : Nat) (h : Hb) (k : Nat) : (fl n h k).length = 12 := by
 induction k with
 | zero => rfl
 | succ k ih => simp [fl, ih]
theorem fl_at (n : Nat) (h : Hb) (o : Nat) : ∀ k, k ≤ 8 → o < 12 → (fl n h k).getD o 0 = if o < k then (n : Int) else (Wm.nums h).getD o 0
 | 0, _, _ => by rw [if_neg (by omega)]; rfl
 | k + 1, hk, ho => by
  have ih := fl_at n h o k (by omega) ho
  unfold fl
  by_cases e : o = k
  ·subst e
   rw [if_pos (by omega), List.getD_eq_getElem?_getD, List.getElem?_set_self (by rw [fl_len]; exact ho)]; rfl
  ·rw [List.getD_eq_getElem?_getD, List.getElem?_set_ne (fun h => e h.symm), ← List.getD_eq_getElem?_getD, ih]
   by_cases c2 : o < k
   ·rw [if_pos c2, if_pos (by omega)]
   ·rw [if_neg c2, if_neg (by omega)]
theorem fl_nums (n : Nat) (h : Hb) (h8 : n ≤ 8) : fl n h n = Wm.nums (⟨Wm.eight fun i => if i < n then (n : Int) else h.ag i, h.port, h.age, h.hold, h.pos⟩ : Hb) := by
 have ag : ∀ p, p < 8 → (⟨Wm.eight fun i => if i < n then (n : Int) else h.ag i, h.port, h.age, h.hold, h.pos⟩ : Hb).ag p = if p < n then (n : Int) else h.ag p := fun p hp => Wm.eight_ag' _ p hp _ _ _ _
 apply List.ext_getElem?
 intro o
 by_cases ho : o < 12
 ·have a := fl_at n h o n h8 ho
  have b : (Wm.nums (⟨Wm.eight fun i => if i < n then (n : Int) else h.ag i, h.port, h.age, h.hold, h.pos⟩ : Hb)).getD o 0 = if o < n then (n : Int) else (Wm.nums h).getD o 0 := by
   match o, ho with
   | 0, _ => exact ag 0 (by omega)
   | 1, _ => exact ag 1 (by omega)
   | 2, _ => exact ag 2 (by omega)
   | 3, _ => exact ag 3 (by omega)
   | 4, _ => exact ag 4 (by omega)
   | 5, _ => exact ag 5 (by omega)
   | 6, _ => exact ag 6 (by omega)
   | 7, _ => exact ag 7 (by omega)
   | 8, _ => rw [if_neg (by omega)]; rfl
   | 9, _ => rw [if_neg (by omega)]; rfl
   | 10, _ => rw [if_neg (by omega)]; rfl
   | 11, _ => rw [if_neg (by omega)]; rfl
  rw [← b] at a
  have l1 := fl_len n h n
  have l2 : (Wm.nums (⟨Wm.eight fun i => if i < n then (n : Int) else h.ag i, h.port, h.age, h.hold, h.pos⟩ : Hb)).length = 12 := rfl
  simp only [List.getD_eq_getElem?_getD] at a
  rw [List.getElem?_eq_getElem (by omega), List.getElem?_eq_getElem (by omega)] at a ⊢
  simpa using a
 ·rw [List.getElem?_eq_none (by rw [fl_len]; omega), List.getElem?_eq_none (by show 12 ≤ o; omega)]
def firF (n : Nat) (h : Hb) (l : List Fr) : Hb × Fr := match Wm.firstCs l with
  | none => (h, Fr.none)
  | some p => if h.age ≤ 2 * n then (h, Fr.none) else ((⟨Wm.eight fun i => if i < n then (n : Int) else h.ag i, p, 0, h.hold, h.pos⟩ : Hb), frAt l p)
set_option maxHeartbeats 2000000 in
theorem first_calls (n cap : Nat) (A : Option Addr) (h : Hb) (l : List Fr) (w : World) (h3 : 3 ≤ n) (h8 : n ≤ 8) (r : Wm.Right n h) (hl : Frames w A n l) :
  Calls Tryz.prog 129 #[.int .i64 n, h.val, .slice A n cap] w fun e w' => e = .returned (.tuple #[(firF n h l).1.val, (firF n h l).2.val]) ∧ Below w.heap.size w w' := by
 have kb := fun W => Cf.block_calls (n : Int) W (by omega) (by omega)
 have KB := Lib.hid kb
 have ki := fun W (hW : Below w.heap.size w W) => Hear.ifunc_calls A n cap l 142 #[] (fun f => f.k == 1) W (hl.below hW) (by omega) (Kit.enters Tryz.func142 (by kernel_rfl) rfl) (fun W' x _ _ => first1_calls x.k x.i W')
 have hix : Vw.idx (fun f : Fr => f.k == 1) l = match Wm.firstCs l with | some i => (i : Int) | none => -1 := rfl
 rw [hix] at ki
 have hag0 := r.age.1
 have hag1 := r.age.2
 have hy : firF n h l = match Wm.firstCs l with
  | none => (h, Fr.none)
  | some p => if h.age ≤ 2 * n then (h, Fr.none) else ((⟨Wm.eight fun i => if i < n then (n : Int) else h.ag i, p, 0, h.hold, h.pos⟩ : Hb), frAt l p) := rfl
 generalize firF n h l = y at *
 cases hfc : Wm.firstCs l with
 | none =>
  rw [hfc] at hy ki
  simp only at hy ki
  obtain rfl := hy
  have KI := Lib.hid ki
  clear kb r hl hix hfc ki
  unfold Hb.val Fr.val
  simp only [Fr.none]
  go_enter Tryz.func129, Tryz.ntmps129
  go_wp2_with fail
  have q0 : Kit.Row (((w.alloc (.cells #[.int .i64 (h.ag 0), .int .i64 (h.ag 1), .int .i64 (h.ag 2), .int .i64 (h.ag 3), .int .i64 (h.ag 4), .int .i64 (h.ag 5), .int .i64 (h.ag 6), .int .i64 (h.ag 7), .int .i64 h.port, .int .i64 h.age, .int .i64 h.hold, .int .i64 h.pos] 28)).alloc (.cells #[.int .i64 0, .int .i64 0, .int .i64 0, .int .i64 0, .int .i64 0, .int .i64 0, .int .i64 0, .int .i64 0, .int .i64 0, .int .i64 0, .int .i64 0, .int .i64 0] 28)).alloc (.cells #[.int .i64 0, .int .i64 0] 45)) w.heap.size (ints (Wm.nums h)) := ((Kit.Row.new w _ _).alloc _).alloc _
  have q1 : Kit.Row (((w.alloc (.cells #[.int .i64 (h.ag 0), .int .i64 (h.ag 1), .int .i64 (h.ag 2), .int .i64 (h.ag 3), .int .i64 (h.ag 4), .int .i64 (h.ag 5), .int .i64 (h.ag 6), .int .i64 (h.ag 7), .int .i64 h.port, .int .i64 h.age, .int .i64 h.hold, .int .i64 h.pos] 28)).alloc (.cells #[.int .i64 0, .int .i64 0, .int .i64 0, .int .i64 0, .int .i64 0, .int .i64 0, .int .i64 0, .int .i64 0, .int .i64 0, .int .i64 0, .int .i64 0, .int .i64 0] 28)).alloc (.cells #[.int .i64 0, .int .i64 0] 45)) (w.heap.size + 1) (ints [0, 0, 0, 0, 0, 0, 0, 0, 0, 0, 0, 0]) := (Kit.Row.newAt _ _ _ _ (by simp)).alloc _
  have q2 : Kit.Row (((w.alloc (.cells #[.int .i64 (h.ag 0), .int .i64 (h.ag 1), .int .i64 (h.ag 2), .int .i64 (h.ag 3), .int .i64 (h.ag 4), .int .i64 (h.ag 5), .int .i64 (h.ag 6), .int .i64 (h.ag 7), .int .i64 h.port, .int .i64 h.age, .int .i64 h.hold, .int .i64 h.pos] 28)).alloc (.cells #[.int .i64 0, .int .i64 0, .int .i64 0, .int .i64 0, .int .i64 0, .int .i64 0, .int .i64 0, .int .i64 0, .int .i64 0, .int .i64 0, .int .i64 0, .int .i64 0] 28)).alloc (.cells #[.int .i64 0, .int .i64 0] 45)) (w.heap.size + 1 + 1) (ints [0, 0]) := Kit.Row.newAt _ _ _ _ (by simp)
  have qb : Below w.heap.size w (((w.alloc (.cells #[.int .i64 (h.ag 0), .int .i64 (h.ag 1), .int .i64 (h.ag 2), .int .i64 (h.ag 3), .int .i64 (h.ag 4), .int .i64 (h.ag 5), .int .i64 (h.ag 6), .int .i64 (h.ag 7), .int .i64 h.port, .int .i64 h.age, .int .i64 h.hold, .int .i64 h.pos] 28)).alloc (.cells #[.int .i64 0, .int .i64 0, .int .i64 0, .int .i64 0, .int .i64 0, .int .i64 0, .int .i64 0, .int .i64 0, .int .i64 0, .int .i64 0, .int .i64 0, .int .i64 0] 28)).alloc (.cells #[.int .i64 0, .int .i64 0] 45)) := Kit.alloc3 ..
  generalize ((w.alloc (.cells #[.int .i64 (h.ag 0), .int .i64 (h.ag 1), .int .i64 (h.ag 2), .int .i64 (h.ag 3), .int .i64 (h.ag 4), .int .i64 (h.ag 5), .int .i64 (h.ag 6), .int .i64 (h.ag 7), .int .i64 h.port, .int .i64 h.age, .int .i64 h.hold, .int .i64 h.pos] 28)).alloc (.cells #[.int .i64 0, .int .i64 0, .int .i64 0, .int .i64 0, .int .i64 0, .int .i64 0, .int .i64 0, .int .i64 0, .int .i64 0, .int .i64 0, .int .i64 0, .int .i64 0] 28)).alloc (.cells #[.int .i64 0, .int .i64 0] 45) = w2 at *
  refine (KI.out _ qb).mono ?_
  rintro e w3 ⟨rfl, b3⟩
  have R3 := Lib.hid (q0.below b3)
  have R3b := Lib.hid (q1.below b3)
  have R3c := Lib.hid (q2.below b3)
  have HB3 := Lib.hid (qb.trans (b3.mono qb.size))
  clear q0 q1 q2 qb b3
  have c9 := R3.out.at_ 9 (.int .i64 h.age) rfl
  go_wp2_with fail
  refine wp_region_held_drew (S := (fun w' => w'.cell? ⟨w.heap.size, 9, none⟩ = some (.int .i64 h.age))) (by kernel_rfl) ?_ (fun hHeld => ?_)
  ·go_keep
  refine Rgn.tk 0 rfl ?_
  try simp only [Act.put, Rgn.a, Rgn.b, Rgn.c]
  refine Rgn.tk 1 rfl ?_
  try simp only [Act.put, Rgn.a, Rgn.b, Rgn.c]
  refine Rgn.tk 2 rfl ?_
  try simp only [Act.put, Rgn.a, Rgn.b, Rgn.c]
  refine Rgn.sk 3 rfl ?_
  try simp only [Act.put, Rgn.a, Rgn.b, Rgn.c]
  refine Rgn.sk 4 rfl ?_
  try simp only [Act.put, Rgn.a, Rgn.b, Rgn.c]
  refine Rgn.sk 5 rfl ?_
  try simp only [Act.put, Rgn.a, Rgn.b, Rgn.c]
  refine Rgn.sk 6 rfl ?_
  try simp only [Act.put, Rgn.a, Rgn.b, Rgn.c]
  refine Rgn.sk 7 rfl ?_
  try simp only [Act.put, Rgn.a, Rgn.b, Rgn.c]
  refine Rgn.tk 8 rfl ?_
  try simp only [Act.put, Rgn.a, Rgn.b, Rgn.c]
  refine wpAnyH_done (by kernel_rfl) ?_ _
  clear c9
  have hlt := R3b.out.lt
  have hlt2 := R3c.out.lt
  have lb := R3.out.lt
  have d0 := R3.out.at_ 0 (.int .i64 (h.ag 0)) rfl
  have d1 := R3.out.at_ 1 (.int .i64 (h.ag 1)) rfl
  have d2 := R3.out.at_ 2 (.int .i64 (h.ag 2)) rfl
  have d3 := R3.out.at_ 3 (.int .i64 (h.ag 3)) rfl
  have d4 := R3.out.at_ 4 (.int .i64 (h.ag 4)) rfl
  have d5 := R3.out.at_ 5 (.int .i64 (h.ag 5)) rfl
  have d6 := R3.out.at_ 6 (.int .i64 (h.ag 6)) rfl
  have d7 := R3.out.at_ 7 (.int .i64 (h.ag 7)) rfl
  have d8 := R3.out.at_ 8 (.int .i64 h.port) rfl
  have d9 := R3.out.at_ 9 (.int .i64 h.age) rfl
  have d10 := R3.out.at_ 10 (.int .i64 h.hold) rfl
  have d11 := R3.out.at_ 11 (.int .i64 h.pos) rfl
  have g0 := R3b.out.at_ 0 (.int .i64 0) rfl
  have g1 := R3b.out.at_ 1 (.int .i64 0) rfl
  have g2 := R3b.out.at_ 2 (.int .i64 0) rfl
  have g3 := R3b.out.at_ 3 (.int .i64 0) rfl
  have g4 := R3b.out.at_ 4 (.int .i64 0) rfl
  have g5 := R3b.out.at_ 5 (.int .i64 0) rfl
  have g6 := R3b.out.at_ 6 (.int .i64 0) rfl
  have g7 := R3b.out.at_ 7 (.int .i64 0) rfl
  have g8 := R3b.out.at_ 8 (.int .i64 0) rfl
  have g9 := R3b.out.at_ 9 (.int .i64 0) rfl
  have g10 := R3b.out.at_ 10 (.int .i64 0) rfl
  have g11 := R3b.out.at_ 11 (.int .i64 0) rfl
  have ff0 := R3b.out.free 0 (by simp [ints])
  have ff1 := R3b.out.free 1 (by simp [ints])
  have ff2 := R3b.out.free 2 (by simp [ints])
  have ff3 := R3b.out.free 3 (by simp [ints])
  have ff4 := R3b.out.free 4 (by simp [ints])
  have ff5 := R3b.out.free 5 (by simp [ints])
  have ff6 := R3b.out.free 6 (by simp [ints])
  have ff7 := R3b.out.free 7 (by simp [ints])
  have ff8 := R3b.out.free 8 (by simp [ints])
  have ff9 := R3b.out.free 9 (by simp [ints])
  have ff10 := R3b.out.free 10 (by simp [ints])
  have ff11 := R3b.out.free 11 (by simp [ints])
  have y0 := R3c.out.at_ 0 (.int .i64 0) rfl
  have y1 := R3c.out.at_ 1 (.int .i64 0) rfl
  have z0 := R3c.out.free 0 (by simp [ints])
  have z1 := R3c.out.free 1 (by simp [ints])
  go_wp2_with fail
  have r8 := ((((((((((((((R3b.out.set 0 (.int .i64 (h.ag 0)) (by simp [ints])).set 1 (.int .i64 (h.ag 1)) (by simp [ints])).set 2 (.int .i64 (h.ag 2)) (by simp [ints])).set 3 (.int .i64 (h.ag 3)) (by simp [ints])).set 4 (.int .i64 (h.ag 4)) (by simp [ints])).set 5 (.int .i64 (h.ag 5)) (by simp [ints])).set 6 (.int .i64 (h.ag 6)) (by simp [ints])).set 7 (.int .i64 (h.ag 7)) (by simp [ints])).set 8 (.int .i64 h.port) (by simp [ints])).set 9 (.int .i64 h.age) (by simp [ints])).set 10 (.int .i64 h.hold) (by simp [ints])).set 11 (.int .i64 h.pos) (by simp [ints]))).far (w.heap.size + 1 + 1) 0 (.int .i64 (0)) (by omega)).far (w.heap.size + 1 + 1) 1 (.int .i64 (0)) (by omega)
  have r9 := (((((((((((((R3c.out.far (w.heap.size + 1) 0 (.int .i64 (h.ag 0)) (by omega)).far (w.heap.size + 1) 1 (.int .i64 (h.ag 1)) (by omega)).far (w.heap.size + 1) 2 (.int .i64 (h.ag 2)) (by omega)).far (w.heap.size + 1) 3 (.int .i64 (h.ag 3)) (by omega)).far (w.heap.size + 1) 4 (.int .i64 (h.ag 4)) (by omega)).far (w.heap.size + 1) 5 (.int .i64 (h.ag 5)) (by omega)).far (w.heap.size + 1) 6 (.int .i64 (h.ag 6)) (by omega)).far (w.heap.size + 1) 7 (.int .i64 (h.ag 7)) (by omega)).far (w.heap.size + 1) 8 (.int .i64 h.port) (by omega)).far (w.heap.size + 1) 9 (.int .i64 h.age) (by omega)).far (w.heap.size + 1) 10 (.int .i64 h.hold) (by omega)).far (w.heap.size + 1) 11 (.int .i64 h.pos) (by omega)).set 0 (.int .i64 (0)) (by simp [ints])).set 1 (.int .i64 (0)) (by simp [ints])
  have k0 := r8.at_ 0 (.int .i64 (h.ag 0)) rfl
  have k1 := r8.at_ 1 (.int .i64 (h.ag 1)) rfl
  have k2 := r8.at_ 2 (.int .i64 (h.ag 2)) rfl
  have k3 := r8.at_ 3 (.int .i64 (h.ag 3)) rfl
  have k4 := r8.at_ 4 (.int .i64 (h.ag 4)) rfl
  have k5 := r8.at_ 5 (.int .i64 (h.ag 5)) rfl
  have k6 := r8.at_ 6 (.int .i64 (h.ag 6)) rfl
  have k7 := r8.at_ 7 (.int .i64 (h.ag 7)) rfl
  have k8 := r8.at_ 8 (.int .i64 h.port) rfl
  have k9 := r8.at_ 9 (.int .i64 h.age) rfl
  have k10 := r8.at_ 10 (.int .i64 h.hold) rfl
  have k11 := r8.at_ 11 (.int .i64 h.pos) rfl
  have j0 := r9.at_ 0 (.int .i64 (0)) rfl
  have j1 := r9.at_ 1 (.int .i64 (0)) rfl
  clear r8 r9
  refine bodyPost_ret (v := .tuple #[.agg #[.int .i64 (h.ag 0), .int .i64 (h.ag 1), .int .i64 (h.ag 2), .int .i64 (h.ag 3), .int .i64 (h.ag 4), .int .i64 (h.ag 5), .int .i64 (h.ag 6), .int .i64 (h.ag 7), .int .i64 h.port, .int .i64 h.age, .int .i64 h.hold, .int .i64 h.pos], .agg #[.int .i64 0, .int .i64 0]]) (by simp [results, Tryz.results129, go_sem, k0, k1, k2, k3, k4, k5, k6, k7, k8, k9, k10, k11, j0, j1, hlt, hlt2]) rfl ⟨rfl, ?_⟩
  repeat' (first | (with_reducible exact HB3.out) | (with_reducible refine Below.setCell ?_ ?_ _) | (with_reducible refine Below.alloc ?_ ?_ _) | (with_reducible refine Below.drew ?_))
  all_goals (first | omega | (simp; done) | (simp; omega))
 | some p =>
  obtain ⟨hpl, hpk⟩ := Wm.firstCs_some hfc
  have hpn : p < n := by rw [← hl.len]; exact hpl
  obtain ⟨b, off, rfl, hb, m0, m1⟩ := hl.at_ hpn
  rw [hfc] at hy ki
  simp only at hy ki
  have KI := Lib.hid ki
  have M0 := Lib.hid m0
  have M1 := Lib.hid m1
  have HBB := Lib.hid hb
  clear hpk hpl
  clear kb r hl hix hfc ki m0 m1 hb
  have hp0 : decide ((p : Int) < 0) = false := decide_eq_false (by omega)
  by_cases ha : h.age ≤ 2 * n
  ·rw [if_pos ha] at hy
   obtain rfl := hy
   have ga : decide (h.age ≤ 2 * (n : Int)) = true := decide_eq_true ha
   clear ha
   unfold Hb.val Fr.val
   simp only [Fr.none]
   go_enter Tryz.func129, Tryz.ntmps129
   go_wp2_with fail
   have q0 : Kit.Row (((w.alloc (.cells #[.int .i64 (h.ag 0), .int .i64 (h.ag 1), .int .i64 (h.ag 2), .int .i64 (h.ag 3), .int .i64 (h.ag 4), .int .i64 (h.ag 5), .int .i64 (h.ag 6), .int .i64 (h.ag 7), .int .i64 h.port, .int .i64 h.age, .int .i64 h.hold, .int .i64 h.pos] 28)).alloc (.cells #[.int .i64 0, .int .i64 0, .int .i64 0, .int .i64 0, .int .i64 0, .int .i64 0, .int .i64 0, .int .i64 0, .int .i64 0, .int .i64 0, .int .i64 0, .int .i64 0] 28)).alloc (.cells #[.int .i64 0, .int .i64 0] 45)) w.heap.size (ints (Wm.nums h)) := ((Kit.Row.new w _ _).alloc _).alloc _
   have q1 : Kit.Row (((w.alloc (.cells #[.int .i64 (h.ag 0), .int .i64 (h.ag 1), .int .i64 (h.ag 2), .int .i64 (h.ag 3), .int .i64 (h.ag 4), .int .i64 (h.ag 5), .int .i64 (h.ag 6), .int .i64 (h.ag 7), .int .i64 h.port, .int .i64 h.age, .int .i64 h.hold, .int .i64 h.pos] 28)).alloc (.cells #[.int .i64 0, .int .i64 0, .int .i64 0, .int .i64 0, .int .i64 0, .int .i64 0, .int .i64 0, .int .i64 0, .int .i64 0, .int .i64 0, .int .i64 0, .int .i64 0] 28)).alloc (.cells #[.int .i64 0, .int .i64 0] 45)) (w.heap.size + 1) (ints [0, 0, 0, 0, 0, 0, 0, 0, 0, 0, 0, 0]) := (Kit.Row.newAt _ _ _ _ (by simp)).alloc _
   have q2 : Kit.Row (((w.alloc (.cells #[.int .i64 (h.ag 0), .int .i64 (h.ag 1), .int .i64 (h.ag 2), .int .i64 (h.ag 3), .int .i64 (h.ag 4), .int .i64 (h.ag 5), .int .i64 (h.ag 6), .int .i64 (h.ag 7), .int .i64 h.port, .int .i64 h.age, .int .i64 h.hold, .int .i64 h.pos] 28)).alloc (.cells #[.int .i64 0, .int .i64 0, .int .i64 0, .int .i64 0, .int .i64 0, .int .i64 0, .int .i64 0, .int .i64 0, .int .i64 0, .int .i64 0, .int .i64 0, .int .i64 0] 28)).alloc (.cells #[.int .i64 0, .int .i64 0] 45)) (w.heap.size + 1 + 1) (ints [0, 0]) := Kit.Row.newAt _ _ _ _ (by simp)
   have qb : Below w.heap.size w (((w.alloc (.cells #[.int .i64 (h.ag 0), .int .i64 (h.ag 1), .int .i64 (h.ag 2), .int .i64 (h.ag 3), .int .i64 (h.ag 4), .int .i64 (h.ag 5), .int .i64 (h.ag 6), .int .i64 (h.ag 7), .int .i64 h.port, .int .i64 h.age, .int .i64 h.hold, .int .i64 h.pos] 28)).alloc (.cells #[.int .i64 0, .int .i64 0, .int .i64 0, .int .i64 0, .int .i64 0, .int .i64 0, .int .i64 0, .int .i64 0, .int .i64 0, .int .i64 0, .int .i64 0, .int .i64 0] 28)).alloc (.cells #[.int .i64 0, .int .i64 0] 45)) := Kit.alloc3 ..
   generalize ((w.alloc (.cells #[.int .i64 (h.ag 0), .int .i64 (h.ag 1), .int .i64 (h.ag 2), .int .i64 (h.ag 3), .int .i64 (h.ag 4), .int .i64 (h.ag 5), .int .i64 (h.ag 6), .int .i64 (h.ag 7), .int .i64 h.port, .int .i64 h.age, .int .i64 h.hold, .int .i64 h.pos] 28)).alloc (.cells #[.int .i64 0, .int .i64 0, .int .i64 0, .int .i64 0, .int .i64 0, .int .i64 0, .int .i64 0, .int .i64 0, .int .i64 0, .int .i64 0, .int .i64 0, .int .i64 0] 28)).alloc (.cells #[.int .i64 0, .int .i64 0] 45) = w2 at *
   refine (KI.out _ qb).mono ?_
   rintro e w3 ⟨rfl, b3⟩
   have R3 := Lib.hid (q0.below b3)
   have R3b := Lib.hid (q1.below b3)
   have R3c := Lib.hid (q2.below b3)
   have HB3 := Lib.hid (qb.trans (b3.mono qb.size))
   clear q0 q1 q2 qb b3
   have c9 := R3.out.at_ 9 (.int .i64 h.age) rfl
   go_wp2_with fail
   refine wp_region_held_drew (S := (fun w' => w'.cell? ⟨w.heap.size, 9, none⟩ = some (.int .i64 h.age))) (by kernel_rfl) ?_ (fun hHeld => ?_)
   ·go_keep
   refine Rgn.tk 0 rfl ?_
   try simp only [Act.put, Rgn.a, Rgn.b, Rgn.c]
   refine Rgn.tk 1 rfl ?_
   try simp only [Act.put, Rgn.a, Rgn.b, Rgn.c]
   refine Rgn.tk 2 rfl ?_
   try simp only [Act.put, Rgn.a, Rgn.b, Rgn.c]
   refine Rgn.tk 3 rfl ?_
   try simp only [Act.put, Rgn.a, Rgn.b, Rgn.c]
   refine Rgn.tk 4 rfl ?_
   try simp only [Act.put, Rgn.a, Rgn.b, Rgn.c]
   refine Rgn.tk 5 rfl ?_
   try simp only [Act.put, Rgn.a, Rgn.b, Rgn.c]
   refine Rgn.one 6 rfl (by kernel_rfl) (fun K hK => ?_)
   go_simp
   refine (KB.out _).mono ?_
   rintro e w4 ⟨rfl, b4⟩
   replace c9 := Kit.cell_below b4 c9
   have R4 := Lib.hid (R3.out.drew.below b4)
   have R4b := Lib.hid (R3b.out.drew.below b4)
   have R4c := Lib.hid (R3c.out.drew.below b4)
   have HB4 := Lib.hid (HB3.out.drew.trans (b4.mono HB3.out.drew.size))
   clear b4
   go_simp
   refine hK.out _ _ ?_ (fun hHeld => ?_)
   ·go_keep
   clear hK K
   try simp only [Act.put, Rgn.a, Rgn.b, Rgn.c]
   refine Rgn.tk 7 rfl ?_
   try simp only [Act.put, Rgn.a, Rgn.b, Rgn.c]
   refine Rgn.tk 8 rfl ?_
   try simp only [Act.put, Rgn.a, Rgn.b, Rgn.c]
   refine wpAnyH_done (by kernel_rfl) ?_ _
   clear c9
   have hlt := R4b.out.lt
   have hlt2 := R4c.out.lt
   have lb := R4.out.lt
   have d0 := R4.out.at_ 0 (.int .i64 (h.ag 0)) rfl
   have d1 := R4.out.at_ 1 (.int .i64 (h.ag 1)) rfl
   have d2 := R4.out.at_ 2 (.int .i64 (h.ag 2)) rfl
   have d3 := R4.out.at_ 3 (.int .i64 (h.ag 3)) rfl
   have d4 := R4.out.at_ 4 (.int .i64 (h.ag 4)) rfl
   have d5 := R4.out.at_ 5 (.int .i64 (h.ag 5)) rfl
   have d6 := R4.out.at_ 6 (.int .i64 (h.ag 6)) rfl
   have d7 := R4.out.at_ 7 (.int .i64 (h.ag 7)) rfl
   have d8 := R4.out.at_ 8 (.int .i64 h.port) rfl
   have d9 := R4.out.at_ 9 (.int .i64 h.age) rfl
   have d10 := R4.out.at_ 10 (.int .i64 h.hold) rfl
   have d11 := R4.out.at_ 11 (.int .i64 h.pos) rfl
   have g0 := R4b.out.at_ 0 (.int .i64 0) rfl
   have g1 := R4b.out.at_ 1 (.int .i64 0) rfl
   have g2 := R4b.out.at_ 2 (.int .i64 0) rfl
   have g3 := R4b.out.at_ 3 (.int .i64 0) rfl
   have g4 := R4b.out.at_ 4 (.int .i64 0) rfl
   have g5 := R4b.out.at_ 5 (.int .i64 0) rfl
   have g6 := R4b.out.at_ 6 (.int .i64 0) rfl
   have g7 := R4b.out.at_ 7 (.int .i64 0) rfl
   have g8 := R4b.out.at_ 8 (.int .i64 0) rfl
   have g9 := R4b.out.at_ 9 (.int .i64 0) rfl
   have g10 := R4b.out.at_ 10 (.int .i64 0) rfl
   have g11 := R4b.out.at_ 11 (.int .i64 0) rfl
   have ff0 := R4b.out.free 0 (by simp [ints])
   have ff1 := R4b.out.free 1 (by simp [ints])
   have ff2 := R4b.out.free 2 (by simp [ints])
   have ff3 := R4b.out.free 3 (by simp [ints])
   have ff4 := R4b.out.free 4 (by simp [ints])
   have ff5 := R4b.out.free 5 (by simp [ints])
   have ff6 := R4b.out.free 6 (by simp [ints])
   have ff7 := R4b.out.free 7 (by simp [ints])
   have ff8 := R4b.out.free 8 (by simp [ints])
   have ff9 := R4b.out.free 9 (by simp [ints])
   have ff10 := R4b.out.free 10 (by simp [ints])
   have ff11 := R4b.out.free 11 (by simp [ints])
   have y0 := R4c.out.at_ 0 (.int .i64 0) rfl
   have y1 := R4c.out.at_ 1 (.int .i64 0) rfl
   have z0 := R4c.out.free 0 (by simp [ints])
   have z1 := R4c.out.free 1 (by simp [ints])
   go_wp2_with fail
   have r8 := ((((((((((((((R4b.out.set 0 (.int .i64 (h.ag 0)) (by simp [ints])).set 1 (.int .i64 (h.ag 1)) (by simp [ints])).set 2 (.int .i64 (h.ag 2)) (by simp [ints])).set 3 (.int .i64 (h.ag 3)) (by simp [ints])).set 4 (.int .i64 (h.ag 4)) (by simp [ints])).set 5 (.int .i64 (h.ag 5)) (by simp [ints])).set 6 (.int .i64 (h.ag 6)) (by simp [ints])).set 7 (.int .i64 (h.ag 7)) (by simp [ints])).set 8 (.int .i64 h.port) (by simp [ints])).set 9 (.int .i64 h.age) (by simp [ints])).set 10 (.int .i64 h.hold) (by simp [ints])).set 11 (.int .i64 h.pos) (by simp [ints]))).far (w.heap.size + 1 + 1) 0 (.int .i64 (0)) (by omega)).far (w.heap.size + 1 + 1) 1 (.int .i64 (0)) (by omega)
   have r9 := (((((((((((((R4c.out.far (w.heap.size + 1) 0 (.int .i64 (h.ag 0)) (by omega)).far (w.heap.size + 1) 1 (.int .i64 (h.ag 1)) (by omega)).far (w.heap.size + 1) 2 (.int .i64 (h.ag 2)) (by omega)).far (w.heap.size + 1) 3 (.int .i64 (h.ag 3)) (by omega)).far (w.heap.size + 1) 4 (.int .i64 (h.ag 4)) (by omega)).far (w.heap.size + 1) 5 (.int .i64 (h.ag 5)) (by omega)).far (w.heap.size + 1) 6 (.int .i64 (h.ag 6)) (by omega)).far (w.heap.size + 1) 7 (.int .i64 (h.ag 7)) (by omega)).far (w.heap.size + 1) 8 (.int .i64 h.port) (by omega)).far (w.heap.size + 1) 9 (.int .i64 h.age) (by omega)).far (w.heap.size + 1) 10 (.int .i64 h.hold) (by omega)).far (w.heap.size + 1) 11 (.int .i64 h.pos) (by omega)).set 0 (.int .i64 (0)) (by simp [ints])).set 1 (.int .i64 (0)) (by simp [ints])
   have k0 := r8.at_ 0 (.int .i64 (h.ag 0)) rfl
   have k1 := r8.at_ 1 (.int .i64 (h.ag 1)) rfl
   have k2 := r8.at_ 2 (.int .i64 (h.ag 2)) rfl
   have k3 := r8.at_ 3 (.int .i64 (h.ag 3)) rfl
   have k4 := r8.at_ 4 (.int .i64 (h.ag 4)) rfl
   have k5 := r8.at_ 5 (.int .i64 (h.ag 5)) rfl
   have k6 := r8.at_ 6 (.int .i64 (h.ag 6)) rfl
   have k7 := r8.at_ 7 (.int .i64 (h.ag 7)) rfl
   have k8 := r8.at_ 8 (.int .i64 h.port) rfl
   have k9 := r8.at_ 9 (.int .i64 h.age) rfl
   have k10 := r8.at_ 10 (.int .i64 h.hold) rfl
   have k11 := r8.at_ 11 (.int .i64 h.pos) rfl
   have j0 := r9.at_ 0 (.int .i64 (0)) rfl
   have j1 := r9.at_ 1 (.int .i64 (0)) rfl
   clear r8 r9
   refine bodyPost_ret (v := .tuple #[.agg #[.int .i64 (h.ag 0), .int .i64 (h.ag 1), .int .i64 (h.ag 2), .int .i64 (h.ag 3), .int .i64 (h.ag 4), .int .i64 (h.ag 5), .int .i64 (h.ag 6), .int .i64 (h.ag 7), .int .i64 h.port, .int .i64 h.age, .int .i64 h.hold, .int .i64 h.pos], .agg #[.int .i64 0, .int .i64 0]]) (by simp [results, Tryz.results129, go_sem, k0, k1, k2, k3, k4, k5, k6, k7, k8, k9, k10, k11, j0, j1, hlt, hlt2]) rfl ⟨rfl, ?_⟩
   repeat' (first | (with_reducible exact HB4.out) | (with_reducible refine Below.setCell ?_ ?_ _) | (with_reducible refine Below.alloc ?_ ?_ _) | (with_reducible refine Below.drew ?_))
   all_goals (first | omega | (simp; done) | (simp; omega))
  ·rw [if_neg ha] at hy
   obtain rfl := hy
   have ga : decide (h.age ≤ 2 * (n : Int)) = false := decide_eq_false ha
   clear ha
   have hnag : ∀ q, (⟨Wm.eight fun i => if i < n then (n : Int) else h.ag i, p, 0, h.hold, h.pos⟩ : Hb).ag q = (⟨Wm.eight fun i => if i < n then (n : Int) else h.ag i, h.port, h.age, h.hold, h.pos⟩ : Hb).ag q := fun _ => rfl
   generalize hf : frAt l p = f at *
   obtain ⟨fk, fi⟩ := f
   have H8 := Lib.hid h8
   have HNAG := Lib.hid hnag
   clear hf hnag
   change Calls Tryz.prog 129 #[.int .i64 n, .agg #[.int .i64 (h.ag 0), .int .i64 (h.ag 1), .int .i64 (h.ag 2), .int .i64 (h.ag 3), .int .i64 (h.ag 4), .int .i64 (h.ag 5), .int .i64 (h.ag 6), .int .i64 (h.ag 7), .int .i64 h.port, .int .i64 h.age, .int .i64 h.hold, .int .i64 h.pos], .slice (some ⟨b, off, none⟩) n cap] w fun e w' => e = .returned (.tuple #[.agg #[.int .i64 ((⟨Wm.eight fun i => if i < n then (n : Int) else h.ag i, h.port, h.age, h.hold, h.pos⟩ : Hb).ag 0), .int .i64 ((⟨Wm.eight fun i => if i < n then (n : Int) else h.ag i, h.port, h.age, h.hold, h.pos⟩ : Hb).ag 1), .int .i64 ((⟨Wm.eight fun i => if i < n then (n : Int) else h.ag i, h.port, h.age, h.hold, h.pos⟩ : Hb).ag 2), .int .i64 ((⟨Wm.eight fun i => if i < n then (n : Int) else h.ag i, h.port, h.age, h.hold, h.pos⟩ : Hb).ag 3), .int .i64 ((⟨Wm.eight fun i => if i < n then (n : Int) else h.ag i, h.port, h.age, h.hold, h.pos⟩ : Hb).ag 4), .int .i64 ((⟨Wm.eight fun i => if i < n then (n : Int) else h.ag i, h.port, h.age, h.hold, h.pos⟩ : Hb).ag 5), .int .i64 ((⟨Wm.eight fun i => if i < n then (n : Int) else h.ag i, h.port, h.age, h.hold, h.pos⟩ : Hb).ag 6), .int .i64 ((⟨Wm.eight fun i => if i < n then (n : Int) else h.ag i, h.port, h.age, h.hold, h.pos⟩ : Hb).ag 7), .int .i64 ((p : Int)), .int .i64 0, .int .i64 h.hold, .int .i64 h.pos], .agg #[.int .i64 fk, .int .i64 fi]]) ∧ Below w.heap.size w w'
   generalize hm0 : (⟨Wm.eight fun i => if i < n then (n : Int) else h.ag i, h.port, h.age, h.hold, h.pos⟩ : Hb).ag 0 = m0
   have HM0 := Lib.hid hm0
   clear hm0
   generalize hm1 : (⟨Wm.eight fun i => if i < n then (n : Int) else h.ag i, h.port, h.age, h.hold, h.pos⟩ : Hb).ag 1 = m1
   have HM1 := Lib.hid hm1
   clear hm1
   generalize hm2 : (⟨Wm.eight fun i => if i < n then (n : Int) else h.ag i, h.port, h.age, h.hold, h.pos⟩ : Hb).ag 2 = m2
   have HM2 := Lib.hid hm2
   clear hm2
   generalize hm3 : (⟨Wm.eight fun i => if i < n then (n : Int) else h.ag i, h.port, h.age, h.hold, h.pos⟩ : Hb).ag 3 = m3
   have HM3 := Lib.hid hm3
   clear hm3
   generalize hm4 : (⟨Wm.eight fun i => if i < n then (n : Int) else h.ag i, h.port, h.age, h.hold, h.pos⟩ : Hb).ag 4 = m4
   have HM4 := Lib.hid hm4
   clear hm4
   generalize hm5 : (⟨Wm.eight fun i => if i < n then (n : Int) else h.ag i, h.port, h.age, h.hold, h.pos⟩ : Hb).ag 5 = m5
   have HM5 := Lib.hid hm5
   clear hm5
   generalize hm6 : (⟨Wm.eight fun i => if i < n then (n : Int) else h.ag i, h.port, h.age, h.hold, h.pos⟩ : Hb).ag 6 = m6
   have HM6 := Lib.hid hm6
   clear hm6
   generalize hm7 : (⟨Wm.eight fun i => if i < n then (n : Int) else h.ag i, h.port, h.age, h.hold, h.pos⟩ : Hb).ag 7 = m7
   have HM7 := Lib.hid hm7
   clear hm7
   skip
   skip
   go_enter Tryz.func129, Tryz.ntmps129
   go_wp2_with fail
   have q0 : Kit.Row (((w.alloc (.cells #[.int .i64 (h.ag 0), .int .i64 (h.ag 1), .int .i64 (h.ag 2), .int .i64 (h.ag 3), .int .i64 (h.ag 4), .int .i64 (h.ag 5), .int .i64 (h.ag 6), .int .i64 (h.ag 7), .int .i64 h.port, .int .i64 h.age, .int .i64 h.hold, .int .i64 h.pos] 28)).alloc (.cells #[.int .i64 0, .int .i64 0, .int .i64 0, .int .i64 0, .int .i64 0, .int .i64 0, .int .i64 0, .int .i64 0, .int .i64 0, .int .i64 0, .int .i64 0, .int .i64 0] 28)).alloc (.cells #[.int .i64 0, .int .i64 0] 45)) w.heap.size (ints (Wm.nums h)) := ((Kit.Row.new w _ _).alloc _).alloc _
   have q1 : Kit.Row (((w.alloc (.cells #[.int .i64 (h.ag 0), .int .i64 (h.ag 1), .int .i64 (h.ag 2), .int .i64 (h.ag 3), .int .i64 (h.ag 4), .int .i64 (h.ag 5), .int .i64 (h.ag 6), .int .i64 (h.ag 7), .int .i64 h.port, .int .i64 h.age, .int .i64 h.hold, .int .i64 h.pos] 28)).alloc (.cells #[.int .i64 0, .int .i64 0, .int .i64 0, .int .i64 0, .int .i64 0, .int .i64 0, .int .i64 0, .int .i64 0, .int .i64 0, .int .i64 0, .int .i64 0, .int .i64 0] 28)).alloc (.cells #[.int .i64 0, .int .i64 0] 45)) (w.heap.size + 1) (ints [0, 0, 0, 0, 0, 0, 0, 0, 0, 0, 0, 0]) := (Kit.Row.newAt _ _ _ _ (by simp)).alloc _
   have q2 : Kit.Row (((w.alloc (.cells #[.int .i64 (h.ag 0), .int .i64 (h.ag 1), .int .i64 (h.ag 2), .int .i64 (h.ag 3), .int .i64 (h.ag 4), .int .i64 (h.ag 5), .int .i64 (h.ag 6), .int .i64 (h.ag 7), .int .i64 h.port, .int .i64 h.age, .int .i64 h.hold, .int .i64 h.pos] 28)).alloc (.cells #[.int .i64 0, .int .i64 0, .int .i64 0, .int .i64 0, .int .i64 0, .int .i64 0, .int .i64 0, .int .i64 0, .int .i64 0, .int .i64 0, .int .i64 0, .int .i64 0] 28)).alloc (.cells #[.int .i64 0, .int .i64 0] 45)) (w.heap.size + 1 + 1) (ints [0, 0]) := Kit.Row.newAt _ _ _ _ (by simp)
   have qb : Below w.heap.size w (((w.alloc (.cells #[.int .i64 (h.ag 0), .int .i64 (h.ag 1), .int .i64 (h.ag 2), .int .i64 (h.ag 3), .int .i64 (h.ag 4), .int .i64 (h.ag 5), .int .i64 (h.ag 6), .int .i64 (h.ag 7), .int .i64 h.port, .int .i64 h.age, .int .i64 h.hold, .int .i64 h.pos] 28)).alloc (.cells #[.int .i64 0, .int .i64 0, .int .i64 0, .int .i64 0, .int .i64 0, .int .i64 0, .int .i64 0, .int .i64 0, .int .i64 0, .int .i64 0, .int .i64 0, .int .i64 0] 28)).alloc (.cells #[.int .i64 0, .int .i64 0] 45)) := Kit.alloc3 ..
   generalize ((w.alloc (.cells #[.int .i64 (h.ag 0), .int .i64 (h.ag 1), .int .i64 (h.ag 2), .int .i64 (h.ag 3), .int .i64 (h.ag 4), .int .i64 (h.ag 5), .int .i64 (h.ag 6), .int .i64 (h.ag 7), .int .i64 h.port, .int .i64 h.age, .int .i64 h.hold, .int .i64 h.pos] 28)).alloc (.cells #[.int .i64 0, .int .i64 0, .int .i64 0, .int .i64 0, .int .i64 0, .int .i64 0, .int .i64 0, .int .i64 0, .int .i64 0, .int .i64 0, .int .i64 0, .int .i64 0] 28)).alloc (.cells #[.int .i64 0, .int .i64 0] 45) = w2 at *
   refine (KI.out _ qb).mono ?_
   rintro e w3 ⟨rfl, b3⟩
   have R3 := Lib.hid (q0.below b3)
   have R3b := Lib.hid (q1.below b3)
   have R3c := Lib.hid (q2.below b3)
   have HB3 := Lib.hid (qb.trans (b3.mono qb.size))
   clear q0 q1 q2 qb b3
   have c9 := R3.out.at_ 9 (.int .i64 h.age) rfl
   go_wp2_with fail
   refine wp_region_held_drew (S := (fun w' => w'.cell? ⟨w.heap.size, 9, none⟩ = some (.int .i64 h.age))) (by kernel_rfl) ?_ (fun hHeld => ?_)
   ·go_keep
   refine Rgn.tk 0 rfl ?_
   try simp only [Act.put, Rgn.a, Rgn.b, Rgn.c]
   refine Rgn.tk 1 rfl ?_
   try simp only [Act.put, Rgn.a, Rgn.b, Rgn.c]
   refine Rgn.tk 2 rfl ?_
   try simp only [Act.put, Rgn.a, Rgn.b, Rgn.c]
   refine Rgn.tk 3 rfl ?_
   try simp only [Act.put, Rgn.a, Rgn.b, Rgn.c]
   refine Rgn.tk 4 rfl ?_
   try simp only [Act.put, Rgn.a, Rgn.b, Rgn.c]
   refine Rgn.tk 5 rfl ?_
   try simp only [Act.put, Rgn.a, Rgn.b, Rgn.c]
   refine Rgn.one 6 rfl (by kernel_rfl) (fun K hK => ?_)
   go_simp
   refine (KB.out _).mono ?_
   rintro e w4 ⟨rfl, b4⟩
   replace c9 := Kit.cell_below b4 c9
   have R4 := Lib.hid (R3.out.drew.below b4)
   have R4b := Lib.hid (R3b.out.drew.below b4)
   have R4c := Lib.hid (R3c.out.drew.below b4)
   have HB4 := Lib.hid (HB3.out.drew.trans (b4.mono HB3.out.drew.size))
   clear b4
   go_simp
   refine hK.out _ _ ?_ (fun hHeld => ?_)
   ·go_keep
   clear hK K
   try simp only [Act.put, Rgn.a, Rgn.b, Rgn.c]
   refine Rgn.tk 7 rfl ?_
   try simp only [Act.put, Rgn.a, Rgn.b, Rgn.c]
   refine Rgn.tk 8 rfl ?_
   try simp only [Act.put, Rgn.a, Rgn.b, Rgn.c]
   refine wpAnyH_done (by kernel_rfl) ?_ _
   clear c9
   have R0 := R4.out
   go_wp2_with fail
   go_loopw [9, 24] (fun _ vi wr => ∃ k : Nat, k ≤ n ∧ vi = .int .i64 k ∧ Kit.Row wr w.heap.size (ints (fl n h k)) ∧ Hid (Kit.Row wr (w.heap.size + 1) (ints [0, 0, 0, 0, 0, 0, 0, 0, 0, 0, 0, 0])) ∧ Hid (Kit.Row wr (w.heap.size + 1 + 1) (ints [0, 0])) ∧ Hid (Below w.heap.size w wr)) (fun _ vi _ => n - (intOf vi).toNat)
   case atStart => exact ⟨0, by omega, rfl, R0, R4b, R4c, HB4⟩
   case round =>
    clear R0 R4 R4b R4c HB4 R3 R3b R3c HB3
    obtain ⟨k, hk, rfl, R0, R1, R2, HB⟩ := hrel
    by_cases hlt : k < n
    ·have ck := R0.at_ _ _ (ints_at (fl n h k) k (by rw [fl_len]; omega))
     have fk' := R0.free k (by rw [ints_len, fl_len]; omega)
     have lb := R0.lt
     have RS := Lib.hid ((R0.set k (.int .i64 n) (by rw [ints_len, fl_len]; omega)).cast (ints_set (fl n h k) k n))
     have RS1 := Lib.hid (R1.out.far w.heap.size k (.int .i64 n) (by omega))
     have RS2 := Lib.hid (R2.out.far w.heap.size k (.int .i64 n) (by omega))
     have HBS := Lib.hid (HB.out.setCell (p := ⟨w.heap.size, k, none⟩) (Nat.le_refl _) (.int .i64 n))
     clear R0 R1 R2 HB
     generalize (fl n h k).getD k 0 = z at ck
     go_wp2_with fail
     go_roundw
     case rel => exact ⟨k + 1, by omega, by go_num, RS.out, RS1, RS2, HBS⟩
     case measure => simp [intOf]; omega
    ·obtain rfl : k = n := by omega
     rw [fl_nums k h H8.out] at R0
     unfold Wm.nums at R0
     simp only at R0
     rw [HM0.out, HM1.out, HM2.out, HM3.out, HM4.out, HM5.out, HM6.out, HM7.out] at R0
     clear HM0 HM1 HM2 HM3 HM4 HM5 HM6 HM7
     have g8 := R0.at_ 8 (.int .i64 h.port) rfl
     have g9 := R0.at_ 9 (.int .i64 h.age) rfl
     have f8 := R0.free 8 (by simp [ints])
     have f9 := R0.free 9 (by simp [ints])
     have r7 := (R0.set 8 (.int .i64 (p : Int)) (by simp [ints])).set 9 (.int .i64 0) (by simp [ints])
     have R7b := Lib.hid ((R1.out.far w.heap.size 8 (.int .i64 (p : Int)) (by omega)).far w.heap.size 9 (.int .i64 0) (by omega))
     have R7c := Lib.hid ((R2.out.far w.heap.size 8 (.int .i64 (p : Int)) (by omega)).far w.heap.size 9 (.int .i64 0) (by omega))
     have HB7 := Lib.hid ((HB.out.setCell (p := ⟨w.heap.size, 8, none⟩) (Nat.le_refl _) (.int .i64 (p : Int))).setCell (p := ⟨w.heap.size, 9, none⟩) (Nat.le_refl _) (.int .i64 0))
     have R7 := Lib.hid r7
     have lb0 := R0.lt
     have lbb := Nat.lt_trans HBB.out lb0
     clear r7 R0
     go_wp2_with fail
     clear g8 g9 f8 f9
     generalize (wr.setCell ⟨w.heap.size, 8, none⟩ (.int .i64 (p : Int))).setCell ⟨w.heap.size, 9, none⟩ (.int .i64 0) = w7 at *
     have x0 := (HB7.out.cell (p := ⟨b, off + p * 2, none⟩) HBB.out).trans M0.out
     have x1 := (HB7.out.cell (p := ⟨b, off + p * 2 + 1, none⟩) HBB.out).trans M1.out
     have hlt := R7b.out.lt
     have hlt2 := R7c.out.lt
     have lb := R7.out.lt
     have d0 := R7.out.at_ 0 (.int .i64 m0) rfl
     have d1 := R7.out.at_ 1 (.int .i64 m1) rfl
     have d2 := R7.out.at_ 2 (.int .i64 m2) rfl
     have d3 := R7.out.at_ 3 (.int .i64 m3) rfl
     have d4 := R7.out.at_ 4 (.int .i64 m4) rfl
     have d5 := R7.out.at_ 5 (.int .i64 m5) rfl
     have d6 := R7.out.at_ 6 (.int .i64 m6) rfl
     have d7 := R7.out.at_ 7 (.int .i64 m7) rfl
     have d8 := R7.out.at_ 8 (.int .i64 ((p : Int))) rfl
     have d9 := R7.out.at_ 9 (.int .i64 0) rfl
     have d10 := R7.out.at_ 10 (.int .i64 h.hold) rfl
     have d11 := R7.out.at_ 11 (.int .i64 h.pos) rfl
     have g0 := R7b.out.at_ 0 (.int .i64 0) rfl
     have g1 := R7b.out.at_ 1 (.int .i64 0) rfl
     have g2 := R7b.out.at_ 2 (.int .i64 0) rfl
     have g3 := R7b.out.at_ 3 (.int .i64 0) rfl
     have g4 := R7b.out.at_ 4 (.int .i64 0) rfl
     have g5 := R7b.out.at_ 5 (.int .i64 0) rfl
     have g6 := R7b.out.at_ 6 (.int .i64 0) rfl
     have g7 := R7b.out.at_ 7 (.int .i64 0) rfl
     have g8 := R7b.out.at_ 8 (.int .i64 0) rfl
     have g9 := R7b.out.at_ 9 (.int .i64 0) rfl
     have g10 := R7b.out.at_ 10 (.int .i64 0) rfl
     have g11 := R7b.out.at_ 11 (.int .i64 0) rfl
     have ff0 := R7b.out.free 0 (by simp [ints])
     have ff1 := R7b.out.free 1 (by simp [ints])
     have ff2 := R7b.out.free 2 (by simp [ints])
     have ff3 := R7b.out.free 3 (by simp [ints])
     have ff4 := R7b.out.free 4 (by simp [ints])
     have ff5 := R7b.out.free 5 (by simp [ints])
     have ff6 := R7b.out.free 6 (by simp [ints])
     have ff7 := R7b.out.free 7 (by simp [ints])
     have ff8 := R7b.out.free 8 (by simp [ints])
     have ff9 := R7b.out.free 9 (by simp [ints])
     have ff10 := R7b.out.free 10 (by simp [ints])
     have ff11 := R7b.out.free 11 (by simp [ints])
     have y0 := R7c.out.at_ 0 (.int .i64 0) rfl
     have y1 := R7c.out.at_ 1 (.int .i64 0) rfl
     have z0 := R7c.out.free 0 (by simp [ints])
     have z1 := R7c.out.free 1 (by simp [ints])
     have hbl := HBB.out
     have n5 : ¬ w.heap.size + 1 + 1 = w.heap.size := by omega
     have n6 : ¬ w.heap.size + 1 = w.heap.size := by omega
     have n1 : ¬ b = w.heap.size + 1 := by omega
     have n2 : ¬ b = w.heap.size + 1 + 1 := by omega
     have n3 : ¬ w.heap.size + 1 = b := by omega
     have n4 : ¬ w.heap.size + 1 + 1 = b := by omega
     try simp only at x0 x1
     go_region_held3 (fun w' => (w'.cell? ⟨w.heap.size, 0, none⟩ = some (.int .i64 m0) ∧ w'.cell? ⟨w.heap.size, 1, none⟩ = some (.int .i64 m1) ∧ w'.cell? ⟨w.heap.size, 2, none⟩ = some (.int .i64 m2) ∧ w'.cell? ⟨w.heap.size, 3, none⟩ = some (.int .i64 m3) ∧ w'.cell? ⟨w.heap.size, 4, none⟩ = some (.int .i64 m4) ∧ w'.cell? ⟨w.heap.size, 5, none⟩ = some (.int .i64 m5) ∧ w'.cell? ⟨w.heap.size, 6, none⟩ = some (.int .i64 m6) ∧ w'.cell? ⟨w.heap.size, 7, none⟩ = some (.int .i64 m7) ∧ w'.cell? ⟨w.heap.size, 8, none⟩ = some (.int .i64 ((p : Int))) ∧ w'.cell? ⟨w.heap.size, 9, none⟩ = some (.int .i64 0) ∧ w'.cell? ⟨w.heap.size, 10, none⟩ = some (.int .i64 h.hold) ∧ w'.cell? ⟨w.heap.size, 11, none⟩ = some (.int .i64 h.pos)) ∧ w'.cell? ⟨b, off + p * 2, none⟩ = some (.int .i64 fk) ∧ w'.cell? ⟨b, off + p * 2 + 1, none⟩ = some (.int .i64 fi)) (go_keep) (fail)
     all_goals
      go_wp2_with fail
      have r8 := ((((((((((((((R7b.out.set 0 (.int .i64 m0) (by simp [ints])).set 1 (.int .i64 m1) (by simp [ints])).set 2 (.int .i64 m2) (by simp [ints])).set 3 (.int .i64 m3) (by simp [ints])).set 4 (.int .i64 m4) (by simp [ints])).set 5 (.int .i64 m5) (by simp [ints])).set 6 (.int .i64 m6) (by simp [ints])).set 7 (.int .i64 m7) (by simp [ints])).set 8 (.int .i64 ((p : Int))) (by simp [ints])).set 9 (.int .i64 0) (by simp [ints])).set 10 (.int .i64 h.hold) (by simp [ints])).set 11 (.int .i64 h.pos) (by simp [ints]))).far (w.heap.size + 1 + 1) 0 (.int .i64 (fk)) (by omega)).far (w.heap.size + 1 + 1) 1 (.int .i64 (fi)) (by omega)
      have r9 := (((((((((((((R7c.out.far (w.heap.size + 1) 0 (.int .i64 m0) (by omega)).far (w.heap.size + 1) 1 (.int .i64 m1) (by omega)).far (w.heap.size + 1) 2 (.int .i64 m2) (by omega)).far (w.heap.size + 1) 3 (.int .i64 m3) (by omega)).far (w.heap.size + 1) 4 (.int .i64 m4) (by omega)).far (w.heap.size + 1) 5 (.int .i64 m5) (by omega)).far (w.heap.size + 1) 6 (.int .i64 m6) (by omega)).far (w.heap.size + 1) 7 (.int .i64 m7) (by omega)).far (w.heap.size + 1) 8 (.int .i64 ((p : Int))) (by omega)).far (w.heap.size + 1) 9 (.int .i64 0) (by omega)).far (w.heap.size + 1) 10 (.int .i64 h.hold) (by omega)).far (w.heap.size + 1) 11 (.int .i64 h.pos) (by omega)).set 0 (.int .i64 (fk)) (by simp [ints])).set 1 (.int .i64 (fi)) (by simp [ints])
      have k0 := r8.at_ 0 (.int .i64 m0) rfl
      have k1 := r8.at_ 1 (.int .i64 m1) rfl
      have k2 := r8.at_ 2 (.int .i64 m2) rfl
      have k3 := r8.at_ 3 (.int .i64 m3) rfl
      have k4 := r8.at_ 4 (.int .i64 m4) rfl
      have k5 := r8.at_ 5 (.int .i64 m5) rfl
      have k6 := r8.at_ 6 (.int .i64 m6) rfl
      have k7 := r8.at_ 7 (.int .i64 m7) rfl
      have k8 := r8.at_ 8 (.int .i64 ((p : Int))) rfl
      have k9 := r8.at_ 9 (.int .i64 0) rfl
      have k10 := r8.at_ 10 (.int .i64 h.hold) rfl
      have k11 := r8.at_ 11 (.int .i64 h.pos) rfl
      have j0 := r9.at_ 0 (.int .i64 (fk)) rfl
      have j1 := r9.at_ 1 (.int .i64 (fi)) rfl
      clear r8 r9
      refine bodyPost_ret (v := .tuple #[.agg #[.int .i64 m0, .int .i64 m1, .int .i64 m2, .int .i64 m3, .int .i64 m4, .int .i64 m5, .int .i64 m6, .int .i64 m7, .int .i64 ((p : Int)), .int .i64 0, .int .i64 h.hold, .int .i64 h.pos], .agg #[.int .i64 fk, .int .i64 fi]]) (by simp [results, Tryz.results129, go_sem, k0, k1, k2, k3, k4, k5, k6, k7, k8, k9, k10, k11, j0, j1, hlt, hlt2]) rfl ⟨rfl, ?_⟩
      repeat' (first | (with_reducible exact HB7.out) | (with_reducible refine Below.setCell ?_ ?_ _) | (with_reducible refine Below.alloc ?_ ?_ _) | (with_reducible refine Below.drew ?_))
      all_goals (first | omega | (simp; done) | (simp; omega))
end Gate
end Go.Proofs.YtgiojagdmglinaaGreatDoor
