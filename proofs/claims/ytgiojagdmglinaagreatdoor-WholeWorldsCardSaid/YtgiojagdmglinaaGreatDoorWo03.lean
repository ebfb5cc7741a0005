/-
  Part 3 of a merged text.
-/
import Derived.Test.YtgiojagdmglinaaGreatDoorWo02
set_option linter.unusedVariables false
set_option linter.unusedSimpArgs false
set_option maxRecDepth 100000
namespace Go.Proofs.YtgiojagdmglinaaGreatDoor
open Go Go.RowKit
namespace Rf
theorem hub_at (h : Hb) (p : Nat) (hp : p < 8) : ([.int .i64 (h.ag 0), .int .i64 (h.ag 1), .int .i64 (h.ag 2), .int .i64 (h.ag 3), .int .i64 (h.ag 4), .int .i64 (h.ag 5), .int .i64 (h.ag 6), .int .i64 (h.ag 7), .int .i64 h.port, .int .i64 h.age, .int .i64 h.hold, .int .i64 h.pos] : List Value)[p]? = some (.int .i64 (h.ag p)) := by
 have e : p = 0 ∨ p = 1 ∨ p = 2 ∨ p = 3 ∨ p = 4 ∨ p = 5 ∨ p = 6 ∨ p = 7 := by omega
 rcases e with rfl | rfl | rfl | rfl | rfl | rfl | rfl | rfl <;> rfl
set_option maxHeartbeats 1000000 in
theorem r11_calls (n : Nat) (h : Hb) (w : World) (h3 : 3 ≤ n) (h8 : n ≤ 8) (hr : Wm.Right n h) :
  Calls Tryz.prog 43 #[.int .i64 (n : Int), .agg #[.int .i64 (h.ag 0), .int .i64 (h.ag 1), .int .i64 (h.ag 2), .int .i64 (h.ag 3), .int .i64 (h.ag 4), .int .i64 (h.ag 5), .int .i64 (h.ag 6), .int .i64 (h.ag 7), .int .i64 h.port, .int .i64 h.age, .int .i64 h.hold, .int .i64 h.pos]] w fun e w' => e = .returned (.bool true) ∧ Below w.heap.size w w' := by
 have k := fun W => r03_calls (n : Int) W (by omega) (by omega)
 have KR := Lib.hid k
 have kb := fun W => block_calls (n : Int) W (by omega) (by omega)
 have KB := Lib.hid kb
 have ki := fun c m W (h0 : 0 ≤ c) (h1 : c ≤ m) => in_calls c m W h0 h1
 have KI := Lib.hid ki
 have HR := Lib.hid hr
 clear k kb ki hr
 go_enter Tryz.func43, Tryz.ntmps43
 go_upto_region 1 with fail
 have RH := Lib.hid (Kit.Row.newAt w #[.int .i64 (h.ag 0), .int .i64 (h.ag 1), .int .i64 (h.ag 2), .int .i64 (h.ag 3), .int .i64 (h.ag 4), .int .i64 (h.ag 5), .int .i64 (h.ag 6), .int .i64 (h.ag 7), .int .i64 h.port, .int .i64 h.age, .int .i64 h.hold, .int .i64 h.pos] 28 w.heap.size rfl)
 have HB := Lib.hid ((Below.refl w.heap.size w).alloc (Nat.le_refl _) (.cells #[.int .i64 (h.ag 0), .int .i64 (h.ag 1), .int .i64 (h.ag 2), .int .i64 (h.ag 3), .int .i64 (h.ag 4), .int .i64 (h.ag 5), .int .i64 (h.ag 6), .int .i64 (h.ag 7), .int .i64 h.port, .int .i64 h.age, .int .i64 h.hold, .int .i64 h.pos] 28))
 generalize w.alloc (.cells #[.int .i64 (h.ag 0), .int .i64 (h.ag 1), .int .i64 (h.ag 2), .int .i64 (h.ag 3), .int .i64 (h.ag 4), .int .i64 (h.ag 5), .int .i64 (h.ag 6), .int .i64 (h.ag 7), .int .i64 h.port, .int .i64 h.age, .int .i64 h.hold, .int .i64 h.pos] 28) = w1 at *
 go_wp2_with fail
 refine (KR.out _).mono ?_
 rintro e w' ⟨rfl, rfl⟩
 go_wp2_with fail
 go_loopw [5] (fun vi wr => ∃ p : Nat, p ≤ 8 ∧ vi = .int .i64 (p : Int) ∧ wr = w1) (fun vi _ => 8 - (intOf vi).toNat)
 case atStart => exact ⟨0, by omega, rfl, rfl⟩
 case round =>
  obtain ⟨p, hp, rfl, rfl⟩ := hrel
  by_cases hlt : p < 8
  ·have gp : decide ((p : Int) < 8) = true := decide_eq_true (by omega)
   have m0 := RH.out.at_ p _ (hub_at h p hlt)
   by_cases hn : p < n
   ·have gn : decide ((p : Int) < (n : Int)) = true := decide_eq_true (by omega)
    have ge : decide ((p : Int) ≥ (n : Int)) = false := decide_eq_false (by omega)
    have hb := HR.out.ag p hn
    generalize h.ag p = a at *
    have HBB := Lib.hid hb
    clear hb
    go_wp2_with fail
    refine (KI.out a (n : Int) _ HBB.out.1 HBB.out.2).mono ?_
    rintro e w' ⟨rfl, rfl⟩
    go_wp2_with fail
    go_roundw
    case rel => exact ⟨p + 1, by omega, by go_num, by first | rfl | trivial⟩
    case measure => simp [intOf]; omega
   ·have gn : decide ((p : Int) < (n : Int)) = false := decide_eq_false (by omega)
    have ge : decide ((p : Int) ≥ (n : Int)) = true := decide_eq_true (by omega)
    rw [HR.out.no p (by omega)] at m0
    go_wp2_with fail
    go_roundw
    case rel => exact ⟨p + 1, by omega, by go_num, by first | rfl | trivial⟩
    case measure => simp [intOf]; omega
  ·have gp : decide ((p : Int) < 8) = false := decide_eq_false (by omega)
   have c8 := RH.out.at_ 8 (.int .i64 h.port) rfl
   have c9 := RH.out.at_ 9 (.int .i64 h.age) rfl
   have c10 := RH.out.at_ 10 (.int .i64 h.hold) rfl
   have c11 := RH.out.at_ 11 (.int .i64 h.pos) rfl
   have b1 := HR.out.age
   have b2 := HR.out.hold
   have b3 := HR.out.port
   have b4 := HR.out.pos
   have SW1 := Lib.hid (show IntKind.i64.wrap ((n : Int) - 1) = (n : Int) - 1 from IntWalk.i64_in _ (by omega))
   have SW2 := Lib.hid (show IntKind.i64.wrap ((n : Int) * 2 + 1) = (n : Int) * 2 + 1 from IntWalk.i64_in _ (by omega))
   go_wp2_with fail
   refine wp_region_held_drew (S := (fun w' => w'.cell? ⟨w.heap.size, 8, none⟩ = some (.int .i64 h.port) ∧ w'.cell? ⟨w.heap.size, 9, none⟩ = some (.int .i64 h.age) ∧ w'.cell? ⟨w.heap.size, 10, none⟩ = some (.int .i64 h.hold) ∧ w'.cell? ⟨w.heap.size, 11, none⟩ = some (.int .i64 h.pos))) (by kernel_rfl) ?_ (fun hHeld => ?_)
   ·go_keep
   refine Rgn.tk 0 rfl ?_
   try simp only [Act.put, Rgn.a, Rgn.b, Rgn.c]
   refine Rgn.tk 1 rfl ?_
   try simp only [Act.put, Rgn.a, Rgn.b, Rgn.c]
   refine Rgn.tk 2 rfl ?_
   try simp only [Act.put, Rgn.a, Rgn.b, Rgn.c]
   refine Rgn.tk 3 rfl ?_
   try simp only [Act.put, Rgn.a, Rgn.b, Rgn.c]
   refine Rgn.one 4 rfl (by kernel_rfl) (fun K hK => ?_)
   go_simp
   rw [SW1.out]
   refine (KI.out h.port ((n : Int) - 1) _ (by omega) (by omega)).mono ?_
   rintro e wn ⟨rfl, rfl⟩
   go_simp
   refine hK.out _ _ ?_ (fun hHeld => ?_)
   ·go_keep
   clear hK K
   try simp only [Act.put, Rgn.a, Rgn.b, Rgn.c]
   refine Rgn.tk 5 rfl ?_
   try simp only [Act.put, Rgn.a, Rgn.b, Rgn.c]
   refine Rgn.tk 6 rfl ?_
   try simp only [Act.put, Rgn.a, Rgn.b, Rgn.c]
   refine Rgn.tk 7 rfl ?_
   try simp only [Act.put, Rgn.a, Rgn.b, Rgn.c]
   refine Rgn.tk 8 rfl ?_
   try simp only [Act.put, Rgn.a, Rgn.b, Rgn.c]
   refine Rgn.one 9 rfl (by kernel_rfl) (fun K hK => ?_)
   go_simp
   refine (KB.out _).mono ?_
   rintro e wn ⟨rfl, rfl⟩
   go_simp
   refine hK.out _ _ ?_ (fun hHeld => ?_)
   ·go_keep
   clear hK K
   try simp only [Act.put, Rgn.a, Rgn.b, Rgn.c]
   refine Rgn.tk 10 rfl ?_
   try simp only [Act.put, Rgn.a, Rgn.b, Rgn.c]
   refine Rgn.one 11 rfl (by kernel_rfl) (fun K hK => ?_)
   go_simp
   rw [SW2.out]
   refine (KI.out h.age ((n : Int) * 2 + 1) _ (by omega) (by omega)).mono ?_
   rintro e wn ⟨rfl, rfl⟩
   go_simp
   refine hK.out _ _ ?_ (fun hHeld => ?_)
   ·go_keep
   clear hK K
   try simp only [Act.put, Rgn.a, Rgn.b, Rgn.c]
   refine Rgn.tk 12 rfl ?_
   try simp only [Act.put, Rgn.a, Rgn.b, Rgn.c]
   refine Rgn.tk 13 rfl ?_
   try simp only [Act.put, Rgn.a, Rgn.b, Rgn.c]
   refine Rgn.tk 14 rfl ?_
   try simp only [Act.put, Rgn.a, Rgn.b, Rgn.c]
   refine Rgn.tk 15 rfl ?_
   try simp only [Act.put, Rgn.a, Rgn.b, Rgn.c]
   refine Rgn.tk 16 rfl ?_
   try simp only [Act.put, Rgn.a, Rgn.b, Rgn.c]
   refine Rgn.one 17 rfl (by kernel_rfl) (fun K hK => ?_)
   go_simp
   refine (KB.out _).mono ?_
   rintro e wn ⟨rfl, rfl⟩
   go_simp
   refine hK.out _ _ ?_ (fun hHeld => ?_)
   ·go_keep
   clear hK K
   try simp only [Act.put, Rgn.a, Rgn.b, Rgn.c]
   refine Rgn.one 18 rfl (by kernel_rfl) (fun K hK => ?_)
   go_simp
   refine (KI.out h.hold ((n : Int) * 2) _ (by omega) (by omega)).mono ?_
   rintro e wn ⟨rfl, rfl⟩
   go_simp
   refine hK.out _ _ ?_ (fun hHeld => ?_)
   ·go_keep
   clear hK K
   try simp only [Act.put, Rgn.a, Rgn.b, Rgn.c]
   refine Rgn.tk 19 rfl ?_
   try simp only [Act.put, Rgn.a, Rgn.b, Rgn.c]
   refine Rgn.tk 20 rfl ?_
   try simp only [Act.put, Rgn.a, Rgn.b, Rgn.c]
   refine Rgn.tk 21 rfl ?_
   try simp only [Act.put, Rgn.a, Rgn.b, Rgn.c]
   refine Rgn.tk 22 rfl ?_
   try simp only [Act.put, Rgn.a, Rgn.b, Rgn.c]
   refine Rgn.tk 23 rfl ?_
   try simp only [Act.put, Rgn.a, Rgn.b, Rgn.c]
   refine Rgn.tk 24 rfl ?_
   try simp only [Act.put, Rgn.a, Rgn.b, Rgn.c]
   refine Rgn.one 25 rfl (by kernel_rfl) (fun K hK => ?_)
   go_simp
   rw [SW1.out]
   refine (KI.out h.pos ((n : Int) - 1) _ (by omega) (by omega)).mono ?_
   rintro e wn ⟨rfl, rfl⟩
   go_simp
   refine hK.out _ _ ?_ (fun hHeld => ?_)
   ·go_keep
   clear hK K
   try simp only [Act.put, Rgn.a, Rgn.b, Rgn.c]
   refine Rgn.tk 26 rfl ?_
   try simp only [Act.put, Rgn.a, Rgn.b, Rgn.c]
   refine Rgn.tk 27 rfl ?_
   try simp only [Act.put, Rgn.a, Rgn.b, Rgn.c]
   refine wpAnyH_done (by kernel_rfl) ?_ _
   go_wp2_with fail
   go_ret
   exact ⟨rfl, HB.out.drew⟩
theorem fault_may {n c v : Int} (h : Flt.may n c v = true) : (c = 0 ∧ v = 0) ∨ (c = 1 ∧ 0 ≤ v ∧ v < n) ∨ (c = 2 ∧ 0 ≤ v ∧ v < 2) := by
 unfold Flt.may Flt.manyOf at h
 simp only [Bool.and_eq_true, decide_eq_true_eq] at h
 by_cases h0 : c = 0
 ·rw [if_pos h0] at h; omega
 ·rw [if_neg h0] at h
  by_cases h1 : c = 1
  ·rw [if_pos h1] at h; omega
  ·rw [if_neg h1] at h
   by_cases h2 : c = 2
   ·rw [if_pos h2] at h; omega
   ·rw [if_neg h2] at h; omega
set_option maxHeartbeats 1500000 in
theorem r17_calls (x : Wd) (w : World) (hx : x.Right) (ht : x.There w) :
  Calls Tryz.prog 16 #[.agg #[.int .i64 x.n, .int .i64 x.tick, .int .i64 x.c, .int .i64 x.v, .slice x.pa x.n x.pc, .slice x.na x.n x.nc, .int .i64 (x.h0.ag 0), .int .i64 (x.h0.ag 1), .int .i64 (x.h0.ag 2), .int .i64 (x.h0.ag 3), .int .i64 (x.h0.ag 4), .int .i64 (x.h0.ag 5), .int .i64 (x.h0.ag 6), .int .i64 (x.h0.ag 7), .int .i64 x.h0.port, .int .i64 x.h0.age, .int .i64 x.h0.hold, .int .i64 x.h0.pos, .int .i64 (x.h1.ag 0), .int .i64 (x.h1.ag 1), .int .i64 (x.h1.ag 2), .int .i64 (x.h1.ag 3), .int .i64 (x.h1.ag 4), .int .i64 (x.h1.ag 5), .int .i64 (x.h1.ag 6), .int .i64 (x.h1.ag 7), .int .i64 x.h1.port, .int .i64 x.h1.age, .int .i64 x.h1.hold, .int .i64 x.h1.pos]] w fun e w' => e = .returned (.bool true) ∧ Below w.heap.size w w' := by
 have h3 := hx.lo
 have h8 := hx.hi
 have k3 := fun W => r03_calls (x.n : Int) W (by omega) (by omega)
 have k15 := fun W => r15_calls (x.n : Int) x.c x.v W (by omega) (by omega) (fault_may hx.fault)
 have k16 := fun W (hW : Below w.heap.size w W) => r16_calls x.pa x.n x.pc x.power W h3 h8 (ht.power.below hW) hx.pw
 have kn := fun (i : Nat) (y : Nd) W (hi : i < x.n) (hy : Wm.NRight x.n i y) => r06_calls x.n i y W h3 h8 hi hy
 have k0 := fun W => r11_calls x.n x.h0 W h3 h8 hx.r0
 have k1 := fun W => r11_calls x.n x.h1 W h3 h8 hx.r1
 have K3 := Lib.hid k3
 have K15 := Lib.hid k15
 have K16 := Lib.hid k16
 have KN := Lib.hid kn
 have K0 := Lib.hid k0
 have K1 := Lib.hid k1
 have HX := Lib.hid hx
 have HT := Lib.hid ht
 have t0 := hx.tick
 have g1 : decide (x.tick < 0) = false := decide_eq_false (by omega)
 have g2 : decide (x.tick > 1073741824) = false := decide_eq_false (by have := t0.2; unfold Wm.mostCount at this; omega)
 have g3 : ((x.n : Int) != (x.n : Int)) = false := by simp
 clear k3 k15 k16 kn k0 k1 hx ht t0
 go_enter Tryz.func16, Tryz.ntmps16
 go_upto_region 1 with fail
 have RX := Lib.hid (Kit.Row.newAt w #[.int .i64 x.n, .int .i64 x.tick, .int .i64 x.c, .int .i64 x.v, .slice x.pa x.n x.pc, .slice x.na x.n x.nc, .int .i64 (x.h0.ag 0), .int .i64 (x.h0.ag 1), .int .i64 (x.h0.ag 2), .int .i64 (x.h0.ag 3), .int .i64 (x.h0.ag 4), .int .i64 (x.h0.ag 5), .int .i64 (x.h0.ag 6), .int .i64 (x.h0.ag 7), .int .i64 x.h0.port, .int .i64 x.h0.age, .int .i64 x.h0.hold, .int .i64 x.h0.pos, .int .i64 (x.h1.ag 0), .int .i64 (x.h1.ag 1), .int .i64 (x.h1.ag 2), .int .i64 (x.h1.ag 3), .int .i64 (x.h1.ag 4), .int .i64 (x.h1.ag 5), .int .i64 (x.h1.ag 6), .int .i64 (x.h1.ag 7), .int .i64 x.h1.port, .int .i64 x.h1.age, .int .i64 x.h1.hold, .int .i64 x.h1.pos] 36 w.heap.size rfl)
 have HB := Lib.hid ((Below.refl w.heap.size w).alloc (Nat.le_refl _) (.cells #[.int .i64 x.n, .int .i64 x.tick, .int .i64 x.c, .int .i64 x.v, .slice x.pa x.n x.pc, .slice x.na x.n x.nc, .int .i64 (x.h0.ag 0), .int .i64 (x.h0.ag 1), .int .i64 (x.h0.ag 2), .int .i64 (x.h0.ag 3), .int .i64 (x.h0.ag 4), .int .i64 (x.h0.ag 5), .int .i64 (x.h0.ag 6), .int .i64 (x.h0.ag 7), .int .i64 x.h0.port, .int .i64 x.h0.age, .int .i64 x.h0.hold, .int .i64 x.h0.pos, .int .i64 (x.h1.ag 0), .int .i64 (x.h1.ag 1), .int .i64 (x.h1.ag 2), .int .i64 (x.h1.ag 3), .int .i64 (x.h1.ag 4), .int .i64 (x.h1.ag 5), .int .i64 (x.h1.ag 6), .int .i64 (x.h1.ag 7), .int .i64 x.h1.port, .int .i64 x.h1.age, .int .i64 x.h1.hold, .int .i64 x.h1.pos] 36))
 generalize w.alloc (.cells #[.int .i64 x.n, .int .i64 x.tick, .int .i64 x.c, .int .i64 x.v, .slice x.pa x.n x.pc, .slice x.na x.n x.nc, .int .i64 (x.h0.ag 0), .int .i64 (x.h0.ag 1), .int .i64 (x.h0.ag 2), .int .i64 (x.h0.ag 3), .int .i64 (x.h0.ag 4), .int .i64 (x.h0.ag 5), .int .i64 (x.h0.ag 6), .int .i64 (x.h0.ag 7), .int .i64 x.h0.port, .int .i64 x.h0.age, .int .i64 x.h0.hold, .int .i64 x.h0.pos, .int .i64 (x.h1.ag 0), .int .i64 (x.h1.ag 1), .int .i64 (x.h1.ag 2), .int .i64 (x.h1.ag 3), .int .i64 (x.h1.ag 4), .int .i64 (x.h1.ag 5), .int .i64 (x.h1.ag 6), .int .i64 (x.h1.ag 7), .int .i64 x.h1.port, .int .i64 x.h1.age, .int .i64 x.h1.hold, .int .i64 x.h1.pos] 36) = w1 at *
 have c0 := RX.out.at_ 0 (.int .i64 (x.n : Int)) rfl
 have c1 := RX.out.at_ 1 (.int .i64 x.tick) rfl
 have c2 := RX.out.at_ 2 (.int .i64 x.c) rfl
 have c3 := RX.out.at_ 3 (.int .i64 x.v) rfl
 have c4 := RX.out.at_ 4 (.slice x.pa x.n x.pc) rfl
 have c5 := RX.out.at_ 5 (.slice x.na x.n x.nc) rfl
 go_wp2_with fail
 refine (K3.out _).mono ?_
 rintro e w' ⟨rfl, rfl⟩
 go_wp2_with fail
 refine (K15.out _).mono ?_
 rintro e w2 ⟨rfl, b2⟩
 have RX2 := Lib.hid (RX.out.below b2)
 have HB2 := Lib.hid (HB.out.trans (b2.mono HB.out.size))
 have TN := Lib.hid (HT.out.nodes.below HB2.out)
 clear b2 RX HB c0 c1 c2 c3 c4 c5
 have c0 := RX2.out.at_ 0 (.int .i64 (x.n : Int)) rfl
 have c4 := RX2.out.at_ 4 (.slice x.pa x.n x.pc) rfl
 have c5 := RX2.out.at_ 5 (.slice x.na x.n x.nc) rfl
 go_wp2_with fail
 refine (K16.out _ HB2.out).mono ?_
 rintro e w3 ⟨rfl, rfl⟩
 go_wp2_with fail
 clear c0 c4 c5
 go_loopw [3] (fun vi wr => ∃ k : Nat, k ≤ x.n ∧ vi = .int .i64 k ∧ Hid (Below w2.heap.size w2 wr)) (fun vi _ => x.n - (intOf vi).toNat)
 case atStart => exact ⟨0, by omega, rfl, Lib.hid (Below.refl _ _)⟩
 case round =>
  obtain ⟨k, hk, rfl, HB⟩ := hrel
  have c0 := (RX2.out.below HB.out).at_ 0 (.int .i64 (x.n : Int)) rfl
  by_cases hlt : k < x.n
  ·have gk : decide ((k : Int) < (x.n : Int)) = true := decide_eq_true (by omega)
   have c5 := (RX2.out.below HB.out).at_ 5 (.slice x.na x.n x.nc) rfl
   obtain ⟨bN, oN, eN, hbN, n0, n1, n2, n3⟩ := Nodes.at_ (TN.out.below HB.out) hlt
   rw [eN] at c5
   have hy := HX.out.nd k hlt
   generalize ndAt x.nodes k = y at *
   have gid : (y.id != (k : Int)) = false := by rw [hy.id]; simp
   have HY := Lib.hid hy
   clear hy eN hbN
   go_wp2_with fail
   refine wp_region_held_drew (S := (fun w' => w'.cell? ⟨w.heap.size, 0, none⟩ = some (.int .i64 (x.n : Int)) ∧ w'.cell? ⟨w.heap.size, 5, none⟩ = some (.slice (some ⟨bN, oN, none⟩) x.n x.nc) ∧ w'.cell? ⟨bN, oN + k * 4, none⟩ = some (.int .i64 y.id) ∧ w'.cell? ⟨bN, oN + k * 4 + 1, none⟩ = some (.int .i64 y.md) ∧ w'.cell? ⟨bN, oN + k * 4 + 2, none⟩ = some (.int .i64 y.ct) ∧ w'.cell? ⟨bN, oN + k * 4 + 3, none⟩ = some (.int .i64 y.ps))) (by kernel_rfl) ?_ (fun hHeld => ?_)
   ·go_keep
   refine Rgn.tk 0 rfl ?_
   try simp only [Act.put, Rgn.a, Rgn.b, Rgn.c]
   refine Rgn.tk 1 rfl ?_
   try simp only [Act.put, Rgn.a, Rgn.b, Rgn.c]
   refine Rgn.tk 2 rfl ?_
   try simp only [Act.put, Rgn.a, Rgn.b, Rgn.c]
   refine Rgn.tk 3 rfl ?_
   try simp only [Act.put, Rgn.a, Rgn.b, Rgn.c]
   refine Rgn.tk 4 rfl ?_
   try simp only [Act.put, Rgn.a, Rgn.b, Rgn.c]
   refine Rgn.tk 5 rfl ?_
   try simp only [Act.put, Rgn.a, Rgn.b, Rgn.c]
   refine Rgn.tk 6 rfl ?_
   try simp only [Act.put, Rgn.a, Rgn.b, Rgn.c]
   refine Rgn.one 7 rfl (by kernel_rfl) (fun K hK => ?_)
   go_simp
   refine (KN.out k y _ hlt HY.out).mono ?_
   rintro e wn ⟨rfl, bn⟩
   have y0 := Kit.cell_below bn c0
   have y1 := Kit.cell_below bn c5
   have y2 := Kit.cell_below bn n0
   have y3 := Kit.cell_below bn n1
   have y4 := Kit.cell_below bn n2
   have y5 := Kit.cell_below bn n3
   clear c0 c5 n0 n1 n2 n3
   have c0 := y0
   have c5 := y1
   have n0 := y2
   have n1 := y3
   have n2 := y4
   have n3 := y5
   clear y0 y1 y2 y3 y4 y5
   have HBn := Lib.hid (HB.out.drew.trans (bn.mono HB.out.drew.size))
   clear bn
   go_simp
   refine hK.out _ _ ?_ (fun hHeld => ?_)
   ·go_keep
   clear hK K
   try simp only [Act.put, Rgn.a, Rgn.b, Rgn.c]
   refine Rgn.tk 8 rfl ?_
   try simp only [Act.put, Rgn.a, Rgn.b, Rgn.c]
   refine Rgn.tk 9 rfl ?_
   try simp only [Act.put, Rgn.a, Rgn.b, Rgn.c]
   refine Rgn.tk 10 rfl ?_
   try simp only [Act.put, Rgn.a, Rgn.b, Rgn.c]
   refine Rgn.tk 11 rfl ?_
   try simp only [Act.put, Rgn.a, Rgn.b, Rgn.c]
   refine Rgn.tk 12 rfl ?_
   try simp only [Act.put, Rgn.a, Rgn.b, Rgn.c]
   refine Rgn.tk 13 rfl ?_
   try simp only [Act.put, Rgn.a, Rgn.b, Rgn.c]
   refine Rgn.tk 14 rfl ?_
   try simp only [Act.put, Rgn.a, Rgn.b, Rgn.c]
   refine Rgn.tk 15 rfl ?_
   try simp only [Act.put, Rgn.a, Rgn.b, Rgn.c]
   refine Rgn.tk 16 rfl ?_
   try simp only [Act.put, Rgn.a, Rgn.b, Rgn.c]
   refine Rgn.tk 17 rfl ?_
   try simp only [Act.put, Rgn.a, Rgn.b, Rgn.c]
   refine Rgn.tk 18 rfl ?_
   try simp only [Act.put, Rgn.a, Rgn.b, Rgn.c]
   refine wpAnyH_done (by kernel_rfl) ?_ _
   clear c0 c5 n0 n1 n2 n3
   go_wp2_with fail
   go_roundw
   case rel => exact ⟨k + 1, by omega, by go_num, HBn⟩
   case measure => simp [intOf]; omega
  ·have gk : decide ((k : Int) < (x.n : Int)) = false := decide_eq_false (by omega)
   have RX3 := Lib.hid (RX2.out.below HB.out)
   go_upto_region 8 with fail
   iterate 13 (first | go_guarded | go_step | go_upon | go_back)
   refine Kit.wpList_load_row rfl 28 (.tmp 70) rfl w.heap.size 6 rfl RX3.out [.int .i64 (x.h0.ag 0), .int .i64 (x.h0.ag 1), .int .i64 (x.h0.ag 2), .int .i64 (x.h0.ag 3), .int .i64 (x.h0.ag 4), .int .i64 (x.h0.ag 5), .int .i64 (x.h0.ag 6), .int .i64 (x.h0.ag 7), .int .i64 x.h0.port, .int .i64 x.h0.age, .int .i64 x.h0.hold, .int .i64 x.h0.pos] rfl _ Tryz.underlying28 rfl Lc.sizeHub ?_
   go_wp2_with fail
   refine (K0.out _).mono ?_
   rintro e w4 ⟨rfl, b4⟩
   have HB4 := Lib.hid (HB.out.trans (b4.mono HB.out.size))
   have RX4 := Lib.hid (RX3.out.below b4)
   clear b4 RX3 c0
   have c0 := RX4.out.at_ 0 (.int .i64 (x.n : Int)) rfl
   have c18 := RX4.out.at_ 18 (.int .i64 (x.h1.ag 0)) rfl
   have c19 := RX4.out.at_ 19 (.int .i64 (x.h1.ag 1)) rfl
   have c20 := RX4.out.at_ 20 (.int .i64 (x.h1.ag 2)) rfl
   have c21 := RX4.out.at_ 21 (.int .i64 (x.h1.ag 3)) rfl
   have c22 := RX4.out.at_ 22 (.int .i64 (x.h1.ag 4)) rfl
   have c23 := RX4.out.at_ 23 (.int .i64 (x.h1.ag 5)) rfl
   have c24 := RX4.out.at_ 24 (.int .i64 (x.h1.ag 6)) rfl
   have c25 := RX4.out.at_ 25 (.int .i64 (x.h1.ag 7)) rfl
   have c26 := RX4.out.at_ 26 (.int .i64 x.h1.port) rfl
   have c27 := RX4.out.at_ 27 (.int .i64 x.h1.age) rfl
   have c28 := RX4.out.at_ 28 (.int .i64 x.h1.hold) rfl
   have c29 := RX4.out.at_ 29 (.int .i64 x.h1.pos) rfl
   go_wp2_with fail
   refine (K1.out _).mono ?_
   rintro e w5 ⟨rfl, b5⟩
   have HB5 := Lib.hid (HB2.out.trans ((HB4.out.trans (b5.mono HB4.out.size)).mono HB2.out.size))
   clear b5 c18 c19 c20 c21 c22 c23 c24 c25 c26 c27 c28 c29 c0
   go_wp2_with fail
   go_ret
   exact ⟨rfl, HB5.out⟩
end Rf
end Go.Proofs.YtgiojagdmglinaaGreatDoor
namespace Go.Proofs.YtgiojagdmglinaaGreatDoor
open Go Go.RowKit
namespace Nb
theorem new_calls (n : Nat) (s : Sc) (w : World) (h3 : 3 ≤ n) (h8 : n ≤ 8) (hn : s.n = n) (hs : Op.ScThere w s) :
  Calls Tryz.prog 12 #[.agg #[.int .i64 s.n, .slice s.pa s.pn s.pc, .int .i64 s.c, .int .i64 s.v, .bool s.ld, .slice s.na s.nn s.nc, .int .i64 (s.h0.ag 0), .int .i64 (s.h0.ag 1), .int .i64 (s.h0.ag 2), .int .i64 (s.h0.ag 3), .int .i64 (s.h0.ag 4), .int .i64 (s.h0.ag 5), .int .i64 (s.h0.ag 6), .int .i64 (s.h0.ag 7), .int .i64 s.h0.port, .int .i64 s.h0.age, .int .i64 s.h0.hold, .int .i64 s.h0.pos, .int .i64 (s.h1.ag 0), .int .i64 (s.h1.ag 1), .int .i64 (s.h1.ag 2), .int .i64 (s.h1.ag 3), .int .i64 (s.h1.ag 4), .int .i64 (s.h1.ag 5), .int .i64 (s.h1.ag 6), .int .i64 (s.h1.ag 7), .int .i64 s.h1.port, .int .i64 s.h1.age, .int .i64 s.h1.hold, .int .i64 s.h1.pos, .slice s.ta s.tn s.tc]] w fun e w' => (∃ x : Wd, x.Right ∧ x.n = n ∧ x.tick = 0 ∧ e = .returned (.tuple #[.agg x.cells.toArray, .int .i64 0]) ∧ x.There w') ∧ Below w.heap.size w w' := by
 cases hld : s.ld with
 | false =>
  have h1 := Nw.new0_calls n s w h3 h8 hn hld hs.power
  rw [hn]
  refine h1.mono ?_
  rintro e w' ⟨p, G, rfl, ht, _, _, hb⟩
  exact ⟨⟨Sw.start n s p G, Sw.start_right n s p G h3 h8, rfl, rfl, rfl, ht⟩, hb⟩
 | true =>
  have h1 := Nw.new1_calls n s w h3 h8 hn hld hs.nodes
  rw [hn]
  refine h1.mono ?_
  rintro e w' ⟨p, G, rfl, ht, _, _, hb⟩
  exact ⟨⟨Sw.start1 n s p G, Sw.start1_right n s p G h3 h8, rfl, rfl, rfl, ht⟩, hb⟩
set_option maxHeartbeats 1000000 in
theorem bad_calls (s : Sc) (w : World) (hn : ¬ (3 ≤ s.n ∧ s.n ≤ 8)) :
  Calls Tryz.prog 12 #[.agg #[.int .i64 s.n, .slice s.pa s.pn s.pc, .int .i64 s.c, .int .i64 s.v, .bool s.ld, .slice s.na s.nn s.nc, .int .i64 (s.h0.ag 0), .int .i64 (s.h0.ag 1), .int .i64 (s.h0.ag 2), .int .i64 (s.h0.ag 3), .int .i64 (s.h0.ag 4), .int .i64 (s.h0.ag 5), .int .i64 (s.h0.ag 6), .int .i64 (s.h0.ag 7), .int .i64 s.h0.port, .int .i64 s.h0.age, .int .i64 s.h0.hold, .int .i64 s.h0.pos, .int .i64 (s.h1.ag 0), .int .i64 (s.h1.ag 1), .int .i64 (s.h1.ag 2), .int .i64 (s.h1.ag 3), .int .i64 (s.h1.ag 4), .int .i64 (s.h1.ag 5), .int .i64 (s.h1.ag 6), .int .i64 (s.h1.ag 7), .int .i64 s.h1.port, .int .i64 s.h1.age, .int .i64 s.h1.hold, .int .i64 s.h1.pos, .slice s.ta s.tn s.tc]] w fun e w' => e = .returned (.tuple #[.agg #[.int .i64 0, .int .i64 0, .int .i64 0, .int .i64 0, .slice none 0 0, .slice none 0 0, .int .i64 0, .int .i64 0, .int .i64 0, .int .i64 0, .int .i64 0, .int .i64 0, .int .i64 0, .int .i64 0, .int .i64 0, .int .i64 0, .int .i64 0, .int .i64 0, .int .i64 0, .int .i64 0, .int .i64 0, .int .i64 0, .int .i64 0, .int .i64 0, .int .i64 0, .int .i64 0, .int .i64 0, .int .i64 0, .int .i64 0, .int .i64 0], .int .i64 1]) ∧ Below w.heap.size w w' := by
 have kc := fun W => Port.conf_calls s.n W
 have e3 : (decide (3 ≤ s.n) && decide (s.n ≤ 8)) = false := by simp only [Bool.and_eq_false_iff, decide_eq_false_iff_not]; omega
 have HN := Lib.hid hn
 rw [e3] at kc
 have KC := Lib.hid kc
 clear kc e3 hn
 go_enter Tryz.func12, Tryz.ntmps12
 go_upto_region 1 with fail
 have R0 := Lib.hid ((Kit.Row.newAt w #[.int .i64 s.n, .slice s.pa s.pn s.pc, .int .i64 s.c, .int .i64 s.v, .bool s.ld, .slice s.na s.nn s.nc, .int .i64 (s.h0.ag 0), .int .i64 (s.h0.ag 1), .int .i64 (s.h0.ag 2), .int .i64 (s.h0.ag 3), .int .i64 (s.h0.ag 4), .int .i64 (s.h0.ag 5), .int .i64 (s.h0.ag 6), .int .i64 (s.h0.ag 7), .int .i64 s.h0.port, .int .i64 s.h0.age, .int .i64 s.h0.hold, .int .i64 s.h0.pos, .int .i64 (s.h1.ag 0), .int .i64 (s.h1.ag 1), .int .i64 (s.h1.ag 2), .int .i64 (s.h1.ag 3), .int .i64 (s.h1.ag 4), .int .i64 (s.h1.ag 5), .int .i64 (s.h1.ag 6), .int .i64 (s.h1.ag 7), .int .i64 s.h1.port, .int .i64 s.h1.age, .int .i64 s.h1.hold, .int .i64 s.h1.pos, .slice s.ta s.tn s.tc] 32 w.heap.size rfl).alloc (.cells #[.int .i64 0, .int .i64 0, .int .i64 0, .int .i64 0, .slice none 0 0, .slice none 0 0, .int .i64 0, .int .i64 0, .int .i64 0, .int .i64 0, .int .i64 0, .int .i64 0, .int .i64 0, .int .i64 0, .int .i64 0, .int .i64 0, .int .i64 0, .int .i64 0, .int .i64 0, .int .i64 0, .int .i64 0, .int .i64 0, .int .i64 0, .int .i64 0, .int .i64 0, .int .i64 0, .int .i64 0, .int .i64 0, .int .i64 0, .int .i64 0] 36))
 have R1 := Lib.hid (Kit.Row.newAt (w.alloc (.cells #[.int .i64 s.n, .slice s.pa s.pn s.pc, .int .i64 s.c, .int .i64 s.v, .bool s.ld, .slice s.na s.nn s.nc, .int .i64 (s.h0.ag 0), .int .i64 (s.h0.ag 1), .int .i64 (s.h0.ag 2), .int .i64 (s.h0.ag 3), .int .i64 (s.h0.ag 4), .int .i64 (s.h0.ag 5), .int .i64 (s.h0.ag 6), .int .i64 (s.h0.ag 7), .int .i64 s.h0.port, .int .i64 s.h0.age, .int .i64 s.h0.hold, .int .i64 s.h0.pos, .int .i64 (s.h1.ag 0), .int .i64 (s.h1.ag 1), .int .i64 (s.h1.ag 2), .int .i64 (s.h1.ag 3), .int .i64 (s.h1.ag 4), .int .i64 (s.h1.ag 5), .int .i64 (s.h1.ag 6), .int .i64 (s.h1.ag 7), .int .i64 s.h1.port, .int .i64 s.h1.age, .int .i64 s.h1.hold, .int .i64 s.h1.pos, .slice s.ta s.tn s.tc] 32)) #[.int .i64 0, .int .i64 0, .int .i64 0, .int .i64 0, .slice none 0 0, .slice none 0 0, .int .i64 0, .int .i64 0, .int .i64 0, .int .i64 0, .int .i64 0, .int .i64 0, .int .i64 0, .int .i64 0, .int .i64 0, .int .i64 0, .int .i64 0, .int .i64 0, .int .i64 0, .int .i64 0, .int .i64 0, .int .i64 0, .int .i64 0, .int .i64 0, .int .i64 0, .int .i64 0, .int .i64 0, .int .i64 0, .int .i64 0, .int .i64 0] 36 (w.heap.size + 1) (by simp))
 have HB := Lib.hid (((Below.refl w.heap.size w).alloc (Nat.le_refl _) (.cells #[.int .i64 s.n, .slice s.pa s.pn s.pc, .int .i64 s.c, .int .i64 s.v, .bool s.ld, .slice s.na s.nn s.nc, .int .i64 (s.h0.ag 0), .int .i64 (s.h0.ag 1), .int .i64 (s.h0.ag 2), .int .i64 (s.h0.ag 3), .int .i64 (s.h0.ag 4), .int .i64 (s.h0.ag 5), .int .i64 (s.h0.ag 6), .int .i64 (s.h0.ag 7), .int .i64 s.h0.port, .int .i64 s.h0.age, .int .i64 s.h0.hold, .int .i64 s.h0.pos, .int .i64 (s.h1.ag 0), .int .i64 (s.h1.ag 1), .int .i64 (s.h1.ag 2), .int .i64 (s.h1.ag 3), .int .i64 (s.h1.ag 4), .int .i64 (s.h1.ag 5), .int .i64 (s.h1.ag 6), .int .i64 (s.h1.ag 7), .int .i64 s.h1.port, .int .i64 s.h1.age, .int .i64 s.h1.hold, .int .i64 s.h1.pos, .slice s.ta s.tn s.tc] 32)).alloc (by simp) (.cells #[.int .i64 0, .int .i64 0, .int .i64 0, .int .i64 0, .slice none 0 0, .slice none 0 0, .int .i64 0, .int .i64 0, .int .i64 0, .int .i64 0, .int .i64 0, .int .i64 0, .int .i64 0, .int .i64 0, .int .i64 0, .int .i64 0, .int .i64 0, .int .i64 0, .int .i64 0, .int .i64 0, .int .i64 0, .int .i64 0, .int .i64 0, .int .i64 0, .int .i64 0, .int .i64 0, .int .i64 0, .int .i64 0, .int .i64 0, .int .i64 0] 36))
 generalize (w.alloc (.cells #[.int .i64 s.n, .slice s.pa s.pn s.pc, .int .i64 s.c, .int .i64 s.v, .bool s.ld, .slice s.na s.nn s.nc, .int .i64 (s.h0.ag 0), .int .i64 (s.h0.ag 1), .int .i64 (s.h0.ag 2), .int .i64 (s.h0.ag 3), .int .i64 (s.h0.ag 4), .int .i64 (s.h0.ag 5), .int .i64 (s.h0.ag 6), .int .i64 (s.h0.ag 7), .int .i64 s.h0.port, .int .i64 s.h0.age, .int .i64 s.h0.hold, .int .i64 s.h0.pos, .int .i64 (s.h1.ag 0), .int .i64 (s.h1.ag 1), .int .i64 (s.h1.ag 2), .int .i64 (s.h1.ag 3), .int .i64 (s.h1.ag 4), .int .i64 (s.h1.ag 5), .int .i64 (s.h1.ag 6), .int .i64 (s.h1.ag 7), .int .i64 s.h1.port, .int .i64 s.h1.age, .int .i64 s.h1.hold, .int .i64 s.h1.pos, .slice s.ta s.tn s.tc] 32)).alloc (.cells #[.int .i64 0, .int .i64 0, .int .i64 0, .int .i64 0, .slice none 0 0, .slice none 0 0, .int .i64 0, .int .i64 0, .int .i64 0, .int .i64 0, .int .i64 0, .int .i64 0, .int .i64 0, .int .i64 0, .int .i64 0, .int .i64 0, .int .i64 0, .int .i64 0, .int .i64 0, .int .i64 0, .int .i64 0, .int .i64 0, .int .i64 0, .int .i64 0, .int .i64 0, .int .i64 0, .int .i64 0, .int .i64 0, .int .i64 0, .int .i64 0] 36) = w2 at *
 have c0 := R0.out.at_ 0 (.int .i64 s.n) rfl
 go_wp2_with fail
 refine (KC.out _).mono ?_
 rintro e w3 ⟨rfl, rfl⟩
 clear c0
 go_upto_region 2 with fail
 iterate 4 (first | go_guarded | go_step | go_upon | go_back)
 refine Kit.wpList_store_row rfl 36 (.tmp 2) (.tmp 10) rfl (w.heap.size + 1) 0 #[.int .i64 0, .int .i64 0, .int .i64 0, .int .i64 0, .slice none 0 0, .slice none 0 0, .int .i64 0, .int .i64 0, .int .i64 0, .int .i64 0, .int .i64 0, .int .i64 0, .int .i64 0, .int .i64 0, .int .i64 0, .int .i64 0, .int .i64 0, .int .i64 0, .int .i64 0, .int .i64 0, .int .i64 0, .int .i64 0, .int .i64 0, .int .i64 0, .int .i64 0, .int .i64 0, .int .i64 0, .int .i64 0, .int .i64 0, .int .i64 0] rfl rfl R1.out (by simp) Sw.sizeWorld (by first | rfl | (simp [Value.oneCell']; done) | decide) ?_
 intro W hW
 have R2 := Lib.hid (R1.out.all hW rfl)
 have HB2 := Lib.hid (Kit.below_of HB.out hW (by omega))
 clear hW R1 R0 HB
 go_wp2_with fail
 exact bodyPost_ret (Kit.res_ct Tryz.results12 _ _ (Kit.Var.mk' R2.out Tryz.underlying36 rfl Sw.sizeWorld)) rfl ⟨rfl, HB2.out⟩
set_option maxHeartbeats 1000000 in
theorem all_calls (s : Sc) (w : World) (hn : ¬ (3 ≤ s.n ∧ s.n ≤ 8)) :
  Calls Tryz.prog 13 #[.agg #[.int .i64 s.n, .slice s.pa s.pn s.pc, .int .i64 s.c, .int .i64 s.v, .bool s.ld, .slice s.na s.nn s.nc, .int .i64 (s.h0.ag 0), .int .i64 (s.h0.ag 1), .int .i64 (s.h0.ag 2), .int .i64 (s.h0.ag 3), .int .i64 (s.h0.ag 4), .int .i64 (s.h0.ag 5), .int .i64 (s.h0.ag 6), .int .i64 (s.h0.ag 7), .int .i64 s.h0.port, .int .i64 s.h0.age, .int .i64 s.h0.hold, .int .i64 s.h0.pos, .int .i64 (s.h1.ag 0), .int .i64 (s.h1.ag 1), .int .i64 (s.h1.ag 2), .int .i64 (s.h1.ag 3), .int .i64 (s.h1.ag 4), .int .i64 (s.h1.ag 5), .int .i64 (s.h1.ag 6), .int .i64 (s.h1.ag 7), .int .i64 s.h1.port, .int .i64 s.h1.age, .int .i64 s.h1.hold, .int .i64 s.h1.pos, .slice s.ta s.tn s.tc]] w fun e w' => e = .returned (.tuple #[.slice none 0 0, .agg #[.int .i64 0, .int .i64 0, .int .i64 0, .int .i64 0, .slice none 0 0, .slice none 0 0, .int .i64 0, .int .i64 0, .int .i64 0, .int .i64 0, .int .i64 0, .int .i64 0, .int .i64 0, .int .i64 0, .int .i64 0, .int .i64 0, .int .i64 0, .int .i64 0, .int .i64 0, .int .i64 0, .int .i64 0, .int .i64 0, .int .i64 0, .int .i64 0, .int .i64 0, .int .i64 0, .int .i64 0, .int .i64 0, .int .i64 0, .int .i64 0], .int .i64 1]) ∧ Below w.heap.size w w' := by
 have kc := fun W => bad_calls s W hn
 have KC := Lib.hid kc
 clear kc hn
 go_enter Tryz.func13, Tryz.ntmps13
 go_upto_region 1 with fail
 have R0 := Lib.hid ((Kit.Row.newAt w #[.int .i64 s.n, .slice s.pa s.pn s.pc, .int .i64 s.c, .int .i64 s.v, .bool s.ld, .slice s.na s.nn s.nc, .int .i64 (s.h0.ag 0), .int .i64 (s.h0.ag 1), .int .i64 (s.h0.ag 2), .int .i64 (s.h0.ag 3), .int .i64 (s.h0.ag 4), .int .i64 (s.h0.ag 5), .int .i64 (s.h0.ag 6), .int .i64 (s.h0.ag 7), .int .i64 s.h0.port, .int .i64 s.h0.age, .int .i64 s.h0.hold, .int .i64 s.h0.pos, .int .i64 (s.h1.ag 0), .int .i64 (s.h1.ag 1), .int .i64 (s.h1.ag 2), .int .i64 (s.h1.ag 3), .int .i64 (s.h1.ag 4), .int .i64 (s.h1.ag 5), .int .i64 (s.h1.ag 6), .int .i64 (s.h1.ag 7), .int .i64 s.h1.port, .int .i64 s.h1.age, .int .i64 s.h1.hold, .int .i64 s.h1.pos, .slice s.ta s.tn s.tc] 32 w.heap.size rfl).alloc (.cells #[.int .i64 0, .int .i64 0, .int .i64 0, .int .i64 0, .slice none 0 0, .slice none 0 0, .int .i64 0, .int .i64 0, .int .i64 0, .int .i64 0, .int .i64 0, .int .i64 0, .int .i64 0, .int .i64 0, .int .i64 0, .int .i64 0, .int .i64 0, .int .i64 0, .int .i64 0, .int .i64 0, .int .i64 0, .int .i64 0, .int .i64 0, .int .i64 0, .int .i64 0, .int .i64 0, .int .i64 0, .int .i64 0, .int .i64 0, .int .i64 0] 36))
 have R1 := Lib.hid (Kit.Row.newAt (w.alloc (.cells #[.int .i64 s.n, .slice s.pa s.pn s.pc, .int .i64 s.c, .int .i64 s.v, .bool s.ld, .slice s.na s.nn s.nc, .int .i64 (s.h0.ag 0), .int .i64 (s.h0.ag 1), .int .i64 (s.h0.ag 2), .int .i64 (s.h0.ag 3), .int .i64 (s.h0.ag 4), .int .i64 (s.h0.ag 5), .int .i64 (s.h0.ag 6), .int .i64 (s.h0.ag 7), .int .i64 s.h0.port, .int .i64 s.h0.age, .int .i64 s.h0.hold, .int .i64 s.h0.pos, .int .i64 (s.h1.ag 0), .int .i64 (s.h1.ag 1), .int .i64 (s.h1.ag 2), .int .i64 (s.h1.ag 3), .int .i64 (s.h1.ag 4), .int .i64 (s.h1.ag 5), .int .i64 (s.h1.ag 6), .int .i64 (s.h1.ag 7), .int .i64 s.h1.port, .int .i64 s.h1.age, .int .i64 s.h1.hold, .int .i64 s.h1.pos, .slice s.ta s.tn s.tc] 32)) #[.int .i64 0, .int .i64 0, .int .i64 0, .int .i64 0, .slice none 0 0, .slice none 0 0, .int .i64 0, .int .i64 0, .int .i64 0, .int .i64 0, .int .i64 0, .int .i64 0, .int .i64 0, .int .i64 0, .int .i64 0, .int .i64 0, .int .i64 0, .int .i64 0, .int .i64 0, .int .i64 0, .int .i64 0, .int .i64 0, .int .i64 0, .int .i64 0, .int .i64 0, .int .i64 0, .int .i64 0, .int .i64 0, .int .i64 0, .int .i64 0] 36 (w.heap.size + 1) (by simp))
 have HB := Lib.hid (((Below.refl w.heap.size w).alloc (Nat.le_refl _) (.cells #[.int .i64 s.n, .slice s.pa s.pn s.pc, .int .i64 s.c, .int .i64 s.v, .bool s.ld, .slice s.na s.nn s.nc, .int .i64 (s.h0.ag 0), .int .i64 (s.h0.ag 1), .int .i64 (s.h0.ag 2), .int .i64 (s.h0.ag 3), .int .i64 (s.h0.ag 4), .int .i64 (s.h0.ag 5), .int .i64 (s.h0.ag 6), .int .i64 (s.h0.ag 7), .int .i64 s.h0.port, .int .i64 s.h0.age, .int .i64 s.h0.hold, .int .i64 s.h0.pos, .int .i64 (s.h1.ag 0), .int .i64 (s.h1.ag 1), .int .i64 (s.h1.ag 2), .int .i64 (s.h1.ag 3), .int .i64 (s.h1.ag 4), .int .i64 (s.h1.ag 5), .int .i64 (s.h1.ag 6), .int .i64 (s.h1.ag 7), .int .i64 s.h1.port, .int .i64 s.h1.age, .int .i64 s.h1.hold, .int .i64 s.h1.pos, .slice s.ta s.tn s.tc] 32)).alloc (by simp) (.cells #[.int .i64 0, .int .i64 0, .int .i64 0, .int .i64 0, .slice none 0 0, .slice none 0 0, .int .i64 0, .int .i64 0, .int .i64 0, .int .i64 0, .int .i64 0, .int .i64 0, .int .i64 0, .int .i64 0, .int .i64 0, .int .i64 0, .int .i64 0, .int .i64 0, .int .i64 0, .int .i64 0, .int .i64 0, .int .i64 0, .int .i64 0, .int .i64 0, .int .i64 0, .int .i64 0, .int .i64 0, .int .i64 0, .int .i64 0, .int .i64 0] 36))
 generalize (w.alloc (.cells #[.int .i64 s.n, .slice s.pa s.pn s.pc, .int .i64 s.c, .int .i64 s.v, .bool s.ld, .slice s.na s.nn s.nc, .int .i64 (s.h0.ag 0), .int .i64 (s.h0.ag 1), .int .i64 (s.h0.ag 2), .int .i64 (s.h0.ag 3), .int .i64 (s.h0.ag 4), .int .i64 (s.h0.ag 5), .int .i64 (s.h0.ag 6), .int .i64 (s.h0.ag 7), .int .i64 s.h0.port, .int .i64 s.h0.age, .int .i64 s.h0.hold, .int .i64 s.h0.pos, .int .i64 (s.h1.ag 0), .int .i64 (s.h1.ag 1), .int .i64 (s.h1.ag 2), .int .i64 (s.h1.ag 3), .int .i64 (s.h1.ag 4), .int .i64 (s.h1.ag 5), .int .i64 (s.h1.ag 6), .int .i64 (s.h1.ag 7), .int .i64 s.h1.port, .int .i64 s.h1.age, .int .i64 s.h1.hold, .int .i64 s.h1.pos, .slice s.ta s.tn s.tc] 32)).alloc (.cells #[.int .i64 0, .int .i64 0, .int .i64 0, .int .i64 0, .slice none 0 0, .slice none 0 0, .int .i64 0, .int .i64 0, .int .i64 0, .int .i64 0, .int .i64 0, .int .i64 0, .int .i64 0, .int .i64 0, .int .i64 0, .int .i64 0, .int .i64 0, .int .i64 0, .int .i64 0, .int .i64 0, .int .i64 0, .int .i64 0, .int .i64 0, .int .i64 0, .int .i64 0, .int .i64 0, .int .i64 0, .int .i64 0, .int .i64 0, .int .i64 0] 36) = w2 at *
 go_step
 refine Kit.wpList_load_row rfl 32 (.tmp 1) rfl w.heap.size 0 rfl R0.out [.int .i64 s.n, .slice s.pa s.pn s.pc, .int .i64 s.c, .int .i64 s.v, .bool s.ld, .slice s.na s.nn s.nc, .int .i64 (s.h0.ag 0), .int .i64 (s.h0.ag 1), .int .i64 (s.h0.ag 2), .int .i64 (s.h0.ag 3), .int .i64 (s.h0.ag 4), .int .i64 (s.h0.ag 5), .int .i64 (s.h0.ag 6), .int .i64 (s.h0.ag 7), .int .i64 s.h0.port, .int .i64 s.h0.age, .int .i64 s.h0.hold, .int .i64 s.h0.pos, .int .i64 (s.h1.ag 0), .int .i64 (s.h1.ag 1), .int .i64 (s.h1.ag 2), .int .i64 (s.h1.ag 3), .int .i64 (s.h1.ag 4), .int .i64 (s.h1.ag 5), .int .i64 (s.h1.ag 6), .int .i64 (s.h1.ag 7), .int .i64 s.h1.port, .int .i64 s.h1.age, .int .i64 s.h1.hold, .int .i64 s.h1.pos, .slice s.ta s.tn s.tc] rfl _ Tryz.underlying32 rfl Nw.sizeScript ?_
 go_wp2_with fail
 refine (KC.out _).mono ?_
 rintro e w4 ⟨rfl, hb⟩
 have R2 := Lib.hid (R1.out.below hb)
 have HB2 := Lib.hid (HB.out.trans (hb.mono HB.out.size))
 clear hb R0 R1 HB
 dsimp only
 iterate 13 (first | go_guarded | go_step | go_upon | go_back)
 refine Kit.wpList_store_row rfl 36 (.tmp 5) (.tmp 13) rfl w4.heap.size 0 #[.int .i64 0, .int .i64 0, .int .i64 0, .int .i64 0, .slice none 0 0, .slice none 0 0, .int .i64 0, .int .i64 0, .int .i64 0, .int .i64 0, .int .i64 0, .int .i64 0, .int .i64 0, .int .i64 0, .int .i64 0, .int .i64 0, .int .i64 0, .int .i64 0, .int .i64 0, .int .i64 0, .int .i64 0, .int .i64 0, .int .i64 0, .int .i64 0, .int .i64 0, .int .i64 0, .int .i64 0, .int .i64 0, .int .i64 0, .int .i64 0] rfl rfl (Kit.Row.newAt w4 _ _ _ rfl) (by simp) Sw.sizeWorld (by first | rfl | (simp [Value.oneCell']; done) | decide) ?_
 intro w5 hW
 have bb := Kit.below_of ((Below.refl w4.heap.size w4).alloc (Nat.le_refl _) (.cells #[.int .i64 0, .int .i64 0, .int .i64 0, .int .i64 0, .slice none 0 0, .slice none 0 0, .int .i64 0, .int .i64 0, .int .i64 0, .int .i64 0, .int .i64 0, .int .i64 0, .int .i64 0, .int .i64 0, .int .i64 0, .int .i64 0, .int .i64 0, .int .i64 0, .int .i64 0, .int .i64 0, .int .i64 0, .int .i64 0, .int .i64 0, .int .i64 0, .int .i64 0, .int .i64 0, .int .i64 0, .int .i64 0, .int .i64 0, .int .i64 0] 36)) hW (Nat.le_refl _)
 have R3 := Lib.hid (R2.out.below bb)
 have HB3 := Lib.hid (HB2.out.trans (bb.mono HB2.out.size))
 clear hW bb R2 HB2
 go_upto_region 3 with fail
 iterate 10 (first | go_guarded | go_step | go_upon | go_back)
 refine Kit.wpList_store_row rfl 36 (.tmp 3) (.tmp 17) rfl (w.heap.size + 1) 0 #[.int .i64 0, .int .i64 0, .int .i64 0, .int .i64 0, .slice none 0 0, .slice none 0 0, .int .i64 0, .int .i64 0, .int .i64 0, .int .i64 0, .int .i64 0, .int .i64 0, .int .i64 0, .int .i64 0, .int .i64 0, .int .i64 0, .int .i64 0, .int .i64 0, .int .i64 0, .int .i64 0, .int .i64 0, .int .i64 0, .int .i64 0, .int .i64 0, .int .i64 0, .int .i64 0, .int .i64 0, .int .i64 0, .int .i64 0, .int .i64 0] rfl rfl R3.out (by simp) Sw.sizeWorld (by first | rfl | (simp [Value.oneCell']; done) | decide) ?_
 intro W hW
 have R4 := Lib.hid (R3.out.all hW rfl)
 have HB4 := Lib.hid (Kit.below_of HB3.out hW (by omega))
 clear hW R3 HB3
 go_wp2_with fail
 exact bodyPost_ret (Kit.res_tct Tryz.results13 _ _ (Kit.Var.mk' R4.out Tryz.underlying36 rfl Sw.sizeWorld)) rfl ⟨rfl, HB4.out⟩
end Nb
end Go.Proofs.YtgiojagdmglinaaGreatDoor
