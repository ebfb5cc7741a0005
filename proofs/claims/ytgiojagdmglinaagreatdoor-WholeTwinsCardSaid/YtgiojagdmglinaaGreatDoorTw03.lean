/-
  WholeTwins holds: without a fault, or with a faulty node, both hubs relay the same in each tick of any script, and are alike behind it.
  Conditions: none but those which the given statement itself asks (its tied card); the lemmas stand in the texts ahead of this one.
-/
import Derived.Test.YtgiojagdmglinaaGreatDoorTw02
import Derived.Test.YtgiojagdmglinaaGreatDoorGb36
import Derived.Test.YtgiojagdmglinaaGreatDoorRows
import Derived.Test.YtgiojagdmglinaaGreatDoorCards
import Derived.Test.YtgiojagdmglinaaGreatDoorTie
import Derived.Test.YtgiojagdmglinaaGreatDoorTw00
import Derived.Test.YtgiojagdmglinaaGreatDoorGb34
import Derived.ProofKit
import Derived.OpenShut
import Derived.LaidMore
import Derived.Stop.Joined
import Derived.SevenTiedAt
import Derived.ShutString
set_option linter.unusedVariables false
set_option linter.unusedSimpArgs false
set_option maxRecDepth 100000
namespace Go.Proofs.YtgiojagdmglinaaGreatDoor.WholeTwins
open Go Go.RowKit
theorem now_h0 (x : Wd) (l : List Ch) (ads : List (Nat × Nat)) : (Sw.now x l ads).h0 = (Sw.wat x l ads.length).h0 := by
 unfold Sw.now
 split <;> rfl
theorem now_h1 (x : Wd) (l : List Ch) (ads : List (Nat × Nat)) : (Sw.now x l ads).h1 = (Sw.wat x l ads.length).h1 := by
 unfold Sw.now
 split <;> rfl
theorem twins (x : Wd) (l : List Ch) (hc : x.c ≠ 2) (k : Nat) : Sw.r1 (Sw.wat x l k) (l.getD k default) = Sw.r0 (Sw.wat x l k) (l.getD k default) := by
 have h := Ru.hubs_free (x := Sw.wat x l k) (l.getD k default) (by rw [Sw.wat_c]; exact hc)
 rw [h.1, h.2]
theorem allr (n : Nat) (s : Sc) (w : World) (h3 : 3 ≤ n) (h8 : n ≤ 8) (hn : s.n = n) (hs : Op.ScThere w s) (hm : s.tn ≤ 1000000) :
  Calls Tryz.prog 13 #[.agg #[.int .i64 s.n, .slice s.pa s.pn s.pc, .int .i64 s.c, .int .i64 s.v, .bool s.ld, .slice s.na s.nn s.nc, .int .i64 (s.h0.ag 0), .int .i64 (s.h0.ag 1), .int .i64 (s.h0.ag 2), .int .i64 (s.h0.ag 3), .int .i64 (s.h0.ag 4), .int .i64 (s.h0.ag 5), .int .i64 (s.h0.ag 6), .int .i64 (s.h0.ag 7), .int .i64 s.h0.port, .int .i64 s.h0.age, .int .i64 s.h0.hold, .int .i64 s.h0.pos, .int .i64 (s.h1.ag 0), .int .i64 (s.h1.ag 1), .int .i64 (s.h1.ag 2), .int .i64 (s.h1.ag 3), .int .i64 (s.h1.ag 4), .int .i64 (s.h1.ag 5), .int .i64 (s.h1.ag 6), .int .i64 (s.h1.ag 7), .int .i64 s.h1.port, .int .i64 s.h1.age, .int .i64 s.h1.hold, .int .i64 s.h1.pos, .slice s.ta s.tn s.tc]] w fun e w' => ∃ (y x : Wd) (A : Option Addr) (cap : Nat) (ads : List (Nat × Nat)), e = .returned (.tuple #[.slice A s.tn cap, .agg y.cells.toArray, .int .i64 0]) ∧ ads.length = s.tn ∧
   (y.c = x.c ∧ (0 < s.tn → x.c ≠ 2 → y.h1 = y.h0)) ∧ Looks w' A s.tn (Sw.lks x s.ticks ads) ∧ Below w.heap.size w w' := by
 refine (Sw.allr_calls n s w h3 h8 hn hs hm).mono ?_
 rintro e w' ⟨x, A, cap, ads, rfl, hx, hxn, hlen, hlk, _, hb⟩
 refine ⟨Sw.now x s.ticks ads, x, A, cap, ads, rfl, hlen, ⟨Sw.now_c _ _ _, fun h0 hc => ?_⟩, hlk, hb⟩
 rw [now_h0, now_h1, hlen]
 obtain ⟨m, hm⟩ : ∃ m, s.tn = m + 1 := ⟨s.tn - 1, by omega⟩
 rw [hm]
 show (Sw.r1 (Sw.wat x s.ticks m) (s.ticks.getD m default)).1 = (Sw.r0 (Sw.wat x s.ticks m) (s.ticks.getD m default)).1
 rw [twins x s.ticks hc m]
set_option maxHeartbeats 4000000 in
theorem walk1 (s : Sc) (w : World) (hS : Op.ScThere w s) :
  Calls Tryz.prog 4 #[.agg s.cells.toArray] w fun e w' => e = .returned (.bool true) ∧ Below w.heap.size w w' := by
 have HS := Lib.hid hS
 clear hS
 show Calls Tryz.prog 4 #[.agg #[.int .i64 s.n, .slice s.pa s.pn s.pc, .int .i64 s.c, .int .i64 s.v, .bool s.ld, .slice s.na s.nn s.nc, .int .i64 (s.h0.ag 0), .int .i64 (s.h0.ag 1), .int .i64 (s.h0.ag 2), .int .i64 (s.h0.ag 3), .int .i64 (s.h0.ag 4), .int .i64 (s.h0.ag 5), .int .i64 (s.h0.ag 6), .int .i64 (s.h0.ag 7), .int .i64 s.h0.port, .int .i64 s.h0.age, .int .i64 s.h0.hold, .int .i64 s.h0.pos, .int .i64 (s.h1.ag 0), .int .i64 (s.h1.ag 1), .int .i64 (s.h1.ag 2), .int .i64 (s.h1.ag 3), .int .i64 (s.h1.ag 4), .int .i64 (s.h1.ag 5), .int .i64 (s.h1.ag 6), .int .i64 (s.h1.ag 7), .int .i64 s.h1.port, .int .i64 s.h1.age, .int .i64 s.h1.hold, .int .i64 s.h1.pos, .slice s.ta s.tn s.tc]] w _
 go_enter Tryz.func4, Tryz.ntmps4
 go_upto_region 1 with fail
 have R1 := Lib.hid (Kit.Row.newAt w #[.int .i64 s.n, .slice s.pa s.pn s.pc, .int .i64 s.c, .int .i64 s.v, .bool s.ld, .slice s.na s.nn s.nc, .int .i64 (s.h0.ag 0), .int .i64 (s.h0.ag 1), .int .i64 (s.h0.ag 2), .int .i64 (s.h0.ag 3), .int .i64 (s.h0.ag 4), .int .i64 (s.h0.ag 5), .int .i64 (s.h0.ag 6), .int .i64 (s.h0.ag 7), .int .i64 s.h0.port, .int .i64 s.h0.age, .int .i64 s.h0.hold, .int .i64 s.h0.pos, .int .i64 (s.h1.ag 0), .int .i64 (s.h1.ag 1), .int .i64 (s.h1.ag 2), .int .i64 (s.h1.ag 3), .int .i64 (s.h1.ag 4), .int .i64 (s.h1.ag 5), .int .i64 (s.h1.ag 6), .int .i64 (s.h1.ag 7), .int .i64 s.h1.port, .int .i64 s.h1.age, .int .i64 s.h1.hold, .int .i64 s.h1.pos, .slice s.ta s.tn s.tc] 32 w.heap.size rfl)
 have B1 := Lib.hid ((Below.refl w.heap.size w).alloc (Nat.le_refl _) (.cells #[.int .i64 s.n, .slice s.pa s.pn s.pc, .int .i64 s.c, .int .i64 s.v, .bool s.ld, .slice s.na s.nn s.nc, .int .i64 (s.h0.ag 0), .int .i64 (s.h0.ag 1), .int .i64 (s.h0.ag 2), .int .i64 (s.h0.ag 3), .int .i64 (s.h0.ag 4), .int .i64 (s.h0.ag 5), .int .i64 (s.h0.ag 6), .int .i64 (s.h0.ag 7), .int .i64 s.h0.port, .int .i64 s.h0.age, .int .i64 s.h0.hold, .int .i64 s.h0.pos, .int .i64 (s.h1.ag 0), .int .i64 (s.h1.ag 1), .int .i64 (s.h1.ag 2), .int .i64 (s.h1.ag 3), .int .i64 (s.h1.ag 4), .int .i64 (s.h1.ag 5), .int .i64 (s.h1.ag 6), .int .i64 (s.h1.ag 7), .int .i64 s.h1.port, .int .i64 s.h1.age, .int .i64 s.h1.hold, .int .i64 s.h1.pos, .slice s.ta s.tn s.tc] 32))
 generalize w.alloc (.cells #[.int .i64 s.n, .slice s.pa s.pn s.pc, .int .i64 s.c, .int .i64 s.v, .bool s.ld, .slice s.na s.nn s.nc, .int .i64 (s.h0.ag 0), .int .i64 (s.h0.ag 1), .int .i64 (s.h0.ag 2), .int .i64 (s.h0.ag 3), .int .i64 (s.h0.ag 4), .int .i64 (s.h0.ag 5), .int .i64 (s.h0.ag 6), .int .i64 (s.h0.ag 7), .int .i64 s.h0.port, .int .i64 s.h0.age, .int .i64 s.h0.hold, .int .i64 s.h0.pos, .int .i64 (s.h1.ag 0), .int .i64 (s.h1.ag 1), .int .i64 (s.h1.ag 2), .int .i64 (s.h1.ag 3), .int .i64 (s.h1.ag 4), .int .i64 (s.h1.ag 5), .int .i64 (s.h1.ag 6), .int .i64 (s.h1.ag 7), .int .i64 s.h1.port, .int .i64 s.h1.age, .int .i64 s.h1.hold, .int .i64 s.h1.pos, .slice s.ta s.tn s.tc] 32) = w2 at *
 have c1 := R1.out.at_ 1 (.slice s.pa s.pn s.pc) rfl
 have c5 := R1.out.at_ 5 (.slice s.na s.nn s.nc) rfl
 have c30 := R1.out.at_ 30 (.slice s.ta s.tn s.tc) rfl
 go_wp2_with fail
 refine (Sm.small_calls s.pa s.na s.ta s.pn s.pc s.nn s.nc s.tn s.tc 300 s.ticks w2 (HS.out.ticks.below B1.out) (by omega)).mono ?_
 rintro e w3 ⟨⟨b, rfl, hb⟩, b3⟩
 have RS := Lib.hid (R1.out.below b3)
 have HB := Lib.hid (B1.out.trans (b3.mono B1.out.size))
 clear b3 R1 B1 c1 c5 c30
 have c0 := RS.out.at_ 0 (.int .i64 s.n) rfl
 cases b with
 | false =>
  clear hb RS c0
  go_wp2_with fail
  refine (Aw.awake_calls _).mono ?_
  rintro e wz ⟨rfl, bz⟩
  have HBZ := Lib.hid (HB.out.trans (bz.mono HB.out.size))
  clear bz
  go_wp2_with fail
  go_ret
  exact ⟨rfl, HBZ.out⟩
 | true =>
  have htn := (hb rfl).2.2
  clear hb
  go_wp2_with fail
  refine (Port.conf_calls s.n _).mono ?_
  rintro e wv ⟨rfl, rfl⟩
  by_cases h38 : 3 ≤ s.n ∧ s.n ≤ 8
  ·have e3 : (decide (3 ≤ s.n) && decide (s.n ≤ 8)) = true := by simp only [Bool.and_eq_true, decide_eq_true_eq]; exact h38
   rw [e3]
   obtain ⟨n, hn⟩ : ∃ n : Nat, s.n = n := ⟨s.n.toNat, by omega⟩
   have h3 : 3 ≤ n := by omega
   have h8 : n ≤ 8 := by omega
   have HNN := Lib.hid hn
   clear hn h38 e3 c0
   go_upto_region 3 with fail
   go_step
   refine Kit.wpList_load_row rfl 32 (.tmp 1) rfl w.heap.size 0 rfl RS.out [.int .i64 s.n, .slice s.pa s.pn s.pc, .int .i64 s.c, .int .i64 s.v, .bool s.ld, .slice s.na s.nn s.nc, .int .i64 (s.h0.ag 0), .int .i64 (s.h0.ag 1), .int .i64 (s.h0.ag 2), .int .i64 (s.h0.ag 3), .int .i64 (s.h0.ag 4), .int .i64 (s.h0.ag 5), .int .i64 (s.h0.ag 6), .int .i64 (s.h0.ag 7), .int .i64 s.h0.port, .int .i64 s.h0.age, .int .i64 s.h0.hold, .int .i64 s.h0.pos, .int .i64 (s.h1.ag 0), .int .i64 (s.h1.ag 1), .int .i64 (s.h1.ag 2), .int .i64 (s.h1.ag 3), .int .i64 (s.h1.ag 4), .int .i64 (s.h1.ag 5), .int .i64 (s.h1.ag 6), .int .i64 (s.h1.ag 7), .int .i64 s.h1.port, .int .i64 s.h1.age, .int .i64 s.h1.hold, .int .i64 s.h1.pos, .slice s.ta s.tn s.tc] rfl _ Tryz.underlying32 rfl Nw.sizeScript ?_
   go_wp2_with fail
   refine (allr n s w3 h3 h8 HNN.out (HS.out.below HB.out) (by omega)).mono ?_
   rintro e w4 ⟨y, x, A, cap, ads, rfl, hlen, hy, hlk, hb⟩
   have HB4 := Lib.hid (HB.out.trans (hb.mono HB.out.size))
   have LK := Lib.hid hlk
   have HY := Lib.hid hy
   clear hb hlk hy RS HB
   dsimp only
   iterate 19 (first | go_guarded | go_step | go_upon | go_back)
   refine Kit.wpList_store_row rfl 36 (.tmp 4) (.tmp 26) rfl w4.heap.size 0 #[.int .i64 y.n, .int .i64 y.tick, .int .i64 y.c, .int .i64 y.v, .slice y.pa y.n y.pc, .slice y.na y.n y.nc, .int .i64 (y.h0.ag 0), .int .i64 (y.h0.ag 1), .int .i64 (y.h0.ag 2), .int .i64 (y.h0.ag 3), .int .i64 (y.h0.ag 4), .int .i64 (y.h0.ag 5), .int .i64 (y.h0.ag 6), .int .i64 (y.h0.ag 7), .int .i64 y.h0.port, .int .i64 y.h0.age, .int .i64 y.h0.hold, .int .i64 y.h0.pos, .int .i64 (y.h1.ag 0), .int .i64 (y.h1.ag 1), .int .i64 (y.h1.ag 2), .int .i64 (y.h1.ag 3), .int .i64 (y.h1.ag 4), .int .i64 (y.h1.ag 5), .int .i64 (y.h1.ag 6), .int .i64 (y.h1.ag 7), .int .i64 y.h1.port, .int .i64 y.h1.age, .int .i64 y.h1.hold, .int .i64 y.h1.pos] rfl rfl (Kit.Row.newAt w4 _ _ _ rfl) (by simp) Sw.sizeWorld (by first | rfl | (simp [Value.oneCell']; done) | decide) ?_
   intro w5 hW5
   have RY := Lib.hid (Kit.Row.all (Kit.Row.newAt w4 #[.int .i64 0, .int .i64 0, .int .i64 0, .int .i64 0, .slice none 0 0, .slice none 0 0, .int .i64 0, .int .i64 0, .int .i64 0, .int .i64 0, .int .i64 0, .int .i64 0, .int .i64 0, .int .i64 0, .int .i64 0, .int .i64 0, .int .i64 0, .int .i64 0, .int .i64 0, .int .i64 0, .int .i64 0, .int .i64 0, .int .i64 0, .int .i64 0, .int .i64 0, .int .i64 0, .int .i64 0, .int .i64 0, .int .i64 0, .int .i64 0] 36 _ rfl) hW5 rfl)
   have bb5 := Kit.below_of ((Below.refl w4.heap.size w4).alloc (Nat.le_refl _) (.cells #[.int .i64 0, .int .i64 0, .int .i64 0, .int .i64 0, .slice none 0 0, .slice none 0 0, .int .i64 0, .int .i64 0, .int .i64 0, .int .i64 0, .int .i64 0, .int .i64 0, .int .i64 0, .int .i64 0, .int .i64 0, .int .i64 0, .int .i64 0, .int .i64 0, .int .i64 0, .int .i64 0, .int .i64 0, .int .i64 0, .int .i64 0, .int .i64 0, .int .i64 0, .int .i64 0, .int .i64 0, .int .i64 0, .int .i64 0, .int .i64 0] 36)) hW5 (Nat.le_refl _)
   have L5 := Lib.hid (LK.out.below bb5)
   have HB5 := Lib.hid (HB4.out.trans (bb5.mono HB4.out.size))
   clear hW5 bb5 LK HB4
   generalize w4.heap.size = Y at *
   have c2 := RY.out.at_ 2 (.int .i64 y.c) rfl
   by_cases hc : y.c = 2
   ·have g2 : (y.c == 2) = true := by rw [hc]; rfl
    go_wp2_with fail
    refine (Aw.awake_calls _).mono ?_
    rintro e wz ⟨rfl, bz⟩
    have HBZ := Lib.hid (HB5.out.trans (bz.mono HB5.out.size))
    clear bz
    go_wp2_with fail
    go_ret
    exact ⟨rfl, HBZ.out⟩
   ·have g2 : (y.c == 2) = false := by simp [hc]
    have hxc : x.c ≠ 2 := by rw [← HY.out.1]; exact hc
    have HXC := Lib.hid hxc
    clear hc hxc
    go_wp2_with fail
    clear c2
    go_loopw [6] (fun vt wr => ∃ k : Nat, k ≤ s.tn ∧ vt = .int .i64 k ∧ Hid (Below w5.heap.size w5 wr)) (fun vt _ => s.tn - (intOf vt).toNat)
    case atStart => exact ⟨0, by omega, rfl, Lib.hid (Below.refl _ _)⟩
    case round =>
     obtain ⟨k, hk, rfl, HC⟩ := hrel
     by_cases hlt : k < s.tn
     ·have gk : decide ((k : Int) < (s.tn : Int)) = true := decide_eq_true (by omega)
      obtain ⟨bA, oA, p1, rfl, hbA, _, m1, m2, m3, m4, _, _⟩ := Sw.lk_at (L5.out.below HC.out) hlen hlt
      rw [twins x s.ticks HXC.out k] at m3 m4
      generalize (Sw.r0 (Sw.wat x s.ticks k) (s.ticks.getD k default)).2 = fr at *
      go_wp2_with fail
      refine wp_region_held_drew (S := (fun w' => w'.cell? ⟨bA, oA + k * 6 + 1, none⟩ = some (.int .i64 fr.k) ∧ w'.cell? ⟨bA, oA + k * 6 + 2, none⟩ = some (.int .i64 fr.i) ∧ w'.cell? ⟨bA, oA + k * 6 + 3, none⟩ = some (.int .i64 fr.k) ∧ w'.cell? ⟨bA, oA + k * 6 + 4, none⟩ = some (.int .i64 fr.i))) (by kernel_rfl) ?_ (fun hHeld => ?_)
      ·go_keep
      refine Rgn.tk 0 rfl ?_
      try simp only [Act.put, Rgn.a, Rgn.b, Rgn.c]
      refine Rgn.tk 1 rfl ?_
      try simp only [Act.put, Rgn.a, Rgn.b, Rgn.c]
      refine Rgn.tk 2 rfl ?_
      try simp only [Act.put, Rgn.a, Rgn.b, Rgn.c]
      refine Rgn.tk 3 rfl ?_
      try simp only [Act.put, Rgn.a, Rgn.b, Rgn.c]
      refine Rgn.tk 4 rfl ?_
      try simp only [Act.put, Rgn.a, Rgn.b, Rgn.c]
      refine Rgn.tk 5 rfl ?_
      try simp only [Act.put, Rgn.a, Rgn.b, Rgn.c]
      refine Rgn.tk 6 rfl ?_
      try simp only [Act.put, Rgn.a, Rgn.b, Rgn.c]
      refine Rgn.tk 7 rfl ?_
      try simp only [Act.put, Rgn.a, Rgn.b, Rgn.c]
      refine Rgn.tk 8 rfl ?_
      try simp only [Act.put, Rgn.a, Rgn.b, Rgn.c]
      refine Rgn.tk 9 rfl ?_
      try simp only [Act.put, Rgn.a, Rgn.b, Rgn.c]
      refine Rgn.tk 10 rfl ?_
      try simp only [Act.put, Rgn.a, Rgn.b, Rgn.c]
      refine Rgn.tk 11 rfl ?_
      try simp only [Act.put, Rgn.a, Rgn.b, Rgn.c]
      refine Rgn.tk 12 rfl ?_
      try simp only [Act.put, Rgn.a, Rgn.b, Rgn.c]
      refine wpAnyH_done (by kernel_rfl) ?_ _
      clear m1 m2 m3 m4
      have HCd := Lib.hid HC.out.drew
      go_wp2_with fail
      go_roundw
      case rel => exact ⟨k + 1, by omega, by go_num, HCd⟩
      case measure => simp [intOf]; omega
     ·have gk : decide ((k : Int) < (s.tn : Int)) = false := decide_eq_false (by omega)
      go_wp2_with fail
      refine (Aw.awake_calls _).mono ?_
      rintro e wz ⟨rfl, bz⟩
      have HBZ := Lib.hid (HB5.out.trans ((HC.out.trans (bz.mono HC.out.size)).mono HB5.out.size))
      replace RY := Lib.hid ((RY.out.below HC.out).below bz)
      clear bz
      by_cases h0 : s.tn = 0
      ·have g0 : ((s.tn : Int) == 0) = true := by rw [h0]; rfl
       go_wp2_with fail
       go_ret
       exact ⟨rfl, HBZ.out⟩
      ·have g0 : ((s.tn : Int) == 0) = false := by simp; omega
       have hh := HY.out.2 (by omega) HXC.out
       have c6 := RY.out.at_ 6 (.int .i64 (y.h0.ag 0)) rfl
       have c7 := RY.out.at_ 7 (.int .i64 (y.h0.ag 1)) rfl
       have c8 := RY.out.at_ 8 (.int .i64 (y.h0.ag 2)) rfl
       have c9 := RY.out.at_ 9 (.int .i64 (y.h0.ag 3)) rfl
       have c10 := RY.out.at_ 10 (.int .i64 (y.h0.ag 4)) rfl
       have c11 := RY.out.at_ 11 (.int .i64 (y.h0.ag 5)) rfl
       have c12 := RY.out.at_ 12 (.int .i64 (y.h0.ag 6)) rfl
       have c13 := RY.out.at_ 13 (.int .i64 (y.h0.ag 7)) rfl
       have c14 := RY.out.at_ 14 (.int .i64 (y.h0.port)) rfl
       have c15 := RY.out.at_ 15 (.int .i64 (y.h0.age)) rfl
       have c16 := RY.out.at_ 16 (.int .i64 (y.h0.hold)) rfl
       have c17 := RY.out.at_ 17 (.int .i64 (y.h0.pos)) rfl
       have c18 := RY.out.at_ 18 (.int .i64 (y.h1.ag 0)) rfl
       have c19 := RY.out.at_ 19 (.int .i64 (y.h1.ag 1)) rfl
       have c20 := RY.out.at_ 20 (.int .i64 (y.h1.ag 2)) rfl
       have c21 := RY.out.at_ 21 (.int .i64 (y.h1.ag 3)) rfl
       have c22 := RY.out.at_ 22 (.int .i64 (y.h1.ag 4)) rfl
       have c23 := RY.out.at_ 23 (.int .i64 (y.h1.ag 5)) rfl
       have c24 := RY.out.at_ 24 (.int .i64 (y.h1.ag 6)) rfl
       have c25 := RY.out.at_ 25 (.int .i64 (y.h1.ag 7)) rfl
       have c26 := RY.out.at_ 26 (.int .i64 (y.h1.port)) rfl
       have c27 := RY.out.at_ 27 (.int .i64 (y.h1.age)) rfl
       have c28 := RY.out.at_ 28 (.int .i64 (y.h1.hold)) rfl
       have c29 := RY.out.at_ 29 (.int .i64 (y.h1.pos)) rfl
       rw [hh] at c18 c19 c20 c21 c22 c23 c24 c25 c26 c27 c28 c29
       clear hh
       have heq := fun W => Heq.ages_eq (y.h0.ag 0) (y.h0.ag 1) (y.h0.ag 2) (y.h0.ag 3) (y.h0.ag 4) (y.h0.ag 5) (y.h0.ag 6) (y.h0.ag 7) W
       go_wp2_with fail
       go_ret
       exact ⟨rfl, HBZ.out⟩
  ·have e3 : (decide (3 ≤ s.n) && decide (s.n ≤ 8)) = false := by simp only [Bool.and_eq_false_iff, decide_eq_false_iff_not]; omega
   rw [e3]
   clear c0
   go_wp2_with fail
   refine (Aw.awake_calls _).mono ?_
   rintro e wz ⟨rfl, bz⟩
   have HBZ := Lib.hid (HB.out.trans (bz.mono HB.out.size))
   clear bz
   go_wp2_with fail
   go_ret
   exact ⟨rfl, HBZ.out⟩
theorem walk (v : Value) {w : World} (w0 : Op.IsScript w v) (w' : World) (hw : w' = w := by rfl) :
  Calls Tryz.prog 4 #[v] w' fun e w2 => e = .returned (.bool true) ∧ Below w'.heap.size w' w2 := by
 subst hw
 obtain ⟨s, rfl, hS⟩ := w0
 exact walk1 s _ hS
end Go.Proofs.YtgiojagdmglinaaGreatDoor.WholeTwins
namespace Go.Proofs.YtgiojagdmglinaaGreatDoor.WholeTwins
open Go.ChangeShapes Go.WideShapes Go.ChangeAt Go.RowKit
open Go.ChangeMaps (open_string shut_string)
set_option maxHeartbeats 400000 in
theorem lifted (os : Os) (started : os.Started) (H : Type) (enc : TypeId × Value → H) :
  ReturnsInHanded {} Tryz.checked os 4 .any (fun w args => (Rows.wholeTwinsSpec.pre enc Tryz.prog Tryz.f4 [] false w args ∧ laidMetH Tryz.prog Dor.laid3 w) ∧ sizedMet enc Tryz.prog Tryz.f4 (OpenSpec.ofChange Rows.wholeTwinsSpec) false w args) (Rows.wholeTwinsSpec.post enc Tryz.prog Tryz.f4 false true false false) := by
 refine returnsInHanded_of_change_and (C := Tryz.checked) (X := fun w _ => laidMetH Tryz.prog Dor.laid3 w) (fun _ _ _ hh h => h.of_heap hh) own started (by kernel_rfl) Tryz.func4
  (ChangeSpec.witness_shaped (enc := enc) (C := Tryz.checked) (os := os) (X := fun w _ => laidMetH Tryz.prog Dor.laid3 w) false (World.doorLaid Tryz.prog 24 os) #[.agg #[.int .i64 0, .slice none 0 0, .int .i64 0, .int .i64 0, .bool false, .slice none 0 0, .int .i64 0, .int .i64 0, .int .i64 0, .int .i64 0, .int .i64 0, .int .i64 0, .int .i64 0, .int .i64 0, .int .i64 0, .int .i64 0, .int .i64 0, .int .i64 0, .int .i64 0, .int .i64 0, .int .i64 0, .int .i64 0, .int .i64 0, .int .i64 0, .int .i64 0, .int .i64 0, .int .i64 0, .int .i64 0, .int .i64 0, .int .i64 0, .slice none 0 0]] 8 rfl (Dor.shaped os _) (by kernel_rfl) (by kernel_rfl) (by kernel_rfl) (Dor.met os _)) ?_
 intro W base args ds gs before hval0 hW _ _ _ _
 have hval : ∀ (j : Nat) t v, Tryz.f4.params[j]? = some t → args[j]? = some v → Value.okWide Tryz.prog W .any base t v := hval0
 have hW' := hW
 obtain ⟨p, q, hA0, hV, rfl, hfz, hnd⟩ := hW
 have hA : DataW.TrodAll enc Tryz.prog W 0 (fun _ => true) true Tryz.f4.params.toList args.toList ds p := hA0
 rw [Tryz.params4] at hA hval
 obtain ⟨v0, vs0, d0, ds0, p0, q0, hargs, rfl, rfl, h0, r0⟩ := trodAll_cons hA
 obtain ⟨rfl, rfl, rfl⟩ := trodAll_nil r0
 obtain rfl : args = #[v0] := by cases args; simp_all
 obtain ⟨rfl, rfl⟩ := trodVars_none hV
 have k0 := h0
 have lt0 : ∀ x ∈ p0, x.block < W.heap.size := by obtain ⟨m, hm⟩ := k0; exact DataW.trod_lt m _ _ _ hm
 have w0 := Op.isScript (hval 0 32 v0 rfl rfl) h0
 clear hA0 hval0
 refine (walk v0 w0 W).mono fun e W' ⟨he, bel⟩ => ?_
 subst he
 exact ⟨_, rfl, _, _, _, [], _, [], hW', trodAll_mk1 (shut_bool Tryz.underlying4 _), (trodAll_cons_mk (Below.trod laidOut (by kernel_rfl) (of_decide_eq_true (by kernel_rfl)) k0 bel lt0) trodAll_mk0), rfl, bel.frame _, fun h => by cases h⟩
theorem over : Rows.wholeTwinsRow.holds Tryz.pinned (OpenSpec.ofChange Rows.wholeTwinsSpec) :=
 OpenClaim.holds_of_wide 4 Tryz.f4 rfl rfl rfl rfl rfl rfl rfl ⟨rfl, rfl, rfl, rfl, rfl⟩ rfl rfl rfl rfl rfl named Tryz.func4 facts
  (of_decide_eq_true (by kernel_rfl)) (by unfold Func.isWrapper; first | (rw [if_pos (by decide +kernel)]; kernel_rfl) | (rw [if_neg (by decide +kernel)]; exact ⟨rfl, rfl⟩))
  (fun os started H enc _ => lifted os started H enc)
theorem proved : Rows.WholeTwinsCardSaid :=
 Claim7.holds_tied_plain_at .later [] [.data, .data, .data] true (true, "bc756e22a1b164c7e6f02c199b2fccdb787ee550ccd8ea457d36e9ca7ed46377") false
  over (fun _ h => by cases h) (by kernel_rfl) (fun _ h => by cases h) wholeTwins_row_tie rfl ⟨rfl, rfl⟩ (by kernel_rfl) rfl
  (fun f fn hf hfn => by
   obtain rfl : f = 4 := Option.some.inj ((show Tryz.prog.funcNamed "daybreak/daybreaktop.WholeTwins" = some 4 by kernel_rfl).symm.trans hf) |>.symm
   obtain rfl : fn = Tryz.f4 := (Option.some.inj (Tryz.func4.symm.trans hfn)).symm
   exact ⟨by kernel_rfl, fun j t ht => by
    rw [Tryz.params4] at ht
    have hm : t ∈ [32] := by simpa using Array.mem_of_getElem? ht
    have hall : ([32].all fun u => !Tryz.prog.wantsStandIn u) = true := by kernel_rfl
    exact (show Tryz.prog.wantsStandIn t = false by simpa using List.all_eq_true.1 hall t hm)⟩)
  (by kernel_rfl)
#print axioms proved
end Go.Proofs.YtgiojagdmglinaaGreatDoor.WholeTwins
