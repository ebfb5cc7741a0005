/-
  Part 33 of a merged text.
-/
import Derived.Test.YtgiojagdmglinaaGreatDoorGb30
import Derived.Test.YtgiojagdmglinaaGreatDoorGb32
import Derived.Deep.Cut
import Derived.Great.Walk
import Derived.Test.YtgiojagdmglinaaGreatDoorGb01
import Derived.Deep.Slices
import Derived.Deep.Fields
import Derived.ProofKit
import Derived.OpenShut
import Derived.Test.YtgiojagdmglinaaGreatDoorProg
import Derived.Test.YtgiojagdmglinaaGreatDoorGb02
import Derived.Test.YtgiojagdmglinaaGreatDoorGb04
set_option linter.unusedVariables false
set_option linter.unusedSimpArgs false
set_option maxRecDepth 100000
namespace Go.Proofs.YtgiojagdmglinaaGreatDoor
open Go Go.RowKit
namespace Aw
open Sw
theorem run24 : (Ru.Ma.run 3 [0, 0, 0] (Ru.first 3) 24).xs = [⟨0, 3, 0, 2⟩, ⟨1, 3, 0, 2⟩, ⟨2, 3, 0, 2⟩] := by kernel_rfl
theorem run26 : (Ru.Ma.run 3 [0, 0, 0] (Ru.first 3) 26).xs = [⟨0, 3, 0, 1⟩, ⟨1, 3, 0, 1⟩, ⟨2, 3, 0, 1⟩] := by kernel_rfl
theorem said23 : Ru.Ma.said 3 (Ru.Ma.run 3 [0, 0, 0] (Ru.first 3) 23) = ⟨2, 1⟩ := by kernel_rfl
def z (T : Nat) : Sc := ⟨3, none, 0, 0, [], 0, 0, false, none, 0, 0, [], Hb.zero, Hb.zero, some ⟨T, 0, none⟩, 26, 26, List.replicate 26 default⟩
theorem chInfo : (Tryz.prog.info? 53).map (fun i => (i.zero, i.size, i.bytes)) = some (some (.agg #[.string ⟨#[]⟩, .string ⟨#[]⟩, .slice none 0 0, .int .i64 0]), 4, 64) := by kernel_rfl
theorem mk_ticks (W : World) : (Instr.makeSlice 30 (.int .i64 26) (.int .i64 26)).run Tryz.prog W = .ok (.slice (some ⟨W.heap.size, 0, none⟩) 26 26) (W.alloc (.cells (madeCells #[.string ⟨#[]⟩, .string ⟨#[]⟩, .slice none 0 0, .int .i64 0] (26 * 4)) 53)) := by
 obtain ⟨i0, hi, hz0, hz1, hz2⟩ := info_parts chInfo
 have hr := run_make (P := Tryz.prog) W 30 53 i0 _ Tryz.underlying30 hi hz0 .i64 .i64 26 26 (by omega) (by omega) (by rw [hz2]; omega) (by omega)
 simp only [hz1] at hr
 exact hr
theorem made : (madeCells #[Value.string ⟨#[]⟩, .string ⟨#[]⟩, .slice none 0 0, .int .i64 0] (26 * 4)).toList = ((List.replicate 26 (default : Ch)).map Ch.cells).flatten := by kernel_rfl
theorem chs_row {w : World} {T : Nat} (h : Kit.Row w T (madeCells #[.string ⟨#[]⟩, .string ⟨#[]⟩, .slice none 0 0, .int .i64 0] (26 * 4)).toList) : Chs w (some ⟨T, 0, none⟩) 26 (List.replicate 26 default) where
 lies := ⟨by simp, fun _ => ⟨T, 0, rfl, h.lt, fun j c hj i v hi => by
  have hk : ∀ c ∈ (List.replicate 26 (default : Ch)).map Ch.cells, c.length = 4 := by
   intro c hc
   obtain ⟨x, _, rfl⟩ := List.mem_map.1 hc
   rfl
  have h1 := flat_get 4 _ hk j c hj i v hi
  rw [← made] at h1
  rw [Nat.zero_add]
  exact h.at_ _ _ h1⟩⟩
 there := fun ch hch => by
  rw [List.mem_replicate] at hch
  rw [hch.2]
  exact ⟨by decide, by decide, ⟨rfl, fun h => absurd h (by decide)⟩, by decide⟩
section
variable (T p G : Nat) (ads : List (Nat × Nat))
theorem zr : (Sw.start 3 (z T) p G).Right := start_right 3 (z T) p G (by omega) (by omega)
theorem zn : (Sw.start 3 (z T) p G).n = 3 := rfl
theorem zc : (Sw.start 3 (z T) p G).c ≠ 1 := by
 show (if Flt.may 3 0 0 = true then (0 : Int) else 0) ≠ 1
 split <;> decide
theorem zp : (Sw.start 3 (z T) p G).power = [0, 0, 0] := by kernel_rfl
theorem nodes26 (h : ads.length = 26) : (now (Sw.start 3 (z T) p G) (z T).ticks ads).nodes = [⟨0, 3, 0, 1⟩, ⟨1, 3, 0, 1⟩, ⟨2, 3, 0, 1⟩] := by
 have e : (now (Sw.start 3 (z T) p G) (z T).ticks ads).nodes = (wat (Sw.start 3 (z T) p G) (z T).ticks ads.length).nodes := by
  unfold now
  split <;> rfl
 rw [e, h, Ru.wat_nodes (zr T p G) _ rfl (zc T p G), zp]
 exact run26
theorem look23 (h : ads.length = 26) : ∃ q cap nodes, (lks (Sw.start 3 (z T) p G) (z T).ticks ads)[23]? = some ⟨23, ⟨2, 1⟩, ⟨2, 1⟩, some ⟨q, 0, none⟩, 3, cap, nodes⟩ ∧ (∀ k, k < 3 → (ndAt nodes k).md = 3 ∧ (ndAt nodes k).ps = 2) := by
 obtain ⟨p0, hp0⟩ : ∃ p0, ads[23]? = some p0 := ⟨_, List.getElem?_eq_getElem (by omega)⟩
 refine ⟨p0.1, p0.2, (wat (Sw.start 3 (z T) p G) (z T).ticks 24).nodes, ?_, ?_⟩
 ·unfold lks
  rw [List.getElem?_mapIdx, hp0]
  unfold lkAt
  have e0 := Ru.wat_said (zr T p G) (z T).ticks rfl (zc T p G) 23
  rw [zp] at e0
  have e1 : Ru.Ma.said (Sw.start 3 (z T) p G).n (Ru.Ma.run (Sw.start 3 (z T) p G).n [0, 0, 0] ⟨(Sw.start 3 (z T) p G).tick, (Sw.start 3 (z T) p G).h0, (Sw.start 3 (z T) p G).nodes⟩ 23) = ⟨2, 1⟩ := said23
  rw [e1] at e0
  have er := Ru.wat_r1 (zr T p G) (z T).ticks rfl 23
  have et := Ru.wat_tick (Sw.start 3 (z T) p G) (z T).ticks rfl 23 (by omega)
  simp only [Option.map_some]
  rw [er, e0, et]
  rfl
 ·intro k hk
  have e : (wat (Sw.start 3 (z T) p G) (z T).ticks 24).nodes = [⟨0, 3, 0, 2⟩, ⟨1, 3, 0, 2⟩, ⟨2, 3, 0, 2⟩] := by
   rw [Ru.wat_nodes (zr T p G) _ rfl (zc T p G), zp]
   exact run24
  rw [e]
  have h3 : k = 0 ∨ k = 1 ∨ k = 2 := by omega
  rcases h3 with rfl | rfl | rfl <;> exact ⟨rfl, rfl⟩
end
set_option maxHeartbeats 2000000 in
theorem awake_calls (w : World) : Calls Tryz.prog 11 #[] w fun e w' => e = .returned (.bool true) ∧ Below w.heap.size w w' := by
 have hmk := fun W => mk_ticks W
 go_enter Tryz.func11, Tryz.ntmps11
 go_wp2_with fail
 have RT := Kit.Row.newAt w (madeCells #[.string ⟨#[]⟩, .string ⟨#[]⟩, .slice none 0 0, .int .i64 0] (26 * 4)) 53 w.heap.size rfl
 have hch := chs_row RT
 have HB := Lib.hid ((Below.refl w.heap.size w).alloc (Nat.le_refl _) (.cells (madeCells #[.string ⟨#[]⟩, .string ⟨#[]⟩, .slice none 0 0, .int .i64 0] (26 * 4)) 53))
 generalize w.alloc (.cells (madeCells #[.string ⟨#[]⟩, .string ⟨#[]⟩, .slice none 0 0, .int .i64 0] (26 * 4)) 53) = w1 at *
 clear hmk RT
 have hal := all0_calls 3 (z w.heap.size) w1 (by omega) (by omega) rfl rfl ⟨rfl, fun h => absurd h (by show ¬ 0 < 0; omega)⟩ hch (by show 26 ≤ 1000000; omega)
 refine hal.mono ?_
 rintro e w2 ⟨p, G, A, cap, ads, rfl, hlen, hlk, _, ht, hb⟩
 have hy := nodes26 w.heap.size p G ads hlen
 obtain ⟨q, cq, nodes, hq, hm⟩ := look23 w.heap.size p G ads hlen
 obtain ⟨bA, off, rfl, hbA, hrow⟩ := hlk.row (by show 0 < 26; omega)
 obtain ⟨c0, c1, c2, c3, c4, c5⟩ := hrow 23 _ hq
 have hqn := (hlk.there _ (List.mem_of_getElem? hq)).nodes
 have hyn : (now (Sw.start 3 (z w.heap.size) p G) (z w.heap.size).ticks ads).n = 3 := now_n _ _ _
 obtain ⟨y, hye⟩ : ∃ y, y = now (Sw.start 3 (z w.heap.size) p G) (z w.heap.size).ticks ads := ⟨_, rfl⟩
 rw [← hye] at hy ht hyn ⊢
 have hna := ht.nodes
 rw [hy, hyn] at hna
 obtain ⟨g, go, ega, glt, m0, m1, m2, m3⟩ := Nodes.at_ hna (q := 0) (by omega)
 have HBB := Lib.hid (HB.out.trans (hb.mono HB.out.size))
 have HQ := Lib.hid hqn
 have HM := Lib.hid hm
 clear hal hlk hrow hq hye hy ht hna hch hb HB hqn hm
 change _ = some (Value.int .i64 0) at m0
 change _ = some (Value.int .i64 3) at m1
 change _ = some (Value.int .i64 0) at m2
 change _ = some (Value.int .i64 1) at m3
 change _ = some (Value.int .i64 23) at c0
 change _ = some (Value.int .i64 2) at c1
 change _ = some (Value.int .i64 1) at c2
 change _ = some (Value.int .i64 2) at c3
 change _ = some (Value.int .i64 1) at c4
 change _ = some (Value.slice (some ⟨q, 0, none⟩) 3 cq) at c5
 dsimp only [z]
 iterate 19 (first | go_guarded | go_step | go_upon | go_back)
 refine Kit.wpList_store_row rfl 36 (.tmp 2) (.tmp 9) rfl w2.heap.size 0 #[.int .i64 y.n, .int .i64 y.tick, .int .i64 y.c, .int .i64 y.v, .slice y.pa y.n y.pc, .slice y.na y.n y.nc, .int .i64 (y.h0.ag 0), .int .i64 (y.h0.ag 1), .int .i64 (y.h0.ag 2), .int .i64 (y.h0.ag 3), .int .i64 (y.h0.ag 4), .int .i64 (y.h0.ag 5), .int .i64 (y.h0.ag 6), .int .i64 (y.h0.ag 7), .int .i64 y.h0.port, .int .i64 y.h0.age, .int .i64 y.h0.hold, .int .i64 y.h0.pos, .int .i64 (y.h1.ag 0), .int .i64 (y.h1.ag 1), .int .i64 (y.h1.ag 2), .int .i64 (y.h1.ag 3), .int .i64 (y.h1.ag 4), .int .i64 (y.h1.ag 5), .int .i64 (y.h1.ag 6), .int .i64 (y.h1.ag 7), .int .i64 y.h1.port, .int .i64 y.h1.age, .int .i64 y.h1.hold, .int .i64 y.h1.pos] rfl rfl (Kit.Row.newAt w2 _ _ _ rfl) (by simp) sizeWorld (by first | rfl | (simp [Value.oneCell']; done) | decide) ?_
 intro W hW
 have RY : Kit.Row W w2.heap.size [.int .i64 y.n, .int .i64 y.tick, .int .i64 y.c, .int .i64 y.v, .slice y.pa y.n y.pc, .slice y.na y.n y.nc, .int .i64 (y.h0.ag 0), .int .i64 (y.h0.ag 1), .int .i64 (y.h0.ag 2), .int .i64 (y.h0.ag 3), .int .i64 (y.h0.ag 4), .int .i64 (y.h0.ag 5), .int .i64 (y.h0.ag 6), .int .i64 (y.h0.ag 7), .int .i64 y.h0.port, .int .i64 y.h0.age, .int .i64 y.h0.hold, .int .i64 y.h0.pos, .int .i64 (y.h1.ag 0), .int .i64 (y.h1.ag 1), .int .i64 (y.h1.ag 2), .int .i64 (y.h1.ag 3), .int .i64 (y.h1.ag 4), .int .i64 (y.h1.ag 5), .int .i64 (y.h1.ag 6), .int .i64 (y.h1.ag 7), .int .i64 y.h1.port, .int .i64 y.h1.age, .int .i64 y.h1.hold, .int .i64 y.h1.pos] := (Kit.Row.newAt w2 _ _ _ rfl).all hW rfl
 have b1 := Kit.below_of ((Below.refl w2.heap.size w2).alloc (Nat.le_refl _) (.cells #[.int .i64 0, .int .i64 0, .int .i64 0, .int .i64 0, .slice none 0 0, .slice none 0 0, .int .i64 0, .int .i64 0, .int .i64 0, .int .i64 0, .int .i64 0, .int .i64 0, .int .i64 0, .int .i64 0, .int .i64 0, .int .i64 0, .int .i64 0, .int .i64 0, .int .i64 0, .int .i64 0, .int .i64 0, .int .i64 0, .int .i64 0, .int .i64 0, .int .i64 0, .int .i64 0, .int .i64 0, .int .i64 0, .int .i64 0, .int .i64 0] 36)) hW (Nat.le_refl _)
 have n5 := RY.at_ 5 (.slice y.na y.n y.nc) rfl
 rw [ega, hyn] at n5
 replace m0 := Kit.cell_below b1 m0
 replace m1 := Kit.cell_below b1 m1
 replace m2 := Kit.cell_below b1 m2
 replace m3 := Kit.cell_below b1 m3
 replace c0 := Kit.cell_below b1 c0
 replace c1 := Kit.cell_below b1 c1
 replace c2 := Kit.cell_below b1 c2
 replace c3 := Kit.cell_below b1 c3
 replace c4 := Kit.cell_below b1 c4
 replace c5 := Kit.cell_below b1 c5
 have HB2 := Lib.hid (HBB.out.trans (b1.mono HBB.out.size))
 have HQ2 := Lib.hid (HQ.out.below b1)
 clear hW RY b1 HBB HQ
 simp only [Nat.zero_mul, Nat.add_zero] at m0 m1 m2 m3
 go_wp2_with fail
 refine (Tl.Look_calls (some ⟨q, 0, none⟩) cq nodes W HQ2.out HM.out).mono ?_
 rintro e w9 ⟨rfl, b9⟩
 go_wp2_with fail
 go_ret
 exact ⟨rfl, HB2.out.trans (b9.mono HB2.out.size)⟩
end Aw
end Go.Proofs.YtgiojagdmglinaaGreatDoor
namespace Go.Proofs.YtgiojagdmglinaaGreatDoor
open Go Go.RowKit
namespace Sm
set_option maxHeartbeats 1000000 in
theorem small15_calls (ch : Ch) (w : World) : Calls Tryz.prog 28 #[.agg #[.string ch.b0, .string ch.b1, .slice ch.at_ ch.np ch.cap, .int .i64 ch.link]] w fun e w' => (∃ b, e = .returned (.bool b)) ∧ Below w.heap.size w w' := by
 rcases Bool.eq_false_or_eq_true (decide ((ch.b0.size : Int) ≤ 100)) with g0 | g0 <;> rcases Bool.eq_false_or_eq_true (decide ((ch.b1.size : Int) ≤ 100)) with g1 | g1 <;> rcases Bool.eq_false_or_eq_true (decide ((ch.np : Int) ≤ 20)) with g2 | g2
 all_goals
  go_enter Tryz.func28, Tryz.ntmps28
  go_wp2_with fail
  go_ret
  exact ⟨⟨_, rfl⟩, (Below.refl _ _).alloc (Nat.le_refl _) _⟩
set_option maxHeartbeats 1000000 in
theorem small_calls (A A2 A3 : Option Addr) (pn pc nn nc tn tc : Nat) (most : Nat) (ticks : List Ch) (w : World) (hl : Chs w A3 tn ticks) (hm : most ≤ 1000000) :
  Calls Tryz.prog 10 #[.slice A pn pc, .slice A2 nn nc, .slice A3 tn tc, .int .i64 most] w fun e w' => (∃ b, e = .returned (.bool b) ∧ (b = true → pn ≤ 20 ∧ nn ≤ 20 ∧ tn ≤ most)) ∧ Below w.heap.size w w' := by
 have k := fun ch W => small15_calls ch W
 have K := Lib.hid k
 have HL := Lib.hid hl
 clear k hl
 by_cases h0 : 20 < pn
 ·have g0 : decide ((20 : Int) < (pn : Int)) = true := decide_eq_true (by omega)
  go_enter Tryz.func10, Tryz.ntmps10
  go_wp2_with fail
  go_ret
  exact ⟨⟨_, rfl, fun h => by cases h⟩, Below.refl _ _⟩
 ·have g0 : decide ((20 : Int) < (pn : Int)) = false := decide_eq_false (by omega)
  by_cases h1 : 20 < nn
  ·have g1 : decide ((20 : Int) < (nn : Int)) = true := decide_eq_true (by omega)
   go_enter Tryz.func10, Tryz.ntmps10
   go_wp2_with fail
   go_ret
   exact ⟨⟨_, rfl, fun h => by cases h⟩, Below.refl _ _⟩
  ·have g1 : decide ((20 : Int) < (nn : Int)) = false := decide_eq_false (by omega)
   by_cases h2 : most < tn
   ·have g2 : decide ((most : Int) < (tn : Int)) = true := decide_eq_true (by omega)
    go_enter Tryz.func10, Tryz.ntmps10
    go_wp2_with fail
    go_ret
    exact ⟨⟨_, rfl, fun h => by cases h⟩, Below.refl _ _⟩
   ·have g2 : decide ((most : Int) < (tn : Int)) = false := decide_eq_false (by omega)
    go_enter Tryz.func10, Tryz.ntmps10
    go_wp2_with fail
    go_loopw [9] (fun vi wr => ∃ k : Nat, k ≤ tn ∧ vi = .int .i64 k ∧ Hid (Below w.heap.size w wr)) (fun vi _ => tn - (intOf vi).toNat)
    case atStart => exact ⟨0, by omega, rfl, Lib.hid (Below.refl _ _)⟩
    case round =>
     obtain ⟨k, hk, rfl, HB⟩ := hrel
     by_cases hlt : k < tn
     ·have gk : decide ((k : Int) < (tn : Int)) = true := decide_eq_true (by omega)
      obtain ⟨b, off, ea, hb, m0, m1, m2, m3⟩ := (HL.out.below HB.out).at_ hlt
      obtain ⟨ch, hch⟩ : ∃ ch, ch = ticks.getD k default := ⟨_, rfl⟩
      rw [← hch] at m0 m1 m2 m3
      clear hch
      subst ea
      go_wp2_with fail
      refine (K.out ch _).mono ?_
      rintro e w2 ⟨⟨bb, rfl⟩, b2⟩
      have HB2 := Lib.hid (HB.out.trans (b2.mono HB.out.size))
      clear b2 m0 m1 m2 m3
      cases bb with
      | true =>
       go_wp2_with fail
       go_roundw
       case rel => exact ⟨k + 1, by omega, by go_num, HB2⟩
       case measure => simp [intOf]; omega
      | false =>
       go_wp2_with fail
       go_ret
       exact ⟨⟨_, rfl, fun h => by cases h⟩, HB2.out⟩
     ·have gk : decide ((k : Int) < (tn : Int)) = false := decide_eq_false (by omega)
      go_wp2_with fail
      go_ret
      exact ⟨⟨_, rfl, fun _ => ⟨by omega, by omega, by omega⟩⟩, HB.out⟩
set_option maxHeartbeats 1000000 in
theorem may_calls (s : Sc) (most : Nat) (w : World) (hl : Chs w s.ta s.tn s.ticks) (hm : most ≤ 1000000) :
  Calls Tryz.prog 17 #[.agg s.cells.toArray, .bool false, .int .i64 most] w fun e w' => (∃ b, e = .returned (.bool b) ∧ (b = true → 3 ≤ s.n ∧ s.n ≤ 8 ∧ s.ld = false ∧ s.tn ≤ most)) ∧ Below w.heap.size w w' := by
 have k := fun W (hW : Below w.heap.size w W) => small_calls s.pa s.na s.ta s.pn s.pc s.nn s.nc s.tn s.tc most s.ticks W (hl.below hW) hm
 have k2 := fun W => Port.conf_calls s.n W
 have K := Lib.hid k
 have K2 := Lib.hid k2
 clear k k2 hl
 show Calls Tryz.prog 17 #[.agg #[.int .i64 s.n, .slice s.pa s.pn s.pc, .int .i64 s.c, .int .i64 s.v, .bool s.ld, .slice s.na s.nn s.nc, .int .i64 (s.h0.ag 0), .int .i64 (s.h0.ag 1), .int .i64 (s.h0.ag 2), .int .i64 (s.h0.ag 3), .int .i64 (s.h0.ag 4), .int .i64 (s.h0.ag 5), .int .i64 (s.h0.ag 6), .int .i64 (s.h0.ag 7), .int .i64 s.h0.port, .int .i64 s.h0.age, .int .i64 s.h0.hold, .int .i64 s.h0.pos, .int .i64 (s.h1.ag 0), .int .i64 (s.h1.ag 1), .int .i64 (s.h1.ag 2), .int .i64 (s.h1.ag 3), .int .i64 (s.h1.ag 4), .int .i64 (s.h1.ag 5), .int .i64 (s.h1.ag 6), .int .i64 (s.h1.ag 7), .int .i64 s.h1.port, .int .i64 s.h1.age, .int .i64 s.h1.hold, .int .i64 s.h1.pos, .slice s.ta s.tn s.tc], .bool false, .int .i64 most] w _
 go_enter Tryz.func17, Tryz.ntmps17
 go_wp2_with fail
 refine (K.out _ ((Below.refl _ _).alloc (Nat.le_refl _) _)).mono ?_
 rintro e w2 ⟨⟨b, rfl, hb⟩, b2⟩
 have HB := Lib.hid (((Below.refl w.heap.size w).alloc (Nat.le_refl _) (.cells #[.int .i64 s.n, .slice s.pa s.pn s.pc, .int .i64 s.c, .int .i64 s.v, .bool s.ld, .slice s.na s.nn s.nc, .int .i64 (s.h0.ag 0), .int .i64 (s.h0.ag 1), .int .i64 (s.h0.ag 2), .int .i64 (s.h0.ag 3), .int .i64 (s.h0.ag 4), .int .i64 (s.h0.ag 5), .int .i64 (s.h0.ag 6), .int .i64 (s.h0.ag 7), .int .i64 s.h0.port, .int .i64 s.h0.age, .int .i64 s.h0.hold, .int .i64 s.h0.pos, .int .i64 (s.h1.ag 0), .int .i64 (s.h1.ag 1), .int .i64 (s.h1.ag 2), .int .i64 (s.h1.ag 3), .int .i64 (s.h1.ag 4), .int .i64 (s.h1.ag 5), .int .i64 (s.h1.ag 6), .int .i64 (s.h1.ag 7), .int .i64 s.h1.port, .int .i64 s.h1.age, .int .i64 s.h1.hold, .int .i64 s.h1.pos, .slice s.ta s.tn s.tc] 32)).trans (b2.mono (by simp)))
 have RS := (Kit.Row.newAt w #[.int .i64 s.n, .slice s.pa s.pn s.pc, .int .i64 s.c, .int .i64 s.v, .bool s.ld, .slice s.na s.nn s.nc, .int .i64 (s.h0.ag 0), .int .i64 (s.h0.ag 1), .int .i64 (s.h0.ag 2), .int .i64 (s.h0.ag 3), .int .i64 (s.h0.ag 4), .int .i64 (s.h0.ag 5), .int .i64 (s.h0.ag 6), .int .i64 (s.h0.ag 7), .int .i64 s.h0.port, .int .i64 s.h0.age, .int .i64 s.h0.hold, .int .i64 s.h0.pos, .int .i64 (s.h1.ag 0), .int .i64 (s.h1.ag 1), .int .i64 (s.h1.ag 2), .int .i64 (s.h1.ag 3), .int .i64 (s.h1.ag 4), .int .i64 (s.h1.ag 5), .int .i64 (s.h1.ag 6), .int .i64 (s.h1.ag 7), .int .i64 s.h1.port, .int .i64 s.h1.age, .int .i64 s.h1.hold, .int .i64 s.h1.pos, .slice s.ta s.tn s.tc] 32 w.heap.size rfl).below b2
 have c0 := RS.at_ 0 (.int .i64 s.n) rfl
 have c4 := RS.at_ 4 (.bool s.ld) rfl
 clear b2 RS
 cases b with
 | false =>
  clear hb
  go_wp2_with fail
  go_ret
  exact ⟨⟨_, rfl, fun h => by cases h⟩, HB.out⟩
 | true =>
  have hb' := (hb rfl).2.2
  clear hb
  go_wp2_with fail
  refine (K2.out _).mono ?_
  rintro e w3 ⟨rfl, rfl⟩
  by_cases h3 : 3 ≤ s.n ∧ s.n ≤ 8
  ·have e3 : (decide (3 ≤ s.n) && decide (s.n ≤ 8)) = true := by simp [h3]
   rw [e3]
   cases hld : s.ld with
   | true =>
    rw [hld] at c4
    go_wp2_with fail
    go_ret
    exact ⟨⟨_, rfl, fun h => by cases h⟩, HB.out⟩
   | false =>
    rw [hld] at c4
    go_wp2_with fail
    go_ret
    exact ⟨⟨_, rfl, fun _ => ⟨h3.1, h3.2, hld, hb'⟩⟩, HB.out⟩
  ·have e3 : (decide (3 ≤ s.n) && decide (s.n ≤ 8)) = false := by simp only [Bool.and_eq_false_iff, decide_eq_false_iff_not]; omega
   rw [e3]
   go_wp2_with fail
   go_ret
   exact ⟨⟨_, rfl, fun h => by cases h⟩, HB.out⟩
set_option maxHeartbeats 1000000 in
theorem nodes_calls (A A2 : Option Addr) (n c1 c2 : Nat) (l : List Nd) (w : World) (h1 : Nodes w A n l) (h2 : Nodes w A2 n l) (hn8 : n ≤ 1000) :
  Calls Tryz.prog 20 #[.slice A n c1, .slice A2 n c2] w fun e w' => e = .returned (.bool true) ∧ Below w.heap.size w w' := by
 have H1 := Lib.hid h1
 have H2 := Lib.hid h2
 have gn : ((n : Int) != (n : Int)) = false := by simp
 clear h1 h2
 go_enter Tryz.func20, Tryz.ntmps20
 go_wp2_with fail
 go_loopw [5] (fun vi wr => ∃ k : Nat, k ≤ n ∧ vi = .int .i64 k ∧ Hid (Below w.heap.size w wr)) (fun vi _ => n - (intOf vi).toNat)
 case atStart => exact ⟨0, by omega, rfl, Lib.hid (Below.refl _ _)⟩
 case round =>
  obtain ⟨k, hk, rfl, HB⟩ := hrel
  by_cases hlt : k < n
  ·have gk : decide ((k : Int) < (n : Int)) = true := decide_eq_true (by omega)
   obtain ⟨b, off, rfl, hb, m0, m1, m2, m3⟩ := Nodes.at_ (H1.out.below HB.out) hlt
   obtain ⟨b', off', rfl, hb', q0, q1, q2, q3⟩ := Nodes.at_ (H2.out.below HB.out) hlt
   go_wp2_with fail
   refine wp_region_held_drew (S := (fun w' => w'.cell? ⟨b, off + k * 4, none⟩ = some (.int .i64 (ndAt l k).id) ∧ w'.cell? ⟨b, off + k * 4 + 1, none⟩ = some (.int .i64 (ndAt l k).md) ∧ w'.cell? ⟨b, off + k * 4 + 2, none⟩ = some (.int .i64 (ndAt l k).ct) ∧ w'.cell? ⟨b, off + k * 4 + 3, none⟩ = some (.int .i64 (ndAt l k).ps) ∧ w'.cell? ⟨b', off' + k * 4, none⟩ = some (.int .i64 (ndAt l k).id) ∧ w'.cell? ⟨b', off' + k * 4 + 1, none⟩ = some (.int .i64 (ndAt l k).md) ∧ w'.cell? ⟨b', off' + k * 4 + 2, none⟩ = some (.int .i64 (ndAt l k).ct) ∧ w'.cell? ⟨b', off' + k * 4 + 3, none⟩ = some (.int .i64 (ndAt l k).ps))) (by kernel_rfl) ?_ (fun hHeld => ?_)
   ·go_keep
   refine Rgn.tk 0 rfl ?_
   try simp only [Act.put, Rgn.a, Rgn.b, Rgn.c]
   refine Rgn.tk 1 rfl ?_
   try simp only [Act.put, Rgn.a, Rgn.b, Rgn.c]
   refine Rgn.tk 2 rfl ?_
   try simp only [Act.put, Rgn.a, Rgn.b, Rgn.c]
   refine Rgn.tk 3 rfl ?_
   try simp only [Act.put, Rgn.a, Rgn.b, Rgn.c]
   refine Rgn.tk 4 rfl ?_
   try simp only [Act.put, Rgn.a, Rgn.b, Rgn.c]
   refine Rgn.tk 5 rfl ?_
   try simp only [Act.put, Rgn.a, Rgn.b, Rgn.c]
   refine Rgn.tk 6 rfl ?_
   try simp only [Act.put, Rgn.a, Rgn.b, Rgn.c]
   refine Rgn.tk 7 rfl ?_
   try simp only [Act.put, Rgn.a, Rgn.b, Rgn.c]
   refine Rgn.tk 8 rfl ?_
   try simp only [Act.put, Rgn.a, Rgn.b, Rgn.c]
   refine wpAnyH_done (by kernel_rfl) ?_ _
   clear m0 m1 m2 m3 q0 q1 q2 q3
   go_wp2_with fail
   go_roundw
   case rel => exact ⟨k + 1, by omega, by go_num, Lib.hid HB.out.drew⟩
   case measure => simp [intOf]; omega
  ·have gk : decide ((k : Int) < (n : Int)) = false := decide_eq_false (by omega)
   go_wp2_with fail
   go_ret
   exact ⟨rfl, HB.out⟩
end Sm
end Go.Proofs.YtgiojagdmglinaaGreatDoor
namespace Go.Proofs.YtgiojagdmglinaaGreatDoor
open Go.RowKit Go.ChangeShapes Go.WideShapes Go.Deep
namespace Op
section
variable {H : Type} {enc : TypeId × Value → H} {P : Program} {w : World} {base : Nat} {spare : Nat → Bool} {held : Bool}
theorem fields {t : TypeId} {fs : Array Field} {fuel : Nat} {cs : List Value} {x : DataW H × List MemPlace} (ht : P.underlying t = some (.struct fs)) (hone : oneCellFields P fs = true) (hC : P.cellsOf t = fs.size)
  (h : DataW.trod enc P w base spare held fuel t cs = some x) :
  cs.length = fs.size ∧ ∀ (j : Nat) (f : Field), fs[j]? = some f → ∃ (v : Value) (n : Nat) (y : DataW H × List MemPlace), cs[j]? = some v ∧ DataW.trod enc P w base spare held n f.type [v] = some y := by
 obtain ⟨xs, n, _, _, hl, hxl, hg⟩ := DataW.trod_struct ht h
 have hl' : cs.length = fs.size := by rw [hl, hC]
 refine ⟨hl', fun j f hj => ?_⟩
 obtain ⟨ho, hc⟩ := hone_of hone j f hj
 have hjl : j < fs.size := (Array.getElem?_eq_some_iff.1 hj).1
 have h1 := hg j f hj
 rw [ho, hc] at h1
 have hv : cs[j]? = some (cs[j]'(by omega)) := List.getElem?_eq_getElem (by omega)
 have h2 : (cs.drop j).take 1 = [cs[j]'(by omega)] := by
  rw [List.drop_eq_getElem_cons (by omega)]
  rfl
 rw [h2] at h1
 have h3 : xs[j]? = some (xs[j]'(by omega)) := List.getElem?_eq_getElem (by omega)
 exact ⟨_, n, _, hv, h1.trans h3⟩
theorem elems {t e : TypeId} {fuel k : Nat} {cs : List Value} {x : DataW H × List MemPlace} (ht : P.underlying t = some (.slice e)) (hk : P.cellsOf e = k) (h : DataW.trod enc P w base (fun _ => true) held fuel t cs = some x) :
  cs = [.slice none 0 0] ∨ ∃ (a : Addr) (len cap : Nat), cs = [.slice (some a) len cap] ∧ len ≤ maxLen ∧
   ∀ i, i < len → ∃ (c : List Value) (n : Nat) (y : DataW H × List MemPlace), c.length = k ∧ (∀ j, j < k → w.cell? (a.add (i * k + j)) = c[j]?) ∧ DataW.trod enc P w base (fun _ => true) held n e c = some y := by
 rcases open_slice ht h with h0 | ⟨a, len, cap, m, n, D, Pl, hcs, hb, hl, hm, hmm, hx, hi⟩
 ·exact .inl h0.1
 ·refine .inr ⟨a, len, cap, hcs, by omega, fun i hil => ?_⟩
  have hm' : m = cap := by simpa using hmm
  obtain ⟨c, hc, htr⟩ := hi i (by omega)
  rw [hk] at hc
  obtain ⟨_, hcl, hat⟩ := World.cells?_some hc
  exact ⟨c, n, _, hcl, fun j hj => by rw [← Go.Deep.add_add]; exact hat j hj, htr⟩
theorem list {α : Type} [Inhabited α] (cells : α → List Value) (Q : α → Prop) {t e : TypeId} {fuel k : Nat} {A : Option Addr} {len cap : Nat} {x : DataW H × List MemPlace} (ht : P.underlying t = some (.slice e)) (hk : P.cellsOf e = k) (hk0 : 0 < k)
  (hel : ∀ (n : Nat) (c : List Value) (y : DataW H × List MemPlace), DataW.trod enc P w base (fun _ => true) held n e c = some y → ∃ z : α, c = cells z ∧ Q z)
  (h : DataW.trod enc P w base (fun _ => true) held fuel t [.slice A len cap] = some x) :
  len ≤ maxLen ∧ ∃ l : List α, Lies w A len k (l.map cells) ∧ ∀ z ∈ l, Q z := by
 rcases elems ht hk h with h0 | ⟨a, len', cap', hcs, hm, hi⟩
 ·simp only [List.cons.injEq, Value.slice.injEq, and_true] at h0
  obtain ⟨rfl, rfl, rfl⟩ := h0
  exact ⟨by unfold maxLen; omega, [], ⟨rfl, fun h => absurd h (by omega)⟩, fun z hz => by simp at hz⟩
 ·simp only [List.cons.injEq, Value.slice.injEq, and_true] at hcs
  obtain ⟨rfl, rfl, rfl⟩ := hcs
  obtain ⟨f, hf⟩ := choose_lt (α := α) (p := fun i z => (∀ j, j < k → w.cell? (a.add (i * k + j)) = (cells z)[j]?) ∧ (cells z).length = k ∧ Q z) (n := len) (fun i hil => by
   obtain ⟨c, n, y, hcl, hat, htr⟩ := hi i hil
   obtain ⟨z, rfl, hq⟩ := hel n c y htr
   exact ⟨z, hat, hcl, hq⟩)
  refine ⟨hm, (List.range len).map f, ⟨by simp, fun hn => ?_⟩, fun z hz => ?_⟩
  ·obtain ⟨b, off, spot⟩ := a
   have hc0 : ∃ v, w.cell? ((⟨b, off, spot⟩ : Addr).add 0) = some v := by
    have h1 := (hf 0 hn).1 0 hk0
    rw [Nat.zero_mul, Nat.zero_add] at h1
    exact ⟨_, h1.trans (List.getElem?_eq_getElem (by rw [(hf 0 hn).2.1]; exact hk0))⟩
   obtain ⟨v0, hv0⟩ := hc0
   have hspot : spot = none := by simpa [Addr.add] using World.cell?_spot hv0
   subst hspot
   rw [Go.WideShapes.add_plain] at hv0
   refine ⟨b, off, rfl, World.block_lt_of_cell? w _ hv0, fun j c hj i v hv => ?_⟩
   rw [List.getElem?_map, List.getElem?_map] at hj
   have hjl : j < len := by
    rcases Nat.lt_or_ge j len with h1 | h1
    ·exact h1
    ·rw [List.getElem?_eq_none (by simpa using h1)] at hj; simp at hj
   rw [List.getElem?_range hjl] at hj
   simp only [Option.map_some, Option.some.injEq] at hj
   subst hj
   have hik : i < k := by have := (List.getElem?_eq_some_iff.1 hv).1; rw [(hf j hjl).2.1] at this; exact this
   have h1 := (hf j hjl).1 i hik
   rw [Go.WideShapes.add_plain, hv] at h1
   rw [← h1]
   congr 2
   omega
  ·obtain ⟨i, hir, rfl⟩ := List.mem_map.1 hz
   exact (hf i (by simpa using hir)).2.2
theorem int64 {t : TypeId} {n : Nat} {v : Value} {y : DataW H × List MemPlace} (ht : P.underlying t = some (.int .i64)) (h : DataW.trod enc P w base spare held n t [v] = some y) :
  ∃ z : Int, v = .int .i64 z ∧ -9223372036854775808 ≤ z ∧ z ≤ 9223372036854775807 := by
 obtain ⟨z, hc, _, hw⟩ := DataW.trod_int ht h
 simp only [List.cons.injEq, and_true] at hc
 exact ⟨z, hc, (bounds_i64 hw).1, (bounds_i64 hw).2⟩
end
end Op
end Go.Proofs.YtgiojagdmglinaaGreatDoor
namespace Go.Proofs.YtgiojagdmglinaaGreatDoor
open Go.RowKit Go.ChangeShapes Go.WideShapes Go.Deep
namespace Op
set_option maxRecDepth 100000
section
variable {H : Type} {enc : TypeId × Value → H} {w : World} {base : Nat} {spare : Nat → Bool} {held : Bool}
theorem frame {fuel : Nat} {c : List Value} {x : DataW H × List MemPlace} (h : DataW.trod enc Tryz.prog w base spare held fuel 45 c = some x) : ∃ z : Fr, c = z.cells ∧ z.fits := by
 obtain ⟨hl, hf⟩ := fields Tryz.underlying45 (by kernel_rfl) (by kernel_rfl) h
 have hl' : c.length = 2 := hl
 obtain ⟨v0, n0, y0, e0, t0⟩ := hf 0 _ rfl
 obtain ⟨v1, n1, y1, e1, t1⟩ := hf 1 _ rfl
 obtain ⟨a, rfl, a1, a2⟩ := int64 Tryz.underlying3 t0
 obtain ⟨b, rfl, b1, b2⟩ := int64 Tryz.underlying3 t1
 match c, hl' with
 | [c0, c1], _ =>
  simp only [List.getElem?_cons_zero, List.getElem?_cons_succ, Option.some.injEq] at e0 e1
  subst e0 e1
  exact ⟨⟨a, b⟩, rfl, a1, a2, b1, b2⟩
def IsFrame (v : Value) : Prop := ∃ z : Fr, v = .agg #[.int .i64 z.k, .int .i64 z.i] ∧ z.fits
theorem isFrame {r : Reach} {b0 : Nat} {v : Value} {d : DataW H} {p : List MemPlace} (hv : Value.okWide Tryz.prog w r b0 45 v) (h : DataW.Trod enc Tryz.prog w base spare held 45 v d p) : IsFrame v := by
 obtain ⟨cs, rfl, _⟩ := okWide_struct Tryz.underlying45 hv
 obtain ⟨fuel, hf⟩ := h
 have hf' : DataW.trod enc Tryz.prog w base spare held fuel 45 cs.toList = some (d, p) := hf
 obtain ⟨z, hz, hq⟩ := frame hf'
 obtain ⟨l⟩ := cs
 have hz' : l = z.cells := hz
 subst hz'
 exact ⟨z, rfl, hq⟩
end
end Op
end Go.Proofs.YtgiojagdmglinaaGreatDoor
namespace Go.Proofs.YtgiojagdmglinaaGreatDoor
open Go.RowKit Go.ChangeShapes Go.WideShapes Go.Deep
instance : Inhabited Fr := ⟨Fr.none⟩
namespace Op
set_option maxRecDepth 100000
section
variable {H : Type} {enc : TypeId × Value → H} {w : World} {base : Nat} {spare : Nat → Bool} {held : Bool}
def IsStrs (w : World) (v : Value) : Prop := ∃ A n cap l, v = .slice A n cap ∧ n ≤ maxLen ∧ Strs w A n l ∧ ∀ s ∈ l, s.size ≤ maxLen
theorem strs {fuel : Nat} {v : Value} {x : DataW H × List MemPlace} (h : DataW.trod enc Tryz.prog w base (fun _ => true) held fuel 107 [v] = some x) : IsStrs w v := by
 have h0 := elems (P := Tryz.prog) Tryz.underlying107 (k := 1) (by decide) h
 have hsh : ∃ A n cap, v = .slice A n cap := by
  rcases h0 with h1 | ⟨a, n, cap, h1, _⟩ <;> (simp only [List.cons.injEq, and_true] at h1; exact ⟨_, _, _, h1⟩)
 obtain ⟨A, n, cap, rfl⟩ := hsh
 obtain ⟨hm, l, hl, hq⟩ := list (P := Tryz.prog) (fun s : ByteArray => [Value.string s]) (fun s => s.size ≤ maxLen) Tryz.underlying107 (k := 1) (by decide) (by decide) (fun _ c _ h => by
  obtain ⟨s, hc, _, hs⟩ := DataW.trod_string Tryz.underlying9 h
  exact ⟨s, hc, hs⟩) h
 exact ⟨A, n, cap, l, rfl, hm, hl, hq⟩
theorem isStrs {r : Reach} {b0 : Nat} {v : Value} {d : DataW H} {p : List MemPlace} (hv : Value.okWide Tryz.prog w r b0 107 v) (h : DataW.Trod enc Tryz.prog w base (fun _ => true) held 107 v d p) : IsStrs w v := by
 obtain ⟨A, n, cap, rfl⟩ := okWide_slice Tryz.underlying107 hv
 obtain ⟨fuel, hf⟩ := h
 exact strs hf
def IsFrames (w : World) (v : Value) : Prop := ∃ A n cap l, v = .slice A n cap ∧ n ≤ maxLen ∧ Frames w A n l ∧ (A = none → cap = 0) ∧ ∀ z ∈ l, z.fits
theorem frames {fuel : Nat} {v : Value} {x : DataW H × List MemPlace} (h : DataW.trod enc Tryz.prog w base (fun _ => true) held fuel 79 [v] = some x) : IsFrames w v := by
 have h0 := elems (P := Tryz.prog) Tryz.underlying79 (k := 2) (by decide) h
 have hsh : ∃ A n cap, v = .slice A n cap ∧ (A = none → cap = 0) := by
  rcases h0 with h1 | ⟨a, n, cap, h1, _⟩
  ·simp only [List.cons.injEq, and_true] at h1; exact ⟨_, _, _, h1, fun _ => rfl⟩
  ·simp only [List.cons.injEq, and_true] at h1; exact ⟨_, _, _, h1, fun h => by cases h⟩
 obtain ⟨A, n, cap, rfl, hcap⟩ := hsh
 obtain ⟨hm, l, hl, hq⟩ := list (P := Tryz.prog) Fr.cells Fr.fits Tryz.underlying79 (k := 2) (by decide) (by decide) (fun _ _ _ h => frame h) h
 exact ⟨A, n, cap, l, rfl, hm, hl, hcap, hq⟩
theorem isFrames {r : Reach} {b0 : Nat} {v : Value} {d : DataW H} {p : List MemPlace} (hv : Value.okWide Tryz.prog w r b0 79 v) (h : DataW.Trod enc Tryz.prog w base (fun _ => true) held 79 v d p) : IsFrames w v := by
 obtain ⟨A, n, cap, rfl⟩ := okWide_slice Tryz.underlying79 hv
 obtain ⟨fuel, hf⟩ := h
 exact frames hf
def IsPAsk (w : World) (v : Value) : Prop := ∃ (n : Int) (l a b : Value), v = .agg #[.int .i64 n, l, a, b] ∧ IsStrs w l ∧ IsFrames w a ∧ IsFrames w b
end
end Op
end Go.Proofs.YtgiojagdmglinaaGreatDoor
namespace Go.Proofs.YtgiojagdmglinaaGreatDoor
open Go.RowKit Go.ChangeShapes Go.WideShapes Go.Deep
namespace Op
set_option maxRecDepth 100000
section
variable {H : Type} {enc : TypeId × Value → H} {w : World} {base : Nat} {spare : Nat → Bool} {held : Bool}
theorem node {fuel : Nat} {c : List Value} {x : DataW H × List MemPlace} (h : DataW.trod enc Tryz.prog w base spare held fuel 60 c = some x) : ∃ z : Nd, c = z.cells ∧ z.fits := by
 obtain ⟨hl, hf⟩ := fields Tryz.underlying60 (by kernel_rfl) (by kernel_rfl) h
 have hl' : c.length = 4 := hl
 obtain ⟨v0, n0, y0, e0, t0⟩ := hf 0 _ rfl
 obtain ⟨v1, n1, y1, e1, t1⟩ := hf 1 _ rfl
 obtain ⟨v2, n2, y2, e2, t2⟩ := hf 2 _ rfl
 obtain ⟨v3, n3, y3, e3, t3⟩ := hf 3 _ rfl
 obtain ⟨a, rfl, a1, a2⟩ := int64 Tryz.underlying3 t0
 obtain ⟨b, rfl, b1, b2⟩ := int64 Tryz.underlying3 t1
 obtain ⟨d, rfl, d1, d2⟩ := int64 Tryz.underlying3 t2
 obtain ⟨e, rfl, e1', e2'⟩ := int64 Tryz.underlying3 t3
 match c, hl' with
 | [c0, c1, c2, c3], _ =>
  simp only [List.getElem?_cons_zero, List.getElem?_cons_succ, Option.some.injEq] at e0 e1 e2 e3
  subst e0 e1 e2 e3
  exact ⟨⟨a, b, d, e⟩, rfl, e1', e2', b1, b2⟩
theorem nodes {fuel : Nat} {A : Option Addr} {n cap : Nat} {x : DataW H × List MemPlace} (h : DataW.trod enc Tryz.prog w base (fun _ => true) held fuel 25 [.slice A n cap] = some x) :
  n ≤ maxLen ∧ ∃ l : List Nd, Nodes w A n l ∧ ∀ z ∈ l, z.fits :=
 list Nd.cells Nd.fits Tryz.underlying25 (by kernel_rfl) (by decide) (fun _ _ _ h => node h) h
def IsNodes (w : World) (v : Value) : Prop := ∃ A n cap l, v = .slice A n cap ∧ n ≤ maxLen ∧ Nodes w A n l ∧ ∀ z ∈ l, z.fits
theorem isNodes {r : Reach} {b0 : Nat} {v : Value} {d : DataW H} {p : List MemPlace} (hv : Value.okWide Tryz.prog w r b0 25 v) (h : DataW.Trod enc Tryz.prog w base (fun _ => true) held 25 v d p) : IsNodes w v := by
 obtain ⟨A, n, cap, rfl⟩ := okWide_slice Tryz.underlying25 hv
 obtain ⟨fuel, hf⟩ := h
 obtain ⟨hm, l, hl, hq⟩ := nodes hf
 exact ⟨A, n, cap, l, rfl, hm, hl, hq⟩
def IsFault (v : Value) : Prop := ∃ a b : Int, v = .agg #[.int .i64 a, .int .i64 b] ∧ -9223372036854775808 ≤ a ∧ a ≤ 9223372036854775807 ∧ -9223372036854775808 ≤ b ∧ b ≤ 9223372036854775807
theorem isFault {r : Reach} {b0 : Nat} {v : Value} {d : DataW H} {p : List MemPlace} (hv : Value.okWide Tryz.prog w r b0 24 v) (h : DataW.Trod enc Tryz.prog w base spare held 24 v d p) : IsFault v := by
 obtain ⟨cs, rfl, _⟩ := okWide_struct Tryz.underlying24 hv
 obtain ⟨fuel, hf⟩ := h
 have hf' : DataW.trod enc Tryz.prog w base spare held fuel 24 cs.toList = some (d, p) := hf
 obtain ⟨hl, hg⟩ := fields Tryz.underlying24 (by kernel_rfl) (by kernel_rfl) hf'
 have hl' : cs.toList.length = 2 := hl
 obtain ⟨v0, n0, y0, e0, t0⟩ := hg 0 _ rfl
 obtain ⟨v1, n1, y1, e1, t1⟩ := hg 1 _ rfl
 obtain ⟨a, rfl, a1, a2⟩ := int64 Tryz.underlying3 t0
 obtain ⟨b, rfl, b1, b2⟩ := int64 Tryz.underlying3 t1
 obtain ⟨l⟩ := cs
 match l, hl' with
 | [c0, c1], _ =>
  simp only [List.getElem?_cons_zero, List.getElem?_cons_succ, Option.some.injEq] at e0 e1
  subst e0 e1
  exact ⟨a, b, rfl, a1, a2, b1, b2⟩
end
end Op
end Go.Proofs.YtgiojagdmglinaaGreatDoor
