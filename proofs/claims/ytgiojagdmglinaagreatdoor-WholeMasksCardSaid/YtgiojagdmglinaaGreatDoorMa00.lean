/-
  WholeMasks holds: whatever a faulty hub does, the nodes are behind each tick as they are without a fault.
  Conditions: none but those which the given statement itself asks (its tied card); the lemmas stand in the texts ahead of this one.
-/
import Derived.Test.YtgiojagdmglinaaGreatDoorRows
import Derived.WalkKit
import Derived.ProofKit
import Derived.Test.YtgiojagdmglinaaGreatDoorGb34
import Derived.Test.YtgiojagdmglinaaGreatDoorCards
import Derived.Test.YtgiojagdmglinaaGreatDoorTie
import Derived.OpenShut
import Derived.LaidMore
import Derived.Stop.Joined
import Derived.SevenTiedAt
import Derived.ShutString
set_option linter.unusedVariables false
set_option linter.unusedSimpArgs false
set_option maxRecDepth 100000
namespace Go.Proofs.YtgiojagdmglinaaGreatDoor.WholeMasks
theorem own : ownKnob Tryz.prog.godebug = none := by kernel_rfl
theorem laidOut : laidOutB Tryz.prog = true := by kernel_rfl
theorem named : Tryz.pinned.checked.prog.funcNamed Rows.wholeMasksRow.func = some 6 := by kernel_rfl
theorem facts : joinedFacts Tryz.pinned.checked.prog 6 Tryz.f6 Rows.wholeMasksSpec Rows.wholeMasksRow = true := by kernel_rfl
end Go.Proofs.YtgiojagdmglinaaGreatDoor.WholeMasks
namespace Go.Proofs.YtgiojagdmglinaaGreatDoor.WholeMasks
open Go Go.RowKit
theorem _root_.Go.Proofs.YtgiojagdmglinaaGreatDoor.Lies.drew {w : World} {A : Option Addr} {n k : Nat} {cs : List (List Value)} (h : Lies w A n k cs) : Lies w.drew A n k cs := ⟨h.len, h.at_⟩
theorem _root_.Go.Proofs.YtgiojagdmglinaaGreatDoor.Nodes.drew {w : World} {A : Option Addr} {n : Nat} {l : List Nd} (h : Nodes w A n l) : Nodes w.drew A n l := Lies.drew h
theorem same_nodes (n : Nat) (s : Sc) (c1 v1 c2 v2 : Int) (p1 G1 p2 G2 : Nat) (h3 : 3 ≤ n) (h8 : n ≤ 8) (hc1 : c1 ≠ 1) (hc2 : c2 ≠ 1) (k : Nat) :
  (Sw.wat (Sw.start n { s with c := c1, v := v1 } p1 G1) s.ticks k).nodes = (Sw.wat (Sw.start n { s with c := c2, v := v2 } p2 G2) s.ticks k).nodes := by
 have e : ∀ (c v : Int) (p G : Nat), c ≠ 1 → (Sw.start n { s with c := c, v := v } p G).c ≠ 1 := by
  intro c v p G hc
  show (if Flt.may n c v = true then c else 0) ≠ 1
  split
  ·exact hc
  ·decide
 rw [Ru.wat_nodes (Sw.start_right n _ p1 G1 h3 h8) s.ticks rfl (e c1 v1 p1 G1 hc1), Ru.wat_nodes (Sw.start_right n _ p2 G2 h3 h8) s.ticks rfl (e c2 v2 p2 G2 hc2)]
 rfl
theorem all_gen (n : Nat) (s : Sc) (c v : Int) (w : World) (h3 : 3 ≤ n) (h8 : n ≤ 8) (hn : s.n = n) (hld : s.ld = false) (hp : Whole w s.pa s.pn s.power) (hl : Chs w s.ta s.tn s.ticks) (hm : s.tn ≤ 300) :
  Calls Tryz.prog 13 #[.agg #[.int .i64 s.n, .slice s.pa s.pn s.pc, .int .i64 c, .int .i64 v, .bool s.ld, .slice s.na s.nn s.nc, .int .i64 (s.h0.ag 0), .int .i64 (s.h0.ag 1), .int .i64 (s.h0.ag 2), .int .i64 (s.h0.ag 3), .int .i64 (s.h0.ag 4), .int .i64 (s.h0.ag 5), .int .i64 (s.h0.ag 6), .int .i64 (s.h0.ag 7), .int .i64 s.h0.port, .int .i64 s.h0.age, .int .i64 s.h0.hold, .int .i64 s.h0.pos, .int .i64 (s.h1.ag 0), .int .i64 (s.h1.ag 1), .int .i64 (s.h1.ag 2), .int .i64 (s.h1.ag 3), .int .i64 (s.h1.ag 4), .int .i64 (s.h1.ag 5), .int .i64 (s.h1.ag 6), .int .i64 (s.h1.ag 7), .int .i64 s.h1.port, .int .i64 s.h1.age, .int .i64 s.h1.hold, .int .i64 s.h1.pos, .slice s.ta s.tn s.tc]] w fun e w' => ∃ (y : Wd) (p G : Nat) (A : Option Addr) (cap : Nat) (ads : List (Nat × Nat)), e = .returned (.tuple #[.slice A s.tn cap, .agg y.cells.toArray, .int .i64 0]) ∧ ads.length = s.tn ∧
   Looks w' A s.tn (Sw.lks (Sw.start n { s with c := c, v := v } p G) s.ticks ads) ∧ Sw.Away w.heap.size A (Sw.lks (Sw.start n { s with c := c, v := v } p G) s.ticks ads) ∧ Below w.heap.size w w' := by
 refine (Sw.all0_calls n { s with c := c, v := v } w h3 h8 hn hld hp hl (show s.tn ≤ 1000000 by omega)).mono ?_
 rintro e w' ⟨p, G, A, cap, ads, rfl, hlen, hlk, haw, _, hb⟩
 exact ⟨_, p, G, A, cap, ads, rfl, hlen, hlk, haw, hb⟩
set_option maxHeartbeats 4000000 in
theorem walk1 (s : Sc) (who : Bool) (w : World) (hS : Op.ScThere w s) :
  Calls Tryz.prog 6 #[.agg s.cells.toArray, .bool who] w fun e w' => e = .returned (.bool true) ∧ Below w.heap.size w w' := by
 have HS := Lib.hid hS
 clear hS
 show Calls Tryz.prog 6 #[.agg #[.int .i64 s.n, .slice s.pa s.pn s.pc, .int .i64 s.c, .int .i64 s.v, .bool s.ld, .slice s.na s.nn s.nc, .int .i64 (s.h0.ag 0), .int .i64 (s.h0.ag 1), .int .i64 (s.h0.ag 2), .int .i64 (s.h0.ag 3), .int .i64 (s.h0.ag 4), .int .i64 (s.h0.ag 5), .int .i64 (s.h0.ag 6), .int .i64 (s.h0.ag 7), .int .i64 s.h0.port, .int .i64 s.h0.age, .int .i64 s.h0.hold, .int .i64 s.h0.pos, .int .i64 (s.h1.ag 0), .int .i64 (s.h1.ag 1), .int .i64 (s.h1.ag 2), .int .i64 (s.h1.ag 3), .int .i64 (s.h1.ag 4), .int .i64 (s.h1.ag 5), .int .i64 (s.h1.ag 6), .int .i64 (s.h1.ag 7), .int .i64 s.h1.port, .int .i64 s.h1.age, .int .i64 s.h1.hold, .int .i64 s.h1.pos, .slice s.ta s.tn s.tc], .bool who] w _
 go_enter Tryz.func6, Tryz.ntmps6
 go_upto_region 1 with fail
 have R1 := Lib.hid (Kit.Row.newAt w #[.int .i64 s.n, .slice s.pa s.pn s.pc, .int .i64 s.c, .int .i64 s.v, .bool s.ld, .slice s.na s.nn s.nc, .int .i64 (s.h0.ag 0), .int .i64 (s.h0.ag 1), .int .i64 (s.h0.ag 2), .int .i64 (s.h0.ag 3), .int .i64 (s.h0.ag 4), .int .i64 (s.h0.ag 5), .int .i64 (s.h0.ag 6), .int .i64 (s.h0.ag 7), .int .i64 s.h0.port, .int .i64 s.h0.age, .int .i64 s.h0.hold, .int .i64 s.h0.pos, .int .i64 (s.h1.ag 0), .int .i64 (s.h1.ag 1), .int .i64 (s.h1.ag 2), .int .i64 (s.h1.ag 3), .int .i64 (s.h1.ag 4), .int .i64 (s.h1.ag 5), .int .i64 (s.h1.ag 6), .int .i64 (s.h1.ag 7), .int .i64 s.h1.port, .int .i64 s.h1.age, .int .i64 s.h1.hold, .int .i64 s.h1.pos, .slice s.ta s.tn s.tc] 32 w.heap.size rfl)
 have B1 := Lib.hid ((Below.refl w.heap.size w).alloc (Nat.le_refl _) (.cells #[.int .i64 s.n, .slice s.pa s.pn s.pc, .int .i64 s.c, .int .i64 s.v, .bool s.ld, .slice s.na s.nn s.nc, .int .i64 (s.h0.ag 0), .int .i64 (s.h0.ag 1), .int .i64 (s.h0.ag 2), .int .i64 (s.h0.ag 3), .int .i64 (s.h0.ag 4), .int .i64 (s.h0.ag 5), .int .i64 (s.h0.ag 6), .int .i64 (s.h0.ag 7), .int .i64 s.h0.port, .int .i64 s.h0.age, .int .i64 s.h0.hold, .int .i64 s.h0.pos, .int .i64 (s.h1.ag 0), .int .i64 (s.h1.ag 1), .int .i64 (s.h1.ag 2), .int .i64 (s.h1.ag 3), .int .i64 (s.h1.ag 4), .int .i64 (s.h1.ag 5), .int .i64 (s.h1.ag 6), .int .i64 (s.h1.ag 7), .int .i64 s.h1.port, .int .i64 s.h1.age, .int .i64 s.h1.hold, .int .i64 s.h1.pos, .slice s.ta s.tn s.tc] 32))
 generalize w.alloc (.cells #[.int .i64 s.n, .slice s.pa s.pn s.pc, .int .i64 s.c, .int .i64 s.v, .bool s.ld, .slice s.na s.nn s.nc, .int .i64 (s.h0.ag 0), .int .i64 (s.h0.ag 1), .int .i64 (s.h0.ag 2), .int .i64 (s.h0.ag 3), .int .i64 (s.h0.ag 4), .int .i64 (s.h0.ag 5), .int .i64 (s.h0.ag 6), .int .i64 (s.h0.ag 7), .int .i64 s.h0.port, .int .i64 s.h0.age, .int .i64 s.h0.hold, .int .i64 s.h0.pos, .int .i64 (s.h1.ag 0), .int .i64 (s.h1.ag 1), .int .i64 (s.h1.ag 2), .int .i64 (s.h1.ag 3), .int .i64 (s.h1.ag 4), .int .i64 (s.h1.ag 5), .int .i64 (s.h1.ag 6), .int .i64 (s.h1.ag 7), .int .i64 s.h1.port, .int .i64 s.h1.age, .int .i64 s.h1.hold, .int .i64 s.h1.pos, .slice s.ta s.tn s.tc] 32) = w2 at *
 go_step
 refine Kit.wpList_load_row rfl 32 (.tmp 2) rfl w.heap.size 0 rfl R1.out [.int .i64 s.n, .slice s.pa s.pn s.pc, .int .i64 s.c, .int .i64 s.v, .bool s.ld, .slice s.na s.nn s.nc, .int .i64 (s.h0.ag 0), .int .i64 (s.h0.ag 1), .int .i64 (s.h0.ag 2), .int .i64 (s.h0.ag 3), .int .i64 (s.h0.ag 4), .int .i64 (s.h0.ag 5), .int .i64 (s.h0.ag 6), .int .i64 (s.h0.ag 7), .int .i64 s.h0.port, .int .i64 s.h0.age, .int .i64 s.h0.hold, .int .i64 s.h0.pos, .int .i64 (s.h1.ag 0), .int .i64 (s.h1.ag 1), .int .i64 (s.h1.ag 2), .int .i64 (s.h1.ag 3), .int .i64 (s.h1.ag 4), .int .i64 (s.h1.ag 5), .int .i64 (s.h1.ag 6), .int .i64 (s.h1.ag 7), .int .i64 s.h1.port, .int .i64 s.h1.age, .int .i64 s.h1.hold, .int .i64 s.h1.pos, .slice s.ta s.tn s.tc] rfl _ Tryz.underlying32 rfl Nw.sizeScript ?_
 go_wp2_with fail
 refine (Sm.may_calls s 300 w2 (HS.out.ticks.below B1.out) (by omega)).mono ?_
 rintro e w3 ⟨⟨b, rfl, hb⟩, b3⟩
 have RS := Lib.hid (R1.out.below b3)
 have HB := Lib.hid (B1.out.trans (b3.mono B1.out.size))
 clear b3 R1 B1
 cases b with
 | false =>
  clear hb RS
  go_wp2_with fail
  refine (Aw.awake_calls _).mono ?_
  rintro e wz ⟨rfl, bz⟩
  have HBZ := Lib.hid (HB.out.trans (bz.mono HB.out.size))
  clear bz
  go_wp2_with fail
  go_ret
  exact ⟨rfl, HBZ.out⟩
 | true =>
  obtain ⟨h3', h8', hld, htn⟩ := hb rfl
  obtain ⟨n, hn⟩ : ∃ n : Nat, s.n = n := ⟨s.n.toNat, by omega⟩
  have h3 : 3 ≤ n := by omega
  have h8 : n ≤ 8 := by omega
  clear hb h3' h8'
  have HNN := Lib.hid hn
  have HLD := Lib.hid hld
  clear hn hld
  have d2 := RS.out.at_ 2 (.int .i64 s.c) rfl
  have d3 := RS.out.at_ 3 (.int .i64 s.v) rfl
  have z2 := RS.out.free 2 (by simp)
  have z3 := RS.out.free 3 (by simp)
  cases who with
  | false =>
   go_upto_region 6 with fail
   have R5 : Hid (Kit.Row _ w.heap.size [.int .i64 s.n, .slice s.pa s.pn s.pc, .int .i64 2, .int .i64 0, .bool s.ld, .slice s.na s.nn s.nc, .int .i64 (s.h0.ag 0), .int .i64 (s.h0.ag 1), .int .i64 (s.h0.ag 2), .int .i64 (s.h0.ag 3), .int .i64 (s.h0.ag 4), .int .i64 (s.h0.ag 5), .int .i64 (s.h0.ag 6), .int .i64 (s.h0.ag 7), .int .i64 s.h0.port, .int .i64 s.h0.age, .int .i64 s.h0.hold, .int .i64 s.h0.pos, .int .i64 (s.h1.ag 0), .int .i64 (s.h1.ag 1), .int .i64 (s.h1.ag 2), .int .i64 (s.h1.ag 3), .int .i64 (s.h1.ag 4), .int .i64 (s.h1.ag 5), .int .i64 (s.h1.ag 6), .int .i64 (s.h1.ag 7), .int .i64 s.h1.port, .int .i64 s.h1.age, .int .i64 s.h1.hold, .int .i64 s.h1.pos, .slice s.ta s.tn s.tc]) := Lib.hid (((RS.out.set 2 (.int .i64 2) (by simp)).set 3 (.int .i64 0) (by simp)).cast rfl)
   have HB5 := Lib.hid ((HB.out.setCell (p := ⟨w.heap.size, 2, none⟩) (Nat.le_refl _) (.int .i64 2)).setCell (p := ⟨w.heap.size, 3, none⟩) (Nat.le_refl _) (.int .i64 0))
   have hlt5 : w.heap.size < ((w3.setCell ⟨w.heap.size, 2, none⟩ (.int .i64 2)).setCell ⟨w.heap.size, 3, none⟩ (.int .i64 0)).heap.size := R5.out.lt
   clear d2 d3 z2 z3 RS HB
   generalize ((w3.setCell ⟨w.heap.size, 2, none⟩ (.int .i64 2)).setCell ⟨w.heap.size, 3, none⟩ (.int .i64 0)) = w5 at *
   go_step
   refine Kit.wpList_load_row rfl 32 (.tmp 2) rfl w.heap.size 0 rfl R5.out [.int .i64 s.n, .slice s.pa s.pn s.pc, .int .i64 2, .int .i64 0, .bool s.ld, .slice s.na s.nn s.nc, .int .i64 (s.h0.ag 0), .int .i64 (s.h0.ag 1), .int .i64 (s.h0.ag 2), .int .i64 (s.h0.ag 3), .int .i64 (s.h0.ag 4), .int .i64 (s.h0.ag 5), .int .i64 (s.h0.ag 6), .int .i64 (s.h0.ag 7), .int .i64 s.h0.port, .int .i64 s.h0.age, .int .i64 s.h0.hold, .int .i64 s.h0.pos, .int .i64 (s.h1.ag 0), .int .i64 (s.h1.ag 1), .int .i64 (s.h1.ag 2), .int .i64 (s.h1.ag 3), .int .i64 (s.h1.ag 4), .int .i64 (s.h1.ag 5), .int .i64 (s.h1.ag 6), .int .i64 (s.h1.ag 7), .int .i64 s.h1.port, .int .i64 s.h1.age, .int .i64 s.h1.hold, .int .i64 s.h1.pos, .slice s.ta s.tn s.tc] rfl _ Tryz.underlying32 rfl Nw.sizeScript ?_
   go_wp2_with fail
   have ha1 := all_gen n s 2 0 w5 h3 h8 HNN.out HLD.out (HS.out.power.below HB5.out) (HS.out.ticks.below HB5.out) (by omega)
   refine ha1.mono ?_
   rintro e w6 ⟨y1, q1, G1, A1, cap1, ads1, rfl, hlen1, hlk1, haw1, hb1⟩
   clear ha1
   have R6 := Lib.hid (R5.out.below hb1)
   have HB6 := Lib.hid (HB5.out.trans (hb1.mono HB5.out.size))
   have L1 := Lib.hid hlk1
   have AW1 := Lib.hid haw1
   clear hb1 hlk1 haw1 R5 HB5
   dsimp only
   iterate 19 (first | go_guarded | go_step | go_upon | go_back)
   refine Kit.wpList_store_row rfl 36 (.tmp 6) (.tmp 25) rfl w6.heap.size 0 #[.int .i64 y1.n, .int .i64 y1.tick, .int .i64 y1.c, .int .i64 y1.v, .slice y1.pa y1.n y1.pc, .slice y1.na y1.n y1.nc, .int .i64 (y1.h0.ag 0), .int .i64 (y1.h0.ag 1), .int .i64 (y1.h0.ag 2), .int .i64 (y1.h0.ag 3), .int .i64 (y1.h0.ag 4), .int .i64 (y1.h0.ag 5), .int .i64 (y1.h0.ag 6), .int .i64 (y1.h0.ag 7), .int .i64 y1.h0.port, .int .i64 y1.h0.age, .int .i64 y1.h0.hold, .int .i64 y1.h0.pos, .int .i64 (y1.h1.ag 0), .int .i64 (y1.h1.ag 1), .int .i64 (y1.h1.ag 2), .int .i64 (y1.h1.ag 3), .int .i64 (y1.h1.ag 4), .int .i64 (y1.h1.ag 5), .int .i64 (y1.h1.ag 6), .int .i64 (y1.h1.ag 7), .int .i64 y1.h1.port, .int .i64 y1.h1.age, .int .i64 y1.h1.hold, .int .i64 y1.h1.pos] rfl rfl (Kit.Row.newAt w6 _ _ _ rfl) (by simp) Sw.sizeWorld (by first | rfl | (simp [Value.oneCell']; done) | decide) ?_
   intro W7 hW7
   have bb7 := Kit.below_of ((Below.refl w6.heap.size w6).alloc (Nat.le_refl _) (.cells #[.int .i64 0, .int .i64 0, .int .i64 0, .int .i64 0, .slice none 0 0, .slice none 0 0, .int .i64 0, .int .i64 0, .int .i64 0, .int .i64 0, .int .i64 0, .int .i64 0, .int .i64 0, .int .i64 0, .int .i64 0, .int .i64 0, .int .i64 0, .int .i64 0, .int .i64 0, .int .i64 0, .int .i64 0, .int .i64 0, .int .i64 0, .int .i64 0, .int .i64 0, .int .i64 0, .int .i64 0, .int .i64 0, .int .i64 0, .int .i64 0] 36)) hW7 (Nat.le_refl _)
   have r7 := R6.out.below bb7
   have L17 := Lib.hid (L1.out.below bb7)
   have HB7 := Lib.hid (HB6.out.trans (bb7.mono HB6.out.size))
   clear hW7 bb7 R6 L1 HB6
   have d2 := r7.at_ 2 (.int .i64 2) rfl
   have d3 := r7.at_ 3 (.int .i64 0) rfl
   have z2 := r7.free 2 (by simp)
   have z3 := r7.free 3 (by simp)
   go_upto_region 8 with fail
   have R8 : Hid (Kit.Row _ w.heap.size [.int .i64 s.n, .slice s.pa s.pn s.pc, .int .i64 0, .int .i64 0, .bool s.ld, .slice s.na s.nn s.nc, .int .i64 (s.h0.ag 0), .int .i64 (s.h0.ag 1), .int .i64 (s.h0.ag 2), .int .i64 (s.h0.ag 3), .int .i64 (s.h0.ag 4), .int .i64 (s.h0.ag 5), .int .i64 (s.h0.ag 6), .int .i64 (s.h0.ag 7), .int .i64 s.h0.port, .int .i64 s.h0.age, .int .i64 s.h0.hold, .int .i64 s.h0.pos, .int .i64 (s.h1.ag 0), .int .i64 (s.h1.ag 1), .int .i64 (s.h1.ag 2), .int .i64 (s.h1.ag 3), .int .i64 (s.h1.ag 4), .int .i64 (s.h1.ag 5), .int .i64 (s.h1.ag 6), .int .i64 (s.h1.ag 7), .int .i64 s.h1.port, .int .i64 s.h1.age, .int .i64 s.h1.hold, .int .i64 s.h1.pos, .slice s.ta s.tn s.tc]) := Lib.hid (((r7.set 2 (.int .i64 0) (by simp)).set 3 (.int .i64 0) (by simp)).cast rfl)
   have HB8 := Lib.hid ((HB7.out.setCell (p := ⟨w.heap.size, 2, none⟩) (Nat.le_refl _) (.int .i64 0)).setCell (p := ⟨w.heap.size, 3, none⟩) (Nat.le_refl _) (.int .i64 0))
   have L18 := Lib.hid (Sw.looks_set (Sw.looks_set L17.out AW1.out (w.heap.size) 2 (.int .i64 0) (by omega)) AW1.out (w.heap.size) 3 (.int .i64 0) (by omega))
   clear d2 d3 z2 z3 r7 HB7 L17
   generalize ((W7.setCell ⟨w.heap.size, 2, none⟩ (.int .i64 0)).setCell ⟨w.heap.size, 3, none⟩ (.int .i64 0)) = w8 at *
   go_step
   refine Kit.wpList_load_row rfl 32 (.tmp 2) rfl w.heap.size 0 rfl R8.out [.int .i64 s.n, .slice s.pa s.pn s.pc, .int .i64 0, .int .i64 0, .bool s.ld, .slice s.na s.nn s.nc, .int .i64 (s.h0.ag 0), .int .i64 (s.h0.ag 1), .int .i64 (s.h0.ag 2), .int .i64 (s.h0.ag 3), .int .i64 (s.h0.ag 4), .int .i64 (s.h0.ag 5), .int .i64 (s.h0.ag 6), .int .i64 (s.h0.ag 7), .int .i64 s.h0.port, .int .i64 s.h0.age, .int .i64 s.h0.hold, .int .i64 s.h0.pos, .int .i64 (s.h1.ag 0), .int .i64 (s.h1.ag 1), .int .i64 (s.h1.ag 2), .int .i64 (s.h1.ag 3), .int .i64 (s.h1.ag 4), .int .i64 (s.h1.ag 5), .int .i64 (s.h1.ag 6), .int .i64 (s.h1.ag 7), .int .i64 s.h1.port, .int .i64 s.h1.age, .int .i64 s.h1.hold, .int .i64 s.h1.pos, .slice s.ta s.tn s.tc] rfl _ Tryz.underlying32 rfl Nw.sizeScript ?_
   go_wp2_with fail
   have ha2 := all_gen n s 0 0 w8 h3 h8 HNN.out HLD.out (HS.out.power.below HB8.out) (HS.out.ticks.below HB8.out) (by omega)
   refine ha2.mono ?_
   rintro e w9 ⟨y2, q2, G2, A2, cap2, ads2, rfl, hlen2, hlk2, haw2, hb2⟩
   clear ha2
   have HB9 := Lib.hid (HB8.out.trans (hb2.mono HB8.out.size))
   have L19 := Lib.hid (L18.out.below hb2)
   have L2 := Lib.hid hlk2
   clear hb2 hlk2 haw2 R8 HB8 L18
   dsimp only
   iterate 19 (first | go_guarded | go_step | go_upon | go_back)
   refine Kit.wpList_store_row rfl 36 (.tmp 9) (.tmp 33) rfl w9.heap.size 0 #[.int .i64 y2.n, .int .i64 y2.tick, .int .i64 y2.c, .int .i64 y2.v, .slice y2.pa y2.n y2.pc, .slice y2.na y2.n y2.nc, .int .i64 (y2.h0.ag 0), .int .i64 (y2.h0.ag 1), .int .i64 (y2.h0.ag 2), .int .i64 (y2.h0.ag 3), .int .i64 (y2.h0.ag 4), .int .i64 (y2.h0.ag 5), .int .i64 (y2.h0.ag 6), .int .i64 (y2.h0.ag 7), .int .i64 y2.h0.port, .int .i64 y2.h0.age, .int .i64 y2.h0.hold, .int .i64 y2.h0.pos, .int .i64 (y2.h1.ag 0), .int .i64 (y2.h1.ag 1), .int .i64 (y2.h1.ag 2), .int .i64 (y2.h1.ag 3), .int .i64 (y2.h1.ag 4), .int .i64 (y2.h1.ag 5), .int .i64 (y2.h1.ag 6), .int .i64 (y2.h1.ag 7), .int .i64 y2.h1.port, .int .i64 y2.h1.age, .int .i64 y2.h1.hold, .int .i64 y2.h1.pos] rfl rfl (Kit.Row.newAt w9 _ _ _ rfl) (by simp) Sw.sizeWorld (by first | rfl | (simp [Value.oneCell']; done) | decide) ?_
   intro W10 hW10
   have bb := Kit.below_of ((Below.refl w9.heap.size w9).alloc (Nat.le_refl _) (.cells #[.int .i64 0, .int .i64 0, .int .i64 0, .int .i64 0, .slice none 0 0, .slice none 0 0, .int .i64 0, .int .i64 0, .int .i64 0, .int .i64 0, .int .i64 0, .int .i64 0, .int .i64 0, .int .i64 0, .int .i64 0, .int .i64 0, .int .i64 0, .int .i64 0, .int .i64 0, .int .i64 0, .int .i64 0, .int .i64 0, .int .i64 0, .int .i64 0, .int .i64 0, .int .i64 0, .int .i64 0, .int .i64 0, .int .i64 0, .int .i64 0] 36)) hW10 (Nat.le_refl _)
   have L1A := Lib.hid (L19.out.below bb)
   have L2A := Lib.hid (L2.out.below bb)
   have HBA := Lib.hid (HB9.out.trans (bb.mono HB9.out.size))
   have gn : ((s.tn : Int) != (s.tn : Int)) = false := by simp
   clear hW10 bb L19 L2 HB9
   go_wp2_with fail
   go_loopw [11] (fun vi wr => ∃ k : Nat, k ≤ s.tn ∧ vi = .int .i64 k ∧ Hid (Below W10.heap.size W10 wr)) (fun vi _ => s.tn - (intOf vi).toNat)
   case atStart => exact ⟨0, by omega, rfl, Lib.hid (Below.refl _ _)⟩
   case round =>
    obtain ⟨k, hk, rfl, HB⟩ := hrel
    by_cases hlt : k < s.tn
    ·have gk : decide ((k : Int) < (s.tn : Int)) = true := decide_eq_true (by omega)
     obtain ⟨bA, oA, p1, rfl, hbA, _, _, _, _, _, m0, na⟩ := Sw.lk_at (L1A.out.below HB.out) hlen1 hlt
     obtain ⟨bB, oB, p2, rfl, hbB, _, _, _, _, _, m1, nb⟩ := Sw.lk_at (L2A.out.below HB.out) hlen2 hlt
     rw [same_nodes n s 2 0 0 0 q1 G1 q2 G2 h3 h8 (by decide) (by decide) (k + 1)] at na
     change _ = some (Value.slice (some ⟨p1, 0, none⟩) n _) at m0
     change _ = some (Value.slice (some ⟨p2, 0, none⟩) n _) at m1
     change Nodes _ _ n _ at na
     change Nodes _ _ n _ at nb
     generalize (ads1.getD k (0, 0)).2 = k1 at *
     generalize (ads2.getD k (0, 0)).2 = k2 at *
     have NA := Lib.hid na
     have NB := Lib.hid nb
     clear na nb
     go_wp2_with fail
     refine wp_region_held_drew (S := (fun w' => w'.cell? ⟨bA, oA + k * 6 + 5, none⟩ = some (.slice (some ⟨p1, 0, none⟩) n k1) ∧ w'.cell? ⟨bB, oB + k * 6 + 5, none⟩ = some (.slice (some ⟨p2, 0, none⟩) n k2))) (by kernel_rfl) ?_ (fun hHeld => ?_)
     ·go_keep
     refine Rgn.tk 0 rfl ?_
     try simp only [Act.put, Rgn.a, Rgn.b, Rgn.c]
     refine Rgn.tk 1 rfl ?_
     try simp only [Act.put, Rgn.a, Rgn.b, Rgn.c]
     refine Rgn.tk 2 rfl ?_
     try simp only [Act.put, Rgn.a, Rgn.b, Rgn.c]
     refine Rgn.tk 3 rfl ?_
     try simp only [Act.put, Rgn.a, Rgn.b, Rgn.c]
     refine Rgn.tk 4 rfl ?_
     try simp only [Act.put, Rgn.a, Rgn.b, Rgn.c]
     refine Rgn.tk 5 rfl ?_
     try simp only [Act.put, Rgn.a, Rgn.b, Rgn.c]
     refine Rgn.tk 6 rfl ?_
     try simp only [Act.put, Rgn.a, Rgn.b, Rgn.c]
     refine Rgn.tk 7 rfl ?_
     try simp only [Act.put, Rgn.a, Rgn.b, Rgn.c]
     refine Rgn.tk 8 rfl ?_
     try simp only [Act.put, Rgn.a, Rgn.b, Rgn.c]
     refine Rgn.tk 9 rfl ?_
     try simp only [Act.put, Rgn.a, Rgn.b, Rgn.c]
     refine Rgn.one 10 rfl (by kernel_rfl) (fun K hK => ?_)
     go_simp
     refine (Sm.nodes_calls (some ⟨p1, 0, none⟩) (some ⟨p2, 0, none⟩) n k1 k2 _ _ (NA.out.drew) (NB.out.drew) (by omega)).mono ?_
     rintro e wn ⟨rfl, bn⟩
     have y0 := Kit.cell_below bn m0
     have y1 := Kit.cell_below bn m1
     clear m0 m1
     have m0 := y0
     have m1 := y1
     clear y0 y1
     have HBn := Lib.hid (HB.out.drew.trans (bn.mono HB.out.drew.size))
     clear bn
     go_simp
     refine hK.out _ _ ?_ (fun hHeld => ?_)
     ·go_keep
     clear hK K
     try simp only [Act.put, Rgn.a, Rgn.b, Rgn.c]
     refine Rgn.tk 11 rfl ?_
     try simp only [Act.put, Rgn.a, Rgn.b, Rgn.c]
     refine wpAnyH_done (by kernel_rfl) ?_ _
     clear m0 m1
     go_wp2_with fail
     go_roundw
     case rel => exact ⟨k + 1, by omega, by go_num, HBn⟩
     case measure => simp [intOf]; omega
    ·have gk : decide ((k : Int) < (s.tn : Int)) = false := decide_eq_false (by omega)
     go_wp2_with fail
     refine (Aw.awake_calls _).mono ?_
     rintro e wz ⟨rfl, bz⟩
     have HBZ := Lib.hid (HBA.out.trans ((HB.out.trans (bz.mono HB.out.size)).mono HBA.out.size))
     clear bz
     go_wp2_with fail
     go_ret
     exact ⟨rfl, HBZ.out⟩
  | true =>
   go_upto_region 6 with fail
   have R5 : Hid (Kit.Row _ w.heap.size [.int .i64 s.n, .slice s.pa s.pn s.pc, .int .i64 2, .int .i64 1, .bool s.ld, .slice s.na s.nn s.nc, .int .i64 (s.h0.ag 0), .int .i64 (s.h0.ag 1), .int .i64 (s.h0.ag 2), .int .i64 (s.h0.ag 3), .int .i64 (s.h0.ag 4), .int .i64 (s.h0.ag 5), .int .i64 (s.h0.ag 6), .int .i64 (s.h0.ag 7), .int .i64 s.h0.port, .int .i64 s.h0.age, .int .i64 s.h0.hold, .int .i64 s.h0.pos, .int .i64 (s.h1.ag 0), .int .i64 (s.h1.ag 1), .int .i64 (s.h1.ag 2), .int .i64 (s.h1.ag 3), .int .i64 (s.h1.ag 4), .int .i64 (s.h1.ag 5), .int .i64 (s.h1.ag 6), .int .i64 (s.h1.ag 7), .int .i64 s.h1.port, .int .i64 s.h1.age, .int .i64 s.h1.hold, .int .i64 s.h1.pos, .slice s.ta s.tn s.tc]) := Lib.hid ((((RS.out.set 2 (.int .i64 2) (by simp)).set 3 (.int .i64 0) (by simp)).set 3 (.int .i64 1) (by simp)).cast rfl)
   have HB5 := Lib.hid (((HB.out.setCell (p := ⟨w.heap.size, 2, none⟩) (Nat.le_refl _) (.int .i64 2)).setCell (p := ⟨w.heap.size, 3, none⟩) (Nat.le_refl _) (.int .i64 0)).setCell (p := ⟨w.heap.size, 3, none⟩) (Nat.le_refl _) (.int .i64 1))
   have hlt5 : w.heap.size < (((w3.setCell ⟨w.heap.size, 2, none⟩ (.int .i64 2)).setCell ⟨w.heap.size, 3, none⟩ (.int .i64 0)).setCell ⟨w.heap.size, 3, none⟩ (.int .i64 1)).heap.size := R5.out.lt
   clear d2 d3 z2 z3 RS HB
   generalize (((w3.setCell ⟨w.heap.size, 2, none⟩ (.int .i64 2)).setCell ⟨w.heap.size, 3, none⟩ (.int .i64 0)).setCell ⟨w.heap.size, 3, none⟩ (.int .i64 1)) = w5 at *
   go_step
   refine Kit.wpList_load_row rfl 32 (.tmp 2) rfl w.heap.size 0 rfl R5.out [.int .i64 s.n, .slice s.pa s.pn s.pc, .int .i64 2, .int .i64 1, .bool s.ld, .slice s.na s.nn s.nc, .int .i64 (s.h0.ag 0), .int .i64 (s.h0.ag 1), .int .i64 (s.h0.ag 2), .int .i64 (s.h0.ag 3), .int .i64 (s.h0.ag 4), .int .i64 (s.h0.ag 5), .int .i64 (s.h0.ag 6), .int .i64 (s.h0.ag 7), .int .i64 s.h0.port, .int .i64 s.h0.age, .int .i64 s.h0.hold, .int .i64 s.h0.pos, .int .i64 (s.h1.ag 0), .int .i64 (s.h1.ag 1), .int .i64 (s.h1.ag 2), .int .i64 (s.h1.ag 3), .int .i64 (s.h1.ag 4), .int .i64 (s.h1.ag 5), .int .i64 (s.h1.ag 6), .int .i64 (s.h1.ag 7), .int .i64 s.h1.port, .int .i64 s.h1.age, .int .i64 s.h1.hold, .int .i64 s.h1.pos, .slice s.ta s.tn s.tc] rfl _ Tryz.underlying32 rfl Nw.sizeScript ?_
   go_wp2_with fail
   have ha1 := all_gen n s 2 1 w5 h3 h8 HNN.out HLD.out (HS.out.power.below HB5.out) (HS.out.ticks.below HB5.out) (by omega)
   refine ha1.mono ?_
   rintro e w6 ⟨y1, q1, G1, A1, cap1, ads1, rfl, hlen1, hlk1, haw1, hb1⟩
   clear ha1
   have R6 := Lib.hid (R5.out.below hb1)
   have HB6 := Lib.hid (HB5.out.trans (hb1.mono HB5.out.size))
   have L1 := Lib.hid hlk1
   have AW1 := Lib.hid haw1
   clear hb1 hlk1 haw1 R5 HB5
   dsimp only
   iterate 19 (first | go_guarded | go_step | go_upon | go_back)
   refine Kit.wpList_store_row rfl 36 (.tmp 6) (.tmp 25) rfl w6.heap.size 0 #[.int .i64 y1.n, .int .i64 y1.tick, .int .i64 y1.c, .int .i64 y1.v, .slice y1.pa y1.n y1.pc, .slice y1.na y1.n y1.nc, .int .i64 (y1.h0.ag 0), .int .i64 (y1.h0.ag 1), .int .i64 (y1.h0.ag 2), .int .i64 (y1.h0.ag 3), .int .i64 (y1.h0.ag 4), .int .i64 (y1.h0.ag 5), .int .i64 (y1.h0.ag 6), .int .i64 (y1.h0.ag 7), .int .i64 y1.h0.port, .int .i64 y1.h0.age, .int .i64 y1.h0.hold, .int .i64 y1.h0.pos, .int .i64 (y1.h1.ag 0), .int .i64 (y1.h1.ag 1), .int .i64 (y1.h1.ag 2), .int .i64 (y1.h1.ag 3), .int .i64 (y1.h1.ag 4), .int .i64 (y1.h1.ag 5), .int .i64 (y1.h1.ag 6), .int .i64 (y1.h1.ag 7), .int .i64 y1.h1.port, .int .i64 y1.h1.age, .int .i64 y1.h1.hold, .int .i64 y1.h1.pos] rfl rfl (Kit.Row.newAt w6 _ _ _ rfl) (by simp) Sw.sizeWorld (by first | rfl | (simp [Value.oneCell']; done) | decide) ?_
   intro W7 hW7
   have bb7 := Kit.below_of ((Below.refl w6.heap.size w6).alloc (Nat.le_refl _) (.cells #[.int .i64 0, .int .i64 0, .int .i64 0, .int .i64 0, .slice none 0 0, .slice none 0 0, .int .i64 0, .int .i64 0, .int .i64 0, .int .i64 0, .int .i64 0, .int .i64 0, .int .i64 0, .int .i64 0, .int .i64 0, .int .i64 0, .int .i64 0, .int .i64 0, .int .i64 0, .int .i64 0, .int .i64 0, .int .i64 0, .int .i64 0, .int .i64 0, .int .i64 0, .int .i64 0, .int .i64 0, .int .i64 0, .int .i64 0, .int .i64 0] 36)) hW7 (Nat.le_refl _)
   have r7 := R6.out.below bb7
   have L17 := Lib.hid (L1.out.below bb7)
   have HB7 := Lib.hid (HB6.out.trans (bb7.mono HB6.out.size))
   clear hW7 bb7 R6 L1 HB6
   have d2 := r7.at_ 2 (.int .i64 2) rfl
   have d3 := r7.at_ 3 (.int .i64 1) rfl
   have z2 := r7.free 2 (by simp)
   have z3 := r7.free 3 (by simp)
   go_upto_region 8 with fail
   have R8 : Hid (Kit.Row _ w.heap.size [.int .i64 s.n, .slice s.pa s.pn s.pc, .int .i64 0, .int .i64 0, .bool s.ld, .slice s.na s.nn s.nc, .int .i64 (s.h0.ag 0), .int .i64 (s.h0.ag 1), .int .i64 (s.h0.ag 2), .int .i64 (s.h0.ag 3), .int .i64 (s.h0.ag 4), .int .i64 (s.h0.ag 5), .int .i64 (s.h0.ag 6), .int .i64 (s.h0.ag 7), .int .i64 s.h0.port, .int .i64 s.h0.age, .int .i64 s.h0.hold, .int .i64 s.h0.pos, .int .i64 (s.h1.ag 0), .int .i64 (s.h1.ag 1), .int .i64 (s.h1.ag 2), .int .i64 (s.h1.ag 3), .int .i64 (s.h1.ag 4), .int .i64 (s.h1.ag 5), .int .i64 (s.h1.ag 6), .int .i64 (s.h1.ag 7), .int .i64 s.h1.port, .int .i64 s.h1.age, .int .i64 s.h1.hold, .int .i64 s.h1.pos, .slice s.ta s.tn s.tc]) := Lib.hid (((r7.set 2 (.int .i64 0) (by simp)).set 3 (.int .i64 0) (by simp)).cast rfl)
   have HB8 := Lib.hid ((HB7.out.setCell (p := ⟨w.heap.size, 2, none⟩) (Nat.le_refl _) (.int .i64 0)).setCell (p := ⟨w.heap.size, 3, none⟩) (Nat.le_refl _) (.int .i64 0))
   have L18 := Lib.hid (Sw.looks_set (Sw.looks_set L17.out AW1.out (w.heap.size) 2 (.int .i64 0) (by omega)) AW1.out (w.heap.size) 3 (.int .i64 0) (by omega))
   clear d2 d3 z2 z3 r7 HB7 L17
   generalize ((W7.setCell ⟨w.heap.size, 2, none⟩ (.int .i64 0)).setCell ⟨w.heap.size, 3, none⟩ (.int .i64 0)) = w8 at *
   go_step
   refine Kit.wpList_load_row rfl 32 (.tmp 2) rfl w.heap.size 0 rfl R8.out [.int .i64 s.n, .slice s.pa s.pn s.pc, .int .i64 0, .int .i64 0, .bool s.ld, .slice s.na s.nn s.nc, .int .i64 (s.h0.ag 0), .int .i64 (s.h0.ag 1), .int .i64 (s.h0.ag 2), .int .i64 (s.h0.ag 3), .int .i64 (s.h0.ag 4), .int .i64 (s.h0.ag 5), .int .i64 (s.h0.ag 6), .int .i64 (s.h0.ag 7), .int .i64 s.h0.port, .int .i64 s.h0.age, .int .i64 s.h0.hold, .int .i64 s.h0.pos, .int .i64 (s.h1.ag 0), .int .i64 (s.h1.ag 1), .int .i64 (s.h1.ag 2), .int .i64 (s.h1.ag 3), .int .i64 (s.h1.ag 4), .int .i64 (s.h1.ag 5), .int .i64 (s.h1.ag 6), .int .i64 (s.h1.ag 7), .int .i64 s.h1.port, .int .i64 s.h1.age, .int .i64 s.h1.hold, .int .i64 s.h1.pos, .slice s.ta s.tn s.tc] rfl _ Tryz.underlying32 rfl Nw.sizeScript ?_
   go_wp2_with fail
   have ha2 := all_gen n s 0 0 w8 h3 h8 HNN.out HLD.out (HS.out.power.below HB8.out) (HS.out.ticks.below HB8.out) (by omega)
   refine ha2.mono ?_
   rintro e w9 ⟨y2, q2, G2, A2, cap2, ads2, rfl, hlen2, hlk2, haw2, hb2⟩
   clear ha2
   have HB9 := Lib.hid (HB8.out.trans (hb2.mono HB8.out.size))
   have L19 := Lib.hid (L18.out.below hb2)
   have L2 := Lib.hid hlk2
   clear hb2 hlk2 haw2 R8 HB8 L18
   dsimp only
   iterate 19 (first | go_guarded | go_step | go_upon | go_back)
   refine Kit.wpList_store_row rfl 36 (.tmp 9) (.tmp 33) rfl w9.heap.size 0 #[.int .i64 y2.n, .int .i64 y2.tick, .int .i64 y2.c, .int .i64 y2.v, .slice y2.pa y2.n y2.pc, .slice y2.na y2.n y2.nc, .int .i64 (y2.h0.ag 0), .int .i64 (y2.h0.ag 1), .int .i64 (y2.h0.ag 2), .int .i64 (y2.h0.ag 3), .int .i64 (y2.h0.ag 4), .int .i64 (y2.h0.ag 5), .int .i64 (y2.h0.ag 6), .int .i64 (y2.h0.ag 7), .int .i64 y2.h0.port, .int .i64 y2.h0.age, .int .i64 y2.h0.hold, .int .i64 y2.h0.pos, .int .i64 (y2.h1.ag 0), .int .i64 (y2.h1.ag 1), .int .i64 (y2.h1.ag 2), .int .i64 (y2.h1.ag 3), .int .i64 (y2.h1.ag 4), .int .i64 (y2.h1.ag 5), .int .i64 (y2.h1.ag 6), .int .i64 (y2.h1.ag 7), .int .i64 y2.h1.port, .int .i64 y2.h1.age, .int .i64 y2.h1.hold, .int .i64 y2.h1.pos] rfl rfl (Kit.Row.newAt w9 _ _ _ rfl) (by simp) Sw.sizeWorld (by first | rfl | (simp [Value.oneCell']; done) | decide) ?_
   intro W10 hW10
   have bb := Kit.below_of ((Below.refl w9.heap.size w9).alloc (Nat.le_refl _) (.cells #[.int .i64 0, .int .i64 0, .int .i64 0, .int .i64 0, .slice none 0 0, .slice none 0 0, .int .i64 0, .int .i64 0, .int .i64 0, .int .i64 0, .int .i64 0, .int .i64 0, .int .i64 0, .int .i64 0, .int .i64 0, .int .i64 0, .int .i64 0, .int .i64 0, .int .i64 0, .int .i64 0, .int .i64 0, .int .i64 0, .int .i64 0, .int .i64 0, .int .i64 0, .int .i64 0, .int .i64 0, .int .i64 0, .int .i64 0, .int .i64 0] 36)) hW10 (Nat.le_refl _)
   have L1A := Lib.hid (L19.out.below bb)
   have L2A := Lib.hid (L2.out.below bb)
   have HBA := Lib.hid (HB9.out.trans (bb.mono HB9.out.size))
   have gn : ((s.tn : Int) != (s.tn : Int)) = false := by simp
   clear hW10 bb L19 L2 HB9
   go_wp2_with fail
   go_loopw [11] (fun vi wr => ∃ k : Nat, k ≤ s.tn ∧ vi = .int .i64 k ∧ Hid (Below W10.heap.size W10 wr)) (fun vi _ => s.tn - (intOf vi).toNat)
   case atStart => exact ⟨0, by omega, rfl, Lib.hid (Below.refl _ _)⟩
   case round =>
    obtain ⟨k, hk, rfl, HB⟩ := hrel
    by_cases hlt : k < s.tn
    ·have gk : decide ((k : Int) < (s.tn : Int)) = true := decide_eq_true (by omega)
     obtain ⟨bA, oA, p1, rfl, hbA, _, _, _, _, _, m0, na⟩ := Sw.lk_at (L1A.out.below HB.out) hlen1 hlt
     obtain ⟨bB, oB, p2, rfl, hbB, _, _, _, _, _, m1, nb⟩ := Sw.lk_at (L2A.out.below HB.out) hlen2 hlt
     rw [same_nodes n s 2 1 0 0 q1 G1 q2 G2 h3 h8 (by decide) (by decide) (k + 1)] at na
     change _ = some (Value.slice (some ⟨p1, 0, none⟩) n _) at m0
     change _ = some (Value.slice (some ⟨p2, 0, none⟩) n _) at m1
     change Nodes _ _ n _ at na
     change Nodes _ _ n _ at nb
     generalize (ads1.getD k (0, 0)).2 = k1 at *
     generalize (ads2.getD k (0, 0)).2 = k2 at *
     have NA := Lib.hid na
     have NB := Lib.hid nb
     clear na nb
     go_wp2_with fail
     refine wp_region_held_drew (S := (fun w' => w'.cell? ⟨bA, oA + k * 6 + 5, none⟩ = some (.slice (some ⟨p1, 0, none⟩) n k1) ∧ w'.cell? ⟨bB, oB + k * 6 + 5, none⟩ = some (.slice (some ⟨p2, 0, none⟩) n k2))) (by kernel_rfl) ?_ (fun hHeld => ?_)
     ·go_keep
     refine Rgn.tk 0 rfl ?_
     try simp only [Act.put, Rgn.a, Rgn.b, Rgn.c]
     refine Rgn.tk 1 rfl ?_
     try simp only [Act.put, Rgn.a, Rgn.b, Rgn.c]
     refine Rgn.tk 2 rfl ?_
     try simp only [Act.put, Rgn.a, Rgn.b, Rgn.c]
     refine Rgn.tk 3 rfl ?_
     try simp only [Act.put, Rgn.a, Rgn.b, Rgn.c]
     refine Rgn.tk 4 rfl ?_
     try simp only [Act.put, Rgn.a, Rgn.b, Rgn.c]
     refine Rgn.tk 5 rfl ?_
     try simp only [Act.put, Rgn.a, Rgn.b, Rgn.c]
     refine Rgn.tk 6 rfl ?_
     try simp only [Act.put, Rgn.a, Rgn.b, Rgn.c]
     refine Rgn.tk 7 rfl ?_
     try simp only [Act.put, Rgn.a, Rgn.b, Rgn.c]
     refine Rgn.tk 8 rfl ?_
     try simp only [Act.put, Rgn.a, Rgn.b, Rgn.c]
     refine Rgn.tk 9 rfl ?_
     try simp only [Act.put, Rgn.a, Rgn.b, Rgn.c]
     refine Rgn.one 10 rfl (by kernel_rfl) (fun K hK => ?_)
     go_simp
     refine (Sm.nodes_calls (some ⟨p1, 0, none⟩) (some ⟨p2, 0, none⟩) n k1 k2 _ _ (NA.out.drew) (NB.out.drew) (by omega)).mono ?_
     rintro e wn ⟨rfl, bn⟩
     have y0 := Kit.cell_below bn m0
     have y1 := Kit.cell_below bn m1
     clear m0 m1
     have m0 := y0
     have m1 := y1
     clear y0 y1
     have HBn := Lib.hid (HB.out.drew.trans (bn.mono HB.out.drew.size))
     clear bn
     go_simp
     refine hK.out _ _ ?_ (fun hHeld => ?_)
     ·go_keep
     clear hK K
     try simp only [Act.put, Rgn.a, Rgn.b, Rgn.c]
     refine Rgn.tk 11 rfl ?_
     try simp only [Act.put, Rgn.a, Rgn.b, Rgn.c]
     refine wpAnyH_done (by kernel_rfl) ?_ _
     clear m0 m1
     go_wp2_with fail
     go_roundw
     case rel => exact ⟨k + 1, by omega, by go_num, HBn⟩
     case measure => simp [intOf]; omega
    ·have gk : decide ((k : Int) < (s.tn : Int)) = false := decide_eq_false (by omega)
     go_wp2_with fail
     refine (Aw.awake_calls _).mono ?_
     rintro e wz ⟨rfl, bz⟩
     have HBZ := Lib.hid (HBA.out.trans ((HB.out.trans (bz.mono HB.out.size)).mono HBA.out.size))
     clear bz
     go_wp2_with fail
     go_ret
     exact ⟨rfl, HBZ.out⟩
theorem walk (v : Value) (who : Bool) {w : World} (w0 : Op.IsScript w v) (_ : True) (w' : World) (hw : w' = w := by rfl) :
  Calls Tryz.prog 6 #[v, .bool who] w' fun e w2 => e = .returned (.bool true) ∧ Below w'.heap.size w' w2 := by
 subst hw
 obtain ⟨s, rfl, hS⟩ := w0
 exact walk1 s who _ hS
end Go.Proofs.YtgiojagdmglinaaGreatDoor.WholeMasks
namespace Go.Proofs.YtgiojagdmglinaaGreatDoor.WholeMasks
open Go.ChangeShapes Go.WideShapes Go.ChangeAt Go.RowKit
open Go.ChangeMaps (open_string shut_string)
set_option maxHeartbeats 400000 in
theorem lifted (os : Os) (started : os.Started) (H : Type) (enc : TypeId × Value → H) :
  ReturnsInHanded {} Tryz.checked os 6 .any (fun w args => (Rows.wholeMasksSpec.pre enc Tryz.prog Tryz.f6 [] false w args ∧ laidMetH Tryz.prog Dor.laid3 w) ∧ sizedMet enc Tryz.prog Tryz.f6 (OpenSpec.ofChange Rows.wholeMasksSpec) false w args) (Rows.wholeMasksSpec.post enc Tryz.prog Tryz.f6 false true false false) := by
 refine returnsInHanded_of_change_and (C := Tryz.checked) (X := fun w _ => laidMetH Tryz.prog Dor.laid3 w) (fun _ _ _ hh h => h.of_heap hh) own started (by kernel_rfl) Tryz.func6
  (ChangeSpec.witness_shaped (enc := enc) (C := Tryz.checked) (os := os) (X := fun w _ => laidMetH Tryz.prog Dor.laid3 w) false (World.doorLaid Tryz.prog 24 os) #[.agg #[.int .i64 0, .slice none 0 0, .int .i64 0, .int .i64 0, .bool false, .slice none 0 0, .int .i64 0, .int .i64 0, .int .i64 0, .int .i64 0, .int .i64 0, .int .i64 0, .int .i64 0, .int .i64 0, .int .i64 0, .int .i64 0, .int .i64 0, .int .i64 0, .int .i64 0, .int .i64 0, .int .i64 0, .int .i64 0, .int .i64 0, .int .i64 0, .int .i64 0, .int .i64 0, .int .i64 0, .int .i64 0, .int .i64 0, .int .i64 0, .slice none 0 0], .bool false] 8 rfl (Dor.shaped os _) (by kernel_rfl) (by kernel_rfl) (by kernel_rfl) (Dor.met os _)) ?_
 intro W base args ds gs before hval0 hW _ _ _ _
 have hval : ∀ (j : Nat) t v, Tryz.f6.params[j]? = some t → args[j]? = some v → Value.okWide Tryz.prog W .any base t v := hval0
 have hW' := hW
 obtain ⟨p, q, hA0, hV, rfl, hfz, hnd⟩ := hW
 have hA : DataW.TrodAll enc Tryz.prog W 0 (fun _ => true) true Tryz.f6.params.toList args.toList ds p := hA0
 rw [Tryz.params6] at hA hval
 obtain ⟨v0, vs0, d0, ds0, p0, q0, hargs, rfl, rfl, h0, r0⟩ := trodAll_cons hA
 obtain ⟨v1, vs1, d1, ds1, p1, q1, rfl, rfl, rfl, h1, r1⟩ := trodAll_cons r0
 obtain ⟨rfl, rfl, rfl⟩ := trodAll_nil r1
 obtain rfl : args = #[v0, v1] := by cases args; simp_all
 obtain ⟨rfl, rfl⟩ := trodVars_none hV
 have k0 := h0
 have lt0 : ∀ x ∈ p0, x.block < W.heap.size := by obtain ⟨m, hm⟩ := k0; exact DataW.trod_lt m _ _ _ hm
 have w0 := Op.isScript (hval 0 32 v0 rfl rfl) h0
 obtain ⟨a1, rfl, rfl, rfl⟩ := open_bool Tryz.underlying4 (hval 1 4 v1 rfl rfl) h1
 have w1 : True := trivial
 clear hA0 hval0
 refine (walk v0 a1 w0 w1 W).mono fun e W' ⟨he, bel⟩ => ?_
 subst he
 exact ⟨_, rfl, _, _, _, [], _, [], hW', trodAll_mk1 (shut_bool Tryz.underlying4 _), (trodAll_cons_mk (Below.trod laidOut (by kernel_rfl) (of_decide_eq_true (by kernel_rfl)) k0 bel lt0) (trodAll_cons_mk (shut_bool Tryz.underlying4 a1) trodAll_mk0)), rfl, bel.frame _, fun h => by cases h⟩
theorem over : Rows.wholeMasksRow.holds Tryz.pinned (OpenSpec.ofChange Rows.wholeMasksSpec) :=
 OpenClaim.holds_of_wide 6 Tryz.f6 rfl rfl rfl rfl rfl rfl rfl ⟨rfl, rfl, rfl, rfl, rfl⟩ rfl rfl rfl rfl rfl named Tryz.func6 facts
  (of_decide_eq_true (by kernel_rfl)) (by unfold Func.isWrapper; first | (rw [if_pos (by decide +kernel)]; kernel_rfl) | (rw [if_neg (by decide +kernel)]; exact ⟨rfl, rfl⟩))
  (fun os started H enc _ => lifted os started H enc)
theorem proved : Rows.WholeMasksCardSaid :=
 Claim7.holds_tied_plain_at .later [] [.data, .data, .data] true (true, "bc756e22a1b164c7e6f02c199b2fccdb787ee550ccd8ea457d36e9ca7ed46377") false
  over (fun _ h => by cases h) (by kernel_rfl) (fun _ h => by cases h) wholeMasks_row_tie rfl ⟨rfl, rfl⟩ (by kernel_rfl) rfl
  (fun f fn hf hfn => by
   obtain rfl : f = 6 := Option.some.inj ((show Tryz.prog.funcNamed "daybreak/daybreaktop.WholeMasks" = some 6 by kernel_rfl).symm.trans hf) |>.symm
   obtain rfl : fn = Tryz.f6 := (Option.some.inj (Tryz.func6.symm.trans hfn)).symm
   exact ⟨by kernel_rfl, fun j t ht => by
    rw [Tryz.params6] at ht
    have hm : t ∈ [32, 4] := by simpa using Array.mem_of_getElem? ht
    have hall : ([32, 4].all fun u => !Tryz.prog.wantsStandIn u) = true := by kernel_rfl
    exact (show Tryz.prog.wantsStandIn t = false by simpa using List.all_eq_true.1 hall t hm)⟩)
  (by kernel_rfl)
#print axioms proved
end Go.Proofs.YtgiojagdmglinaaGreatDoor.WholeMasks
