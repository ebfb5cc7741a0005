/-
  Part 5 of a merged text.
-/
import Derived.Test.YtgiojagdmglinaaGreatDoorWo04
set_option linter.unusedVariables false
set_option linter.unusedSimpArgs false
set_option maxRecDepth 100000
namespace Go.Proofs.YtgiojagdmglinaaGreatDoor.WholeWorlds
open Go Go.RowKit
def After (x y : Wd) (f0 f1 : Fr) (g cg B11 B12 : Nat) (wr W : World) : Prop :=
 Nb.Good x y f0 f1 ∧ Nb.Next x y g ∧ wr.heap.size ≤ g ∧ Kit.Row W g (Cl.cells y.nodes) ∧ wr.heap.size ≤ B11 ∧ wr.heap.size ≤ B12 ∧ Kit.Row W B11 [.int .i64 y.n, .int .i64 y.tick, .int .i64 y.c, .int .i64 y.v, .slice y.pa y.n y.pc, .slice y.na y.n y.nc, .int .i64 (y.h0.ag 0), .int .i64 (y.h0.ag 1), .int .i64 (y.h0.ag 2), .int .i64 (y.h0.ag 3), .int .i64 (y.h0.ag 4), .int .i64 (y.h0.ag 5), .int .i64 (y.h0.ag 6), .int .i64 (y.h0.ag 7), .int .i64 y.h0.port, .int .i64 y.h0.age, .int .i64 y.h0.hold, .int .i64 y.h0.pos, .int .i64 (y.h1.ag 0), .int .i64 (y.h1.ag 1), .int .i64 (y.h1.ag 2), .int .i64 (y.h1.ag 3), .int .i64 (y.h1.ag 4), .int .i64 (y.h1.ag 5), .int .i64 (y.h1.ag 6), .int .i64 (y.h1.ag 7), .int .i64 y.h1.port, .int .i64 y.h1.age, .int .i64 y.h1.hold, .int .i64 y.h1.pos] ∧ Kit.Row W B12 [.int .i64 x.tick, .int .i64 f0.k, .int .i64 f0.i, .int .i64 f1.k, .int .i64 f1.i, .slice (some ⟨g, 0, none⟩) x.n cg] ∧ Below wr.heap.size wr W
set_option maxHeartbeats 4000000 in
theorem walk1 (s : Sc) (w : World) (hS : Op.ScThere w s) :
  Calls Tryz.prog 3 #[.agg s.cells.toArray] w fun e w' => e = .returned (.bool true) ∧ Below w.heap.size w w' := by
 have HS := Lib.hid hS
 clear hS
 show Calls Tryz.prog 3 #[.agg #[.int .i64 s.n, .slice s.pa s.pn s.pc, .int .i64 s.c, .int .i64 s.v, .bool s.ld, .slice s.na s.nn s.nc, .int .i64 (s.h0.ag 0), .int .i64 (s.h0.ag 1), .int .i64 (s.h0.ag 2), .int .i64 (s.h0.ag 3), .int .i64 (s.h0.ag 4), .int .i64 (s.h0.ag 5), .int .i64 (s.h0.ag 6), .int .i64 (s.h0.ag 7), .int .i64 s.h0.port, .int .i64 s.h0.age, .int .i64 s.h0.hold, .int .i64 s.h0.pos, .int .i64 (s.h1.ag 0), .int .i64 (s.h1.ag 1), .int .i64 (s.h1.ag 2), .int .i64 (s.h1.ag 3), .int .i64 (s.h1.ag 4), .int .i64 (s.h1.ag 5), .int .i64 (s.h1.ag 6), .int .i64 (s.h1.ag 7), .int .i64 s.h1.port, .int .i64 s.h1.age, .int .i64 s.h1.hold, .int .i64 s.h1.pos, .slice s.ta s.tn s.tc]] w _
 go_enter Tryz.func3, Tryz.ntmps3
 go_upto_region 1 with fail
 have R1 := Lib.hid (Kit.Row.newAt w #[.int .i64 s.n, .slice s.pa s.pn s.pc, .int .i64 s.c, .int .i64 s.v, .bool s.ld, .slice s.na s.nn s.nc, .int .i64 (s.h0.ag 0), .int .i64 (s.h0.ag 1), .int .i64 (s.h0.ag 2), .int .i64 (s.h0.ag 3), .int .i64 (s.h0.ag 4), .int .i64 (s.h0.ag 5), .int .i64 (s.h0.ag 6), .int .i64 (s.h0.ag 7), .int .i64 s.h0.port, .int .i64 s.h0.age, .int .i64 s.h0.hold, .int .i64 s.h0.pos, .int .i64 (s.h1.ag 0), .int .i64 (s.h1.ag 1), .int .i64 (s.h1.ag 2), .int .i64 (s.h1.ag 3), .int .i64 (s.h1.ag 4), .int .i64 (s.h1.ag 5), .int .i64 (s.h1.ag 6), .int .i64 (s.h1.ag 7), .int .i64 s.h1.port, .int .i64 s.h1.age, .int .i64 s.h1.hold, .int .i64 s.h1.pos, .slice s.ta s.tn s.tc] 32 w.heap.size rfl)
 have B1 := Lib.hid ((Below.refl w.heap.size w).alloc (Nat.le_refl _) (.cells #[.int .i64 s.n, .slice s.pa s.pn s.pc, .int .i64 s.c, .int .i64 s.v, .bool s.ld, .slice s.na s.nn s.nc, .int .i64 (s.h0.ag 0), .int .i64 (s.h0.ag 1), .int .i64 (s.h0.ag 2), .int .i64 (s.h0.ag 3), .int .i64 (s.h0.ag 4), .int .i64 (s.h0.ag 5), .int .i64 (s.h0.ag 6), .int .i64 (s.h0.ag 7), .int .i64 s.h0.port, .int .i64 s.h0.age, .int .i64 s.h0.hold, .int .i64 s.h0.pos, .int .i64 (s.h1.ag 0), .int .i64 (s.h1.ag 1), .int .i64 (s.h1.ag 2), .int .i64 (s.h1.ag 3), .int .i64 (s.h1.ag 4), .int .i64 (s.h1.ag 5), .int .i64 (s.h1.ag 6), .int .i64 (s.h1.ag 7), .int .i64 s.h1.port, .int .i64 s.h1.age, .int .i64 s.h1.hold, .int .i64 s.h1.pos, .slice s.ta s.tn s.tc] 32))
 generalize w.alloc (.cells #[.int .i64 s.n, .slice s.pa s.pn s.pc, .int .i64 s.c, .int .i64 s.v, .bool s.ld, .slice s.na s.nn s.nc, .int .i64 (s.h0.ag 0), .int .i64 (s.h0.ag 1), .int .i64 (s.h0.ag 2), .int .i64 (s.h0.ag 3), .int .i64 (s.h0.ag 4), .int .i64 (s.h0.ag 5), .int .i64 (s.h0.ag 6), .int .i64 (s.h0.ag 7), .int .i64 s.h0.port, .int .i64 s.h0.age, .int .i64 s.h0.hold, .int .i64 s.h0.pos, .int .i64 (s.h1.ag 0), .int .i64 (s.h1.ag 1), .int .i64 (s.h1.ag 2), .int .i64 (s.h1.ag 3), .int .i64 (s.h1.ag 4), .int .i64 (s.h1.ag 5), .int .i64 (s.h1.ag 6), .int .i64 (s.h1.ag 7), .int .i64 s.h1.port, .int .i64 s.h1.age, .int .i64 s.h1.hold, .int .i64 s.h1.pos, .slice s.ta s.tn s.tc] 32) = w2 at *
 have c1 := R1.out.at_ 1 (.slice s.pa s.pn s.pc) rfl
 have c5 := R1.out.at_ 5 (.slice s.na s.nn s.nc) rfl
 have c30 := R1.out.at_ 30 (.slice s.ta s.tn s.tc) rfl
 go_wp2_with fail
 refine (Sm.small_calls s.pa s.na s.ta s.pn s.pc s.nn s.nc s.tn s.tc 200 s.ticks w2 (HS.out.ticks.below B1.out) (by omega)).mono ?_
 rintro e w3 ⟨⟨b, rfl, hb⟩, b3⟩
 have RS := Lib.hid (R1.out.below b3)
 have HB := Lib.hid (B1.out.trans (b3.mono B1.out.size))
 clear b3 R1 B1 c1 c5 c30
 cases b with
 | false =>
  clear hb RS
  go_wp2_with fail
  refine (Aw.awake_calls _).mono ?_
  rintro e wz ⟨rfl, bz⟩
  have HBZ := Lib.hid (HB.out.trans (bz.mono HB.out.size))
  clear bz
  go_wp2_with fail
  go_ret
  exact ⟨rfl, HBZ.out⟩
 | true =>
  have htn := (hb rfl).2.2
  clear hb
  by_cases h38 : 3 ≤ s.n ∧ s.n ≤ 8
  ·skip
   obtain ⟨n, hn⟩ : ∃ n : Nat, s.n = n := ⟨s.n.toNat, by omega⟩
   have h3 : 3 ≤ n := by omega
   have h8 : n ≤ 8 := by omega
   have HNN := Lib.hid hn
   clear hn h38
   go_upto_region 3 with fail
   go_step
   refine Kit.wpList_load_row rfl 32 (.tmp 1) rfl w.heap.size 0 rfl RS.out [.int .i64 s.n, .slice s.pa s.pn s.pc, .int .i64 s.c, .int .i64 s.v, .bool s.ld, .slice s.na s.nn s.nc, .int .i64 (s.h0.ag 0), .int .i64 (s.h0.ag 1), .int .i64 (s.h0.ag 2), .int .i64 (s.h0.ag 3), .int .i64 (s.h0.ag 4), .int .i64 (s.h0.ag 5), .int .i64 (s.h0.ag 6), .int .i64 (s.h0.ag 7), .int .i64 s.h0.port, .int .i64 s.h0.age, .int .i64 s.h0.hold, .int .i64 s.h0.pos, .int .i64 (s.h1.ag 0), .int .i64 (s.h1.ag 1), .int .i64 (s.h1.ag 2), .int .i64 (s.h1.ag 3), .int .i64 (s.h1.ag 4), .int .i64 (s.h1.ag 5), .int .i64 (s.h1.ag 6), .int .i64 (s.h1.ag 7), .int .i64 s.h1.port, .int .i64 s.h1.age, .int .i64 s.h1.hold, .int .i64 s.h1.pos, .slice s.ta s.tn s.tc] rfl _ Tryz.underlying32 rfl Nw.sizeScript ?_
   go_wp2_with fail
   refine (Nb.new_calls n s w3 h3 h8 HNN.out (HS.out.below HB.out)).mono ?_
   rintro e w4 ⟨⟨x, hx, hxn, hxt, rfl, hty⟩, hb⟩
   have HB4 := Lib.hid (HB.out.trans (hb.mono HB.out.size))
   have RS4 := Lib.hid (RS.out.below hb)
   have HX : Hid (x.Right ∧ x.n = n ∧ x.tick = ((0 : Nat) : Int)) := Lib.hid ⟨hx, hxn, hxt⟩
   have HTY := Lib.hid hty
   clear hb HB RS hx hxn hxt hty
   dsimp only
   iterate 13 (first | go_guarded | go_step | go_upon | go_back)
   refine Kit.wpList_store_row rfl 36 (.tmp 3) (.tmp 26) rfl w4.heap.size 0 #[.int .i64 x.n, .int .i64 x.tick, .int .i64 x.c, .int .i64 x.v, .slice x.pa x.n x.pc, .slice x.na x.n x.nc, .int .i64 (x.h0.ag 0), .int .i64 (x.h0.ag 1), .int .i64 (x.h0.ag 2), .int .i64 (x.h0.ag 3), .int .i64 (x.h0.ag 4), .int .i64 (x.h0.ag 5), .int .i64 (x.h0.ag 6), .int .i64 (x.h0.ag 7), .int .i64 x.h0.port, .int .i64 x.h0.age, .int .i64 x.h0.hold, .int .i64 x.h0.pos, .int .i64 (x.h1.ag 0), .int .i64 (x.h1.ag 1), .int .i64 (x.h1.ag 2), .int .i64 (x.h1.ag 3), .int .i64 (x.h1.ag 4), .int .i64 (x.h1.ag 5), .int .i64 (x.h1.ag 6), .int .i64 (x.h1.ag 7), .int .i64 x.h1.port, .int .i64 x.h1.age, .int .i64 x.h1.hold, .int .i64 x.h1.pos] rfl rfl (Kit.Row.newAt w4 _ _ _ rfl) (by simp) Sw.sizeWorld (by first | rfl | (simp [Value.oneCell']; done) | decide) ?_
   intro w5 hW5
   have RY := Lib.hid (Kit.Row.all (Kit.Row.newAt w4 #[.int .i64 0, .int .i64 0, .int .i64 0, .int .i64 0, .slice none 0 0, .slice none 0 0, .int .i64 0, .int .i64 0, .int .i64 0, .int .i64 0, .int .i64 0, .int .i64 0, .int .i64 0, .int .i64 0, .int .i64 0, .int .i64 0, .int .i64 0, .int .i64 0, .int .i64 0, .int .i64 0, .int .i64 0, .int .i64 0, .int .i64 0, .int .i64 0, .int .i64 0, .int .i64 0, .int .i64 0, .int .i64 0, .int .i64 0, .int .i64 0] 36 _ rfl) hW5 rfl)
   have bb5 := Kit.below_of ((Below.refl w4.heap.size w4).alloc (Nat.le_refl _) (.cells #[.int .i64 0, .int .i64 0, .int .i64 0, .int .i64 0, .slice none 0 0, .slice none 0 0, .int .i64 0, .int .i64 0, .int .i64 0, .int .i64 0, .int .i64 0, .int .i64 0, .int .i64 0, .int .i64 0, .int .i64 0, .int .i64 0, .int .i64 0, .int .i64 0, .int .i64 0, .int .i64 0, .int .i64 0, .int .i64 0, .int .i64 0, .int .i64 0, .int .i64 0, .int .i64 0, .int .i64 0, .int .i64 0, .int .i64 0, .int .i64 0] 36)) hW5 (Nat.le_refl _)
   have HPW := Lib.hid HTY.out.power
   have HND := Lib.hid (HTY.out.nodes.below bb5)
   have HC := Lib.hid bb5
   clear hW5 bb5 HTY
   go_wp2_with fail
   go_loopw [8, 9, 10, 11, 12, 13] (fun vi v9 v10 v11 v12 v13 wr => ∃ (k : Nat) (x : Wd), k ≤ s.tn ∧ vi = .int .i64 k ∧ Hid (x.Right ∧ x.n = n ∧ x.tick = k) ∧ Hid (Whole w4 x.pa x.n x.power) ∧ Hid (Nodes wr x.na x.n x.nodes) ∧ Hid (Kit.Row wr w4.heap.size [.int .i64 x.n, .int .i64 x.tick, .int .i64 x.c, .int .i64 x.v, .slice x.pa x.n x.pc, .slice x.na x.n x.nc, .int .i64 (x.h0.ag 0), .int .i64 (x.h0.ag 1), .int .i64 (x.h0.ag 2), .int .i64 (x.h0.ag 3), .int .i64 (x.h0.ag 4), .int .i64 (x.h0.ag 5), .int .i64 (x.h0.ag 6), .int .i64 (x.h0.ag 7), .int .i64 x.h0.port, .int .i64 x.h0.age, .int .i64 x.h0.hold, .int .i64 x.h0.pos, .int .i64 (x.h1.ag 0), .int .i64 (x.h1.ag 1), .int .i64 (x.h1.ag 2), .int .i64 (x.h1.ag 3), .int .i64 (x.h1.ag 4), .int .i64 (x.h1.ag 5), .int .i64 (x.h1.ag 6), .int .i64 (x.h1.ag 7), .int .i64 x.h1.port, .int .i64 x.h1.age, .int .i64 x.h1.hold, .int .i64 x.h1.pos]) ∧ Hid (Below w4.heap.size w4 wr)) (fun vi _ _ _ _ _ _ => s.tn - (intOf vi).toNat)
   case atStart => exact ⟨0, x, by omega, rfl, HX, HPW, HND, RY, HC⟩
   case round =>
    clear HX HPW HND RY HC
    obtain ⟨k, x, hk, rfl, HX, HPW, HND, RY, HC⟩ := hrel
    have RSR := Lib.hid (RS4.out.kept HC.out RS4.out.lt)
    have c30 := RSR.out.at_ 30 (.slice s.ta s.tn s.tc) rfl
    by_cases hlt : k < s.tn
    ·have gk : decide ((k : Int) < (s.tn : Int)) = true := decide_eq_true (by omega)
     have hts := HS.out.ticks.below (HB4.out.trans (HC.out.mono HB4.out.size))
     obtain ⟨bT, oT, eA, hbT, t0, t1, t2, t3⟩ := Chs.at_ hts hlt
     have hch := Chs.one hts hlt
     clear hts
     generalize s.ticks.getD k default = ch at t0 t1 t2 t3 hch
     rw [eA] at c30
     have HEA := Lib.hid eA
     clear eA
     have KS := Lib.hid (fun W (hW : Below wr.heap.size wr W) => Nb.step_calls x ch W HX.out.1 ⟨(HPW.out.below HC.out).below hW, HND.out.below hW⟩ (hch.below hW))
     clear hch
     go_wp2_with fail
     clear c30
     apply Nb.once
     case h =>
      intro REST
      refine wp_region_held_drew (S := (fun w' => Below wr.heap.size wr w')) (by kernel_rfl) (Below.refl _ _).drew (fun hHeld => ?_)
      have HC := Lib.hid (show Below wr.heap.size wr wr.drew from (Below.refl _ _).drew)
      generalize wr.drew = wq0 at hHeld HC ⊢
      refine Rgn.take 0 (v := .agg #[.int .i64 x.n, .int .i64 x.tick, .int .i64 x.c, .int .i64 x.v, .slice x.pa x.n x.pc, .slice x.na x.n x.nc, .int .i64 (x.h0.ag 0), .int .i64 (x.h0.ag 1), .int .i64 (x.h0.ag 2), .int .i64 (x.h0.ag 3), .int .i64 (x.h0.ag 4), .int .i64 (x.h0.ag 5), .int .i64 (x.h0.ag 6), .int .i64 (x.h0.ag 7), .int .i64 x.h0.port, .int .i64 x.h0.age, .int .i64 x.h0.hold, .int .i64 x.h0.pos, .int .i64 (x.h1.ag 0), .int .i64 (x.h1.ag 1), .int .i64 (x.h1.ag 2), .int .i64 (x.h1.ag 3), .int .i64 (x.h1.ag 4), .int .i64 (x.h1.ag 5), .int .i64 (x.h1.ag 6), .int .i64 (x.h1.ag 7), .int .i64 x.h1.port, .int .i64 x.h1.age, .int .i64 x.h1.hold, .int .i64 x.h1.pos]) rfl (by kernel_rfl) (by kernel_rfl) (by kernel_rfl) (fun _ _ _ h => h) (by kernel_rfl) (fun wS hSw => Kit.exec_load 36 (.tmp 3) rfl w4.heap.size 0 rfl [.int .i64 x.n, .int .i64 x.tick, .int .i64 x.c, .int .i64 x.v, .slice x.pa x.n x.pc, .slice x.na x.n x.nc, .int .i64 (x.h0.ag 0), .int .i64 (x.h0.ag 1), .int .i64 (x.h0.ag 2), .int .i64 (x.h0.ag 3), .int .i64 (x.h0.ag 4), .int .i64 (x.h0.ag 5), .int .i64 (x.h0.ag 6), .int .i64 (x.h0.ag 7), .int .i64 x.h0.port, .int .i64 x.h0.age, .int .i64 x.h0.hold, .int .i64 x.h0.pos, .int .i64 (x.h1.ag 0), .int .i64 (x.h1.ag 1), .int .i64 (x.h1.ag 2), .int .i64 (x.h1.ag 3), .int .i64 (x.h1.ag 4), .int .i64 (x.h1.ag 5), .int .i64 (x.h1.ag 6), .int .i64 (x.h1.ag 7), .int .i64 x.h1.port, .int .i64 x.h1.age, .int .i64 x.h1.hold, .int .i64 x.h1.pos] _ ((RY.out.below hSw).range 0 _ (fun j v h => by rw [Nat.zero_add]; exact h)) Tryz.underlying36 rfl Sw.sizeWorld) (by assumption) ?_
      try simp only [Act.put, Rgn.a, Rgn.b, Rgn.c]
      refine Rgn.tk 1 rfl ?_
      try simp only [Act.put, Rgn.a, Rgn.b, Rgn.c]
      refine Rgn.take 2 (v := ?_) rfl (by kernel_rfl) (by kernel_rfl) (by kernel_rfl) (fun _ _ _ h => h) (by kernel_rfl) ?_ (by assumption) ?_
      rotate_left
      ·intro w hSw
       have q30 := (RSR.out.below hSw).at_ 30 (.slice s.ta s.tn s.tc) rfl
       rw [HEA.out] at q30
       (try dsimp only at hSw)
       go_simp
       try with_reducible rfl
      try simp only [Act.put, Rgn.a, Rgn.b, Rgn.c]
      refine Rgn.tk 3 rfl ?_
      try simp only [Act.put, Rgn.a, Rgn.b, Rgn.c]
      refine Rgn.tk 4 rfl ?_
      try simp only [Act.put, Rgn.a, Rgn.b, Rgn.c]
      refine Rgn.take 5 (v := ?_) rfl (by kernel_rfl) (by kernel_rfl) (by kernel_rfl) (fun _ _ _ h => h) (by kernel_rfl) ?_ (by assumption) ?_
      rotate_left
      ·intro w hSw
       have q0 := (hSw.cell (p := ⟨bT, oT + k * 4, none⟩) hbT).trans t0
       have q1 := (hSw.cell (p := ⟨bT, oT + k * 4 + 1, none⟩) hbT).trans t1
       have q2 := (hSw.cell (p := ⟨bT, oT + k * 4 + 2, none⟩) hbT).trans t2
       have q3 := (hSw.cell (p := ⟨bT, oT + k * 4 + 3, none⟩) hbT).trans t3
       (try dsimp only at hSw)
       go_simp
       try with_reducible rfl
      try simp only [Act.put, Rgn.a, Rgn.b, Rgn.c]
      refine Rgn.three 6 11 12 rfl rfl rfl (by kernel_rfl) (fun K hK => ?_) (fun K hK => ?_) (fun K hK => ?_)
      ·go_simp
       refine (KS.out _ HC.out).mono ?_
       rintro e wq1 ⟨⟨y, f0, f1, g, cg, rfl, hy, hnx, hg0, rg⟩, bn⟩
       have HG := Lib.hid (Nat.le_trans HC.out.size hg0)
       replace HC := Lib.hid (HC.out.trans (bn.mono HC.out.size))
       have HY := Lib.hid hy
       have HNX := Lib.hid hnx
       have RG := Lib.hid rg
       clear bn hy hnx hg0 rg
       go_simp
       refine hK.out _ _ ?_ (fun hHeld => ?_)
       ·exact HC.out
       clear hK K
       try simp only [Act.put, Rgn.a, Rgn.b, Rgn.c]
       refine Rgn.tk 7 rfl ?_
       try simp only [Act.put, Rgn.a, Rgn.b, Rgn.c]
       refine Rgn.tk 8 rfl ?_
       try simp only [Act.put, Rgn.a, Rgn.b, Rgn.c]
       refine Rgn.tk 9 rfl ?_
       try simp only [Act.put, Rgn.a, Rgn.b, Rgn.c]
       refine Rgn.tk 10 rfl ?_
       try simp only [Act.put, Rgn.a, Rgn.b, Rgn.c]
       refine Rgn.two 11 12 rfl rfl (by kernel_rfl) (fun K hK => ?_) (fun K hK => ?_)
       ·go_simp
        generalize hV : wq1.alloc (.cells #[.int .i64 0, .int .i64 0, .int .i64 0, .int .i64 0, .slice none 0 0, .slice none 0 0, .int .i64 0, .int .i64 0, .int .i64 0, .int .i64 0, .int .i64 0, .int .i64 0, .int .i64 0, .int .i64 0, .int .i64 0, .int .i64 0, .int .i64 0, .int .i64 0, .int .i64 0, .int .i64 0, .int .i64 0, .int .i64 0, .int .i64 0, .int .i64 0, .int .i64 0, .int .i64 0, .int .i64 0, .int .i64 0, .int .i64 0, .int .i64 0] 36) = wq2
        generalize hB : wq1.heap.size = B11
        have Z11 : Hid (Kit.Row wq2 B11 (#[.int .i64 0, .int .i64 0, .int .i64 0, .int .i64 0, .slice none 0 0, .slice none 0 0, .int .i64 0, .int .i64 0, .int .i64 0, .int .i64 0, .int .i64 0, .int .i64 0, .int .i64 0, .int .i64 0, .int .i64 0, .int .i64 0, .int .i64 0, .int .i64 0, .int .i64 0, .int .i64 0, .int .i64 0, .int .i64 0, .int .i64 0, .int .i64 0, .int .i64 0, .int .i64 0, .int .i64 0, .int .i64 0, .int .i64 0, .int .i64 0] : Array Value).toList) := Lib.hid (by subst hV; subst hB; exact Kit.Row.newAt _ _ _ _ rfl)
        have bV : Below wq1.heap.size wq1 wq2 := by subst hV; exact (Below.refl _ _).alloc (Nat.le_refl _) _
        have hb11 : wr.heap.size ≤ B11 := by subst hB; exact HC.out.size
        have hg11 : B11 ≠ g := by have := RG.out.lt; omega
        replace RG := Lib.hid (RG.out.below bV)
        replace HC := Lib.hid (HC.out.trans (bV.mono HC.out.size))
        clear bV hV hB
        refine hK.out _ _ ?_ (fun hHeld => ?_)
        ·exact HC.out
        clear hK K
        try simp only [Act.put, Rgn.a, Rgn.b, Rgn.c]
        refine Rgn.one 12 rfl (by kernel_rfl) (fun K hK => ?_)
        go_simp
        generalize hV : wq2.alloc (.cells #[.int .i64 0, .int .i64 0, .int .i64 0, .int .i64 0, .int .i64 0, .slice none 0 0] 48) = wq3
        generalize hB : wq2.heap.size = B12
        have Z12 : Hid (Kit.Row wq3 B12 (#[.int .i64 0, .int .i64 0, .int .i64 0, .int .i64 0, .int .i64 0, .slice none 0 0] : Array Value).toList) := Lib.hid (by subst hV; subst hB; exact Kit.Row.newAt _ _ _ _ rfl)
        have bV : Below wq2.heap.size wq2 wq3 := by subst hV; exact (Below.refl _ _).alloc (Nat.le_refl _) _
        have hb12 : wr.heap.size ≤ B12 := by subst hB; exact HC.out.size
        have hne : B11 ≠ B12 := by have := Z11.out.lt; omega
        replace Z11 := Lib.hid (Z11.out.below bV)
        have hg12 : B12 ≠ g := by have := RG.out.lt; omega
        replace RG := Lib.hid (RG.out.below bV)
        replace HC := Lib.hid (HC.out.trans (bV.mono HC.out.size))
        clear bV hV hB
        refine hK.out _ _ ?_ (fun hHeld => ?_)
        ·exact HC.out
        clear hK K
        try simp only [Act.put, Rgn.a, Rgn.b, Rgn.c]
        refine Rgn.one 13 rfl (by kernel_rfl) (fun K hK => ?_)
        rw [if_pos (by kernel_rfl)]
        refine Kit.wp_store_row 36 (.tmp 9) (.tmp 72) rfl B11 0 #[.int .i64 y.n, .int .i64 y.tick, .int .i64 y.c, .int .i64 y.v, .slice y.pa y.n y.pc, .slice y.na y.n y.nc, .int .i64 (y.h0.ag 0), .int .i64 (y.h0.ag 1), .int .i64 (y.h0.ag 2), .int .i64 (y.h0.ag 3), .int .i64 (y.h0.ag 4), .int .i64 (y.h0.ag 5), .int .i64 (y.h0.ag 6), .int .i64 (y.h0.ag 7), .int .i64 y.h0.port, .int .i64 y.h0.age, .int .i64 y.h0.hold, .int .i64 y.h0.pos, .int .i64 (y.h1.ag 0), .int .i64 (y.h1.ag 1), .int .i64 (y.h1.ag 2), .int .i64 (y.h1.ag 3), .int .i64 (y.h1.ag 4), .int .i64 (y.h1.ag 5), .int .i64 (y.h1.ag 6), .int .i64 (y.h1.ag 7), .int .i64 y.h1.port, .int .i64 y.h1.age, .int .i64 y.h1.hold, .int .i64 y.h1.pos] rfl rfl Z11.out (by simp) Sw.sizeWorld (by first | rfl | (simp [Value.oneCell']; done) | decide) ?_
        intro wq4 hW
        replace Z11 := Lib.hid (Z11.out.all hW rfl)
        replace Z12 := Lib.hid (Z12.out.off hW hne)
        replace RG := Lib.hid (RG.out.off hW hg11)
        replace HC := Lib.hid (Kit.below_of HC.out hW hb11)
        clear hW
        refine hK.out _ _ ?_ (fun hHeld => ?_)
        ·exact HC.out
        clear hK K
        try simp only [Act.put, Rgn.a, Rgn.b, Rgn.c]
        refine Rgn.one 14 rfl (by kernel_rfl) (fun K hK => ?_)
        rw [if_pos (by kernel_rfl)]
        refine Kit.wp_store_row 48 (.tmp 10) (.tmp 73) rfl B12 0 #[.int .i64 x.tick, .int .i64 f0.k, .int .i64 f0.i, .int .i64 f1.k, .int .i64 f1.i, .slice (some ⟨g, 0, none⟩) x.n cg] rfl rfl Z12.out (by simp) Sw.sizeLook (by first | rfl | (simp [Value.oneCell']; done) | decide) ?_
        intro wq5 hW
        replace Z12 := Lib.hid (Z12.out.all hW rfl)
        replace Z11 := Lib.hid (Z11.out.off hW hne.symm)
        replace RG := Lib.hid (RG.out.off hW hg12)
        replace HC := Lib.hid (Kit.below_of HC.out hW hb12)
        clear hW
        refine hK.out _ _ ?_ (fun hHeld => ?_)
        ·exact HC.out
        clear hK K
        try simp only [Act.put, Rgn.a, Rgn.b, Rgn.c]
        refine Rgn.tk 15 rfl ?_
        try simp only [Act.put, Rgn.a, Rgn.b, Rgn.c]
        refine wpAnyH_done (by kernel_rfl) ?_ _
        have A := Lib.hid (show After x y f0 f1 g cg B11 B12 wr wq5 from ⟨HY.out, HNX.out, HG.out, RG.out, hb11, hb12, Z11.out, Z12.out, HC.out⟩)
        revert A
        generalize y = y2
        generalize f0 = e0
        generalize f1 = e1
        generalize g = g2
        generalize cg = c2
        generalize B11 = C11
        generalize B12 = C12
        generalize wq5 = W2
        revert y2 e0 e1 g2 c2 C11 C12 W2
        exact REST
       ·go_simp
        generalize hV : wq1.alloc (.cells #[.int .i64 0, .int .i64 0, .int .i64 0, .int .i64 0, .int .i64 0, .slice none 0 0] 48) = wq2
        generalize hB : wq1.heap.size = B12
        have Z12 : Hid (Kit.Row wq2 B12 (#[.int .i64 0, .int .i64 0, .int .i64 0, .int .i64 0, .int .i64 0, .slice none 0 0] : Array Value).toList) := Lib.hid (by subst hV; subst hB; exact Kit.Row.newAt _ _ _ _ rfl)
        have bV : Below wq1.heap.size wq1 wq2 := by subst hV; exact (Below.refl _ _).alloc (Nat.le_refl _) _
        have hb12 : wr.heap.size ≤ B12 := by subst hB; exact HC.out.size
        have hg12 : B12 ≠ g := by have := RG.out.lt; omega
        replace RG := Lib.hid (RG.out.below bV)
        replace HC := Lib.hid (HC.out.trans (bV.mono HC.out.size))
        clear bV hV hB
        refine hK.out _ _ ?_ (fun hHeld => ?_)
        ·exact HC.out
        clear hK K
        try simp only [Act.put, Rgn.a, Rgn.b, Rgn.c]
        refine Rgn.one 11 rfl (by kernel_rfl) (fun K hK => ?_)
        go_simp
        generalize hV : wq2.alloc (.cells #[.int .i64 0, .int .i64 0, .int .i64 0, .int .i64 0, .slice none 0 0, .slice none 0 0, .int .i64 0, .int .i64 0, .int .i64 0, .int .i64 0, .int .i64 0, .int .i64 0, .int .i64 0, .int .i64 0, .int .i64 0, .int .i64 0, .int .i64 0, .int .i64 0, .int .i64 0, .int .i64 0, .int .i64 0, .int .i64 0, .int .i64 0, .int .i64 0, .int .i64 0, .int .i64 0, .int .i64 0, .int .i64 0, .int .i64 0, .int .i64 0] 36) = wq3
        generalize hB : wq2.heap.size = B11
        have Z11 : Hid (Kit.Row wq3 B11 (#[.int .i64 0, .int .i64 0, .int .i64 0, .int .i64 0, .slice none 0 0, .slice none 0 0, .int .i64 0, .int .i64 0, .int .i64 0, .int .i64 0, .int .i64 0, .int .i64 0, .int .i64 0, .int .i64 0, .int .i64 0, .int .i64 0, .int .i64 0, .int .i64 0, .int .i64 0, .int .i64 0, .int .i64 0, .int .i64 0, .int .i64 0, .int .i64 0, .int .i64 0, .int .i64 0, .int .i64 0, .int .i64 0, .int .i64 0, .int .i64 0] : Array Value).toList) := Lib.hid (by subst hV; subst hB; exact Kit.Row.newAt _ _ _ _ rfl)
        have bV : Below wq2.heap.size wq2 wq3 := by subst hV; exact (Below.refl _ _).alloc (Nat.le_refl _) _
        have hb11 : wr.heap.size ≤ B11 := by subst hB; exact HC.out.size
        have hne : B11 ≠ B12 := by have := Z12.out.lt; omega
        replace Z12 := Lib.hid (Z12.out.below bV)
        have hg11 : B11 ≠ g := by have := RG.out.lt; omega
        replace RG := Lib.hid (RG.out.below bV)
        replace HC := Lib.hid (HC.out.trans (bV.mono HC.out.size))
        clear bV hV hB
        refine hK.out _ _ ?_ (fun hHeld => ?_)
        ·exact HC.out
        clear hK K
        try simp only [Act.put, Rgn.a, Rgn.b, Rgn.c]
        refine Rgn.one 13 rfl (by kernel_rfl) (fun K hK => ?_)
        rw [if_pos (by kernel_rfl)]
        refine Kit.wp_store_row 36 (.tmp 9) (.tmp 72) rfl B11 0 #[.int .i64 y.n, .int .i64 y.tick, .int .i64 y.c, .int .i64 y.v, .slice y.pa y.n y.pc, .slice y.na y.n y.nc, .int .i64 (y.h0.ag 0), .int .i64 (y.h0.ag 1), .int .i64 (y.h0.ag 2), .int .i64 (y.h0.ag 3), .int .i64 (y.h0.ag 4), .int .i64 (y.h0.ag 5), .int .i64 (y.h0.ag 6), .int .i64 (y.h0.ag 7), .int .i64 y.h0.port, .int .i64 y.h0.age, .int .i64 y.h0.hold, .int .i64 y.h0.pos, .int .i64 (y.h1.ag 0), .int .i64 (y.h1.ag 1), .int .i64 (y.h1.ag 2), .int .i64 (y.h1.ag 3), .int .i64 (y.h1.ag 4), .int .i64 (y.h1.ag 5), .int .i64 (y.h1.ag 6), .int .i64 (y.h1.ag 7), .int .i64 y.h1.port, .int .i64 y.h1.age, .int .i64 y.h1.hold, .int .i64 y.h1.pos] rfl rfl Z11.out (by simp) Sw.sizeWorld (by first | rfl | (simp [Value.oneCell']; done) | decide) ?_
        intro wq4 hW
        replace Z11 := Lib.hid (Z11.out.all hW rfl)
        replace Z12 := Lib.hid (Z12.out.off hW hne)
        replace RG := Lib.hid (RG.out.off hW hg11)
        replace HC := Lib.hid (Kit.below_of HC.out hW hb11)
        clear hW
        refine hK.out _ _ ?_ (fun hHeld => ?_)
        ·exact HC.out
        clear hK K
        try simp only [Act.put, Rgn.a, Rgn.b, Rgn.c]
        refine Rgn.one 14 rfl (by kernel_rfl) (fun K hK => ?_)
        rw [if_pos (by kernel_rfl)]
        refine Kit.wp_store_row 48 (.tmp 10) (.tmp 73) rfl B12 0 #[.int .i64 x.tick, .int .i64 f0.k, .int .i64 f0.i, .int .i64 f1.k, .int .i64 f1.i, .slice (some ⟨g, 0, none⟩) x.n cg] rfl rfl Z12.out (by simp) Sw.sizeLook (by first | rfl | (simp [Value.oneCell']; done) | decide) ?_
        intro wq5 hW
        replace Z12 := Lib.hid (Z12.out.all hW rfl)
        replace Z11 := Lib.hid (Z11.out.off hW hne.symm)
        replace RG := Lib.hid (RG.out.off hW hg12)
        replace HC := Lib.hid (Kit.below_of HC.out hW hb12)
        clear hW
        refine hK.out _ _ ?_ (fun hHeld => ?_)
        ·exact HC.out
        clear hK K
        try simp only [Act.put, Rgn.a, Rgn.b, Rgn.c]
        refine Rgn.tk 15 rfl ?_
        try simp only [Act.put, Rgn.a, Rgn.b, Rgn.c]
        refine wpAnyH_done (by kernel_rfl) ?_ _
        have A := Lib.hid (show After x y f0 f1 g cg B11 B12 wr wq5 from ⟨HY.out, HNX.out, HG.out, RG.out, hb11, hb12, Z11.out, Z12.out, HC.out⟩)
        revert A
        generalize y = y2
        generalize f0 = e0
        generalize f1 = e1
        generalize g = g2
        generalize cg = c2
        generalize B11 = C11
        generalize B12 = C12
        generalize wq5 = W2
        revert y2 e0 e1 g2 c2 C11 C12 W2
        exact REST
      ·go_simp
       generalize hV : wq0.alloc (.cells #[.int .i64 0, .int .i64 0, .int .i64 0, .int .i64 0, .slice none 0 0, .slice none 0 0, .int .i64 0, .int .i64 0, .int .i64 0, .int .i64 0, .int .i64 0, .int .i64 0, .int .i64 0, .int .i64 0, .int .i64 0, .int .i64 0, .int .i64 0, .int .i64 0, .int .i64 0, .int .i64 0, .int .i64 0, .int .i64 0, .int .i64 0, .int .i64 0, .int .i64 0, .int .i64 0, .int .i64 0, .int .i64 0, .int .i64 0, .int .i64 0] 36) = wq1
       generalize hB : wq0.heap.size = B11
       have Z11 : Hid (Kit.Row wq1 B11 (#[.int .i64 0, .int .i64 0, .int .i64 0, .int .i64 0, .slice none 0 0, .slice none 0 0, .int .i64 0, .int .i64 0, .int .i64 0, .int .i64 0, .int .i64 0, .int .i64 0, .int .i64 0, .int .i64 0, .int .i64 0, .int .i64 0, .int .i64 0, .int .i64 0, .int .i64 0, .int .i64 0, .int .i64 0, .int .i64 0, .int .i64 0, .int .i64 0, .int .i64 0, .int .i64 0, .int .i64 0, .int .i64 0, .int .i64 0, .int .i64 0] : Array Value).toList) := Lib.hid (by subst hV; subst hB; exact Kit.Row.newAt _ _ _ _ rfl)
       have bV : Below wq0.heap.size wq0 wq1 := by subst hV; exact (Below.refl _ _).alloc (Nat.le_refl _) _
       have hb11 : wr.heap.size ≤ B11 := by subst hB; exact HC.out.size
       replace HC := Lib.hid (HC.out.trans (bV.mono HC.out.size))
       clear bV hV hB
       refine hK.out _ _ ?_ (fun hHeld => ?_)
       ·exact HC.out
       clear hK K
       try simp only [Act.put, Rgn.a, Rgn.b, Rgn.c]
       refine Rgn.two 6 12 rfl rfl (by kernel_rfl) (fun K hK => ?_) (fun K hK => ?_)
       ·go_simp
        refine (KS.out _ HC.out).mono ?_
        rintro e wq2 ⟨⟨y, f0, f1, g, cg, rfl, hy, hnx, hg0, rg⟩, bn⟩
        have hg11 : B11 ≠ g := by have := Z11.out.lt; omega
        replace Z11 := Lib.hid (Z11.out.below bn)
        have HG := Lib.hid (Nat.le_trans HC.out.size hg0)
        replace HC := Lib.hid (HC.out.trans (bn.mono HC.out.size))
        have HY := Lib.hid hy
        have HNX := Lib.hid hnx
        have RG := Lib.hid rg
        clear bn hy hnx hg0 rg
        go_simp
        refine hK.out _ _ ?_ (fun hHeld => ?_)
        ·exact HC.out
        clear hK K
        try simp only [Act.put, Rgn.a, Rgn.b, Rgn.c]
        refine Rgn.tk 7 rfl ?_
        try simp only [Act.put, Rgn.a, Rgn.b, Rgn.c]
        refine Rgn.tk 8 rfl ?_
        try simp only [Act.put, Rgn.a, Rgn.b, Rgn.c]
        refine Rgn.tk 9 rfl ?_
        try simp only [Act.put, Rgn.a, Rgn.b, Rgn.c]
        refine Rgn.tk 10 rfl ?_
        try simp only [Act.put, Rgn.a, Rgn.b, Rgn.c]
        refine Rgn.one 12 rfl (by kernel_rfl) (fun K hK => ?_)
        go_simp
        generalize hV : wq2.alloc (.cells #[.int .i64 0, .int .i64 0, .int .i64 0, .int .i64 0, .int .i64 0, .slice none 0 0] 48) = wq3
        generalize hB : wq2.heap.size = B12
        have Z12 : Hid (Kit.Row wq3 B12 (#[.int .i64 0, .int .i64 0, .int .i64 0, .int .i64 0, .int .i64 0, .slice none 0 0] : Array Value).toList) := Lib.hid (by subst hV; subst hB; exact Kit.Row.newAt _ _ _ _ rfl)
        have bV : Below wq2.heap.size wq2 wq3 := by subst hV; exact (Below.refl _ _).alloc (Nat.le_refl _) _
        have hb12 : wr.heap.size ≤ B12 := by subst hB; exact HC.out.size
        have hne : B11 ≠ B12 := by have := Z11.out.lt; omega
        replace Z11 := Lib.hid (Z11.out.below bV)
        have hg12 : B12 ≠ g := by have := RG.out.lt; omega
        replace RG := Lib.hid (RG.out.below bV)
        replace HC := Lib.hid (HC.out.trans (bV.mono HC.out.size))
        clear bV hV hB
        refine hK.out _ _ ?_ (fun hHeld => ?_)
        ·exact HC.out
        clear hK K
        try simp only [Act.put, Rgn.a, Rgn.b, Rgn.c]
        refine Rgn.one 13 rfl (by kernel_rfl) (fun K hK => ?_)
        rw [if_pos (by kernel_rfl)]
        refine Kit.wp_store_row 36 (.tmp 9) (.tmp 72) rfl B11 0 #[.int .i64 y.n, .int .i64 y.tick, .int .i64 y.c, .int .i64 y.v, .slice y.pa y.n y.pc, .slice y.na y.n y.nc, .int .i64 (y.h0.ag 0), .int .i64 (y.h0.ag 1), .int .i64 (y.h0.ag 2), .int .i64 (y.h0.ag 3), .int .i64 (y.h0.ag 4), .int .i64 (y.h0.ag 5), .int .i64 (y.h0.ag 6), .int .i64 (y.h0.ag 7), .int .i64 y.h0.port, .int .i64 y.h0.age, .int .i64 y.h0.hold, .int .i64 y.h0.pos, .int .i64 (y.h1.ag 0), .int .i64 (y.h1.ag 1), .int .i64 (y.h1.ag 2), .int .i64 (y.h1.ag 3), .int .i64 (y.h1.ag 4), .int .i64 (y.h1.ag 5), .int .i64 (y.h1.ag 6), .int .i64 (y.h1.ag 7), .int .i64 y.h1.port, .int .i64 y.h1.age, .int .i64 y.h1.hold, .int .i64 y.h1.pos] rfl rfl Z11.out (by simp) Sw.sizeWorld (by first | rfl | (simp [Value.oneCell']; done) | decide) ?_
        intro wq4 hW
        replace Z11 := Lib.hid (Z11.out.all hW rfl)
        replace Z12 := Lib.hid (Z12.out.off hW hne)
        replace RG := Lib.hid (RG.out.off hW hg11)
        replace HC := Lib.hid (Kit.below_of HC.out hW hb11)
        clear hW
        refine hK.out _ _ ?_ (fun hHeld => ?_)
        ·exact HC.out
        clear hK K
        try simp only [Act.put, Rgn.a, Rgn.b, Rgn.c]
        refine Rgn.one 14 rfl (by kernel_rfl) (fun K hK => ?_)
        rw [if_pos (by kernel_rfl)]
        refine Kit.wp_store_row 48 (.tmp 10) (.tmp 73) rfl B12 0 #[.int .i64 x.tick, .int .i64 f0.k, .int .i64 f0.i, .int .i64 f1.k, .int .i64 f1.i, .slice (some ⟨g, 0, none⟩) x.n cg] rfl rfl Z12.out (by simp) Sw.sizeLook (by first | rfl | (simp [Value.oneCell']; done) | decide) ?_
        intro wq5 hW
        replace Z12 := Lib.hid (Z12.out.all hW rfl)
        replace Z11 := Lib.hid (Z11.out.off hW hne.symm)
        replace RG := Lib.hid (RG.out.off hW hg12)
        replace HC := Lib.hid (Kit.below_of HC.out hW hb12)
        clear hW
        refine hK.out _ _ ?_ (fun hHeld => ?_)
        ·exact HC.out
        clear hK K
        try simp only [Act.put, Rgn.a, Rgn.b, Rgn.c]
        refine Rgn.tk 15 rfl ?_
        try simp only [Act.put, Rgn.a, Rgn.b, Rgn.c]
        refine wpAnyH_done (by kernel_rfl) ?_ _
        have A := Lib.hid (show After x y f0 f1 g cg B11 B12 wr wq5 from ⟨HY.out, HNX.out, HG.out, RG.out, hb11, hb12, Z11.out, Z12.out, HC.out⟩)
        revert A
        generalize y = y2
        generalize f0 = e0
        generalize f1 = e1
        generalize g = g2
        generalize cg = c2
        generalize B11 = C11
        generalize B12 = C12
        generalize wq5 = W2
        revert y2 e0 e1 g2 c2 C11 C12 W2
        exact REST
       ·go_simp
        generalize hV : wq1.alloc (.cells #[.int .i64 0, .int .i64 0, .int .i64 0, .int .i64 0, .int .i64 0, .slice none 0 0] 48) = wq2
        generalize hB : wq1.heap.size = B12
        have Z12 : Hid (Kit.Row wq2 B12 (#[.int .i64 0, .int .i64 0, .int .i64 0, .int .i64 0, .int .i64 0, .slice none 0 0] : Array Value).toList) := Lib.hid (by subst hV; subst hB; exact Kit.Row.newAt _ _ _ _ rfl)
        have bV : Below wq1.heap.size wq1 wq2 := by subst hV; exact (Below.refl _ _).alloc (Nat.le_refl _) _
        have hb12 : wr.heap.size ≤ B12 := by subst hB; exact HC.out.size
        have hne : B11 ≠ B12 := by have := Z11.out.lt; omega
        replace Z11 := Lib.hid (Z11.out.below bV)
        replace HC := Lib.hid (HC.out.trans (bV.mono HC.out.size))
        clear bV hV hB
        refine hK.out _ _ ?_ (fun hHeld => ?_)
        ·exact HC.out
        clear hK K
        try simp only [Act.put, Rgn.a, Rgn.b, Rgn.c]
        refine Rgn.one 6 rfl (by kernel_rfl) (fun K hK => ?_)
        go_simp
        refine (KS.out _ HC.out).mono ?_
        rintro e wq3 ⟨⟨y, f0, f1, g, cg, rfl, hy, hnx, hg0, rg⟩, bn⟩
        have hg11 : B11 ≠ g := by have := Z11.out.lt; omega
        replace Z11 := Lib.hid (Z11.out.below bn)
        have hg12 : B12 ≠ g := by have := Z12.out.lt; omega
        replace Z12 := Lib.hid (Z12.out.below bn)
        have HG := Lib.hid (Nat.le_trans HC.out.size hg0)
        replace HC := Lib.hid (HC.out.trans (bn.mono HC.out.size))
        have HY := Lib.hid hy
        have HNX := Lib.hid hnx
        have RG := Lib.hid rg
        clear bn hy hnx hg0 rg
        go_simp
        refine hK.out _ _ ?_ (fun hHeld => ?_)
        ·exact HC.out
        clear hK K
        try simp only [Act.put, Rgn.a, Rgn.b, Rgn.c]
        refine Rgn.tk 7 rfl ?_
        try simp only [Act.put, Rgn.a, Rgn.b, Rgn.c]
        refine Rgn.tk 8 rfl ?_
        try simp only [Act.put, Rgn.a, Rgn.b, Rgn.c]
        refine Rgn.tk 9 rfl ?_
        try simp only [Act.put, Rgn.a, Rgn.b, Rgn.c]
        refine Rgn.tk 10 rfl ?_
        try simp only [Act.put, Rgn.a, Rgn.b, Rgn.c]
        refine Rgn.one 13 rfl (by kernel_rfl) (fun K hK => ?_)
        rw [if_pos (by kernel_rfl)]
        refine Kit.wp_store_row 36 (.tmp 9) (.tmp 72) rfl B11 0 #[.int .i64 y.n, .int .i64 y.tick, .int .i64 y.c, .int .i64 y.v, .slice y.pa y.n y.pc, .slice y.na y.n y.nc, .int .i64 (y.h0.ag 0), .int .i64 (y.h0.ag 1), .int .i64 (y.h0.ag 2), .int .i64 (y.h0.ag 3), .int .i64 (y.h0.ag 4), .int .i64 (y.h0.ag 5), .int .i64 (y.h0.ag 6), .int .i64 (y.h0.ag 7), .int .i64 y.h0.port, .int .i64 y.h0.age, .int .i64 y.h0.hold, .int .i64 y.h0.pos, .int .i64 (y.h1.ag 0), .int .i64 (y.h1.ag 1), .int .i64 (y.h1.ag 2), .int .i64 (y.h1.ag 3), .int .i64 (y.h1.ag 4), .int .i64 (y.h1.ag 5), .int .i64 (y.h1.ag 6), .int .i64 (y.h1.ag 7), .int .i64 y.h1.port, .int .i64 y.h1.age, .int .i64 y.h1.hold, .int .i64 y.h1.pos] rfl rfl Z11.out (by simp) Sw.sizeWorld (by first | rfl | (simp [Value.oneCell']; done) | decide) ?_
        intro wq4 hW
        replace Z11 := Lib.hid (Z11.out.all hW rfl)
        replace Z12 := Lib.hid (Z12.out.off hW hne)
        replace RG := Lib.hid (RG.out.off hW hg11)
        replace HC := Lib.hid (Kit.below_of HC.out hW hb11)
        clear hW
        refine hK.out _ _ ?_ (fun hHeld => ?_)
        ·exact HC.out
        clear hK K
        try simp only [Act.put, Rgn.a, Rgn.b, Rgn.c]
        refine Rgn.one 14 rfl (by kernel_rfl) (fun K hK => ?_)
        rw [if_pos (by kernel_rfl)]
        refine Kit.wp_store_row 48 (.tmp 10) (.tmp 73) rfl B12 0 #[.int .i64 x.tick, .int .i64 f0.k, .int .i64 f0.i, .int .i64 f1.k, .int .i64 f1.i, .slice (some ⟨g, 0, none⟩) x.n cg] rfl rfl Z12.out (by simp) Sw.sizeLook (by first | rfl | (simp [Value.oneCell']; done) | decide) ?_
        intro wq5 hW
        replace Z12 := Lib.hid (Z12.out.all hW rfl)
        replace Z11 := Lib.hid (Z11.out.off hW hne.symm)
        replace RG := Lib.hid (RG.out.off hW hg12)
        replace HC := Lib.hid (Kit.below_of HC.out hW hb12)
        clear hW
        refine hK.out _ _ ?_ (fun hHeld => ?_)
        ·exact HC.out
        clear hK K
        try simp only [Act.put, Rgn.a, Rgn.b, Rgn.c]
        refine Rgn.tk 15 rfl ?_
        try simp only [Act.put, Rgn.a, Rgn.b, Rgn.c]
        refine wpAnyH_done (by kernel_rfl) ?_ _
        have A := Lib.hid (show After x y f0 f1 g cg B11 B12 wr wq5 from ⟨HY.out, HNX.out, HG.out, RG.out, hb11, hb12, Z11.out, Z12.out, HC.out⟩)
        revert A
        generalize y = y2
        generalize f0 = e0
        generalize f1 = e1
        generalize g = g2
        generalize cg = c2
        generalize B11 = C11
        generalize B12 = C12
        generalize wq5 = W2
        revert y2 e0 e1 g2 c2 C11 C12 W2
        exact REST
      ·go_simp
       generalize hV : wq0.alloc (.cells #[.int .i64 0, .int .i64 0, .int .i64 0, .int .i64 0, .int .i64 0, .slice none 0 0] 48) = wq1
       generalize hB : wq0.heap.size = B12
       have Z12 : Hid (Kit.Row wq1 B12 (#[.int .i64 0, .int .i64 0, .int .i64 0, .int .i64 0, .int .i64 0, .slice none 0 0] : Array Value).toList) := Lib.hid (by subst hV; subst hB; exact Kit.Row.newAt _ _ _ _ rfl)
       have bV : Below wq0.heap.size wq0 wq1 := by subst hV; exact (Below.refl _ _).alloc (Nat.le_refl _) _
       have hb12 : wr.heap.size ≤ B12 := by subst hB; exact HC.out.size
       replace HC := Lib.hid (HC.out.trans (bV.mono HC.out.size))
       clear bV hV hB
       refine hK.out _ _ ?_ (fun hHeld => ?_)
       ·exact HC.out
       clear hK K
       try simp only [Act.put, Rgn.a, Rgn.b, Rgn.c]
       refine Rgn.two 6 11 rfl rfl (by kernel_rfl) (fun K hK => ?_) (fun K hK => ?_)
       ·go_simp
        refine (KS.out _ HC.out).mono ?_
        rintro e wq2 ⟨⟨y, f0, f1, g, cg, rfl, hy, hnx, hg0, rg⟩, bn⟩
        have hg12 : B12 ≠ g := by have := Z12.out.lt; omega
        replace Z12 := Lib.hid (Z12.out.below bn)
        have HG := Lib.hid (Nat.le_trans HC.out.size hg0)
        replace HC := Lib.hid (HC.out.trans (bn.mono HC.out.size))
        have HY := Lib.hid hy
        have HNX := Lib.hid hnx
        have RG := Lib.hid rg
        clear bn hy hnx hg0 rg
        go_simp
        refine hK.out _ _ ?_ (fun hHeld => ?_)
        ·exact HC.out
        clear hK K
        try simp only [Act.put, Rgn.a, Rgn.b, Rgn.c]
        refine Rgn.tk 7 rfl ?_
        try simp only [Act.put, Rgn.a, Rgn.b, Rgn.c]
        refine Rgn.tk 8 rfl ?_
        try simp only [Act.put, Rgn.a, Rgn.b, Rgn.c]
        refine Rgn.tk 9 rfl ?_
        try simp only [Act.put, Rgn.a, Rgn.b, Rgn.c]
        refine Rgn.tk 10 rfl ?_
        try simp only [Act.put, Rgn.a, Rgn.b, Rgn.c]
        refine Rgn.one 11 rfl (by kernel_rfl) (fun K hK => ?_)
        go_simp
        generalize hV : wq2.alloc (.cells #[.int .i64 0, .int .i64 0, .int .i64 0, .int .i64 0, .slice none 0 0, .slice none 0 0, .int .i64 0, .int .i64 0, .int .i64 0, .int .i64 0, .int .i64 0, .int .i64 0, .int .i64 0, .int .i64 0, .int .i64 0, .int .i64 0, .int .i64 0, .int .i64 0, .int .i64 0, .int .i64 0, .int .i64 0, .int .i64 0, .int .i64 0, .int .i64 0, .int .i64 0, .int .i64 0, .int .i64 0, .int .i64 0, .int .i64 0, .int .i64 0] 36) = wq3
        generalize hB : wq2.heap.size = B11
        have Z11 : Hid (Kit.Row wq3 B11 (#[.int .i64 0, .int .i64 0, .int .i64 0, .int .i64 0, .slice none 0 0, .slice none 0 0, .int .i64 0, .int .i64 0, .int .i64 0, .int .i64 0, .int .i64 0, .int .i64 0, .int .i64 0, .int .i64 0, .int .i64 0, .int .i64 0, .int .i64 0, .int .i64 0, .int .i64 0, .int .i64 0, .int .i64 0, .int .i64 0, .int .i64 0, .int .i64 0, .int .i64 0, .int .i64 0, .int .i64 0, .int .i64 0, .int .i64 0, .int .i64 0] : Array Value).toList) := Lib.hid (by subst hV; subst hB; exact Kit.Row.newAt _ _ _ _ rfl)
        have bV : Below wq2.heap.size wq2 wq3 := by subst hV; exact (Below.refl _ _).alloc (Nat.le_refl _) _
        have hb11 : wr.heap.size ≤ B11 := by subst hB; exact HC.out.size
        have hne : B11 ≠ B12 := by have := Z12.out.lt; omega
        replace Z12 := Lib.hid (Z12.out.below bV)
        have hg11 : B11 ≠ g := by have := RG.out.lt; omega
        replace RG := Lib.hid (RG.out.below bV)
        replace HC := Lib.hid (HC.out.trans (bV.mono HC.out.size))
        clear bV hV hB
        refine hK.out _ _ ?_ (fun hHeld => ?_)
        ·exact HC.out
        clear hK K
        try simp only [Act.put, Rgn.a, Rgn.b, Rgn.c]
        refine Rgn.one 13 rfl (by kernel_rfl) (fun K hK => ?_)
        rw [if_pos (by kernel_rfl)]
        refine Kit.wp_store_row 36 (.tmp 9) (.tmp 72) rfl B11 0 #[.int .i64 y.n, .int .i64 y.tick, .int .i64 y.c, .int .i64 y.v, .slice y.pa y.n y.pc, .slice y.na y.n y.nc, .int .i64 (y.h0.ag 0), .int .i64 (y.h0.ag 1), .int .i64 (y.h0.ag 2), .int .i64 (y.h0.ag 3), .int .i64 (y.h0.ag 4), .int .i64 (y.h0.ag 5), .int .i64 (y.h0.ag 6), .int .i64 (y.h0.ag 7), .int .i64 y.h0.port, .int .i64 y.h0.age, .int .i64 y.h0.hold, .int .i64 y.h0.pos, .int .i64 (y.h1.ag 0), .int .i64 (y.h1.ag 1), .int .i64 (y.h1.ag 2), .int .i64 (y.h1.ag 3), .int .i64 (y.h1.ag 4), .int .i64 (y.h1.ag 5), .int .i64 (y.h1.ag 6), .int .i64 (y.h1.ag 7), .int .i64 y.h1.port, .int .i64 y.h1.age, .int .i64 y.h1.hold, .int .i64 y.h1.pos] rfl rfl Z11.out (by simp) Sw.sizeWorld (by first | rfl | (simp [Value.oneCell']; done) | decide) ?_
        intro wq4 hW
        replace Z11 := Lib.hid (Z11.out.all hW rfl)
        replace Z12 := Lib.hid (Z12.out.off hW hne)
        replace RG := Lib.hid (RG.out.off hW hg11)
        replace HC := Lib.hid (Kit.below_of HC.out hW hb11)
        clear hW
        refine hK.out _ _ ?_ (fun hHeld => ?_)
        ·exact HC.out
        clear hK K
        try simp only [Act.put, Rgn.a, Rgn.b, Rgn.c]
        refine Rgn.one 14 rfl (by kernel_rfl) (fun K hK => ?_)
        rw [if_pos (by kernel_rfl)]
        refine Kit.wp_store_row 48 (.tmp 10) (.tmp 73) rfl B12 0 #[.int .i64 x.tick, .int .i64 f0.k, .int .i64 f0.i, .int .i64 f1.k, .int .i64 f1.i, .slice (some ⟨g, 0, none⟩) x.n cg] rfl rfl Z12.out (by simp) Sw.sizeLook (by first | rfl | (simp [Value.oneCell']; done) | decide) ?_
        intro wq5 hW
        replace Z12 := Lib.hid (Z12.out.all hW rfl)
        replace Z11 := Lib.hid (Z11.out.off hW hne.symm)
        replace RG := Lib.hid (RG.out.off hW hg12)
        replace HC := Lib.hid (Kit.below_of HC.out hW hb12)
        clear hW
        refine hK.out _ _ ?_ (fun hHeld => ?_)
        ·exact HC.out
        clear hK K
        try simp only [Act.put, Rgn.a, Rgn.b, Rgn.c]
        refine Rgn.tk 15 rfl ?_
        try simp only [Act.put, Rgn.a, Rgn.b, Rgn.c]
        refine wpAnyH_done (by kernel_rfl) ?_ _
        have A := Lib.hid (show After x y f0 f1 g cg B11 B12 wr wq5 from ⟨HY.out, HNX.out, HG.out, RG.out, hb11, hb12, Z11.out, Z12.out, HC.out⟩)
        revert A
        generalize y = y2
        generalize f0 = e0
        generalize f1 = e1
        generalize g = g2
        generalize cg = c2
        generalize B11 = C11
        generalize B12 = C12
        generalize wq5 = W2
        revert y2 e0 e1 g2 c2 C11 C12 W2
        exact REST
       ·go_simp
        generalize hV : wq1.alloc (.cells #[.int .i64 0, .int .i64 0, .int .i64 0, .int .i64 0, .slice none 0 0, .slice none 0 0, .int .i64 0, .int .i64 0, .int .i64 0, .int .i64 0, .int .i64 0, .int .i64 0, .int .i64 0, .int .i64 0, .int .i64 0, .int .i64 0, .int .i64 0, .int .i64 0, .int .i64 0, .int .i64 0, .int .i64 0, .int .i64 0, .int .i64 0, .int .i64 0, .int .i64 0, .int .i64 0, .int .i64 0, .int .i64 0, .int .i64 0, .int .i64 0] 36) = wq2
        generalize hB : wq1.heap.size = B11
        have Z11 : Hid (Kit.Row wq2 B11 (#[.int .i64 0, .int .i64 0, .int .i64 0, .int .i64 0, .slice none 0 0, .slice none 0 0, .int .i64 0, .int .i64 0, .int .i64 0, .int .i64 0, .int .i64 0, .int .i64 0, .int .i64 0, .int .i64 0, .int .i64 0, .int .i64 0, .int .i64 0, .int .i64 0, .int .i64 0, .int .i64 0, .int .i64 0, .int .i64 0, .int .i64 0, .int .i64 0, .int .i64 0, .int .i64 0, .int .i64 0, .int .i64 0, .int .i64 0, .int .i64 0] : Array Value).toList) := Lib.hid (by subst hV; subst hB; exact Kit.Row.newAt _ _ _ _ rfl)
        have bV : Below wq1.heap.size wq1 wq2 := by subst hV; exact (Below.refl _ _).alloc (Nat.le_refl _) _
        have hb11 : wr.heap.size ≤ B11 := by subst hB; exact HC.out.size
        have hne : B11 ≠ B12 := by have := Z12.out.lt; omega
        replace Z12 := Lib.hid (Z12.out.below bV)
        replace HC := Lib.hid (HC.out.trans (bV.mono HC.out.size))
        clear bV hV hB
        refine hK.out _ _ ?_ (fun hHeld => ?_)
        ·exact HC.out
        clear hK K
        try simp only [Act.put, Rgn.a, Rgn.b, Rgn.c]
        refine Rgn.one 6 rfl (by kernel_rfl) (fun K hK => ?_)
        go_simp
        refine (KS.out _ HC.out).mono ?_
        rintro e wq3 ⟨⟨y, f0, f1, g, cg, rfl, hy, hnx, hg0, rg⟩, bn⟩
        have hg11 : B11 ≠ g := by have := Z11.out.lt; omega
        replace Z11 := Lib.hid (Z11.out.below bn)
        have hg12 : B12 ≠ g := by have := Z12.out.lt; omega
        replace Z12 := Lib.hid (Z12.out.below bn)
        have HG := Lib.hid (Nat.le_trans HC.out.size hg0)
        replace HC := Lib.hid (HC.out.trans (bn.mono HC.out.size))
        have HY := Lib.hid hy
        have HNX := Lib.hid hnx
        have RG := Lib.hid rg
        clear bn hy hnx hg0 rg
        go_simp
        refine hK.out _ _ ?_ (fun hHeld => ?_)
        ·exact HC.out
        clear hK K
        try simp only [Act.put, Rgn.a, Rgn.b, Rgn.c]
        refine Rgn.tk 7 rfl ?_
        try simp only [Act.put, Rgn.a, Rgn.b, Rgn.c]
        refine Rgn.tk 8 rfl ?_
        try simp only [Act.put, Rgn.a, Rgn.b, Rgn.c]
        refine Rgn.tk 9 rfl ?_
        try simp only [Act.put, Rgn.a, Rgn.b, Rgn.c]
        refine Rgn.tk 10 rfl ?_
        try simp only [Act.put, Rgn.a, Rgn.b, Rgn.c]
        refine Rgn.one 13 rfl (by kernel_rfl) (fun K hK => ?_)
        rw [if_pos (by kernel_rfl)]
        refine Kit.wp_store_row 36 (.tmp 9) (.tmp 72) rfl B11 0 #[.int .i64 y.n, .int .i64 y.tick, .int .i64 y.c, .int .i64 y.v, .slice y.pa y.n y.pc, .slice y.na y.n y.nc, .int .i64 (y.h0.ag 0), .int .i64 (y.h0.ag 1), .int .i64 (y.h0.ag 2), .int .i64 (y.h0.ag 3), .int .i64 (y.h0.ag 4), .int .i64 (y.h0.ag 5), .int .i64 (y.h0.ag 6), .int .i64 (y.h0.ag 7), .int .i64 y.h0.port, .int .i64 y.h0.age, .int .i64 y.h0.hold, .int .i64 y.h0.pos, .int .i64 (y.h1.ag 0), .int .i64 (y.h1.ag 1), .int .i64 (y.h1.ag 2), .int .i64 (y.h1.ag 3), .int .i64 (y.h1.ag 4), .int .i64 (y.h1.ag 5), .int .i64 (y.h1.ag 6), .int .i64 (y.h1.ag 7), .int .i64 y.h1.port, .int .i64 y.h1.age, .int .i64 y.h1.hold, .int .i64 y.h1.pos] rfl rfl Z11.out (by simp) Sw.sizeWorld (by first | rfl | (simp [Value.oneCell']; done) | decide) ?_
        intro wq4 hW
        replace Z11 := Lib.hid (Z11.out.all hW rfl)
        replace Z12 := Lib.hid (Z12.out.off hW hne)
        replace RG := Lib.hid (RG.out.off hW hg11)
        replace HC := Lib.hid (Kit.below_of HC.out hW hb11)
        clear hW
        refine hK.out _ _ ?_ (fun hHeld => ?_)
        ·exact HC.out
        clear hK K
        try simp only [Act.put, Rgn.a, Rgn.b, Rgn.c]
        refine Rgn.one 14 rfl (by kernel_rfl) (fun K hK => ?_)
        rw [if_pos (by kernel_rfl)]
        refine Kit.wp_store_row 48 (.tmp 10) (.tmp 73) rfl B12 0 #[.int .i64 x.tick, .int .i64 f0.k, .int .i64 f0.i, .int .i64 f1.k, .int .i64 f1.i, .slice (some ⟨g, 0, none⟩) x.n cg] rfl rfl Z12.out (by simp) Sw.sizeLook (by first | rfl | (simp [Value.oneCell']; done) | decide) ?_
        intro wq5 hW
        replace Z12 := Lib.hid (Z12.out.all hW rfl)
        replace Z11 := Lib.hid (Z11.out.off hW hne.symm)
        replace RG := Lib.hid (RG.out.off hW hg12)
        replace HC := Lib.hid (Kit.below_of HC.out hW hb12)
        clear hW
        refine hK.out _ _ ?_ (fun hHeld => ?_)
        ·exact HC.out
        clear hK K
        try simp only [Act.put, Rgn.a, Rgn.b, Rgn.c]
        refine Rgn.tk 15 rfl ?_
        try simp only [Act.put, Rgn.a, Rgn.b, Rgn.c]
        refine wpAnyH_done (by kernel_rfl) ?_ _
        have A := Lib.hid (show After x y f0 f1 g cg B11 B12 wr wq5 from ⟨HY.out, HNX.out, HG.out, RG.out, hb11, hb12, Z11.out, Z12.out, HC.out⟩)
        revert A
        generalize y = y2
        generalize f0 = e0
        generalize f1 = e1
        generalize g = g2
        generalize cg = c2
        generalize B11 = C11
        generalize B12 = C12
        generalize wq5 = W2
        revert y2 e0 e1 g2 c2 C11 C12 W2
        exact REST
     case p =>
      intro y f0 f1 g cg B11 B12 W A
      obtain ⟨hgood, hnx, hg, rg, hb11, hb12, r11, r12, hc⟩ := A.out
      clear A KS t0 t1 t2 t3 hbT HEA
      have HCW := Lib.hid (HC.out.trans (hc.mono HC.out.size))
      have HTY : Hid (y.There W) := Lib.hid ⟨(Nb.power_of HPW.out hnx).below HCW.out, Nb.nodes_of rg hnx⟩
      have hyt : y.tick = (k : Int) + 1 := by
       rw [hgood.2.2.1, HX.out.2.2]
       unfold Wm.up Wm.mostCount
       omega
      have HY := Lib.hid hgood.1
      have HYN : Hid (y.n = n) := Lib.hid (hgood.2.1.trans HX.out.2.1)
      have HS0 : Hid (Wm.Sent n f0) := Lib.hid (by have := hgood.2.2.2.1; rwa [HX.out.2.1] at this)
      have HS1 : Hid (Wm.Sent n f1) := Lib.hid (by have := hgood.2.2.2.2; rwa [HX.out.2.1] at this)
      have R11 := Lib.hid r11
      have R12 := Lib.hid r12
      have RG := Lib.hid rg
      have HNX := Lib.hid hnx
      have RYW := Lib.hid (RY.out.below hc)
      have HYG : Hid (w4.heap.size ≠ g) := Lib.hid (by have := RY.out.lt; omega)
      have HYB : Hid (w4.heap.size ≠ B11) := Lib.hid (by have := RY.out.lt; omega)
      have HYT := Lib.hid hyt
      clear hgood hnx hg rg r11 r12 hc hb11 hb12 hyt
      go_upto_region 11 with fail
      iterate 10 (first | go_guarded | go_step | go_upon | go_back)
      refine BigFrame.wpList_want rfl (fun K hK => ?_)
      refine Kit.wp_load_row 36 (.tmp 9) rfl B11 0 rfl R11.out [.int .i64 y.n, .int .i64 y.tick, .int .i64 y.c, .int .i64 y.v, .slice y.pa y.n y.pc, .slice y.na y.n y.nc, .int .i64 (y.h0.ag 0), .int .i64 (y.h0.ag 1), .int .i64 (y.h0.ag 2), .int .i64 (y.h0.ag 3), .int .i64 (y.h0.ag 4), .int .i64 (y.h0.ag 5), .int .i64 (y.h0.ag 6), .int .i64 (y.h0.ag 7), .int .i64 y.h0.port, .int .i64 y.h0.age, .int .i64 y.h0.hold, .int .i64 y.h0.pos, .int .i64 (y.h1.ag 0), .int .i64 (y.h1.ag 1), .int .i64 (y.h1.ag 2), .int .i64 (y.h1.ag 3), .int .i64 (y.h1.ag 4), .int .i64 (y.h1.ag 5), .int .i64 (y.h1.ag 6), .int .i64 (y.h1.ag 7), .int .i64 y.h1.port, .int .i64 y.h1.age, .int .i64 y.h1.hold, .int .i64 y.h1.pos] rfl _ Tryz.underlying36 rfl Sw.sizeWorld ?_
      refine hK _ _ ?_
      clear hK K
      go_wp2_with fail
      refine (Rf.r17_calls y _ HY.out HTY.out).mono ?_
      rintro e wc ⟨rfl, b⟩
      have HCC := Lib.hid (HCW.out.trans (b.mono HCW.out.size))
      have S11 := Lib.hid (R11.out.below b)
      have S12 := Lib.hid (R12.out.below b)
      have SG := Lib.hid (RG.out.below b)
      have SY := Lib.hid (RYW.out.below b)
      clear b R11 R12 RG RYW HTY HCW
      have c1 := S11.out.at_ 1 (.int .i64 y.tick) rfl
      rw [HYT.out] at c1
      go_wp2_with fail
      have RSW := Lib.hid (RS4.out.kept HCC.out RS4.out.lt)
      go_loopw [12, 13] (fun vh v13 wq => (vh = .int .i64 0 ∨ vh = .int .i64 1 ∨ vh = .int .i64 2) ∧ Hid (Below wc.heap.size wc wq)) (fun vh _ _ => 2 - (intOf vh).toNat)
      case atStart => exact ⟨Or.inl rfl, Lib.hid (Below.refl _ _)⟩
      case round =>
       obtain ⟨hc, HQ⟩ := hrel
       rcases hc with rfl | rfl | rfl
       ·have hq := HQ.out.size
        have hw := (RSW.out.below HQ.out).lt
        have RQ := Lib.hid (S12.out.below HQ.out)
        have c0 := (RSW.out.below HQ.out).at_ 0 (.int .i64 s.n) rfl
        rcases HS0.out with e | ⟨p, hp, e | e⟩
        ·have a0 := RQ.out.at_ 1 (.int .i64 0) (by rw [e]; rfl)
         have a1 := RQ.out.at_ 2 (.int .i64 0) (by rw [e]; rfl)
         clear e
         go_wp2_with fail
         go_roundw
         case rel =>
          refine ⟨Or.inr (Or.inl rfl), Lib.hid ?_⟩
          repeat' (first | (with_reducible exact HQ.out) | (with_reducible refine Below.setCell ?_ ?_ _) | (with_reducible refine Below.alloc ?_ ?_ _) | (with_reducible refine Below.drew ?_))
          all_goals (first | omega | (simp; done) | (simp; omega))
         case measure => simp [intOf]
        ·have a0 := RQ.out.at_ 1 (.int .i64 1) (by rw [e]; rfl)
         have a1 := RQ.out.at_ 2 (.int .i64 (p : Int)) (by rw [e]; rfl)
         have g0 : decide ((p : Int) < 0) = false := decide_eq_false (by omega)
         have g1 : decide ((p : Int) ≥ s.n) = false := decide_eq_false (by have := HNN.out; omega)
         clear e
         go_wp2_with fail
         go_roundw
         case rel =>
          refine ⟨Or.inr (Or.inl rfl), Lib.hid ?_⟩
          repeat' (first | (with_reducible exact HQ.out) | (with_reducible refine Below.setCell ?_ ?_ _) | (with_reducible refine Below.alloc ?_ ?_ _) | (with_reducible refine Below.drew ?_))
          all_goals (first | omega | (simp; done) | (simp; omega))
         case measure => simp [intOf]
        ·have a0 := RQ.out.at_ 1 (.int .i64 2) (by rw [e]; rfl)
         have a1 := RQ.out.at_ 2 (.int .i64 (p : Int)) (by rw [e]; rfl)
         have g0 : decide ((p : Int) < 0) = false := decide_eq_false (by omega)
         have g1 : decide ((p : Int) ≥ s.n) = false := decide_eq_false (by have := HNN.out; omega)
         clear e
         go_wp2_with fail
         go_roundw
         case rel =>
          refine ⟨Or.inr (Or.inl rfl), Lib.hid ?_⟩
          repeat' (first | (with_reducible exact HQ.out) | (with_reducible refine Below.setCell ?_ ?_ _) | (with_reducible refine Below.alloc ?_ ?_ _) | (with_reducible refine Below.drew ?_))
          all_goals (first | omega | (simp; done) | (simp; omega))
         case measure => simp [intOf]
       ·have hq := HQ.out.size
        have hw := (RSW.out.below HQ.out).lt
        have RQ := Lib.hid (S12.out.below HQ.out)
        have c0 := (RSW.out.below HQ.out).at_ 0 (.int .i64 s.n) rfl
        rcases HS1.out with e | ⟨p, hp, e | e⟩
        ·have a0 := RQ.out.at_ 3 (.int .i64 0) (by rw [e]; rfl)
         have a1 := RQ.out.at_ 4 (.int .i64 0) (by rw [e]; rfl)
         clear e
         go_wp2_with fail
         go_roundw
         case rel =>
          refine ⟨Or.inr (Or.inr rfl), Lib.hid ?_⟩
          repeat' (first | (with_reducible exact HQ.out) | (with_reducible refine Below.setCell ?_ ?_ _) | (with_reducible refine Below.alloc ?_ ?_ _) | (with_reducible refine Below.drew ?_))
          all_goals (first | omega | (simp; done) | (simp; omega))
         case measure => simp [intOf]
        ·have a0 := RQ.out.at_ 3 (.int .i64 1) (by rw [e]; rfl)
         have a1 := RQ.out.at_ 4 (.int .i64 (p : Int)) (by rw [e]; rfl)
         have g0 : decide ((p : Int) < 0) = false := decide_eq_false (by omega)
         have g1 : decide ((p : Int) ≥ s.n) = false := decide_eq_false (by have := HNN.out; omega)
         clear e
         go_wp2_with fail
         go_roundw
         case rel =>
          refine ⟨Or.inr (Or.inr rfl), Lib.hid ?_⟩
          repeat' (first | (with_reducible exact HQ.out) | (with_reducible refine Below.setCell ?_ ?_ _) | (with_reducible refine Below.alloc ?_ ?_ _) | (with_reducible refine Below.drew ?_))
          all_goals (first | omega | (simp; done) | (simp; omega))
         case measure => simp [intOf]
        ·have a0 := RQ.out.at_ 3 (.int .i64 2) (by rw [e]; rfl)
         have a1 := RQ.out.at_ 4 (.int .i64 (p : Int)) (by rw [e]; rfl)
         have g0 : decide ((p : Int) < 0) = false := decide_eq_false (by omega)
         have g1 : decide ((p : Int) ≥ s.n) = false := decide_eq_false (by have := HNN.out; omega)
         clear e
         go_wp2_with fail
         go_roundw
         case rel =>
          refine ⟨Or.inr (Or.inr rfl), Lib.hid ?_⟩
          repeat' (first | (with_reducible exact HQ.out) | (with_reducible refine Below.setCell ?_ ?_ _) | (with_reducible refine Below.alloc ?_ ?_ _) | (with_reducible refine Below.drew ?_))
          all_goals (first | omega | (simp; done) | (simp; omega))
         case measure => simp [intOf]
       ·go_upto_region 19 with fail
        go_step
        refine Kit.wpList_load_row rfl 36 (.tmp 9) rfl B11 0 rfl (S11.out.below HQ.out) [.int .i64 y.n, .int .i64 y.tick, .int .i64 y.c, .int .i64 y.v, .slice y.pa y.n y.pc, .slice y.na y.n y.nc, .int .i64 (y.h0.ag 0), .int .i64 (y.h0.ag 1), .int .i64 (y.h0.ag 2), .int .i64 (y.h0.ag 3), .int .i64 (y.h0.ag 4), .int .i64 (y.h0.ag 5), .int .i64 (y.h0.ag 6), .int .i64 (y.h0.ag 7), .int .i64 y.h0.port, .int .i64 y.h0.age, .int .i64 y.h0.hold, .int .i64 y.h0.pos, .int .i64 (y.h1.ag 0), .int .i64 (y.h1.ag 1), .int .i64 (y.h1.ag 2), .int .i64 (y.h1.ag 3), .int .i64 (y.h1.ag 4), .int .i64 (y.h1.ag 5), .int .i64 (y.h1.ag 6), .int .i64 (y.h1.ag 7), .int .i64 y.h1.port, .int .i64 y.h1.age, .int .i64 y.h1.hold, .int .i64 y.h1.pos] rfl _ Tryz.underlying36 rfl Sw.sizeWorld ?_
        refine Kit.wpList_store_row rfl 36 (.tmp 3) (.tmp 122) rfl w4.heap.size 0 #[.int .i64 y.n, .int .i64 y.tick, .int .i64 y.c, .int .i64 y.v, .slice y.pa y.n y.pc, .slice y.na y.n y.nc, .int .i64 (y.h0.ag 0), .int .i64 (y.h0.ag 1), .int .i64 (y.h0.ag 2), .int .i64 (y.h0.ag 3), .int .i64 (y.h0.ag 4), .int .i64 (y.h0.ag 5), .int .i64 (y.h0.ag 6), .int .i64 (y.h0.ag 7), .int .i64 y.h0.port, .int .i64 y.h0.age, .int .i64 y.h0.hold, .int .i64 y.h0.pos, .int .i64 (y.h1.ag 0), .int .i64 (y.h1.ag 1), .int .i64 (y.h1.ag 2), .int .i64 (y.h1.ag 3), .int .i64 (y.h1.ag 4), .int .i64 (y.h1.ag 5), .int .i64 (y.h1.ag 6), .int .i64 (y.h1.ag 7), .int .i64 y.h1.port, .int .i64 y.h1.age, .int .i64 y.h1.hold, .int .i64 y.h1.pos] rfl rfl (SY.out.below HQ.out) (by simp) Sw.sizeWorld (by first | rfl | (simp [Value.oneCell']; done) | decide) ?_
        intro W2 hW2
        have RY2 : Hid (Kit.Row W2 w4.heap.size [.int .i64 y.n, .int .i64 y.tick, .int .i64 y.c, .int .i64 y.v, .slice y.pa y.n y.pc, .slice y.na y.n y.nc, .int .i64 (y.h0.ag 0), .int .i64 (y.h0.ag 1), .int .i64 (y.h0.ag 2), .int .i64 (y.h0.ag 3), .int .i64 (y.h0.ag 4), .int .i64 (y.h0.ag 5), .int .i64 (y.h0.ag 6), .int .i64 (y.h0.ag 7), .int .i64 y.h0.port, .int .i64 y.h0.age, .int .i64 y.h0.hold, .int .i64 y.h0.pos, .int .i64 (y.h1.ag 0), .int .i64 (y.h1.ag 1), .int .i64 (y.h1.ag 2), .int .i64 (y.h1.ag 3), .int .i64 (y.h1.ag 4), .int .i64 (y.h1.ag 5), .int .i64 (y.h1.ag 6), .int .i64 (y.h1.ag 7), .int .i64 y.h1.port, .int .i64 y.h1.age, .int .i64 y.h1.hold, .int .i64 y.h1.pos]) := Lib.hid ((SY.out.below HQ.out).all hW2 rfl)
        have HC2 : Hid (Below w4.heap.size w4 W2) := Lib.hid (Kit.below_of (HCC.out.trans (HQ.out.mono HCC.out.size)) hW2 (Nat.le_refl _))
        have HN2 : Hid (Nodes W2 y.na y.n y.nodes) := Lib.hid (Nb.nodes_of ((SG.out.below HQ.out).off hW2 HYG.out) HNX.out)
        have HP2 : Hid (Whole w4 y.pa y.n y.power) := Lib.hid (Nb.power_of HPW.out HNX.out)
        clear hW2
        go_wp2_with fail
        go_roundw
        case rel => exact ⟨k + 1, y, by omega, by go_num, Lib.hid ⟨HY.out, HYN.out, by have := HYT.out; omega⟩, HP2, HN2, RY2, HC2⟩
        case measure => simp [intOf]; omega
    ·have gk : decide ((k : Int) < (s.tn : Int)) = false := decide_eq_false (by omega)
     go_wp2_with fail
     refine (Aw.awake_calls _).mono ?_
     rintro e wz ⟨rfl, bz⟩
     have HBZ := Lib.hid (HB4.out.trans ((HC.out.trans (bz.mono HC.out.size)).mono HB4.out.size))
     clear bz
     go_wp2_with fail
     go_ret
     exact ⟨rfl, HBZ.out⟩
  ·skip
   have HBAD := Lib.hid h38
   go_upto_region 3 with fail
   go_step
   refine Kit.wpList_load_row rfl 32 (.tmp 1) rfl w.heap.size 0 rfl RS.out [.int .i64 s.n, .slice s.pa s.pn s.pc, .int .i64 s.c, .int .i64 s.v, .bool s.ld, .slice s.na s.nn s.nc, .int .i64 (s.h0.ag 0), .int .i64 (s.h0.ag 1), .int .i64 (s.h0.ag 2), .int .i64 (s.h0.ag 3), .int .i64 (s.h0.ag 4), .int .i64 (s.h0.ag 5), .int .i64 (s.h0.ag 6), .int .i64 (s.h0.ag 7), .int .i64 s.h0.port, .int .i64 s.h0.age, .int .i64 s.h0.hold, .int .i64 s.h0.pos, .int .i64 (s.h1.ag 0), .int .i64 (s.h1.ag 1), .int .i64 (s.h1.ag 2), .int .i64 (s.h1.ag 3), .int .i64 (s.h1.ag 4), .int .i64 (s.h1.ag 5), .int .i64 (s.h1.ag 6), .int .i64 (s.h1.ag 7), .int .i64 s.h1.port, .int .i64 s.h1.age, .int .i64 s.h1.hold, .int .i64 s.h1.pos, .slice s.ta s.tn s.tc] rfl _ Tryz.underlying32 rfl Nw.sizeScript ?_
   go_wp2_with fail
   refine (Nb.bad_calls s w3 HBAD.out).mono ?_
   rintro e w4 ⟨rfl, hb⟩
   have HB4 := Lib.hid (HB.out.trans (hb.mono HB.out.size))
   have RS4 := Lib.hid (RS.out.below hb)
   clear hb HB RS
   dsimp only
   iterate 13 (first | go_guarded | go_step | go_upon | go_back)
   refine Kit.wpList_store_row rfl 36 (.tmp 3) (.tmp 26) rfl w4.heap.size 0 #[.int .i64 0, .int .i64 0, .int .i64 0, .int .i64 0, .slice none 0 0, .slice none 0 0, .int .i64 0, .int .i64 0, .int .i64 0, .int .i64 0, .int .i64 0, .int .i64 0, .int .i64 0, .int .i64 0, .int .i64 0, .int .i64 0, .int .i64 0, .int .i64 0, .int .i64 0, .int .i64 0, .int .i64 0, .int .i64 0, .int .i64 0, .int .i64 0, .int .i64 0, .int .i64 0, .int .i64 0, .int .i64 0, .int .i64 0, .int .i64 0] rfl rfl (Kit.Row.newAt w4 _ _ _ rfl) (by simp) Sw.sizeWorld (by first | rfl | (simp [Value.oneCell']; done) | decide) ?_
   intro w5 hW5
   have bb5 := Kit.below_of ((Below.refl w4.heap.size w4).alloc (Nat.le_refl _) (.cells #[.int .i64 0, .int .i64 0, .int .i64 0, .int .i64 0, .slice none 0 0, .slice none 0 0, .int .i64 0, .int .i64 0, .int .i64 0, .int .i64 0, .int .i64 0, .int .i64 0, .int .i64 0, .int .i64 0, .int .i64 0, .int .i64 0, .int .i64 0, .int .i64 0, .int .i64 0, .int .i64 0, .int .i64 0, .int .i64 0, .int .i64 0, .int .i64 0, .int .i64 0, .int .i64 0, .int .i64 0, .int .i64 0, .int .i64 0, .int .i64 0] 36)) hW5 (Nat.le_refl _)
   have HB5 := Lib.hid (HB4.out.trans (bb5.mono HB4.out.size))
   have RS5 := Lib.hid (RS4.out.below bb5)
   clear hW5 bb5 RS4 HB4
   go_upto_region 5 with fail
   go_step
   refine Kit.wpList_load_row rfl 32 (.tmp 1) rfl w.heap.size 0 rfl RS5.out [.int .i64 s.n, .slice s.pa s.pn s.pc, .int .i64 s.c, .int .i64 s.v, .bool s.ld, .slice s.na s.nn s.nc, .int .i64 (s.h0.ag 0), .int .i64 (s.h0.ag 1), .int .i64 (s.h0.ag 2), .int .i64 (s.h0.ag 3), .int .i64 (s.h0.ag 4), .int .i64 (s.h0.ag 5), .int .i64 (s.h0.ag 6), .int .i64 (s.h0.ag 7), .int .i64 s.h0.port, .int .i64 s.h0.age, .int .i64 s.h0.hold, .int .i64 s.h0.pos, .int .i64 (s.h1.ag 0), .int .i64 (s.h1.ag 1), .int .i64 (s.h1.ag 2), .int .i64 (s.h1.ag 3), .int .i64 (s.h1.ag 4), .int .i64 (s.h1.ag 5), .int .i64 (s.h1.ag 6), .int .i64 (s.h1.ag 7), .int .i64 s.h1.port, .int .i64 s.h1.age, .int .i64 s.h1.hold, .int .i64 s.h1.pos, .slice s.ta s.tn s.tc] rfl _ Tryz.underlying32 rfl Nw.sizeScript ?_
   go_wp2_with fail
   refine (Nb.all_calls s w5 HBAD.out).mono ?_
   rintro e w6 ⟨rfl, hb⟩
   have HB6 := Lib.hid (HB5.out.trans (hb.mono HB5.out.size))
   have RS6 := Lib.hid (RS5.out.below hb)
   clear hb HB5 RS5
   dsimp only
   iterate 19 (first | go_guarded | go_step | go_upon | go_back)
   refine Kit.wpList_store_row rfl 36 (.tmp 6) (.tmp 34) rfl w6.heap.size 0 #[.int .i64 0, .int .i64 0, .int .i64 0, .int .i64 0, .slice none 0 0, .slice none 0 0, .int .i64 0, .int .i64 0, .int .i64 0, .int .i64 0, .int .i64 0, .int .i64 0, .int .i64 0, .int .i64 0, .int .i64 0, .int .i64 0, .int .i64 0, .int .i64 0, .int .i64 0, .int .i64 0, .int .i64 0, .int .i64 0, .int .i64 0, .int .i64 0, .int .i64 0, .int .i64 0, .int .i64 0, .int .i64 0, .int .i64 0, .int .i64 0] rfl rfl (Kit.Row.newAt w6 _ _ _ rfl) (by simp) Sw.sizeWorld (by first | rfl | (simp [Value.oneCell']; done) | decide) ?_
   intro w7 hW7
   have bb7 := Kit.below_of ((Below.refl w6.heap.size w6).alloc (Nat.le_refl _) (.cells #[.int .i64 0, .int .i64 0, .int .i64 0, .int .i64 0, .slice none 0 0, .slice none 0 0, .int .i64 0, .int .i64 0, .int .i64 0, .int .i64 0, .int .i64 0, .int .i64 0, .int .i64 0, .int .i64 0, .int .i64 0, .int .i64 0, .int .i64 0, .int .i64 0, .int .i64 0, .int .i64 0, .int .i64 0, .int .i64 0, .int .i64 0, .int .i64 0, .int .i64 0, .int .i64 0, .int .i64 0, .int .i64 0, .int .i64 0, .int .i64 0] 36)) hW7 (Nat.le_refl _)
   have HB7 := Lib.hid (HB6.out.trans (bb7.mono HB6.out.size))
   have RS7 := Lib.hid (RS6.out.below bb7)
   clear hW7 bb7 RS6 HB6
   go_wp2_with fail
   refine (Aw.awake_calls _).mono ?_
   rintro e wz ⟨rfl, bz⟩
   have HBZ := Lib.hid (HB7.out.trans (bz.mono HB7.out.size))
   have c0 := (RS7.out.below bz).at_ 0 (.int .i64 s.n) rfl
   clear bz
   have e3 : (decide (3 ≤ s.n) && decide (s.n ≤ 8)) = false := by have := HBAD.out; simp only [Bool.and_eq_false_iff, decide_eq_false_iff_not]; omega
   go_wp2_with fail
   refine (Port.conf_calls s.n _).mono ?_
   rintro e wv ⟨rfl, rfl⟩
   rw [e3]
   go_wp2_with fail
   go_ret
   exact ⟨rfl, HBZ.out⟩
theorem walk (v : Value) {w : World} (w0 : Op.IsScript w v) (w' : World) (hw : w' = w := by rfl) :
  Calls Tryz.prog 3 #[v] w' fun e w2 => e = .returned (.bool true) ∧ Below w'.heap.size w' w2 := by
 subst hw
 obtain ⟨s, rfl, hS⟩ := w0
 exact walk1 s _ hS
end Go.Proofs.YtgiojagdmglinaaGreatDoor.WholeWorlds
