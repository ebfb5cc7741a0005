/-
  Part 21 of a merged text.
-/
import Derived.Test.YtgiojagdmglinaaGreatDoorGb10
import Derived.Test.YtgiojagdmglinaaGreatDoorGb20
import Derived.Great.Walk
import Derived.Test.YtgiojagdmglinaaGreatDoorGb18
import Derived.Test.YtgiojagdmglinaaGreatDoorGb02
set_option linter.unusedVariables false
set_option linter.unusedSimpArgs false
set_option maxRecDepth 100000
namespace Go.Proofs.YtgiojagdmglinaaGreatDoor
open Go.RowKit
namespace Kit
section
variable {P : Program}
theorem wp_load_row {op : Oper} {a : Act} {w : World} {K : Act → World → Prop} {Q : Exit → Act → World → Prop} (ty : TypeId) (x : Operand) (ho : op.op = .load ty x)
  (b o : Nat) (hx : a.eval x = .pointer (some ⟨b, o, none⟩)) {L : List Value} (hr : Row w b L) (cs : List Value) (hcs : (L.drop o).take cs.length = cs) (d : TypeDesc)
  (hu : P.underlying ty = some d) (hd : d.isRow = true) (hi : (P.info? ty).map (·.size) = some cs.length)
  (h : K (a.put op.dst (.agg cs.toArray)) w) : op.wp P a w K Q :=
 wp_load_mid ty x ho b o hx cs d (hr.range o cs (by rw [← hcs]; exact part L o _)) hu hd hi h
theorem wp_store_row {op : Oper} {a : Act} {w : World} {K : Act → World → Prop} {Q : Exit → Act → World → Prop} (ty : TypeId) (x y : Operand) (ho : op.op = .store ty x y)
  (b o : Nat) (cells : Array Value) (hx : a.eval x = .pointer (some ⟨b, o, none⟩)) (hy : a.eval y = .agg cells)
  {L : List Value} (hr : Row w b L) (hn : o + cells.size ≤ L.length) (hi : (P.info? ty).map (·.size) = some cells.size) (h1 : cells.all (·.oneCell') = true)
  (h : ∀ W, Stored w W b o cells.toList → K (a.put op.dst undef) W) : op.wp P a w K Q :=
 wp_store_mid ty x y ho b o cells hx hy (hr.there o _ hn) hi h1 (h _ rfl)
end
end Kit
namespace Tk
def rel0 (x : Wd) (ch : Ch) (a b : List Fr) : Hb × Fr := Wm.hub x.n x.h0 (Link.l0 (Flt.delivers x.c x.v ch 1) a b)
def rel1 (x : Wd) (ch : Ch) (a b : List Fr) : Hb × Fr := Wm.hub x.n (Link.hs (Flt.delivers x.c x.v ch 0) x.h0 x.h1) (Link.l1 (Flt.delivers x.c x.v ch 0) a b)
set_option maxHeartbeats 4000000 in
theorem relay_calls (base B k0 k1 : Nat) (A0 A1 : Option Addr) (x : Wd) (ch : Ch) (a b : List Fr) (f0 f1 : Fr) (w : World) (hbB : base ≤ B) (R : Kit.Row w B (cells x ch (.slice A0 x.n k0) (.slice A1 x.n k1) f0 f1)) (hx : x.Right)
  (ha : Frames w A0 x.n a) (hb : Frames w A1 x.n b) (fa : Wm.Fit x.n a) (fb : Wm.Fit x.n b) :
  Calls Tryz.prog 36 #[.pointer (some ⟨B, 0, none⟩)] w
   fun e w' => e = .returned (.tuple #[]) ∧ Kit.Row w' B (cells { x with h0 := (rel0 x ch a b).1, h1 := (rel1 x ch a b).1 } ch (.slice A0 x.n k0) (.slice A1 x.n k1) (rel0 x ch a b).2 (rel1 x ch a b).2) ∧ Below base w w' := by
 have kd := fun W => Flt.delivers_calls x.c x.v ch W
 have ks := fun W (hW : Below w.heap.size w W) => Link.step_calls x.n k0 k1 A0 A1 x.h0 x.h1 a b (Flt.delivers x.c x.v ch 0) (Flt.delivers x.c x.v ch 1) W hx.lo hx.hi hx.r0 hx.r1 (ha.below hW) (hb.below hW) fa fb
 have er0 : rel0 x ch a b = Wm.hub x.n x.h0 (Link.l0 (Flt.delivers x.c x.v ch 1) a b) := rfl
 have er1 : rel1 x ch a b = Wm.hub x.n (Link.hs (Flt.delivers x.c x.v ch 0) x.h0 x.h1) (Link.l1 (Flt.delivers x.c x.v ch 0) a b) := rfl
 rw [← er0, ← er1] at ks
 clear er0 er1
 generalize rel0 x ch a b = p0 at *
 generalize rel1 x ch a b = p1 at *
 obtain ⟨g0, e0⟩ := p0
 obtain ⟨g1, e1⟩ := p1
 simp only at ks ⊢
 generalize Flt.delivers x.c x.v ch 0 = d0 at *
 generalize Flt.delivers x.c x.v ch 1 = d1 at *
 have KD := Lib.hid kd
 have KS := Lib.hid ks
 have hbw : base ≤ w.heap.size := by have := R.lt; omega
 have RR := Lib.hid R.drew
 have HH := Lib.hid (Below.refl w.heap.size w).drew
 have c0 := R.at_ 0 (.int .i64 x.n) rfl
 have c2 := R.at_ 2 (.int .i64 x.c) rfl
 have c3 := R.at_ 3 (.int .i64 x.v) rfl
 have c30 := R.at_ 30 (.string ch.b0) rfl
 have c31 := R.at_ 31 (.string ch.b1) rfl
 have c32 := R.at_ 32 (.slice ch.at_ ch.np ch.cap) rfl
 have c33 := R.at_ 33 (.int .i64 ch.link) rfl
 have c34 := R.at_ 34 (.slice A0 x.n k0) rfl
 have c35 := R.at_ 35 (.slice A1 x.n k1) rfl
 clear R ha hb fa fb hx kd ks
 go_enter Tryz.func36, Tryz.ntmps36
 go_wp2_with fail
 refine wp_region_held_drew (S := (fun w' => w'.cell? ⟨B, 0, none⟩ = some (.int .i64 x.n) ∧ w'.cell? ⟨B, 2, none⟩ = some (.int .i64 x.c) ∧ w'.cell? ⟨B, 3, none⟩ = some (.int .i64 x.v) ∧ w'.cell? ⟨B, 30, none⟩ = some (.string ch.b0) ∧ w'.cell? ⟨B, 31, none⟩ = some (.string ch.b1) ∧ w'.cell? ⟨B, 32, none⟩ = some (.slice ch.at_ ch.np ch.cap) ∧ w'.cell? ⟨B, 33, none⟩ = some (.int .i64 ch.link) ∧ w'.cell? ⟨B, 34, none⟩ = some (.slice A0 x.n k0) ∧ w'.cell? ⟨B, 35, none⟩ = some (.slice A1 x.n k1))) (by kernel_rfl) ?_ (fun hHeld => ?_)
 ·go_keep
 refine Rgn.tk 0 rfl ?_
 try simp only [Act.put, Rgn.a, Rgn.b, Rgn.c]
 refine Rgn.tk 1 rfl ?_
 try simp only [Act.put, Rgn.a, Rgn.b, Rgn.c]
 refine Rgn.tk 2 rfl ?_
 try simp only [Act.put, Rgn.a, Rgn.b, Rgn.c]
 refine Rgn.tk 3 rfl ?_
 try simp only [Act.put, Rgn.a, Rgn.b, Rgn.c]
 refine Rgn.tk 4 rfl ?_
 try simp only [Act.put, Rgn.a, Rgn.b, Rgn.c]
 refine Rgn.tk 5 rfl ?_
 try simp only [Act.put, Rgn.a, Rgn.b, Rgn.c]
 refine Rgn.tk 6 rfl ?_
 try simp only [Act.put, Rgn.a, Rgn.b, Rgn.c]
 refine Rgn.tk 7 rfl ?_
 try simp only [Act.put, Rgn.a, Rgn.b, Rgn.c]
 refine Rgn.tk 8 rfl ?_
 try simp only [Act.put, Rgn.a, Rgn.b, Rgn.c]
 refine Rgn.tk 9 rfl ?_
 try simp only [Act.put, Rgn.a, Rgn.b, Rgn.c]
 refine Rgn.tk 10 rfl ?_
 try simp only [Act.put, Rgn.a, Rgn.b, Rgn.c]
 refine Rgn.tk 12 rfl ?_
 try simp only [Act.put, Rgn.a, Rgn.b, Rgn.c]
 refine Rgn.tk 13 rfl ?_
 try simp only [Act.put, Rgn.a, Rgn.b, Rgn.c]
 refine Rgn.tk 14 rfl ?_
 try simp only [Act.put, Rgn.a, Rgn.b, Rgn.c]
 refine Rgn.tk 15 rfl ?_
 try simp only [Act.put, Rgn.a, Rgn.b, Rgn.c]
 refine Rgn.tk 16 rfl ?_
 try simp only [Act.put, Rgn.a, Rgn.b, Rgn.c]
 refine Rgn.tk 17 rfl ?_
 try simp only [Act.put, Rgn.a, Rgn.b, Rgn.c]
 refine Rgn.tk 18 rfl ?_
 try simp only [Act.put, Rgn.a, Rgn.b, Rgn.c]
 refine Rgn.tk 19 rfl ?_
 try simp only [Act.put, Rgn.a, Rgn.b, Rgn.c]
 refine Rgn.tk 20 rfl ?_
 try simp only [Act.put, Rgn.a, Rgn.b, Rgn.c]
 refine Rgn.tk 21 rfl ?_
 try simp only [Act.put, Rgn.a, Rgn.b, Rgn.c]
 refine Rgn.tk 22 rfl ?_
 try simp only [Act.put, Rgn.a, Rgn.b, Rgn.c]
 refine Rgn.tk 23 rfl ?_
 try simp only [Act.put, Rgn.a, Rgn.b, Rgn.c]
 refine Rgn.tk 24 rfl ?_
 try simp only [Act.put, Rgn.a, Rgn.b, Rgn.c]
 refine Rgn.two 11 25 rfl rfl (by kernel_rfl) (fun K hK => ?_) (fun K hK => ?_)
 ·rw [if_pos (by kernel_rfl)]
  refine Kit.wp_load_row 29 (.tmp 13) rfl B 6 rfl RR.out [.int .i64 (x.h0.ag 0), .int .i64 (x.h0.ag 1), .int .i64 (x.h0.ag 2), .int .i64 (x.h0.ag 3), .int .i64 (x.h0.ag 4), .int .i64 (x.h0.ag 5), .int .i64 (x.h0.ag 6), .int .i64 (x.h0.ag 7), .int .i64 x.h0.port, .int .i64 x.h0.age, .int .i64 x.h0.hold, .int .i64 x.h0.pos, .int .i64 (x.h1.ag 0), .int .i64 (x.h1.ag 1), .int .i64 (x.h1.ag 2), .int .i64 (x.h1.ag 3), .int .i64 (x.h1.ag 4), .int .i64 (x.h1.ag 5), .int .i64 (x.h1.ag 6), .int .i64 (x.h1.ag 7), .int .i64 x.h1.port, .int .i64 x.h1.age, .int .i64 x.h1.hold, .int .i64 x.h1.pos] rfl _ Tryz.underlying29 rfl Link.sizeHubs ?_
  refine hK.out _ _ ?_ (fun hHeld => ?_)
  ·first | go_keep | ((try dsimp only); (repeat' apply And.intro) <;> first | assumption | go_simp)
  clear hK K
  try simp only [Act.put, Rgn.a, Rgn.b, Rgn.c]
  refine Rgn.one 25 rfl (by kernel_rfl) (fun K hK => ?_)
  go_simp
  refine (KD.out _).mono ?_
  rintro e wn ⟨rfl, bn⟩
  replace RR := Lib.hid (RR.out.below bn)
  replace HH := Lib.hid (HH.out.trans (bn.mono HH.out.size))
  clear bn
  clear c0 c2 c3 c30 c31 c32 c33 c34 c35
  have c0 := RR.out.at_ 0 (.int .i64 x.n) rfl
  have c2 := RR.out.at_ 2 (.int .i64 x.c) rfl
  have c3 := RR.out.at_ 3 (.int .i64 x.v) rfl
  have c30 := RR.out.at_ 30 (.string ch.b0) rfl
  have c31 := RR.out.at_ 31 (.string ch.b1) rfl
  have c32 := RR.out.at_ 32 (.slice ch.at_ ch.np ch.cap) rfl
  have c33 := RR.out.at_ 33 (.int .i64 ch.link) rfl
  have c34 := RR.out.at_ 34 (.slice A0 x.n k0) rfl
  have c35 := RR.out.at_ 35 (.slice A1 x.n k1) rfl
  try go_simp
  refine hK.out _ _ ?_ (fun hHeld => ?_)
  ·first | go_keep | ((try dsimp only); (repeat' apply And.intro) <;> first | assumption | go_simp)
  clear hK K
  try simp only [Act.put, Rgn.a, Rgn.b, Rgn.c]
  refine Rgn.one 26 rfl (by kernel_rfl) (fun K hK => ?_)
  go_simp
  refine (KS.out _ HH.out).mono ?_
  rintro e wn ⟨rfl, bn⟩
  replace RR := Lib.hid (RR.out.below bn)
  replace HH := Lib.hid (HH.out.trans (bn.mono HH.out.size))
  clear bn
  clear c0 c2 c3 c30 c31 c32 c33 c34 c35
  have c0 := RR.out.at_ 0 (.int .i64 x.n) rfl
  have c2 := RR.out.at_ 2 (.int .i64 x.c) rfl
  have c3 := RR.out.at_ 3 (.int .i64 x.v) rfl
  have c30 := RR.out.at_ 30 (.string ch.b0) rfl
  have c31 := RR.out.at_ 31 (.string ch.b1) rfl
  have c32 := RR.out.at_ 32 (.slice ch.at_ ch.np ch.cap) rfl
  have c33 := RR.out.at_ 33 (.int .i64 ch.link) rfl
  have c34 := RR.out.at_ 34 (.slice A0 x.n k0) rfl
  have c35 := RR.out.at_ 35 (.slice A1 x.n k1) rfl
  try go_simp
  refine hK.out _ _ ?_ (fun hHeld => ?_)
  ·first | go_keep | ((try dsimp only); (repeat' apply And.intro) <;> first | assumption | go_simp)
  clear hK K
  try simp only [Act.put, Rgn.a, Rgn.b, Rgn.c]
  refine Rgn.tk 27 rfl ?_
  try simp only [Act.put, Rgn.a, Rgn.b, Rgn.c]
  refine Rgn.tk 28 rfl ?_
  try simp only [Act.put, Rgn.a, Rgn.b, Rgn.c]
  refine Rgn.tk 29 rfl ?_
  try simp only [Act.put, Rgn.a, Rgn.b, Rgn.c]
  refine Rgn.tk 30 rfl ?_
  try simp only [Act.put, Rgn.a, Rgn.b, Rgn.c]
  refine Rgn.tk 31 rfl ?_
  try simp only [Act.put, Rgn.a, Rgn.b, Rgn.c]
  refine Rgn.tk 32 rfl ?_
  try simp only [Act.put, Rgn.a, Rgn.b, Rgn.c]
  refine Rgn.tk 33 rfl ?_
  try simp only [Act.put, Rgn.a, Rgn.b, Rgn.c]
  refine Rgn.one 34 rfl (by kernel_rfl) (fun K hK => ?_)
  rw [if_pos (by kernel_rfl)]
  refine Kit.wp_store_row 29 (.tmp 35) (.tmp 30) rfl B 6 #[.int .i64 (g0.ag 0), .int .i64 (g0.ag 1), .int .i64 (g0.ag 2), .int .i64 (g0.ag 3), .int .i64 (g0.ag 4), .int .i64 (g0.ag 5), .int .i64 (g0.ag 6), .int .i64 (g0.ag 7), .int .i64 g0.port, .int .i64 g0.age, .int .i64 g0.hold, .int .i64 g0.pos, .int .i64 (g1.ag 0), .int .i64 (g1.ag 1), .int .i64 (g1.ag 2), .int .i64 (g1.ag 3), .int .i64 (g1.ag 4), .int .i64 (g1.ag 5), .int .i64 (g1.ag 6), .int .i64 (g1.ag 7), .int .i64 g1.port, .int .i64 g1.age, .int .i64 g1.hold, .int .i64 g1.pos] rfl rfl RR.out (by simp [cells]) Link.sizeHubs (by first | rfl | (simp [Value.oneCell']; done) | decide) ?_
  intro W hW
  have hZ := Kit.below_of (HH.out.mono hbw) hW hbB
  replace RR := Lib.hid ((RR.out.on hW (by simp [cells])).cast (show _ = [.int .i64 x.n, .int .i64 x.tick, .int .i64 x.c, .int .i64 x.v, .slice x.pa x.n x.pc, .slice x.na x.n x.nc, .int .i64 (g0.ag 0), .int .i64 (g0.ag 1), .int .i64 (g0.ag 2), .int .i64 (g0.ag 3), .int .i64 (g0.ag 4), .int .i64 (g0.ag 5), .int .i64 (g0.ag 6), .int .i64 (g0.ag 7), .int .i64 g0.port, .int .i64 g0.age, .int .i64 g0.hold, .int .i64 g0.pos, .int .i64 (g1.ag 0), .int .i64 (g1.ag 1), .int .i64 (g1.ag 2), .int .i64 (g1.ag 3), .int .i64 (g1.ag 4), .int .i64 (g1.ag 5), .int .i64 (g1.ag 6), .int .i64 (g1.ag 7), .int .i64 g1.port, .int .i64 g1.age, .int .i64 g1.hold, .int .i64 g1.pos, .string ch.b0, .string ch.b1, .slice ch.at_ ch.np ch.cap, .int .i64 ch.link, .slice A0 x.n k0, .slice A1 x.n k1, .int .i64 f0.k, .int .i64 f0.i, .int .i64 f1.k, .int .i64 f1.i] from rfl))
  have HZ := Lib.hid hZ
  clear hZ hW HH
  clear c0 c2 c3 c30 c31 c32 c33 c34 c35
  have c0 := RR.out.at_ 0 (.int .i64 x.n) rfl
  have c2 := RR.out.at_ 2 (.int .i64 x.c) rfl
  have c3 := RR.out.at_ 3 (.int .i64 x.v) rfl
  have c30 := RR.out.at_ 30 (.string ch.b0) rfl
  have c31 := RR.out.at_ 31 (.string ch.b1) rfl
  have c32 := RR.out.at_ 32 (.slice ch.at_ ch.np ch.cap) rfl
  have c33 := RR.out.at_ 33 (.int .i64 ch.link) rfl
  have c34 := RR.out.at_ 34 (.slice A0 x.n k0) rfl
  have c35 := RR.out.at_ 35 (.slice A1 x.n k1) rfl
  refine hK.out _ _ ?_ (fun hHeld => ?_)
  ·first | go_keep | ((try dsimp only); (repeat' apply And.intro) <;> first | assumption | go_simp)
  clear hK K
  try simp only [Act.put, Rgn.a, Rgn.b, Rgn.c]
  refine Rgn.tk 35 rfl ?_
  try simp only [Act.put, Rgn.a, Rgn.b, Rgn.c]
  refine Rgn.tk 36 rfl ?_
  try simp only [Act.put, Rgn.a, Rgn.b, Rgn.c]
  refine Rgn.one 37 rfl (by kernel_rfl) (fun K hK => ?_)
  rw [if_pos (by kernel_rfl)]
  refine Kit.wp_store_row 46 (.tmp 37) (.tmp 31) rfl B 36 #[.int .i64 e0.k, .int .i64 e0.i, .int .i64 e1.k, .int .i64 e1.i] rfl rfl RR.out (by simp [cells]) Link.sizeFrs (by first | rfl | (simp [Value.oneCell']; done) | decide) ?_
  intro W2 hW
  have hZ := Kit.below_of HZ.out hW hbB
  replace RR := Lib.hid ((RR.out.on hW (by simp [cells])).cast (show _ = [.int .i64 x.n, .int .i64 x.tick, .int .i64 x.c, .int .i64 x.v, .slice x.pa x.n x.pc, .slice x.na x.n x.nc, .int .i64 (g0.ag 0), .int .i64 (g0.ag 1), .int .i64 (g0.ag 2), .int .i64 (g0.ag 3), .int .i64 (g0.ag 4), .int .i64 (g0.ag 5), .int .i64 (g0.ag 6), .int .i64 (g0.ag 7), .int .i64 g0.port, .int .i64 g0.age, .int .i64 g0.hold, .int .i64 g0.pos, .int .i64 (g1.ag 0), .int .i64 (g1.ag 1), .int .i64 (g1.ag 2), .int .i64 (g1.ag 3), .int .i64 (g1.ag 4), .int .i64 (g1.ag 5), .int .i64 (g1.ag 6), .int .i64 (g1.ag 7), .int .i64 g1.port, .int .i64 g1.age, .int .i64 g1.hold, .int .i64 g1.pos, .string ch.b0, .string ch.b1, .slice ch.at_ ch.np ch.cap, .int .i64 ch.link, .slice A0 x.n k0, .slice A1 x.n k1, .int .i64 e0.k, .int .i64 e0.i, .int .i64 e1.k, .int .i64 e1.i] from rfl))
  replace HZ := Lib.hid hZ
  clear hZ hW
  clear c0 c2 c3 c30 c31 c32 c33 c34 c35
  have c0 := RR.out.at_ 0 (.int .i64 x.n) rfl
  have c2 := RR.out.at_ 2 (.int .i64 x.c) rfl
  have c3 := RR.out.at_ 3 (.int .i64 x.v) rfl
  have c30 := RR.out.at_ 30 (.string ch.b0) rfl
  have c31 := RR.out.at_ 31 (.string ch.b1) rfl
  have c32 := RR.out.at_ 32 (.slice ch.at_ ch.np ch.cap) rfl
  have c33 := RR.out.at_ 33 (.int .i64 ch.link) rfl
  have c34 := RR.out.at_ 34 (.slice A0 x.n k0) rfl
  have c35 := RR.out.at_ 35 (.slice A1 x.n k1) rfl
  refine hK.out _ _ ?_ (fun hHeld => ?_)
  ·first | go_keep | ((try dsimp only); (repeat' apply And.intro) <;> first | assumption | go_simp)
  clear hK K
  try simp only [Act.put, Rgn.a, Rgn.b, Rgn.c]
  refine wpAnyH_done (by kernel_rfl) ?_ _
  go_wp2_with fail
  exact Go.Great.bodyPost_end0 rfl rfl ⟨rfl, RR.out, HZ.out⟩
 ·go_simp
  refine (KD.out _).mono ?_
  rintro e wn ⟨rfl, bn⟩
  replace RR := Lib.hid (RR.out.below bn)
  replace HH := Lib.hid (HH.out.trans (bn.mono HH.out.size))
  clear bn
  clear c0 c2 c3 c30 c31 c32 c33 c34 c35
  have c0 := RR.out.at_ 0 (.int .i64 x.n) rfl
  have c2 := RR.out.at_ 2 (.int .i64 x.c) rfl
  have c3 := RR.out.at_ 3 (.int .i64 x.v) rfl
  have c30 := RR.out.at_ 30 (.string ch.b0) rfl
  have c31 := RR.out.at_ 31 (.string ch.b1) rfl
  have c32 := RR.out.at_ 32 (.slice ch.at_ ch.np ch.cap) rfl
  have c33 := RR.out.at_ 33 (.int .i64 ch.link) rfl
  have c34 := RR.out.at_ 34 (.slice A0 x.n k0) rfl
  have c35 := RR.out.at_ 35 (.slice A1 x.n k1) rfl
  try go_simp
  refine hK.out _ _ ?_ (fun hHeld => ?_)
  ·first | go_keep | ((try dsimp only); (repeat' apply And.intro) <;> first | assumption | go_simp)
  clear hK K
  try simp only [Act.put, Rgn.a, Rgn.b, Rgn.c]
  refine Rgn.one 11 rfl (by kernel_rfl) (fun K hK => ?_)
  rw [if_pos (by kernel_rfl)]
  refine Kit.wp_load_row 29 (.tmp 13) rfl B 6 rfl RR.out [.int .i64 (x.h0.ag 0), .int .i64 (x.h0.ag 1), .int .i64 (x.h0.ag 2), .int .i64 (x.h0.ag 3), .int .i64 (x.h0.ag 4), .int .i64 (x.h0.ag 5), .int .i64 (x.h0.ag 6), .int .i64 (x.h0.ag 7), .int .i64 x.h0.port, .int .i64 x.h0.age, .int .i64 x.h0.hold, .int .i64 x.h0.pos, .int .i64 (x.h1.ag 0), .int .i64 (x.h1.ag 1), .int .i64 (x.h1.ag 2), .int .i64 (x.h1.ag 3), .int .i64 (x.h1.ag 4), .int .i64 (x.h1.ag 5), .int .i64 (x.h1.ag 6), .int .i64 (x.h1.ag 7), .int .i64 x.h1.port, .int .i64 x.h1.age, .int .i64 x.h1.hold, .int .i64 x.h1.pos] rfl _ Tryz.underlying29 rfl Link.sizeHubs ?_
  refine hK.out _ _ ?_ (fun hHeld => ?_)
  ·first | go_keep | ((try dsimp only); (repeat' apply And.intro) <;> first | assumption | go_simp)
  clear hK K
  try simp only [Act.put, Rgn.a, Rgn.b, Rgn.c]
  refine Rgn.one 26 rfl (by kernel_rfl) (fun K hK => ?_)
  go_simp
  refine (KS.out _ HH.out).mono ?_
  rintro e wn ⟨rfl, bn⟩
  replace RR := Lib.hid (RR.out.below bn)
  replace HH := Lib.hid (HH.out.trans (bn.mono HH.out.size))
  clear bn
  clear c0 c2 c3 c30 c31 c32 c33 c34 c35
  have c0 := RR.out.at_ 0 (.int .i64 x.n) rfl
  have c2 := RR.out.at_ 2 (.int .i64 x.c) rfl
  have c3 := RR.out.at_ 3 (.int .i64 x.v) rfl
  have c30 := RR.out.at_ 30 (.string ch.b0) rfl
  have c31 := RR.out.at_ 31 (.string ch.b1) rfl
  have c32 := RR.out.at_ 32 (.slice ch.at_ ch.np ch.cap) rfl
  have c33 := RR.out.at_ 33 (.int .i64 ch.link) rfl
  have c34 := RR.out.at_ 34 (.slice A0 x.n k0) rfl
  have c35 := RR.out.at_ 35 (.slice A1 x.n k1) rfl
  try go_simp
  refine hK.out _ _ ?_ (fun hHeld => ?_)
  ·first | go_keep | ((try dsimp only); (repeat' apply And.intro) <;> first | assumption | go_simp)
  clear hK K
  try simp only [Act.put, Rgn.a, Rgn.b, Rgn.c]
  refine Rgn.tk 27 rfl ?_
  try simp only [Act.put, Rgn.a, Rgn.b, Rgn.c]
  refine Rgn.tk 28 rfl ?_
  try simp only [Act.put, Rgn.a, Rgn.b, Rgn.c]
  refine Rgn.tk 29 rfl ?_
  try simp only [Act.put, Rgn.a, Rgn.b, Rgn.c]
  refine Rgn.tk 30 rfl ?_
  try simp only [Act.put, Rgn.a, Rgn.b, Rgn.c]
  refine Rgn.tk 31 rfl ?_
  try simp only [Act.put, Rgn.a, Rgn.b, Rgn.c]
  refine Rgn.tk 32 rfl ?_
  try simp only [Act.put, Rgn.a, Rgn.b, Rgn.c]
  refine Rgn.tk 33 rfl ?_
  try simp only [Act.put, Rgn.a, Rgn.b, Rgn.c]
  refine Rgn.one 34 rfl (by kernel_rfl) (fun K hK => ?_)
  rw [if_pos (by kernel_rfl)]
  refine Kit.wp_store_row 29 (.tmp 35) (.tmp 30) rfl B 6 #[.int .i64 (g0.ag 0), .int .i64 (g0.ag 1), .int .i64 (g0.ag 2), .int .i64 (g0.ag 3), .int .i64 (g0.ag 4), .int .i64 (g0.ag 5), .int .i64 (g0.ag 6), .int .i64 (g0.ag 7), .int .i64 g0.port, .int .i64 g0.age, .int .i64 g0.hold, .int .i64 g0.pos, .int .i64 (g1.ag 0), .int .i64 (g1.ag 1), .int .i64 (g1.ag 2), .int .i64 (g1.ag 3), .int .i64 (g1.ag 4), .int .i64 (g1.ag 5), .int .i64 (g1.ag 6), .int .i64 (g1.ag 7), .int .i64 g1.port, .int .i64 g1.age, .int .i64 g1.hold, .int .i64 g1.pos] rfl rfl RR.out (by simp [cells]) Link.sizeHubs (by first | rfl | (simp [Value.oneCell']; done) | decide) ?_
  intro W hW
  have hZ := Kit.below_of (HH.out.mono hbw) hW hbB
  replace RR := Lib.hid ((RR.out.on hW (by simp [cells])).cast (show _ = [.int .i64 x.n, .int .i64 x.tick, .int .i64 x.c, .int .i64 x.v, .slice x.pa x.n x.pc, .slice x.na x.n x.nc, .int .i64 (g0.ag 0), .int .i64 (g0.ag 1), .int .i64 (g0.ag 2), .int .i64 (g0.ag 3), .int .i64 (g0.ag 4), .int .i64 (g0.ag 5), .int .i64 (g0.ag 6), .int .i64 (g0.ag 7), .int .i64 g0.port, .int .i64 g0.age, .int .i64 g0.hold, .int .i64 g0.pos, .int .i64 (g1.ag 0), .int .i64 (g1.ag 1), .int .i64 (g1.ag 2), .int .i64 (g1.ag 3), .int .i64 (g1.ag 4), .int .i64 (g1.ag 5), .int .i64 (g1.ag 6), .int .i64 (g1.ag 7), .int .i64 g1.port, .int .i64 g1.age, .int .i64 g1.hold, .int .i64 g1.pos, .string ch.b0, .string ch.b1, .slice ch.at_ ch.np ch.cap, .int .i64 ch.link, .slice A0 x.n k0, .slice A1 x.n k1, .int .i64 f0.k, .int .i64 f0.i, .int .i64 f1.k, .int .i64 f1.i] from rfl))
  have HZ := Lib.hid hZ
  clear hZ hW HH
  clear c0 c2 c3 c30 c31 c32 c33 c34 c35
  have c0 := RR.out.at_ 0 (.int .i64 x.n) rfl
  have c2 := RR.out.at_ 2 (.int .i64 x.c) rfl
  have c3 := RR.out.at_ 3 (.int .i64 x.v) rfl
  have c30 := RR.out.at_ 30 (.string ch.b0) rfl
  have c31 := RR.out.at_ 31 (.string ch.b1) rfl
  have c32 := RR.out.at_ 32 (.slice ch.at_ ch.np ch.cap) rfl
  have c33 := RR.out.at_ 33 (.int .i64 ch.link) rfl
  have c34 := RR.out.at_ 34 (.slice A0 x.n k0) rfl
  have c35 := RR.out.at_ 35 (.slice A1 x.n k1) rfl
  refine hK.out _ _ ?_ (fun hHeld => ?_)
  ·first | go_keep | ((try dsimp only); (repeat' apply And.intro) <;> first | assumption | go_simp)
  clear hK K
  try simp only [Act.put, Rgn.a, Rgn.b, Rgn.c]
  refine Rgn.tk 35 rfl ?_
  try simp only [Act.put, Rgn.a, Rgn.b, Rgn.c]
  refine Rgn.tk 36 rfl ?_
  try simp only [Act.put, Rgn.a, Rgn.b, Rgn.c]
  refine Rgn.one 37 rfl (by kernel_rfl) (fun K hK => ?_)
  rw [if_pos (by kernel_rfl)]
  refine Kit.wp_store_row 46 (.tmp 37) (.tmp 31) rfl B 36 #[.int .i64 e0.k, .int .i64 e0.i, .int .i64 e1.k, .int .i64 e1.i] rfl rfl RR.out (by simp [cells]) Link.sizeFrs (by first | rfl | (simp [Value.oneCell']; done) | decide) ?_
  intro W2 hW
  have hZ := Kit.below_of HZ.out hW hbB
  replace RR := Lib.hid ((RR.out.on hW (by simp [cells])).cast (show _ = [.int .i64 x.n, .int .i64 x.tick, .int .i64 x.c, .int .i64 x.v, .slice x.pa x.n x.pc, .slice x.na x.n x.nc, .int .i64 (g0.ag 0), .int .i64 (g0.ag 1), .int .i64 (g0.ag 2), .int .i64 (g0.ag 3), .int .i64 (g0.ag 4), .int .i64 (g0.ag 5), .int .i64 (g0.ag 6), .int .i64 (g0.ag 7), .int .i64 g0.port, .int .i64 g0.age, .int .i64 g0.hold, .int .i64 g0.pos, .int .i64 (g1.ag 0), .int .i64 (g1.ag 1), .int .i64 (g1.ag 2), .int .i64 (g1.ag 3), .int .i64 (g1.ag 4), .int .i64 (g1.ag 5), .int .i64 (g1.ag 6), .int .i64 (g1.ag 7), .int .i64 g1.port, .int .i64 g1.age, .int .i64 g1.hold, .int .i64 g1.pos, .string ch.b0, .string ch.b1, .slice ch.at_ ch.np ch.cap, .int .i64 ch.link, .slice A0 x.n k0, .slice A1 x.n k1, .int .i64 e0.k, .int .i64 e0.i, .int .i64 e1.k, .int .i64 e1.i] from rfl))
  replace HZ := Lib.hid hZ
  clear hZ hW
  clear c0 c2 c3 c30 c31 c32 c33 c34 c35
  have c0 := RR.out.at_ 0 (.int .i64 x.n) rfl
  have c2 := RR.out.at_ 2 (.int .i64 x.c) rfl
  have c3 := RR.out.at_ 3 (.int .i64 x.v) rfl
  have c30 := RR.out.at_ 30 (.string ch.b0) rfl
  have c31 := RR.out.at_ 31 (.string ch.b1) rfl
  have c32 := RR.out.at_ 32 (.slice ch.at_ ch.np ch.cap) rfl
  have c33 := RR.out.at_ 33 (.int .i64 ch.link) rfl
  have c34 := RR.out.at_ 34 (.slice A0 x.n k0) rfl
  have c35 := RR.out.at_ 35 (.slice A1 x.n k1) rfl
  refine hK.out _ _ ?_ (fun hHeld => ?_)
  ·first | go_keep | ((try dsimp only); (repeat' apply And.intro) <;> first | assumption | go_simp)
  clear hK K
  try simp only [Act.put, Rgn.a, Rgn.b, Rgn.c]
  refine wpAnyH_done (by kernel_rfl) ?_ _
  go_wp2_with fail
  exact Go.Great.bodyPost_end0 rfl rfl ⟨rfl, RR.out, HZ.out⟩
end Tk
end Go.Proofs.YtgiojagdmglinaaGreatDoor
namespace Go.Proofs.YtgiojagdmglinaaGreatDoor
open Go.RowKit
end Go.Proofs.YtgiojagdmglinaaGreatDoor
namespace Go.Proofs.YtgiojagdmglinaaGreatDoor
open Go.RowKit
theorem Port.news (W : World) (N : Nat) (hN : W.heap.size = N) (x : Fr) : ∀ j u, [Value.int .i64 x.k, .int .i64 x.i][j]? = some u → (W.alloc (.cells #[.int .i64 x.k, .int .i64 x.i] 45)).cell? ((⟨N, 0, none⟩ : Addr).add j) = some u := by
 subst hN
 exact World.news_of_block (heap_alloc_new W _)
def Port.takeV (n : Int) (l : List ByteArray) : List Fr × Int :=
 if 3 ≤ n ∧ n ≤ 8 then (if (l.length : Int) = n then (Port.take l l.length, 0) else ([], 2)) else ([], 1)
set_option maxHeartbeats 2000000 in
theorem Port.take1 (A : Option Addr) (n cap : Nat) (l : List ByteArray) (w : World) (hl : Strs w A n l) (hs : ∀ s ∈ l, s.size ≤ maxLen) (h3 : 3 ≤ n) (h8 : n ≤ 8) :
  Calls Tryz.prog 68 #[.int .i64 n, .slice A n cap] w (Port.Row w (Port.take l n) 0) := by
 obtain ⟨i0, hi, hz0, hz1, hz2⟩ := info_parts Port.info
 have hcf := fun w => Port.conf_calls (n : Int) w
 rw [show decide (3 ≤ (n : Int)) = true from by simp; omega, show decide ((n : Int) ≤ 8) = true from by simp; omega] at hcf
 obtain ⟨W0, hrun, hown0, hg0⟩ := run_make_own (P := Tryz.prog) w w.heap.size 79 45 i0 (.agg #[.int .i64 0, .int .i64 0]) 2 Tryz.underlying79 hi hz0 hz1 .i64 .i64 n (by rw [hz2]; omega) (by unfold maxLen; omega) (Nat.le_refl _)
 have B0 := Lib.hid ((Below.refl w.heap.size w).grown hg0 (Nat.le_refl _) (fun q hq => by cases hq))
 have HL := Lib.hid hl
 have HS := Lib.hid hs
 clear hl hs hg0
 go_enter Tryz.func68, Tryz.ntmps68
 go_wp2_with fail
 refine (hcf _).mono ?_
 rintro e w1 ⟨rfl, rfl⟩
 go_wp2_with fail
 clear hrun hcf
 go_loopw [6, 7, 8, 9, 23] (fun vo _ _ _ vi wr => ∃ k : Nat, k ≤ n ∧ vi = .int .i64 k ∧ wr.ownsRow w.heap.size 45 2 vo k (Port.cells (Port.take l k)) ∧ Hid (Below w.heap.size w wr)) (fun _ _ _ _ vi _ => n - (intOf vi).toNat)
 case atStart => exact ⟨0, by omega, rfl, hown0, B0⟩
 case round =>
  clear hown0 B0
  obtain ⟨k, hk, rfl, hown, HB⟩ := hrel
  by_cases hlt : k < n
  ·obtain ⟨b, off, rfl, hb, hrow⟩ := HL.out.row (by omega)
   have hkl : k < l.length := by rw [HL.out.len]; exact hlt
   obtain ⟨s, hx⟩ : ∃ s, l[k]? = some s := ⟨_, List.getElem?_eq_getElem hkl⟩
   have m0 := (HB.out.cell (p := ⟨b, off + k, Option.none⟩) hb).trans (hrow k s hx)
   have hsz := HS.out s (List.mem_of_getElem? hx)
   unfold maxLen at hsz
   have cg := fun w => Wire.get_calls s w (by omega)
   have cr := fun w => Wire.right_calls (Wire.get s) w
   have ht := Port.take_succ l k s hx
   rw [Port.one_eq] at ht
   clear hrow hx hkl
   generalize Wire.get s = g at *
   obtain ⟨gk, gi⟩ := g
   simp only at cg cr
   cases hr : Fr.right ⟨gk, gi⟩ with
   | false =>
    rw [hr] at ht cr
    have HT : Hid (Port.take l (k + 1) = Port.take l k ++ [⟨0, 0⟩]) := Lib.hid (by rw [ht]; simp [Fr.none])
    clear ht hr
    go_wp2_with fail
    refine (cg _).mono ?_
    rintro e w1 ⟨rfl, b1⟩
    have B1 := Lib.hid b1
    clear b1
    go_wp2_with fail
    refine (cr _).mono ?_
    rintro e w2 ⟨rfl, b2⟩
    have q0 := Kit.cell_new b2 0 rfl
    have q1 := Kit.cell_new b2 1 rfl
    have z0 := Kit.free_new b2 0
    have z1 := Kit.free_new b2 1
    have B2 := Lib.hid (Kit.chain B1.out (Kit.chain ((Below.refl _ _).alloc (Nat.le_refl _) _) b2))
    have hsz : w1.heap.size < w2.heap.size := World.block_lt_of_cell? w2 ⟨w1.heap.size, 0, Option.none⟩ q0
    clear b2
    have hwb : Below wr.heap.size wr ((w2.setCell ⟨w1.heap.size, 0, Option.none⟩ (.int .i64 0)).setCell ⟨w1.heap.size, 1, Option.none⟩ (.int .i64 0)) := (B2.out.setCell B1.out.size _).setCell B1.out.size _
    have BW := Lib.hid hwb
    clear hwb
    have own2 := Kit.own_below hown BW.out
    have bwf := HB.out.trans (BW.out.mono HB.out.size)
    go_wp2_with (at_builtin; go_loud (refine wpList_append_own _ rfl _ _ 79 rfl w.heap.size 45 i0 (.agg #[.int .i64 0, .int .i64 0]) 2 16 Tryz.underlying79 hi hz0 hz1 hz2 rfl (by decide) _ _ _ rfl (own2.alloc _) ⟨w2.heap.size, 0, Option.none⟩ 1 1 [.int .i64 0, .int .i64 0] rfl rfl ?c1 ?c2 ?c3 ?c4 ?c5 ?_))
    case c1 => exact Port.news ((w2.setCell ⟨w1.heap.size, 0, Option.none⟩ (.int .i64 0)).setCell ⟨w1.heap.size, 1, Option.none⟩ (.int .i64 0)) w2.heap.size (by simp) ⟨0, 0⟩
    case c2 => intro u hu; simp at hu; rcases hu with rfl | rfl <;> rfl
    case c3 => unfold maxLen; omega
    case c4 => omega
    case c5 => have := bwf.size; simp at this ⊢; omega
    intro v' w3 hown' hgrow _
    have hb7 := Kit.own_base own2
    have b3 : Below w.heap.size w w3 := (bwf.alloc bwf.size _).grown hgrow (by have := bwf.size; simp at this ⊢; omega) (fun q hq => hb7 q hq)
    have B3 := Lib.hid b3
    have hown3 : w3.ownsRow w.heap.size 45 2 v' (k + 1) (Port.cells (Port.take l (k + 1))) := by rw [HT.out, Port.cells_snoc]; exact hown'
    clear b3 hgrow own2 bwf hb7 hown' BW
    go_wp2
    go_roundw
    case rel => exact ⟨k + 1, by omega, by go_num, hown3, B3⟩
    case measure => simp [intOf]; omega
   | true =>
    rw [hr] at ht cr
    by_cases hik : gi = (k : Int)
    ·have HT : Hid (Port.take l (k + 1) = Port.take l k ++ [⟨gk, gi⟩]) := Lib.hid (by rw [ht]; simp [hik])
     have e1 : (gi != (k : Int)) = false := by rw [bne_eq_false_iff_eq]; exact hik
     clear ht hr hik
     go_wp2_with fail
     refine (cg _).mono ?_
     rintro e w1 ⟨rfl, b1⟩
     have B1 := Lib.hid b1
     clear b1
     go_wp2_with fail
     refine (cr _).mono ?_
     rintro e w2 ⟨rfl, b2⟩
     have q0 := Kit.cell_new b2 0 rfl
     have q1 := Kit.cell_new b2 1 rfl
     have z0 := Kit.free_new b2 0
     have z1 := Kit.free_new b2 1
     have B2 := Lib.hid (Kit.chain B1.out (Kit.chain ((Below.refl _ _).alloc (Nat.le_refl _) _) b2))
     have hsz : w1.heap.size < w2.heap.size := World.block_lt_of_cell? w2 ⟨w1.heap.size, 0, Option.none⟩ q0
     clear b2
     have BW := B2
     have own2 := Kit.own_below hown BW.out
     have bwf := HB.out.trans (BW.out.mono HB.out.size)
     go_wp2_with (at_builtin; go_loud (refine wpList_append_own _ rfl _ _ 79 rfl w.heap.size 45 i0 (.agg #[.int .i64 0, .int .i64 0]) 2 16 Tryz.underlying79 hi hz0 hz1 hz2 rfl (by decide) _ _ _ rfl (own2.alloc _) ⟨w2.heap.size, 0, Option.none⟩ 1 1 [.int .i64 gk, .int .i64 gi] rfl rfl ?c1 ?c2 ?c3 ?c4 ?c5 ?_))
     case c1 => exact Port.news w2 w2.heap.size (by simp) ⟨gk, gi⟩
     case c2 => intro u hu; simp at hu; rcases hu with rfl | rfl <;> rfl
     case c3 => unfold maxLen; omega
     case c4 => omega
     case c5 => have := bwf.size; simp at this ⊢; omega
     intro v' w3 hown' hgrow _
     have hb7 := Kit.own_base own2
     have b3 : Below w.heap.size w w3 := (bwf.alloc bwf.size _).grown hgrow (by have := bwf.size; simp at this ⊢; omega) (fun q hq => hb7 q hq)
     have B3 := Lib.hid b3
     have hown3 : w3.ownsRow w.heap.size 45 2 v' (k + 1) (Port.cells (Port.take l (k + 1))) := by rw [HT.out, Port.cells_snoc]; exact hown'
     clear b3 hgrow own2 bwf hb7 hown' BW
     go_wp2
     go_roundw
     case rel => exact ⟨k + 1, by omega, by go_num, hown3, B3⟩
     case measure => simp [intOf]; omega
    ·have HT : Hid (Port.take l (k + 1) = Port.take l k ++ [⟨0, 0⟩]) := Lib.hid (by rw [ht]; simp [Fr.none, hik])
     have e1 : (gi != (k : Int)) = true := by rw [bne_iff_ne]; exact hik
     clear ht hr hik
     go_wp2_with fail
     refine (cg _).mono ?_
     rintro e w1 ⟨rfl, b1⟩
     have B1 := Lib.hid b1
     clear b1
     go_wp2_with fail
     refine (cr _).mono ?_
     rintro e w2 ⟨rfl, b2⟩
     have q0 := Kit.cell_new b2 0 rfl
     have q1 := Kit.cell_new b2 1 rfl
     have z0 := Kit.free_new b2 0
     have z1 := Kit.free_new b2 1
     have B2 := Lib.hid (Kit.chain B1.out (Kit.chain ((Below.refl _ _).alloc (Nat.le_refl _) _) b2))
     have hsz : w1.heap.size < w2.heap.size := World.block_lt_of_cell? w2 ⟨w1.heap.size, 0, Option.none⟩ q0
     clear b2
     have hwb : Below wr.heap.size wr ((w2.setCell ⟨w1.heap.size, 0, Option.none⟩ (.int .i64 0)).setCell ⟨w1.heap.size, 1, Option.none⟩ (.int .i64 0)) := (B2.out.setCell B1.out.size _).setCell B1.out.size _
     have BW := Lib.hid hwb
     clear hwb
     have own2 := Kit.own_below hown BW.out
     have bwf := HB.out.trans (BW.out.mono HB.out.size)
     go_wp2_with (at_builtin; go_loud (refine wpList_append_own _ rfl _ _ 79 rfl w.heap.size 45 i0 (.agg #[.int .i64 0, .int .i64 0]) 2 16 Tryz.underlying79 hi hz0 hz1 hz2 rfl (by decide) _ _ _ rfl (own2.alloc _) ⟨w2.heap.size, 0, Option.none⟩ 1 1 [.int .i64 0, .int .i64 0] rfl rfl ?c1 ?c2 ?c3 ?c4 ?c5 ?_))
     case c1 => exact Port.news ((w2.setCell ⟨w1.heap.size, 0, Option.none⟩ (.int .i64 0)).setCell ⟨w1.heap.size, 1, Option.none⟩ (.int .i64 0)) w2.heap.size (by simp) ⟨0, 0⟩
     case c2 => intro u hu; simp at hu; rcases hu with rfl | rfl <;> rfl
     case c3 => unfold maxLen; omega
     case c4 => omega
     case c5 => have := bwf.size; simp at this ⊢; omega
     intro v' w3 hown' hgrow _
     have hb7 := Kit.own_base own2
     have b3 : Below w.heap.size w w3 := (bwf.alloc bwf.size _).grown hgrow (by have := bwf.size; simp at this ⊢; omega) (fun q hq => hb7 q hq)
     have B3 := Lib.hid b3
     have hown3 : w3.ownsRow w.heap.size 45 2 v' (k + 1) (Port.cells (Port.take l (k + 1))) := by rw [HT.out, Port.cells_snoc]; exact hown'
     clear b3 hgrow own2 bwf hb7 hown' BW
     go_wp2
     go_roundw
     case rel => exact ⟨k + 1, by omega, by go_num, hown3, B3⟩
     case measure => simp [intOf]; omega
  ·obtain rfl : k = n := by omega
   go_wp2_with fail
   go_ret2
   exact ⟨_, rfl, by rw [Port.take_len]; exact hown, HB.out⟩
set_option maxHeartbeats 1000000 in
theorem Port.take_calls (x : Int) (A : Option Addr) (n cap : Nat) (l : List ByteArray) (w : World) (hl : Strs w A n l) (hs : ∀ s ∈ l, s.size ≤ maxLen) (hn : n ≤ 9223372036854775807) :
  Calls Tryz.prog 68 #[.int .i64 x, .slice A n cap] w (Port.Row w (Port.takeV x l).1 (Port.takeV x l).2) := by
 unfold Port.takeV
 have hll := hl.len
 by_cases hx : 3 ≤ x ∧ x ≤ 8
 ·rw [if_pos hx]
  by_cases hnx : (l.length : Int) = x
  ·rw [if_pos hnx, hll]
   have : x = (n : Int) := by rw [← hnx, hll]
   subst this
   exact Port.take1 A n cap l w hl hs (by omega) (by omega)
  ·rw [if_neg hnx]
   have h1 : ((n : Int) != x) = true := by rw [bne_iff_ne]; omega
   have hcf := fun w => Port.conf_calls x w
   rw [show decide (3 ≤ x) = true from by simp; omega, show decide (x ≤ 8) = true from by simp; omega] at hcf
   clear hnx hx hll
   go_enter Tryz.func68, Tryz.ntmps68
   go_wp2_with fail
   refine (hcf _).mono ?_
   rintro e w1 ⟨rfl, rfl⟩
   go_wp2_with fail
   go_ret2
   exact ⟨_, rfl, World.ownsRow_nil _ _ _ _, Below.refl _ _⟩
 ·rw [if_neg hx]
  have hcf := fun w => Port.conf_calls x w
  rw [show (decide (3 ≤ x) && decide (x ≤ 8)) = false from by simp; omega] at hcf
  clear hx hll
  go_enter Tryz.func68, Tryz.ntmps68
  go_wp2_with fail
  refine (hcf _).mono ?_
  rintro e w1 ⟨rfl, rfl⟩
  go_wp2_with fail
  go_ret2
  exact ⟨_, rfl, World.ownsRow_nil _ _ _ _, Below.refl _ _⟩
end Go.Proofs.YtgiojagdmglinaaGreatDoor
